/-
  What the proofs of the claims need: part 2 of 6.
-/
import Derived.Test.YtflegjieadkonaaGreatDoorPart1
import Derived.Deep.Slices
import Derived.ReadAgain
import Derived.ChangeStays
import Derived.ChangeSame
import Derived.WideShapes
import Derived.RowKit
import Derived.Lib.AppendStr
import Derived.Laws.IdiomStrings
import Derived.Laws.BytesArg
import Derived.Laws.MakeOwn
import Derived.Laws.Slices
import Derived.StillTail
import Derived.Lib.SliceRun
import Derived.KernelRfl
import Derived.Test.YtflegjieadkonaaGreatDoorProg
open And renaming intro→Rm
open Array renaming getD_eq_getD_getElem?→Qt,getElem?_append_left→RB,getElem?_eq_getElem→Rs,getElem?_eq_some_iff→RO,getElem?_map→S3,getElem?_modify→Ru,getElem?_push→SV,getElem?_setIfInBounds→Rj,getElem?_toList→RI,range→Tz,replicate→Sj,size_append→SR,toArray_toList→R6
open Bool renaming and_eq_true→Q5,eq_false_iff→S8,false_eq_true→SK,false_or→R4,not_eq_true→Tc,not_eq_true'→Rw,not_false→Tu,or_eq_false_iff→Rq,or_eq_true→R9,or_false→Sn,or_true→SG,true_or→Tm
open ByteArray renaming empty→Qz
open Classical renaming choose→Tb,choose_spec→Sr
open Int renaming toNat_natCast→QW
open List.Nodup renaming length_le_of_subset→Sf
open List.Pairwise renaming nil→Tl
open List renaming all_eq_false→S9,all_eq_true→Q7,any_eq_false→RD,any_eq_true→RR,append_assoc→QU,append_nil→Ro,cons_append→Se,eq_nil_of_length_eq_zero→Rx,filter_cons→Sl,flatMap_append→Te,flatMap_cons→Rl,foldl_append→Sp,foldl_cons→Rc,getD_cons_succ→Sg,getD_eq_getElem?_getD→Qx,getElem?_append_left→QQ,getElem?_append_right→QX,getElem?_drop→RQ,getElem?_eq_getElem→Qy,getElem?_eq_some_iff→Qw,getElem?_map→QC,getElem?_of_mem→RE,getElem?_range→Tt,getElem?_replicate→S0,getElem?_set→R5,getElem?_take→Rt,getElem?_toArray→RU,getElem_mem→Rz,length_append→Qv,length_cons→Rf,length_eq_zero_iff→S1,length_filter_le→RP,length_map→Rv,length_nil→R0,length_pos_iff→SD,length_set→SO,length_take→RW,map_append→QO,map_cons→Q4,mem_append→QK,mem_append_left→Q8,mem_append_right→RA,mem_cons→QY,mem_cons_of_mem→QR,mem_filter→Rn,mem_flatMap→SI,mem_map→RH,mem_of_getElem?→Rk,mem_range→R3,mem_singleton→QJ,nil_append→Sa,nodup_append→Sh,nodup_cons→RT,nodup_nil→RF,not_mem_nil→To,range→Rh,replicate→SM,take_append_drop→S6,take_of_length_le→QM,take_succ_cons→RY,take_succ_eq_append_getElem→SS
open Nat renaming add_assoc→Sm,add_mul→RJ,add_zero→S2,beq→Q6,ble→SE,ble_eq_true_of_le→Ry,blt→QZ,eq_of_beq_eq_true→QS,le_of_ble_eq_true→Qs,le_of_not_lt→Su,le_refl→QH,le_succ→Tr,le_trans→Rr,lt_irrefl→TE,lt_of_le_of_lt→T3,lt_of_lt_of_le→Ss,lt_or_ge→RN,lt_succ_of_lt→Sb,lt_succ_self→RX,mul_le_mul_right→Rb,mul_one→TB,ne_of_lt→TJ,succ_mul→SQ,zero_add→Q9,zero_le→QN,zero_mul→Sy
open Option renaming getD_some→R2,map_eq_some_iff→QF,map_none→TP,map_some→RZ
open Option.some renaming inj→RC,injEq→Qu
open Prod renaming fst→Ra
open Prod.mk renaming injEq→QI
set_option maxRecDepth 100000
open Bool renaming false→lc,true→kw
open Decidable renaming decide→li
open Inhabited renaming default→co
open Option renaming none→jp,some→io
namespace Go.Al
theorem bi{a b:PV}{c:Bool}{X:Prop}(h:X)(h1:a=b:=by rfl)(h2:c=true:=by rfl):aC a b∧c=true∧X:=⟨by subst h1;exact fun _ _ _ _ h=>h,h2,h⟩
theorem bv{i n:Nat}(h:decide ((i:Int)<(n:Int))=true):i<n:=by simpa using h
theorem ci{i n:Nat}(h:decide ((i:Int)<(n:Int))=false):n≤i:=by simpa using h
end Go.Al
namespace Go.Al
section
def xp:Op->Bool
  | .binOp .add _ _ _ _=>kw
  | .binOp .sub _ _ _ _=>kw
  | .binOp .mul _ _ _ _=>kw
  | .binOp .rem _ _ _ _=>kw
  | .binOp .quo _ _ _ _=>kw
  | .indexAddr ..=>kw
  | .index ..=>kw
  | .slice ..=>kw
  |_=>lc
theorem sJ{ty:Ty}{s:AS}{o:Op}{p:PV}{C:Prop}(h:iO ty s o=io (p,C))(ho:xp o=lc):C:=by
  cases o with
  | binOp op t x y t'=>
    simp only[iO]at h;split at h
    · unfold CY at h
      split at h
      · split at h<;>first|(cases h;done)|(simp only[Qu,QI]at h;rw[<-h.2];trivial)
      · split at h<;>first|(cases h;done)|(simp only[Qu,QI]at h;rw[<-h.2];trivial)
      · cases h
    unfold xY at h;split at h
    · split at h
      · unfold Cp at h
        split at h<;>first|(cases h;done)|(simp[xp]at ho;done)|(simp only[Qu,QI]at h;rw[<-h.2];trivial)
      · unfold BT at h
        split at h<;>first
          |(cases h;done)
          |(split at h<;>first|(cases h;done)|(simp only[Qu,QI]at h;rw[<-h.2];trivial))
    · unfold BQ at h
      split at h<;>first|(cases h;done)|(simp[xp]at ho;done)|(simp only[Qu,QI]at h;rw[<-h.2];trivial)
    · split at h
      all_goals first
        |(cases h;done)
        | (unfold nG at h
           split at h
           · split at h<;>first|(cases h;done)|(simp only[Qu,QI]at h;rw[<-h.2];trivial)
           · cases h)
    · split at h
      all_goals first
        |(cases h;done)
        | (unfold nG at h
           split at h
           · split at h<;>first|(cases h;done)|(simp only[Qu,QI]at h;rw[<-h.2];trivial)
           · cases h)
    · cases h
  |indexAddr t x i=>simp[xp]at ho
  |index t x i=>simp[xp]at ho
  |slice t x lo hi mx=>simp[xp]at ho
  | call c=>
    obtain⟨callee,args,d⟩:=c;cases callee with
    | builtin b=>
      cases b with
      | len=>
        simp only[iO]at h;split at h
        · split at h
          · split at h<;>first|(cases h;done)|(simp only[vf,Qu,QI]at h;rw[<-h.2];trivial)
          · split at h<;>first|(cases h;done)|(simp only[vf,Qu,QI]at h;rw[<-h.2];trivial)
          · split at h
            · simp only[Qu,QI]at h;rw[<-h.2];trivial
            · split at h<;>first|(cases h;done)|(simp only[Qu,QI]at h;rw[<-h.2];trivial)
            · cases h
          · cases h
        · cases h
      | max=>
        simp only[iO]at h;split at h
        · split at h<;>first|(cases h;done)|(simp only[Qu,QI]at h;rw[<-h.2];trivial)
        · cases h
      | min=>
        simp only[iO]at h;split at h
        · split at h<;>first|(cases h;done)|(simp only[Qu,QI]at h;rw[<-h.2];trivial)
        · cases h
      |_=>simp[iO]at h
    |_=>simp[iO]at h
  | unOp op t x=>
    cases op with
    |not=>simp only[iO]at h;split at h<;>first|(cases h;done)|(simp only[Qu,QI]at h;rw[<-h.2];trivial)
    |_=>simp[iO]at h
  | lookup t x i ok=>
    have key: ∀{kc:KC} {V:Type} {e:V->IV} {z:V} {j:Value} {m:List (kc.K×V)},ub ty t ok kc e z j m (ev s.f i)=io (p,C)->C:=by
      intro kc V e z j m h;unfold ub at h;split at h
      · split at h
        · split at h
          · split at h<;>(simp only[Qu,QI]at h;rw[<-h.2];trivial)
          · cases h
        · cases h
      · cases h
    simp only[iO]at h;split at h
    · exact key h
    · split at h
      · exact key h
      · cases h
    · cases h
  | _=>
    simp only[iO]at h
    repeat' (first|(cases h;done)|(simp only[force_eq,Qu,QI]at h;rw[<-h.2];trivial)|split at h)
inductive Hf where
  |read (i:Nat) (o:Oper) (p:PV) (C:Prop)
  |skip (i:Nat) (o:Oper)
  |split (d:Nat) (t:Bool)
def kg(ty:Ty)(nt:Nat)(s:AS)(all:List Oper)(todo pend:List (Nat×Oper)):List (Nat×Oper)->Option Hf
  | []=>jp
  | (i,o)::r=>match todo.any (fun y=>waits o y.1)||aF o with
    |true=>kg ty nt s all todo pend r
    | false=>match cf nt all s.f o with
      | some kw=>match iO ty s o.op with
        | some (p,C)=>match vj all pend o with
          |true=>io (.read i o p C)
          |false=>kg ty nt s all todo pend r
        |none=>kg ty nt s all todo pend r
      | some lc=>match vj all pend o with
        |true=>io (.skip i o)
        |false=>kg ty nt s all todo pend r
      | none=>match o.guard with
        | some (g,_)=>match guardOf all s.f g with
          |some (d,.iv (.v (.bool t)))=>io (.split d t)
          |_=>kg ty nt s all todo pend r
        |none=>kg ty nt s all todo pend r
def dH(ty:Ty)(nt:Nat)(all:List Oper)(s:AS):List (Nat×Oper)->Option Prop
  | []=>io True
  | (_,o)::r=>match dH ty nt all s r with
    |none=>jp
    | some R=>match cf nt all s.f o with
      | some kw=>match iO ty s o.op with
        | some (p,C)=>match o.dst with
          |some d=>bif QZ d nt then io ((aC p (s.f.get d)∧C)∧R) else jp
          |none=>io (C∧R)
        |none=>jp
      | some lc=>match o.dst with
        |some d=>io (s.f.get d= .iv (.v (.tuple #[]))∧R)
        |none=>io R
      |none=>jp
def eG(todo:List (Nat×Oper)):List (Nat×Oper):=todo.filter fun x=>!(aF x.2||todo.any fun y=>waits x.2 y.1)
def rB(ty:Ty)(nt:Nat)(all:List Oper)(s:AS)(todo pend:List (Nat×Oper)):Option Prop:=
  match todo.any fun y=>aF y.2 with
  |true=>dH ty nt all s pend
  |false=>io True
def nL(all:List Oper)(i:Nat)(o:Oper):Nat->List Oper->Bool
  |_,[]=>kw
  |k,q::r=>(Q6 k i||((waits q i||!looks all q o)&&(match o.dst,q.dst with|some d,io e=>!Q6 d e|_,_=>kw)))&&nL all i o (k+1) r
def jX(ty:Ty)(nt:Nat)(all:List Oper):Nat->List Oper->Bool
  |_,[]=>kw
  | i,o::r=>(match o.op with
    | .alloc t=>match o.guard,o.dst,ty t with
      |none,io d,io _=>QZ d nt&&((o.after.toList.all fun e=>!Region.binds .any e)&&nL all i o 0 all)
      |_,_,_=>lc
    |_=>kw)&&jX ty nt all (i+1) r
def yZ(todo:List (Nat×Oper)):List (Nat×Oper)->Option (Nat×Oper)
  | []=>jp
  | (i,o)::r=>match aF o,yb todo i with
    |true,kw=>io (i,o)
    |_,_=>yZ todo r
inductive Stop where
  |fin (e:Exit) (s:AS)
  |cond (c:Operand) (t:Bool) (x y:Code) (k:List KI) (s:AS)
  |guard (all rest:List Oper) (o:Oper) (d:Nat) (want t:Bool) (k:List KI) (s:AS)
  |op (all rest:List Oper) (o:Oper) (k:List KI) (s:AS)
  |loop (b:Code) (k:List KI) (s:AS)
  |draw (id:Nat) (ops:Array Oper) (k:List KI) (s:AS)
  |again (R:AS->Prop) (s:AS)
  |Md (all rest:List Oper) (o:Oper) (d:Nat) (want t:Bool) (k:List KI) (s:AS)
  |Gq (all:List Oper) (todo pend:List (Nat×Oper)) (d:Nat) (t:Bool) (k:List KI) (s:AS)
  |Gv (all:List Oper) (todo pend:List (Nat×Oper)) (k:List KI) (s:AS)
  |bad (why:Nat) (k:List KI) (s:AS)
  |out (k:List KI) (s:AS)
def mN(id:Nat):List KI->Option (List KI)
  | []=>jp
  | .aB j::k=>bif Q6 id j then io k else mN id k
  | .code _::k=>mN id k
  | .ops _ _::k=>mN id k
  | .lp _::k=>mN id k
  | .sj _ _::k=>mN id k
  | .ct _ _ _::k=>mN id k
  | .C9 _ _::k=>mN id k
  | .Ej::k=>mN id k
  | .Jw ..::_=>jp
  | .Jx ..::_=>jp
def fE:List KI->Option (List KI)
  | []=>jp
  | .aB _::k=>fE k
  | .code _::k=>fE k
  | .ops _ _::k=>fE k
  | .lp _::k=>fE k
  | .sj _ _::k=>fE k
  | .ct _ _ _::k=>fE k
  | .C9 _ _::k=>fE k
  | .Ej::k=>fE k
  |k=>io k
structure Qr where
  nt:Nat
  res:List ResultVar
  body:Code
abbrev Pq:=Nat->Option Qr
def He(P:Program)(b:Pq):Prop:= ∀g e,b g=io e-> ∃fn,P.funcs[g]? =io fn∧fn.body=io e.body∧(fn.name== "runtime.NumGoroutine")=lc∧fn.ntmps=e.nt∧fn.results.toList=e.res
def Aq{α:Type _}:Nat->List PV->(AF->α)->α
  |_,[],k=>k []
  |n,p::r,k=>ur p fun b=>Aq (n+1) r fun f=>k ((n,b)::f)
theorem uR{α:Type _}: ∀(l:List PV) (n:Nat) (k:AF->α),Aq n l k=k (nJ n l)
  | [],_,_=>rfl
  |p::r,n,k=>by simp only[Aq,dy,uR r,nJ]
def callee(b:Pq)(s:AS):Op->Option (Qr×List PV)
  | .call c=>match bK s.f c with
    | some (g,asv)=>match b g with
      | some e=>match SE asv.length e.nt with
        |true=>io (e,asv)
        |false=>jp
      |none=>jp
    |none=>jp
  |_=>jp
structure Way where
  fns:Pq
  un:Nat
  cl:Bool
def bw(ty:Ty)(y:Way):Nat->Nat->List KI->AS->Prop->Option (Prop×Nat×Stop)
  |0,nt,k,s,C=>io (C,nt,.out k s)
  |_+1,nt,[],s,C=>io (C,nt,.fin .normal s)
  |n+1,nt,.aB _::k,s,C=>bw ty y n nt k s C
  |_+1,nt,.lp R::_,s,C=>io (C,nt,.again R s)
  |n+1,nt,.Ej::k,s,C=>bw ty y n nt k s C
  |n+1,nt,.code (.scope b)::k,s,C=>bw ty y n nt (.code b:: .Ej::k) s C
  | n+1,nt,.C9 b m::k,s,C=>match m with
    |0=>io (C,nt,.bad 2 k s)
    |m+1=>bw ty y n nt (.code b:: .C9 b m::k) s C
  | n+1,_,.Jw nt f res o all rest::k,s,C=>match res s with
    |none=>io (C,nt,.bad 3 k s)
    | some r=>match putDst nt o r ⟨f,s.h,s.nx⟩ with
      |none=>io (C,nt,.bad 4 k s)
      |some s'=>bw ty y n nt (.ops all rest::k) s' C
  | n+1,_,.Jx nt f res j o all todo pend::k,s,C=>match res s with
    |none=>io (C,nt,.bad 5 k s)
    | some r=>match putDst nt o r ⟨f,s.h,s.nx⟩ with
      |none=>io (C,nt,.bad 6 k s)
      | some s'=>match dH ty nt all s' (a8 pend o) with
        |none=>io (C,nt,.bad 7 k s)
        |some C''=>bw ty y n nt (.ct all (todo.filter fun x=>!Q6 x.1 j) (a8 pend o)::k) s' (C∧C'')
  |n+1,nt,.code .skip::k,s,C=>bw ty y n nt k s C
  |n+1,nt,.code (.label _)::k,s,C=>bw ty y n nt k s C
  |n+1,nt,.code (.seq a b)::k,s,C=>bw ty y n nt (.code a:: .code b::k) s C
  |n+1,nt,.code (.block id b)::k,s,C=>bw ty y n nt (.code b:: .aB id::k) s C
  | n+1,nt,.code (.region id ops d)::k,s,C=>match d with
    |false=>bw ty y n nt (.ops ops.toList ops.toList::k) s C
    | true=>match qW ops.toList,fm 0 ops.toList,jX ty nt ops.toList 0 ops.toList with
      |true,kw,kw=>bw ty y n nt (.ct ops.toList (fc 0 ops.toList) []::k) s C
      |_,_,_=>io (C,nt,.draw id ops k s)
  |n+1,nt,.ct _ [] _::k,s,C=>bw ty y n nt k s C
  | n+1,nt,.ct all (x::todo) pend::k,s,C=>match kg ty nt s all (x::todo) pend (x::todo) with
    | some (.read i o p C')=>match putDst nt o p s with
      |none=>io (C,nt,.bad 8 k s)
      | some s'=>match xp o.op with
        |true=>bw ty y n nt (.ct all ((x::todo).filter fun x=>!Q6 x.1 i) ((i,o)::pend)::k) s' (C∧C')
        |false=>bw ty y n nt (.ct all ((x::todo).filter fun x=>!Q6 x.1 i) ((i,o)::pend)::k) s' C
    |some (.skip i o)=>bw ty y n nt (.ct all ((x::todo).filter fun x=>!Q6 x.1 i) ((i,o)::pend)::k) (fD o s) C
    | some (.split d _)=>match s.f.get d with
      | .iv (.v (.bool t'))=>match y.cl with
        |false=>io (C,nt,.Gq all (x::todo) pend d t' k s)
        | true=>match t' with
          |true=>bw ty y n nt (.ct all (x::todo) pend::k) (setBool s (.tmp d) kw) C
          |false=>bw ty y n nt (.ct all (x::todo) pend::k) (setBool s (.tmp d) lc) C
      |_=>io (C,nt,.bad 9 k s)
    | none=>match eG (x::todo) with
      | [(j,o)]=>match cf nt all s.f o,gT all pend o,nA (x::todo) [j] with
        | some kw,kw,kw=>match rB ty nt all s (x::todo) pend with
          |none=>io (C,nt,.bad 101 k s)
          | some CA=>match iO ty s o.op with
            | some (p,C')=>match putDst nt o p s with
              |none=>io (C,nt,.bad 102 k s)
              | some s'=>match dH ty nt all s' (a8 pend o) with
                |none=>io (C,nt,.bad 103 k s)
                |some C''=>bw ty y n nt (.ct all ((x::todo).filter fun x=>!Q6 x.1 j) (a8 pend o)::k) s' (C∧(CA∧C'∧C''))
            | none=>match Ek ty s o.op with
              | none=>match callee y.fns s o.op with
                | none=>match Nv ty s o.op with
                  |none=>io (C,nt,.Gv all (x::todo) pend k s)
                  | some (C',p,s1)=>match putDst nt o p s1 with
                    |none=>io (C,nt,.bad 109 k s)
                    | some s'=>match dH ty nt all s' (a8 pend o) with
                      |none=>io (C,nt,.bad 110 k s)
                      |some C''=>bw ty y n nt (.ct all ((x::todo).filter fun x=>!Q6 x.1 j) (a8 pend o)::k) s' (C∧(CA∧C'∧C''))
                |some (e,asv)=>Aq 0 asv fun f=>bw ty y n e.nt (.code e.body:: .Jx nt s.f (jw ty · e.res) j o all (x::todo) pend::k) ⟨f,s.h,s.nx⟩ (C∧CA)
              | some (p,s1)=>match putDst nt o p s1 with
                |none=>io (C,nt,.bad 104 k s)
                | some s'=>match dH ty nt all s' (a8 pend o) with
                  |none=>io (C,nt,.bad 105 k s)
                  |some C''=>bw ty y n nt (.ct all ((x::todo).filter fun x=>!Q6 x.1 j) (a8 pend o)::k) s' (C∧(CA∧C''))
        |_,_,_=>io (C,nt,.Gv all (x::todo) pend k s)
      | []=>match yZ (x::todo) (x::todo) with
        |none=>io (C,nt,.Gv all (x::todo) pend k s)
        | some (i,o)=>match o.op,o.dst with
          | .alloc t,io d=>match ty t with
            |none=>io (C,nt,.bad 106 k s)
            | some e=>force (ch e.zero) fun A=>match dH ty nt all s pend,dH ty nt all (jY s d A) pend with
              |some C1,io C2=>bw ty y n nt (.ct all ((x::todo).filter fun x=>!Q6 x.1 i) pend::k) (jY s d A) (C∧(C1∧C2))
              |_,_=>io (C,nt,.bad 107 k s)
          |_,_=>io (C,nt,.bad 108 k s)
      |_=>io (C,nt,.Gv all (x::todo) pend k s)
  | n+1,nt,.code (.cond c u v)::k,s,C=>match ev s.f c with
    | .iv (.v (.bool t))=>match y.cl with
      |false=>io (C,nt,.cond c t u v k s)
      | true=>match t with
        |true=>bw ty y n nt (.code u::k) s C
        |false=>bw ty y n nt (.code v::k) s C
    | .kb kw=>bw ty y n nt (.code u::k) s C
    | .kb lc=>bw ty y n nt (.code v::k) s C
    |_=>io (C,nt,.bad 14 k s)
  | n+1,nt,.code .ret::k,s,C=>match fE k with
    |some k'=>bw ty y n nt k' s C
    |none=>io (C,nt,.fin .ret s)
  | n+1,nt,.code (.exit id)::k,s,C=>match mN id k with
    |some k'=>bw ty y n nt k' s C
    |none=>io (C,nt,.bad 15 k s)
  | n+1,nt,.code (.loop b)::k,s,C=>match y.un with
    |0=>io (C,nt,.loop b k s)
    |u+1=>bw ty y n nt (.code b:: .C9 b u::k) s C
  |_+1,nt,.code _::k,s,C=>io (C,nt,.bad 16 k s)
  |_+1,nt,.sj _ _::k,s,C=>io (C,nt,.bad 17 k s)
  |n+1,nt,.ops _ []::k,s,C=>bw ty y n nt k s C
  | n+1,nt,.ops all (o::r)::k,s,C=>match o.guard with
    | some (j,want)=>match guardOf all s.f j with
      | some (d,.iv (.v (.bool t)))=>bif QZ d nt then(match y.cl with
        |false=>io (C,nt,.guard all r o d want t k s)
        | true=>match t with
          |true=>bw ty y n nt (.ops all (o::r)::k) (setBool s (.tmp d) kw) C
          |false=>bw ty y n nt (.ops all (o::r)::k) (setBool s (.tmp d) lc) C) else io (C,nt,.bad 18 k s)
      | some (d,.kb t)=>bif QZ d nt then(match t,want,o with
        |true,kw,⟨a1,a2,a3,a4,a5,_⟩=>bw ty y n nt (.ops all (⟨a1,a2,a3,a4,a5,jp⟩::r)::k) s C
        |false,lc,⟨a1,a2,a3,a4,a5,_⟩=>bw ty y n nt (.ops all (⟨a1,a2,a3,a4,a5,jp⟩::r)::k) s C
        |_,_,o=>bw ty y n nt (.ops all r::k) (fD o s) C) else io (C,nt,.bad 19 k s)
      |some (_,.iv (.v (.tuple _)))=>bw ty y n nt (.ops all r::k) (fD o s) C
      |_=>io (C,nt,.bad 20 k s)
    | none=>match iO ty s o.op with
      | none=>match Ek ty s o.op with
        | none=>match callee y.fns s o.op with
          | none=>match Nv ty s o.op with
            |none=>io (C,nt,.op all r o k s)
            | some (C',p,s1)=>match putDst nt o p s1 with
              |none=>io (C,nt,.bad 111 k s)
              |some s'=>bw ty y n nt (.ops all r::k) s' (C∧C')
          |some (e,asv)=>Aq 0 asv fun f=>bw ty y n e.nt (.code e.body:: .Jw nt s.f (jw ty · e.res) o all r::k) ⟨f,s.h,s.nx⟩ C
        | some (p,s1)=>match putDst nt o p s1 with
          |none=>io (C,nt,.bad 21 k s)
          |some s'=>bw ty y n nt (.ops all r::k) s' C
      | some (p,C')=>match putDst nt o p s with
        |none=>io (C,nt,.bad 22 k s)
        | some s'=>match xp o.op with
          |true=>bw ty y n nt (.ops all r::k) s' (C∧C')
          |false=>bw ty y n nt (.ops all r::k) s' C
def eD(P:Program)(nt:Nat)(Q:AQ):Stop->Prop
  | .fin e s=>Q e s
  | .cond c t x y k s=>(t=kw->GO P nt (.code x::k) Q (setBool s c kw))∧(t=lc->GO P nt (.code y::k) Q (setBool s c lc))
  | .guard all r o d want t k s=>(t=want->GO P nt (.ops all ({o with guard:=jp}::r)::k) Q (setBool s (.tmp d) want))∧(t=!want->GO P nt (.ops all r::k) Q (fD o (setBool s (.tmp d) (!want))))
  | .op all r o k s=>GO P nt (.ops all (o::r)::k) Q s
  | .loop b k s=>GO P nt (.code (.loop b)::k) Q s
  | .draw id ops k s=>GO P nt (.code (.region id ops kw)::k) Q s
  | .again R s=>R s
  | .Md all r o d want t k s=>(t=want->GO P nt (.sj all ({o with guard:=jp}::r)::k) Q (setBool s (.tmp d) want))∧(t=!want->GO P nt (.sj all r::k) Q (fD o (setBool s (.tmp d) (!want))))
  | .Gq all todo pend d t k s=>(t=kw->GO P nt (.ct all todo pend::k) Q (setBool s (.tmp d) kw))∧(t=lc->GO P nt (.ct all todo pend::k) Q (setBool s (.tmp d) lc))
  | .Gv all todo pend k s=>GO P nt (.ct all todo pend::k) Q s
  | .bad _ _ _=>False
  | .out k s=>GO P nt k Q s
section
variable {P:Program} {ty:Ty} {nt:Nat} {Q:AQ}
theorem lS: ∀(k:List KI) {nt:Nat} {s:AS},fE k=jp->Q .ret s->kp P nt k Q .ret s
  | [],_,_,_,h=>h
  | .code _::k,_,_,g,h=>lS k g h
  | .aB _::k,_,_,g,h=>lS k g h
  | .ops _ _::k,_,_,g,h=>lS k g h
  | .lp _::k,_,_,g,h=>lS k g h
  | .sj _ _::k,_,_,g,h=>lS k g h
  | .ct _ _ _::k,_,_,g,h=>lS k g h
  | .C9 _ _::k,_,_,g,h=>lS k g h
  | .Ej::k,_,_,g,h=>lS k g h
  | .Jw ..::_,_,_,g,_=>by simp[fE]at g
  | .Jx ..::_,_,_,g,_=>by simp[fE]at g
theorem dC: ∀(k:List KI) {nt:Nat} {s:AS} {b:List KI},fE k=io b->GO P nt b Q s->kp P nt k Q .ret s
  | [],_,_,_,g,_=>by simp[fE]at g
  | .code _::k,_,_,_,g,h=>dC k g h
  | .aB _::k,_,_,_,g,h=>dC k g h
  | .ops _ _::k,_,_,_,g,h=>dC k g h
  | .lp _::k,_,_,_,g,h=>dC k g h
  | .sj _ _::k,_,_,_,g,h=>dC k g h
  | .ct _ _ _::k,_,_,_,g,h=>dC k g h
  | .C9 _ _::k,_,_,_,g,h=>dC k g h
  | .Ej::k,_,_,_,g,h=>dC k g h
  | .Jw ..::_,_,_,_,g,h=>by
    simp only[fE,Qu]at g;subst g;exact⟨.inr D,h.2⟩
  | .Jx ..::_,_,_,_,g,h=>by
    simp only[fE,Qu]at g;subst g;exact⟨.inr D,h.2⟩
theorem c7{id:Nat}: ∀(k:List KI) {nt:Nat} {b:List KI} {s:AS},mN id k=io b->GO P nt b Q s->kp P nt k Q (.exit id) s
  | [],_,_,_,h,_=>by cases h
  | .code _::k,_,_,_,h,g=>c7 k h g
  | .ops _ _::k,_,_,_,h,g=>c7 k h g
  | .lp _::k,_,_,_,h,g=>c7 k h g
  | .sj _ _::k,_,_,_,h,g=>c7 k h g
  | .ct _ _ _::k,_,_,_,h,g=>c7 k h g
  | .C9 _ _::k,_,_,_,h,g=>c7 k h g
  | .Ej::k,_,_,_,h,g=>c7 k h g
  | .Jw ..::_,_,_,_,h,_=>by cases h
  | .Jx ..::_,_,_,_,h,_=>by cases h
  | .aB j::k,nt,b,s,h,g=>by
    simp only[mN]at h;show if id=j then _ else _;cases hb:Q6 id j with
    | true=>
      simp only[hb,cond_true,Qu]at h;subst h;rw[am (QS hb)];exact g
    | false=>
      simp only[hb,cond_false]at h;rw[be (fun e=>by subst e;simp at hb)];exact c7 k h g
theorem qN(j:bT P ty){s s':AS}{o:Oper}{p:PV}{C:Prop}(h:iO ty s o.op=io (p,C))(hC:C)(hp:putDst nt o p s=io s'):OT P nt o s (fun t=>t=s'):=by
  intro M N a w b K Z u;obtain⟨x,B,A⟩:=tF j b h hC;unfold Oper.wp;rw[B];simp only[Oper.upon];cases hd:o.dst with
  | none=>
    have:=eZ hp hd;subst this;exact u M N s' _ w (.refl _ _ _ _ _) b D
  | some d=>
    obtain⟨y,rfl⟩:=eY hp hd;exact u M N {s with f:=(d,p)::s.f} _ w (.refl _ _ _ _ _) (b.put d p x y A) D
theorem jl(j:bT P ty){s s':AS}{o:Oper}{p:PV}{C:Prop}(h:iO ty s o.op=io (p,C))(hC:C)(hp:putDst nt o p s=io s'):
    (s'.h=s.h∧s'.nx=s.nx)∧ ∀M N a w,Fits M N s nt a w-> ∃x,(execOp a.eval o).run P w= .ok (.value x) w∧Fits M N s' nt (a.put o.dst x) w:=by
  cases hd:o.dst with
  | none=>
    have:=eZ hp hd;subst this;exact⟨⟨rfl,rfl⟩,fun M N a w b=>let ⟨x,hx,_⟩:=tF j b h hC;⟨x,hx,b⟩⟩
  | some d=>
    obtain⟨u,rfl⟩:=eY hp hd;exact⟨⟨rfl,rfl⟩,fun M N a w b=>let ⟨x,hx,hv⟩:=tF j b h hC;⟨x,hx,b.put d p x u hv⟩⟩
theorem mP{s:AS}{all:List Oper}{todo pend:List (Nat×Oper)}: ∀{l:List (Nat×Oper)} {i:Nat} {o:Oper},(∀x∈l,x∈todo)->
    ((∀{p C},kg ty nt s all todo pend l=io (.read i o p C)->(i,o)∈todo∧aF o=lc∧(∀x∈todo,waits o x.1=lc)∧cf nt all s.f o=io kw∧vj all pend o=kw∧iO ty s o.op=io (p,C))∧
     (kg ty nt s all todo pend l=io (.skip i o)->(i,o)∈todo∧aF o=lc∧(∀x∈todo,waits o x.1=lc)∧cf nt all s.f o=io lc∧vj all pend o=kw))
  | [],i,o,_=>⟨fun h=>by simp[kg]at h,fun h=>by simp[kg]at h⟩
  | (j,q)::r,i,o,hl=>by
    have b:=mP (s:=s) (all:=all) (todo:=todo) (pend:=pend) (l:=r) (i:=i) (o:=o) (fun x F=>hl x (QR _ F));have d:(todo.any (fun y=>waits q y.1)||aF q)=lc->aF q=lc∧ ∀x∈todo,waits q x.1=lc:=fun h=>by
      simp only[Rq,RD]at h;exact⟨h.2,fun x F=>by simpa using h.1 x F⟩
    constructor
    · intro p C h
      simp only[kg]at h;split at h
      · exact b.1 h
      · rename_i u
        split at h
        · rename_i B
          split at h
          · rename_i G
            split at h
            · rename_i A
              simp only[Qu,Hf.read.injEq]at h;obtain⟨rfl,rfl,rfl,rfl⟩:=h;exact⟨hl _ (by simp),(d u).1,(d u).2,B,A,G⟩
            · exact b.1 h
          · exact b.1 h
        · split at h
          · cases h
          · exact b.1 h
        · split at h
          · split at h
            · cases h
            · exact b.1 h
          · exact b.1 h
    · intro h
      simp only[kg]at h;split at h
      · exact b.2 h
      · rename_i u
        split at h
        · split at h
          · split at h
            · cases h
            · exact b.2 h
          · exact b.2 h
        · rename_i B
          split at h
          · rename_i A
            simp only[Qu,Hf.skip.injEq]at h;obtain⟨rfl,rfl⟩:=h;exact⟨hl _ (by simp),(d u).1,(d u).2,B,A⟩
          · exact b.2 h
        · split at h
          · split at h
            · cases h
            · exact b.2 h
          · exact b.2 h
theorem As{s s1:AS}{o:Oper}{d:Nat}{p:PV}(hd:o.dst=io d)(hs:s1={s with f:=(d,p)::s.f})(hp:aC p (s.f.get d)){M:Mem}{N:Nm}{a:Act}{w:World}(hf:Fits M N s1 nt a w):Fits M N s nt a w:=by
  subst hs;refine⟨hf.1,fun k=>?_,hf.2.2⟩;have:=hf.2.1 k;rw[AF.ay]at this;split at this
  · rename_i b;subst b;exact hp _ _ _ _ this
  · exact this
theorem dU(u:bT P ty){all:List Oper}{s:AS}: ∀{l:List (Nat×Oper)} {C:Prop},dH ty nt all s l=io C->C-> ∀x∈l,fP P nt all s x.2
  | [],_,_,_,x,hx=>(nomatch hx)
  | (i,o)::r,C,h,hC,x,hx=>by
    simp only[dH]at h;split at h
    · cases h
    · rename_i R hR
      have key:R->(∀M N b w,Fits M N s nt b w-> ∃v,YieldsAt P all.toArray w o v b∧Fits M N s nt (b.put o.dst v) w)->fP P nt all s x.2:=by
        intro B hh;rcases QY.1 hx with rfl|hx
        · exact hh
        · exact dU u hR B x hx
      split at h
      · rename_i y
        split at h
        · rename_i p Y B
          split at h
          · rename_i d hd
            cases hb:QZ d nt with
            |false=>simp[hb]at h
            | true=>
              simp only[hb,cond_true,Qu]at h;subst h;obtain⟨⟨F,J⟩,S⟩:=hC;refine key S fun M N b w j=>?_;obtain⟨v,I,A⟩:=tF u j B J;refine⟨v,.inl ⟨di y j,.inl I⟩,?_⟩;rw[hd];exact As hd D F (j.put d p v (Qs hb) A)
          · rename_i hd
            simp only[Qu]at h;subst h;refine key hC.2 fun M N b w j=>?_;obtain⟨v,I,A⟩:=tF u j B hC.1;exact⟨v,.inl ⟨di y j,.inl I⟩,by rw[hd];exact j⟩
        · cases h
      · rename_i y
        have G: ∀d,o.dst=io d->s.f.get d= .iv (.v (.tuple #[]))-> ∀M N b w,Fits M N s nt b w-> ∃v,YieldsAt P all.toArray w o v b∧Fits M N s nt (b.put o.dst v) w:=fun d hd F M N b w j=>by
          refine⟨undef,.inr ⟨di y j,rfl⟩,?_⟩;have:=j.skip o;unfold fD at this;rw[hd]at this ⊢;exact As hd D (F▸aC.refl _) this
        split at h
        · rename_i d hd
          simp only[Qu]at h;subst h;exact key hC.2 (G d hd hC.1)
        · rename_i hd
          simp only[Qu]at h;subst h;exact key hC fun M N b w j=>⟨undef,.inr ⟨di y j,rfl⟩,by rw[hd];exact j⟩
      · cases h
theorem Cx{all:List Oper}{o:Oper}{r:List Oper}{d:Nat}{t:Bool}{k:List KI}{s:AS}{c:Bool}(hc:c=t)(u:s.f.get d= .iv (.v (.bool t)))(h:GO P nt (.ops all (o::r)::k) Q (setBool s (.tmp d) c)):GO P nt (.ops all (o::r)::k) Q s:=by
  subst hc;intro M N a w j;have b:=j.setBool (c:= .tmp d) u;exact AL.same (s:=s) h (iX _ _ _) b
theorem um{c:Operand}{u v:Code}{t:Bool}{k:List KI}{s:AS}(hc:ev s.f c= .iv (.v (.bool t)))(h:GO P nt (.code (bif t then u else v)::k) Q s):GO P nt (.code (.cond c u v)::k) Q s:=by
  intro M N a w b;refine wp_cond (b.bool hc) ?_;cases t
  · exact h M N a w b
  · exact h M N a w b
theorem rW{all:List Oper}{f:AF}{j d:Nat}{p:PV}(h:guardOf all f j=io (d,p)):f.get d=p:=by
  unfold guardOf at h;split at h
  · split at h
    · simp only[Qu,QI]at h;rw[<-h.1];exact h.2
    · cases h
  · cases h
theorem yY{todo:List (Nat×Oper)}: ∀{l:List (Nat×Oper)} {i:Nat} {o:Oper},(∀x∈l,x∈todo)->yZ todo l=io (i,o)->(i,o)∈todo∧yb todo i=kw
  | [],_,_,_,h=>by simp[yZ]at h
  | (j,q)::r,i,o,hl,h=>by
    simp only[yZ]at h;split at h
    · rename_i b
      simp only[Qu,QI]at h;obtain⟨rfl,rfl⟩:=h;exact⟨hl _ (by simp),b⟩
    · exact yY (fun x d=>hl x (QR _ d)) h
theorem sb{all:List Oper}{i:Nat}{o:Oper}: ∀{l:List Oper} {n:Nat},nL all i o n l=kw-> ∀k q,l[k]? =io q->n+k≠i->(waits q i=kw∨looks all q o=lc)∧ ∀d,o.dst=io d->q.dst≠io d
  | [],_,_,k,q,hk,_=>by simp at hk
  | c::l,n,h,k,q,hk,hne=>by
    simp only[nL,Q5,R9,Rw]at h;cases k with
    | zero=>
      simp at hk;subst hk;rcases h.1 with b|⟨b,x⟩
      · exact absurd (QS b) (by simpa using hne)
      · refine⟨b,fun d j u=>?_⟩
        rw[j,u]at x;simp at x
    |succ k=>exact sb h.2 k q (by simpa using hk) (by omega)
theorem vi(B:bT P ty){all:List Oper}(h:jX ty nt all 0 all=kw):gI P nt all:=by
  have key: ∀(l:List Oper) (n:Nat),jX ty nt all n l=kw-> ∀k o,l[k]? =io o->aF o=kw->
      o.guard=jp∧(∃d,o.dst=io d∧d<nt)∧(∃t v,o.op= .alloc t∧ ∀w,(zeroValue t).run P w= .ok v w)∧(∀k,waits o k=lc)∧nL all (n+k) o 0 all=kw:=by
    intro l
    induction l with
    |nil=>intro n _ k o j;simp at j
    | cons c l ih=>
      intro n h k o j u;simp only[jX,Q5]at h;cases k with
      | zero=>
        simp at j;subst j;have b:=h.1;split at b
        · rename_i t A
          split at b
          · rename_i d e S hd x
            simp only[Q5]at b;refine⟨S,⟨d,hd,Qs b.1⟩,⟨t,_,A,fun w=>dh (B _ _ x)⟩,fun k=>?_,b.2.2⟩;unfold waits;refine RD.2 fun e x=>?_;have:=Q7.1 b.2.1 e x;simp only[Rw]at this;simp[this]
          · cases b
        · rename_i y
          unfold aF at u;split at u
          · rename_i t A;exact absurd A (y t)
          · cases u
      | succ k=>
        have:=ih (n+1) h.2 k o (by simpa using j) u;rw[show n+(k+1)=n+1+k by omega];exact this
  intro i o Z u;obtain⟨b,G,I,J,F⟩:=key all 0 h i o Z u;refine⟨b,G,I,J,fun k q j Y=>?_⟩;rw[Q9]at F;exact sb F k q j (by omega)
theorem wB{b:Pq}(d:He P b){s:AS}{o:Op}{e:Qr}{asv:List PV}(h:callee b s o=io (e,asv)):
    ∃g c fn,o= .call c∧bK s.f c=io (g,asv)∧asv.length<=e.nt∧P.funcs[g]? =io fn∧fn.body=io e.body∧(fn.name== "runtime.NumGoroutine")=lc∧fn.ntmps=e.nt∧fn.results.toList=e.res:=by
  unfold callee at h;split at h
  · rename_i c
    split at h
    · rename_i g j F
      split at h
      · rename_i I G
        split at h
        · rename_i hb
          simp only[Qu,QI]at h;obtain⟨rfl,rfl⟩:=h;obtain⟨fn,u,x,y,A,B⟩:=d _ _ G;exact⟨g,c,fn,rfl,F,Qs hb,u,x,y,A,B⟩
        · cases h
      · cases h
    · cases h
  · cases h
theorem Mn(hm:P.follows .mixedOrders=kw)(B:bT P ty){y:Way}(v0:He P y.fns): ∀(n nt:Nat) (k:List KI) (s:AS) (C0 C:Prop) (J:Nat) (st:Stop),bw ty y n nt k s C0=io (C,J,st)->(C->C0)∧(C->eD P J Q st->GO P nt k Q s):=by
  intro n
  induction n with
  | zero=>
    intro nt k s C0 C J st h;simp only[bw,Qu,QI]at h;obtain⟨rfl,rfl,rfl⟩:=h;exact⟨fun h=>h,fun _ g=>g⟩
  | succ n ih=>
    intro nt k s C0 C J st h;have A: ∀{S:Nat} {k2:List KI} {s2:AS},bw ty y n S k2 s2 C0=io (C,J,st)->(GO P S k2 Q s2->GO P nt k Q s)->(C->C0)∧(C->eD P J Q st->GO P nt k Q s):=
      fun h f=>have:=ih _ _ _ _ _ _ _ h;⟨this.1,fun hC g=>f (this.2 hC g)⟩
    have G: ∀{S:Nat} {k2:List KI} {s2:AS} {C1:Prop},bw ty y n S k2 s2 (C0∧C1)=io (C,J,st)->(C1->GO P S k2 Q s2->GO P nt k Q s)->(C->C0)∧(C->eD P J Q st->GO P nt k Q s):=
      fun h f=>have:=ih _ _ _ _ _ _ _ h;⟨fun hC=>(this.1 hC).1,fun hC g=>f (this.1 hC).2 (this.2 hC g)⟩
    have F: ∀{s0:Stop},io (C0,nt,s0)=io (C,J,st)->(eD P nt Q s0->GO P nt k Q s)->(C->C0)∧(C->eD P J Q st->GO P nt k Q s):=by
      intro s0 h f;simp only[Qu,QI]at h;obtain⟨rfl,rfl,rfl⟩:=h;exact⟨fun h=>h,fun _ g=>f g⟩
    have bad: ∀{S:Nat} {w0:Nat} {k2:List KI} {s2:AS},io (C0,S,Stop.bad w0 k2 s2)=io (C,J,st)->(C->C0)∧(C->eD P J Q st->GO P nt k Q s):=by
      intro S w0 k2 s2 h;simp only[Qu,QI]at h;obtain⟨rfl,rfl,rfl⟩:=h;exact⟨fun h=>h,fun _ g=>g.elim⟩
    cases k with
    |nil=>simp only[bw]at h;exact F h fun g=>g
    | cons i k=>
      cases i with
      |lp R=>simp only[bw]at h;exact F h fun g=>g
      |aB id=>simp only[bw]at h;exact A h MV
      |Ej=>simp only[bw]at h;exact A h fun g=>g
      | C9 b m=>
        simp only[bw]at h;split at h
        · exact bad h
        · exact A h go_round
      | Jw S f res o all rest=>
        simp only[bw]at h;split at h
        · exact bad h
        · rename_i r hr
          split at h
          · exact bad h
          · rename_i s' I
            exact A h fun g=>⟨.inl D,r,s',hr,I,g⟩
      | Jx S f res j o all todo pend=>
        simp only[bw]at h;split at h
        · exact bad h
        · rename_i r hr
          split at h
          · exact bad h
          · rename_i s' I
            split at h
            · exact bad h
            · rename_i k0 Z
              exact G h fun hC g=>⟨.inl D,r,s',hr,I,dU B Z hC,g⟩
      | code c=>
        cases c with
        |skip=>simp only[bw]at h;exact A h go_skip
        |scope b=>simp only[bw]at h;exact A h F0
        |label l=>simp only[bw]at h;exact A h F4
        |seq a b=>simp only[bw]at h;exact A h MS
        |block id b=>simp only[bw]at h;exact A h Ga
        | region id ops d=>
          cases d with
          |false=>simp only[bw]at h;exact A h go_region
          | true=>
            simp only[bw]at h;split at h
            · rename_i h1 h2 h3
              exact A h (F9 hm (vM h1) h2 (vi B h3))
            · exact F h fun g=>g
        | cond c u v=>
          simp only[bw]at h;split at h
          · rename_i t he
            split at h
            · exact F h fun g=>Jq he g.1 g.2
            · split at h
              · exact A h (um he)
              · exact A h (um he)
          · rename_i he
            exact A h (uk he)
          · rename_i he
            exact A h (uk he)
          · exact bad h
        | ret=>
          simp only[bw]at h;split at h
          · rename_i k' I
            exact A h fun g=>go_ret (dC k I g)
          · rename_i I
            exact F h fun g=>go_ret (lS k I g)
        | exit id=>
          simp only[bw]at h;split at h
          · rename_i k' I
            exact A h fun g=>Jo (c7 k I g)
          · exact bad h
        | loop b=>
          simp only[bw]at h;split at h
          · exact F h fun g=>g
          · exact A h FZ
        |_=>simp only[bw]at h;exact bad h
      |sj all rest=>simp only[bw]at h;exact bad h
      | ct all todo pend=>
        cases todo with
        |nil=>simp only[bw]at h;exact A h zw
        | cons x todo=>
          have e0: ∀{j:Nat} {o:Oper},eG (x::todo)=[(j,o)]->(j,o)∈(x::todo)∧aF o=lc∧ ∀y∈(x::todo),waits o y.1=lc:=by
            intro j o h1;have h2:(j,o)∈eG (x::todo):=by rw[h1];simp
            obtain⟨h3,h4⟩:=Rn.1 h2;simp only[Rw,Rq,RD]at h4;exact⟨h3,h4.1,fun y Y=>by simpa using h4.2 y Y⟩
          have a0: ∀{CA:Prop},rB ty nt all s (x::todo) pend=io CA->CA-> ∀y∈(x::todo),aF y.2=kw-> ∀y∈pend,fP P nt all s y.2:=by
            intro CA h1 d0 y Y k1;unfold rB at h1;split at h1
            · exact dU B h1 d0
            · rename_i h2
              have:=RD.1 h2 y Y;rw[k1]at this;exact absurd D this
          have c0: ∀{j:Nat} {o:Oper} {s':AS},eG (x::todo)=[(j,o)]->cf nt all s.f o=io kw->gT all pend o=kw->nA (x::todo) [j]=kw->(∀y∈(x::todo),aF y.2=kw-> ∀y∈pend,fP P nt all s y.2)->OT P nt o s (fun t=>t=s')->
              (∀y∈a8 pend o,fP P nt all s' y.2)->GO P nt (.ct all ((x::todo).filter fun x=>!Q6 x.1 j) (a8 pend o)::k) Q s'->GO P nt (.ct all (x::todo) pend::k) Q s:=by
            intro j o s' h1 h2 h3 h4 ha h5 h6 h7;obtain⟨b0,p0,r0⟩:=e0 h1;refine xH h4 ⟨_,b0,p0⟩ ha fun j' o' hj _ hu=>?_;simp only[QJ]at hj;subst hj;have:=hu o b0;subst this;exact⟨p0,fun y Y _=>r0 y Y,h3,h2,_,h5,fun t ht=>by subst ht;exact⟨h6,h7⟩⟩
          simp only[bw]at h;split at h
          · rename_i i o p C' q0
            obtain⟨g1,ga,gb,g2,g3,g4⟩:=(mP (fun _ h=>h)).1 q0;split at h
            · exact bad h
            · rename_i s' I
              split at h
              · exact G h fun hC g=>zu g1 ga gb g2 g3 (jl B g4 hC I).1 (jl B g4 hC I).2 g
              · rename_i ho
                exact A h fun g=>zu g1 ga gb g2 g3 (jl B g4 (sJ g4 ho) I).1 (jl B g4 (sJ g4 ho) I).2 g
          · rename_i i o q0
            obtain⟨g1,ga,gb,g2,g3⟩:=(mP (fun _ h=>h)).2 q0;exact A h (F8 g1 ga gb g2 g3)
          · split at h
            · rename_i t' Y
              split at h
              · exact F h fun g=>rj Y g.1 g.2
              · split at h
                · exact A h fun g=>rj Y (fun _=>g) (fun h=>by cases h)
                · exact A h fun g=>rj Y (fun h=>by cases h) (fun _=>g)
            · exact bad h
          · split at h
            · rename_i j o j0
              split at h
              · rename_i f0 g0 i0
                split at h
                · exact bad h
                · rename_i CA d0
                  split at h
                  · rename_i p C' hr
                    split at h
                    · exact bad h
                    · rename_i s' I
                      split at h
                      · exact bad h
                      · rename_i k0 Z
                        exact G h fun hC g=>c0 j0 f0 g0 i0 (a0 d0 hC.1) (qN B hr hC.2.1 I) (dU B Z hC.2.2) g
                  · split at h
                    · split at h
                      · split at h
                        · exact F h fun g=>g
                        · rename_i C' p s1 m0
                          split at h
                          · exact bad h
                          · rename_i s' I
                            split at h
                            · exact bad h
                            · rename_i k0 Z
                              exact G h fun hC g=>c0 j0 f0 g0 i0 (a0 d0 hC.1) (Av B m0 hC.2.1 I) (dU B Z hC.2.2) g
                      · rename_i e x0 n0
                        rw[uR]at h;obtain⟨g,c,fn,ho,ha,he,h1,h2,h3,h4,h5⟩:=wB v0 n0;obtain⟨b0,p0,r0⟩:=e0 j0;exact G h fun hC gg=>Jp B b0 i0 r0 (a0 d0 hC) g0 f0 ho ha h1 h2 h3 h4 h5 he gg
                    · rename_i p s1 o0
                      split at h
                      · exact bad h
                      · rename_i s' I
                        split at h
                        · exact bad h
                        · rename_i k0 Z
                          exact G h fun hC g=>c0 j0 f0 g0 i0 (a0 d0 hC.1) (A7 B o0 I) (dU B Z hC.2) g
              · exact F h fun g=>g
            · split at h
              · exact F h fun g=>g
              · rename_i i o i1
                split at h
                · rename_i t d f1 e1
                  split at h
                  · exact bad h
                  · rename_i e he
                    rw[force_eq]at h;split at h
                    · rename_i C1 C2 b1 d1
                      obtain⟨m1,m2⟩:=yY (fun _ h=>h) i1;exact G h fun hC g=>DY m1 f1 (fun w=>dh (B _ _ he)) e1 m2 (dU B b1 hC.1) (dU B d1 hC.2) g
                    · exact bad h
                · exact bad h
            · exact F h fun g=>g
      | ops all rest=>
        cases rest with
        |nil=>simp only[bw]at h;exact A h Bi
        | cons o r=>
          simp only[bw]at h;split at h
          · rename_i j t0 hg
            split at h
            · rename_i d t Y
              cases hb:QZ d nt with
              |false=>simp only[hb,cond_false]at h;exact bad h
              | true=>
                simp only[hb,cond_true]at h;split at h
                · exact F h fun g=>F6 hg Y (Qs hb) g.1 g.2
                · split at h
                  · exact A h (Cx D (rW Y))
                  · exact A h (Cx D (rW Y))
            · rename_i d t Y
              cases hb:QZ d nt with
              |false=>simp only[hb,cond_false]at h;exact bad h
              | true=>
                simp only[hb,cond_true]at h;obtain⟨a1,a2,a3,a4,a5,a6⟩:=o;cases t<;>cases t0<;>simp only at h
                all_goals exact A h fun g=>zt hg Y (Qs hb) g
            · rename_i d vs Y
              exact A h fun g=>zs hg Y g
            · exact bad h
          · rename_i hg
            split at h
            · split at h
              · split at h
                · split at h
                  · exact F h fun g=>g
                  · rename_i C' p s1 m0
                    split at h
                    · exact bad h
                    · rename_i s' I
                      exact G h fun hC g=>dp hg (Av B m0 hC I) fun t ht=>by subst ht;exact g
                · rename_i e x0 n0
                  rw[uR]at h;obtain⟨g,c,fn,ho,ha,he,h1,h2,h3,h4,h5⟩:=wB v0 n0;exact A h fun gg=>MT B hg ho ha h1 h2 h3 h4 h5 he gg
              · rename_i p s1 o0
                split at h
                · exact bad h
                · rename_i s' I
                  exact A h fun g=>dp hg (A7 B o0 I) fun t ht=>by subst ht;exact g
            · rename_i p C' hr
              split at h
              · exact bad h
              · rename_i s' I
                split at h
                · exact G h fun hC g=>dp hg (qN B hr hC I) fun t ht=>by subst ht;exact g
                · rename_i ho
                  exact A h fun g=>dp hg (qN B hr (sJ hr ho) I) fun t ht=>by subst ht;exact g
theorem MG:He P (fun _=>jp):=fun _ _ h=>nomatch h
theorem a7(hm:P.follows .mixedOrders=kw)(d:bT P ty)(n:Nat){k:List KI}{s:AS}{C:Prop}{b:Nat}{st:Stop}(h:bw ty ⟨fun _=>jp,0,lc⟩ n nt k s True=io (C,b,st))(hC:C)(hg:eD P b Q st):GO P nt k Q s:=
  (Mn hm d MG n nt k s True C b st h).2 hC hg
end
mutual
def PV.low(n:Nat):PV->Bool
 | .iv _=>kw
 | .agg cs=>bp n cs
 | .bB cs=>bp n cs
 | .ptr i _=>QZ i n
 | .dd i _ _ _=>QZ i n
 | .dV _ i=>QZ i n
 | .sl i _ _ _=>QZ i n
 | .mp i=>QZ i n
 | .cK _ first caps=>match bp n first with
  |true=>bp n caps
  |false=>lc
 | .kb _=>kw
 | .any=>kw
def bp(n:Nat):List PV->Bool
 | []=>kw
 |p::r=>match PV.low n p with
  |true=>bp n r
  |false=>lc
end
theorem fq{n:Nat}: ∀{l:List PV},bp n l=kw-> ∀(j:Nat) (p:PV),l[j]? =io p->p.low n=kw
 | [],_,j,p,h=>by simp at h
 |c::l,hb,j,p,h=>by
  simp only[bp]at hb;split at hb
  .rename_i b;cases j with
   |zero=>simp at h;subst h;exact b
   |succ j=>exact fq hb j p (by simpa using h)
  .cases hb
def AO.low(n:Nat):AO->Prop
 | .cells cs _=>bp n cs=kw
 | .row _ es=> ∀(k:Nat) (e:List PV),es[k]? =io e->bp n e=kw
 | .bu _ _=>True
 | .fg=>True
 | .map ..=>True
 | .bQ ..=>True
 | .dJ _ _=>True
section
variable {M:Mem} {N:Nm} {U:Nat->Prop} {n:Nat}
theorem VR.down{p:PV}{x:Value}(h:VR M N U p x):p.low n=kw->VR M N (· <n) p x:=by
 induction h with
 |iv x y h=>exact fun _=> .iv x y h
 |agg cs ys hl hr ih=>exact fun hb=> .agg _ _ hl fun j p d=>ih j p d (fq hb j p d)
 |bB cs ys hl hr ih=>exact fun hb=> .bB _ _ hl fun j p d=>ih j p d (fq hb j p d)
 |ptr i off h=>exact fun hb=> .ptr i off (Qs hb)
 |dd i sz k off h=>exact fun hb=> .dd i sz k off (Qs hb)
 |dV z i h=>exact fun hb=> .dV z i (Qs hb)
 |sl i off len sz cap h u hl hc he=>exact fun hb=> .sl i off len sz cap (Qs hb) u hl hc he
 |mE i sz h=>exact fun hb=> .mE i sz (Qs hb)
 |sle i sz cap h hc he=>exact fun hb=> .sle i sz cap (Qs hb) hc he
 |mp i h=>exact fun hb=> .mp i (Qs hb)
 |cK fn first caps f' c' h1 h2 hr1 hr2 ih1 ih2=>
  intro hb;simp only[PV.low]at hb;split at hb
  .rename_i u;exact .cK _ _ _ _ _ h1 h2 (fun j p d=>ih1 j p d (fq u j p d)) (fun j p d=>ih2 j p d (fq hb j p d))
  .cases hb
 |kb b=>exact fun _=> .kb b
 |any x=>exact fun _=> .any x
theorem OR.down{w:World}{i:Nat}{o:AO}(h:OR M N U w i o)(hb:o.low n):OR M N (· <n) w i o:=by
 cases o with
 |cells cs T0=>obtain⟨c,T,b,d,u,x,y⟩:=h;exact⟨c,T,b,d,u,fun j p B=>(x j p B).down (fq hb j p B),y⟩
 |row sz es=>
  rcases h with h|⟨G,c,T,b,d,u,x,y⟩
  .exact .inl h
  exact .inr ⟨G,c,T,b,d,u,x,fun k e j p A F=>(y k e j p A F).down (fq (hb k e A) j p F)⟩
 |bu l T=>exact h
 |fg=>exact h
 |map kc ev z zv dv m=>exact h
 |bQ kc ev m l cu=>exact h
 |dJ s p=>exact h
end
def J6(n:Nat)(f:AF):AF->Prop
 | []=>True
 |(d,p)::r=>f.get d=p∧p.low n=kw∧J6 n f r
def BF(n:Nat)(h:AH):AH->Prop
 | []=>True
 |(_,jp)::r=>BF n h r
 |(i,io o)::r=>h.get i=io o∧i<n∧o.low n∧BF n h r
structure O9 (s t:AS):Prop where
 nx:t.nx<=s.nx
 f:J6 t.nx s.f t.f
 h:BF t.nx s.h t.h
theorem qG{n:Nat}{h:AH}: ∀{g:AH},BF n h g-> ∀i o,g.get i=io o->h.get i=io o∧i<n∧o.low n
 | [],_,i,o,hi=>by simp[AH.get]at hi
 |(k,jp)::r,hw,i,o,hi=>by
  rw[AH.ay]at hi;split at hi
  .cases hi
  .exact qG (g:=r) hw i o hi
 |(k,io p)::r,hw,i,o,hi=>by
  obtain⟨b,d,j,u⟩:=hw;rw[AH.ay]at hi;split at hi
  .rename_i e;subst e;simp only[Qu]at hi;subst hi;exact⟨b,d,j⟩
  .exact qG u i o hi
theorem O9.ext{s t:AS}(hw:O9 s t){M u:Mem}{N x:Nm}{n:Nat}{h:AH}{w y:World}(b:Ext M N (· <n) h w u x (· <s.nx) s.h y)(hn:n<=t.nx):Ext M N (· <n) h w u x (· <t.nx) t.h y:=
 ⟨b.os,b.tape,b.output,b.size,b.fG,b.pb,b.gK,b.nm,fun _ d=>Ss d hn,fun i o d j=>b.fV i o (qG hw.h i o d).1 j⟩
theorem cY{p:Nat->Prop}(h: ∃n,p n): ∃n,p n∧ ∀m,p m->n<=m:=by
 obtain⟨n,u⟩:=h
 induction n using Nat.strongRecOn with
 |_ n ih=>
  by_cases j: ∃m,m<n∧p m
  .obtain⟨m,b,d⟩:=j;exact ih m b d
  .exact⟨n,u,fun m d=>Su fun b=>j ⟨m,b,d⟩⟩
section
variable {P:Program} {nt:Nat} {Q:AQ} {k:List KI} {s:AS}
end
section
variable {P:Program}
def Pure(P:Program)(k:FuncId)(args:List PV)(r:PV):Prop:=Fn P k args [] fun q h n=>q=r∧h=[]∧n=0
end
mutual
theorem PV.ja(σ:Nat->Nat): ∀p:PV,p.low 0=kw->p.cx σ=p
 | .iv _,_=>rfl
 | .agg cs,h=>by simp only[PV.cx];rw[gu σ cs (by simpa[PV.low]using h)]
 | .bB cs,h=>by simp only[PV.cx];rw[gu σ cs (by simpa[PV.low]using h)]
 | .ptr i o,h=>by simp[PV.low,QZ]at h
 | .dd i _ _ o,h=>by simp[PV.low,QZ]at h
 | .dV _ i,h=>by simp[PV.low,QZ]at h
 | .sl i _ _ _,h=>by simp[PV.low,QZ]at h
 | .mp i,h=>by simp[PV.low,QZ]at h
 | .cK fn a b,h=>by
  simp only[PV.low]at h;simp only[PV.cx];split at h
  .rename_i d;rw[gu σ a d,gu σ b h]
  .cases h
 | .kb _,_=>rfl
 | .any,_=>rfl
theorem gu(σ:Nat->Nat): ∀l:List PV,bp 0 l=kw->dL σ l=l
 | [],_=>rfl
 |p::r,h=>by
  simp only[bp]at h;split at h
  .rename_i b;simp only[dL];rw[PV.ja σ p b,gu σ r h]
  .cases h
end
section
variable {P:Program} {nt:Nat} {Q:AQ} {k:List KI} {s:AS}
theorem dr{all rest:List Oper}{o:Oper}{c:Call}{g:FuncId}{args:List PV}{r:PV}{s':AS}(hc:Pure P g args r)(ho:o.op= .call c)(hg:o.guard=jp)(ha:bK s.f c=io (g,args))(b:bp 0 args=kw)
  (hr:r.low 0=kw) (hp:putDst nt o r s=io s') (h:GO P nt (.ops all rest::k) Q s'):GO P nt (.ops all (o::rest)::k) Q s:=by
 refine dp (R:=fun t=>t=s') hg ?_ (fun t d=>by subst d;exact h);refine me ho ha hc (L:=[]) (by simp) (by simp) D (gu _ _ b).symm ?_;rintro q j u ⟨rfl,rfl,rfl⟩;exact⟨s',by rw[PV.ja _ _ hr];exact hp,rfl⟩
end
def eJ(o q:AO):Prop:=(q.real=kw->o.real=kw)∧ ∀(M:Mem) (N:Nm) (U:Nat->Prop) (w:World) (i:Nat),OR M N U w i o->OR M N U w i q
theorem aC.of_eq{p q:PV}(h:p=q):aC p q:=h▸ .refl p
theorem aC.trans{p q r:PV}(a:aC p q)(b:aC q r):aC p r:=fun M N U x h=>b M N U x (a M N U x h)
theorem aC.any(p:PV):aC p .any:=fun _ _ _ _ _=> .any _
theorem lE.refl(p:IV):lE p p:=fun _ _ h=>h
theorem lE.of_eq{p q:IV}(h:p=q):lE p q:=h▸ .refl p
theorem eJ.refl(o:AO):eJ o o:=⟨id,fun _ _ _ _ _ h=>h⟩
theorem eJ.of_eq{o q:AO}(h:o=q):eJ o q:=h▸ .refl o
theorem eJ.trans{o q r:AO}(a:eJ o q)(b:eJ q r):eJ o r:=⟨fun h=>a.1 (b.1 h),fun M N U w i h=>b.2 M N U w i (a.2 M N U w i h)⟩
theorem aC.iv{p q:IV}(h:lE p q):aC (.iv p) (.iv q):=fun M N U x b=>by
 cases b with
 |iv _ _ hi=>exact .iv _ _ (h M x hi)
theorem lE.nil(sz:Nat)(el:Nat->List IV):lE (.v (.slice jp 0 0)) (.c5 sz 0 el):=fun M x h=>by
 cases h;exact .iA _ _ _ _
theorem aC.nil(sz:Nat)(el:Nat->List IV):aC (.iv (.v (.slice jp 0 0))) (.iv (.c5 sz 0 el)):= .iv (.nil sz el)
theorem aC.kb(b:Bool):aC (.kb b) (.iv (.v (.bool b))):=fun M N U x h=>by
 cases h;exact .iv _ _ (.v _)
theorem lE.c5{sz n y:Nat}{el d:Nat->List IV}(hn:n=y)(h: ∀k,k<n->el k=d k):lE (.c5 sz n el) (.c5 sz y d):=by
 subst hn;intro M x B;cases B with
 |iA=>exact .iA _ _ _ _
 |c5 _ _ _ b off cap hn hc hl hm hr=>
  exact .c5 _ _ _ _ _ _ hn hc (fun k u=>by rw[<-h k u];exact hl k u) hm (fun k j p u A=>hr k j p u (by rw[h k u];exact A))
theorem aC.c5{sz n d:Nat}{el b:Nat->List IV}(hn:n=d)(h: ∀k,k<n->el k=b k):aC (.iv (.c5 sz n el)) (.iv (.c5 sz d b)):= .iv (.c5 hn h)
def j4:List PV->List PV->Prop
 | [],[]=>True
 |p::r,q::s=>aC p q∧j4 r s
 |_,_=>False
theorem j4.length: ∀{a b:List PV},j4 a b->a.length=b.length
 | [],[],_=>rfl
 |_::_,_::_,h=>congrArg (· +1) (j4.length h.2)
 | [],_::_,h=>h.elim
 |_::_,[],h=>h.elim
theorem j4.get: ∀{a b:List PV},j4 a b-> ∀(j:Nat) (q:PV),b[j]? =io q-> ∃p,a[j]? =io p∧aC p q
 | [],[],_,j,q,h=>by simp at h
 |p::r,q0::s,hh,j,q,h=>by
  cases j with
  |zero=>simp at h;subst h;exact⟨p,rfl,hh.1⟩
  |succ j=>simpa using j4.get hh.2 j q (by simpa using h)
 | [],_::_,hh,_,_,_=>hh.elim
 |_::_,[],hh,_,_,_=>hh.elim
theorem aC.agg{a b:List PV}(h:j4 a b):aC (.agg a) (.agg b):=fun M N U x u=>by
 cases u with
 |agg _ ys hl hr=>exact .agg _ _ (h.length▸hl) fun j q d=>let ⟨p,hp,hle⟩:=h.get j q d;hle M N U _ (hr j p hp)
theorem aC.bB{a b:List PV}(h:j4 a b):aC (.bB a) (.bB b):=fun M N U x u=>by
 cases u with
 |bB _ ys hl hr=>exact .bB _ _ (h.length▸hl) fun j q d=>let ⟨p,hp,hle⟩:=h.get j q d;hle M N U _ (hr j p hp)
theorem eJ.cells{a b:List PV}{d:Option TypeId}(h:j4 a b):eJ (.cells a d) (.cells b d):=⟨fun h=>h,fun M N U w i ⟨c,T,h1,h2,h3,h4,h5⟩=>
 ⟨c,T,h1,h2,h.length▸h3,fun j q u=>let ⟨p,hp,hle⟩:=h.get j q u;hle M N U _ (h4 j p hp),h5⟩⟩
theorem eJ.ND(a:List PV)(b:Option TypeId):eJ (.cells a b) (.cells a):=⟨fun h=>h,fun M N U w i ⟨c,T,h1,h2,h3,h4,_⟩=>⟨c,T,h1,h2,h3,h4,.none _⟩⟩
theorem Fn.le{P:Program}{k:FuncId}{aa args:List PV}{os:List AO}{R:PV->AH->Nat->Prop}(h:Fn P k args os R)(b:j4 aa args):Fn P k aa os R:=
 ⟨h.1,fun M N w A x u y=>h.2 M N w A x (by rw[<-b.length];exact u) fun j q d=>let ⟨p,hp,hpq⟩:=b.get j q d;hpq M N _ _ (y j p hp)⟩
theorem Pure.le{P:Program}{k:FuncId}{aa args:List PV}{r:PV}(h:Pure P k args r)(b:j4 aa args):Pure P k aa r:=Fn.le h b
def sg(n0:Nat)(L:List Nat)(i:Nat):Nat:=bif QZ i n0 then i else L.getD (i-n0) 0
theorem fC{n0:Nat}{L:List Nat}{i:Nat}(h:i<n0):sg n0 L i=i:=by
 have:QZ i n0=kw:=Ry h;simp[sg,this]
def En(n:Nat)(σ:Nat->Nat)(f:AF):AF->Prop
 | []=>True
 |(d,p)::r=>aC (f.get d) (p.cx σ)∧p.low n=kw∧En n σ f r
def mg(n:Nat)(σ:Nat->Nat)(h:AH):AH->Prop
 | []=>True
 |(_,jp)::r=>mg n σ h r
 |(i,io o)::r=>(∃b,h.get (σ i)=io b∧eJ b (o.cx σ))∧i<n∧o.low n∧mg n σ h r
def eB(σ:Nat->Nat):AH->List Nat
 | []=> []
 |(_,jp)::r=>eB σ r
 |(i,io _)::r=>σ i::eB σ r
structure Wk (n0:Nat) (L:List Nat) (s t:AS):Prop where
 nx:t.nx=n0+L.length
 ns:n0<=s.nx
 lt: ∀j∈L,j<s.nx
 f:En t.nx (sg n0 L) s.f t.f
 h:mg t.nx (sg n0 L) s.h t.h
 inj:(eB (sg n0 L) t.h).Nodup
theorem BE{n:Nat}{σ:Nat->Nat}{f:AF}: ∀{g:AF},En n σ f g-> ∀d,g.get d= .any∨(aC (f.get d) ((g.get d).cx σ)∧(g.get d).low n=kw)
 | [],_,_=> .inl D
 |(k,p)::r,h,d=>by
  obtain⟨b,j,u⟩:=h;rw[AF.ay];by_cases hd:d=k
  .subst hd;rw[am D];exact .inr ⟨b,j⟩
  .rw[be hd];exact BE u d
theorem ic{n:Nat}{σ:Nat->Nat}{h:AH}: ∀{g:AH},mg n σ h g-> ∀i o,g.get i=io o->(∃b,h.get (σ i)=io b∧eJ b (o.cx σ))∧i<n∧o.low n
 | [],_,i,o,hi=>by simp[AH.get]at hi
 |(k,jp)::r,hw,i,o,hi=>by
  rw[AH.ay]at hi;split at hi
  .cases hi
  .exact ic (g:=r) hw i o hi
 |(k,io p)::r,hw,i,o,hi=>by
  obtain⟨d,j,u,x⟩:=hw;rw[AH.ay]at hi;split at hi
  .rename_i e;subst e;simp only[Qu]at hi;subst hi;exact⟨d,j,u⟩
  .exact ic x i o hi
theorem jc{σ:Nat->Nat}: ∀{g:AH} {i:Nat} {o:AO},g.get i=io o->σ i∈eB σ g
 | [],i,o,h=>by simp[AH.get]at h
 |(k,jp)::r,i,o,h=>by
  rw[AH.ay]at h;split at h
  .cases h
  .exact jc (g:=r) h
 |(k,io p)::r,i,o,h=>by
  rw[AH.ay]at h;split at h
  .rename_i e;subst e;simp[eB]
  .exact QR _ (jc h)
theorem lM{σ:Nat->Nat}: ∀{g:AH},(eB σ g).Nodup-> ∀i j o p,g.get i=io o->g.get j=io p->σ i=σ j->i=j
 | [],_,i,j,o,p,h,_,_=>by simp[AH.get]at h
 |(k,jp)::r,hn,i,j,o,p,hi,hj,he=>by
  rw[AH.ay]at hi hj;split at hi
  .cases hi
  .split at hj
   .cases hj
   .exact lM (g:=r) hn i j o p hi hj he
 |(k,io q)::r,hn,i,j,o,p,hi,hj,he=>by
  rw[AH.ay]at hi hj;simp only[eB,RT]at hn;split at hi
  .rename_i d;split at hj
   .rename_i b;rw[d,b]
   .subst d;exact absurd (he▸jc hj) hn.1
  .split at hj
   .rename_i b;subst b;exact absurd (he▸jc hi) hn.1
   .exact lM hn.2 i j o p hi hj he
section
variable {n0:Nat} {L:List Nat} {s t:AS} {M:Mem} {N:Nm} {w:World}
theorem eJ.real{o q:AO}(h:eJ o q)(b:q.real=kw):o.real=kw:=h.1 b
theorem Wk.fits(hw:Wk n0 L s t){nt:Nat}{a:Act}(hf:Fits M N s nt a w):Fits M (N.comp (sg n0 L)) t nt a w:=by
 refine⟨⟨hf.1.dT,fun i o b=>(ic hw.h i o b).2.1,fun i o b B=>?_,fun i o b=>?_,fun i j o p b G J S I=>?_⟩,fun d=>?_,hf.2.2⟩
 .obtain⟨⟨F,u,x⟩,A,y⟩:=ic hw.h i o b;exact hf.1.dW _ F u (x.real ((AO.b3 _ o).trans B))
 .obtain⟨⟨F,u,x⟩,A,y⟩:=ic hw.h i o b;exact(OR.tm (x.2 M N _ w _ (hf.1.obj _ _ u))).down y
 .obtain⟨⟨F,u,x⟩,_⟩:=ic hw.h i o b;obtain⟨⟨Y,A,y⟩,_⟩:=ic hw.h j p G;have:=hf.1.inj _ _ _ _ u A (x.real ((AO.b3 _ o).trans J)) (y.real ((AO.b3 _ p).trans S)) I;exact lM hw.inj i j o p b G this
 .rcases BE hw.f d with h|⟨u,x⟩
  .rw[h];exact .any _
  .exact((u M N _ _ (hf.2.1 d)).tm D).down x
theorem Wk.ext(hw:Wk n0 L s t){u:Mem}{x:Nm}{h0:AH}{y:World}(b:Ext u x (· <n0) h0 y M N (· <s.nx) s.h w):Ext u x (· <n0) h0 y M (N.comp (sg n0 L)) (· <t.nx) t.h w:=by
 refine⟨b.os,b.tape,b.output,b.size,b.fG,b.pb,b.gK,⟨fun i d=>?_,fun i d=>?_⟩,fun i d=>by have:=hw.nx;omega,fun i o d j=>?_⟩
 .simp only[Nm.comp,fC d];exact b.nm.aB i d
 .simp only[Nm.comp,fC d];exact b.nm.ext i d
 .obtain⟨⟨F,A,B⟩,_⟩:=ic hw.h i o d;exact b.fV _ F A (B.real ((AO.b3 _ o).trans j))
end
theorem pf{P:Program}{nt:Nat}{Q:AQ}{k:List KI}{s:AS}{c:Code}{R d:AS->Prop}(h: ∀t,R t->d t)(hg:GO P nt (.code c:: .lp R::k) Q s):GO P nt (.code c:: .lp d::k) Q s:=by
 intro M N a w y;refine AW.then hg y fun e B F u x s' A b j=>⟨u,x,s',A,b,?_⟩
 cases e with
 |normal=>exact h _ j
 |_=>exact j
section
variable {P:Program} {nt:Nat} {Q:AQ} {k:List KI} {s:AS}
theorem mZ{body:Code}{σ:Type}(I:σ->AS)(μ:σ->Nat)(i0:σ)(G:List Nat)(h0:Wk s.nx G s (I i0))
  (b: ∀i,GO P nt (.code body:: .lp (fun t=> ∃j L,μ j<μ i∧Wk s.nx L t (I j))::k) Q (I i)):GO P nt (.code (.loop body)::k) Q s:=by
 intro Y N0 a0 w0 B
 let J:Act->World->Nat->Prop:=fun a w n=> ∃i M N,μ i=n∧Ext Y N0 (· <s.nx) s.h w0 M N (· <(I i).nx) (I i).h w∧Fits M N (I i) nt a w
 have A:J a0 w0 (μ i0):=⟨i0,Y,N0.comp (sg s.nx G),rfl,h0.ext (.refl _ _ _ _ _),h0.fits B⟩
 refine wp_loop (fun a w=> ∃n,J a w n) (fun a w=>by classical exact if h: ∃n,J a w n then Tb (cY h) else 0) ⟨_,A⟩ fun a w b0=>?_;obtain⟨⟨i,M,N,hi,hx,hf⟩,c0⟩:=Sr (cY b0);refine AW.then (b i) hf fun e y F S Z s' u d hr=>?_
 cases e with
 |normal=>
  obtain⟨j,L,hj,hw⟩:=hr;have x:J y F (μ j):=⟨j,S,Z.comp (sg s.nx L),rfl,hw.ext (hx.trans u),hw.fits d⟩
  refine⟨⟨_,x⟩,?_⟩;simp only[dif_pos b0,dif_pos (⟨_,x⟩: ∃n,J y F n)];rw[<-hi];exact T3 ((Sr (cY (⟨_,x⟩: ∃n,J y F n))).2 _ x) hj
 |_=>exact⟨S,Z,s',hx.trans u,d,hr⟩
end
section
variable {P:Program} {nt:Nat} {Q:AQ} {k:List KI} {s:AS}
theorem aD{body:Code}(i0 n:Nat)(d:i0<=n)(I:Nat->AS)(J:Nat->Prop)(j:List Nat)(y:J i0)(h0:Wk s.nx j s (I i0))
  (b: ∀i,i<=n->J i->GO P nt (.code body:: .lp (fun t=>i<n∧J (i+1)∧ ∃L,Wk s.nx L t (I (i+1)))::k) Q (I i)):GO P nt (.code (.loop body)::k) Q s:=by
 refine mZ (σ:={i:Nat//i<=n∧J i}) (fun i=>I i.1) (fun i=>n-i.1) ⟨i0,d,y⟩ j h0 fun i=>?_;obtain⟨i,u,x⟩:=i;have:=b i u x;refine pf ?_ this
 rintro t ⟨h3,h4,L,h5⟩;exact⟨⟨i+1,h3,h4⟩,L,by show n-(i+1)<n-i;omega,h5⟩
end
theorem nX{P:Program}{nt:Nat}{Q:AQ}{k:List KI}{s:AS}{c:Code}(t sz:Nat)(A:s.f.get t= .iv (.v (.slice jp 0 0)))(h:GO P nt (.code c::k) Q (tg s t sz)):GO P nt (.code c::k) Q s:=by
 intro M N a w b;obtain⟨Y,Z,sn⟩:=s;obtain⟨G,I⟩:=b.1.Ho sz;have d:Fits M N (tg ⟨Y,Z,sn⟩ t sz) nt a w:=by
  refine⟨I,fun k=>?_,b.2.2⟩;simp only[tg];rw[AF.ay];split
  .rename_i u;subst u;have:=b.2.1 k;simp only at A this;rw[A]at this;generalize a.tmps.getD k undef=v at this;cases this with
   |iv _ _ h=>cases h with
    |v=>exact .mE _ _ (RX _)
  .exact(b.2.1 k).mono (.refl _) (.refl _ _) (fun i J=>Sb J)
 exact AW.then h d fun e a2 w2 B F S y j x=>⟨B,F,S,G.trans y,j,x⟩
mutual
def PV.dT(i sz:Nat)(el:Nat->List IV):PV->PV
 | .iv x=> .iv x
 | .agg cs=> .agg (uq i sz el cs)
 | .bB cs=> .bB (uq i sz el cs)
 | .sl j off len sz'=>bif Q6 j i then .iv (.c5 sz len (fun k=>el (off+k))) else .sl j off len sz'
 | .ptr j o=> .ptr j o
 | .dd j a b c=> .dd j a b c
 | .dV z j=> .dV z j
 | .mp j=> .mp j
 | .cK fn a b=> .cK fn a b
 | .kb b=> .kb b
 | .any=> .any
def uq(i sz:Nat)(el:Nat->List IV):List PV->List PV
 | []=> []
 |p::r=>PV.dT i sz el p::uq i sz el r
end
theorem gF(i sz:Nat)(el:Nat->List IV): ∀l:List PV,uq i sz el l=l.map (PV.dT i sz el)
 | []=>rfl
 |p::r=>by simp[uq,gF i sz el r]
mutual
def PV.cU(i sz n:Nat):PV->Prop
 | .agg cs=>gB i sz n cs
 | .bB cs=>gB i sz n cs
 | .sl j off len sz'=>if j=i then sz'=sz∧off+len<=n else True
 |_=>True
def gB(i sz n:Nat):List PV->Prop
 | []=>True
 |p::r=>PV.cU i sz n p∧gB i sz n r
end
theorem ia{i sz n:Nat}: ∀{l:List PV},gB i sz n l-> ∀(j:Nat) (p:PV),l[j]? =io p->p.cU i sz n
 | [],_,j,p,h=>by simp at h
 |c::l,hh,j,p,h=>by
  cases j with
  |zero=>simp at h;subst h;exact hh.1
  |succ j=>exact ia hh.2 j p (by simpa using h)
theorem sT{M:Mem}{N:Nm}{n:Nat}{h:AH}{w:World}(hr:Rel M N (· <n) h w){i sz:Nat}{es:List (List PV)}(hi:h.get i=io (.row sz es)){el:Nat->List IV}
  (i0: ∀k e,es[k]? =io e->e=(el k).map .iv): ∃A,Ext M N (· <n) h w A N (· <n) ((i,jp)::h) w∧Rel A N (· <n) ((i,jp)::h) w∧
   ∀p x,VR M N (· <n) p x->p.cU i sz es.length->VR A N (· <n) (p.dT i sz el) x:=by
 have key: ∀A:Mem,M.le A->(∀a0 len b0 b,a0+len<=es.length->0<len->len<=b0->b0<=maxLen->b=N.aB i->IR A (.c5 sz len (fun k=>el (a0+k))) (.slice (io ⟨b,a0*sz,jp⟩) len b0))->
   ∀p x,VR M N (· <n) p x->p.cU i sz es.length->VR A N (· <n) (p.dT i sz el) x:=by
  intro A hM hs p x hx
  induction hx with
  |iv x y h=>exact fun _=> .iv _ _ (h.mono hM)
  |agg cs ys hl hr ih=>
   intro F;refine .agg _ _ (by simpa[gF]using hl) fun j q hq=>?_;rw[gF,QC,QF]at hq;obtain⟨q0,J,rfl⟩:=hq
   exact ih j q0 J (ia (by simpa[PV.cU]using F) j q0 J)
  |bB cs ys hl hr ih=>
   intro F;refine .bB _ _ (by simpa[gF]using hl) fun j q hq=>?_;rw[gF,QC,QF]at hq;obtain⟨q0,J,rfl⟩:=hq
   exact ih j q0 J (ia (by simpa[PV.cU]using F) j q0 J)
  |ptr i a0 h=>exact fun _=> .ptr _ _ h
  |dd i sz k a0 h=>exact fun _=> .dd _ _ _ _ h
  |dV z i h=>exact fun _=> .dV _ _ h
  |sl j a0 len sz' b0 h h0 hl hc Z=>
   intro F;simp only[PV.cU]at F;simp only[PV.dT];by_cases u:j=i
   .subst u;rw[am D]at F;obtain⟨rfl,F⟩:=F;have:Q6 j j=kw:=by simp
    rw[this,cond_true];exact .iv _ _ (hs a0 len b0 _ F h0 hl hc D)
   .have:Q6 j i=lc:=S8.2 (fun e=>u (QS e));rw[this,cond_false];exact .sl _ _ _ _ _ h h0 hl hc Z
  |mE j sz' h=>
   intro F;simp only[PV.dT];cases hb:Q6 j i with
   |true=>exact .iv _ _ (.iA _ _ _ _)
   |false=>exact .mE _ _ h
  |sle j sz' b0 h hc Z=>
   intro F;simp only[PV.dT];cases hb:Q6 j i with
   |true=>exact .iv _ _ (.iA _ _ _ _)
   |false=>exact .sle _ _ _ h hc Z
  |mp i h=>exact fun _=> .mp _ h
  |cK fn first caps f' c' G Y hr1 hr2 ih1 ih2=>exact fun _=> .cK _ _ _ _ _ G Y (fun j p u=>(hr1 j p u).mono hM (.refl _ _) (fun _ h=>h)) (fun j p u=>(hr2 j p u).mono hM (.refl _ _) (fun _ h=>h))
  |kb b=>exact fun _=> .kb _
  |any x=>exact fun _=> .any _
 rcases hr.obj i _ hi with h0|⟨h0,c,T,G,Y,h3,h4,h5⟩
 .subst h0;exact⟨M,(Ext.refl _ _ _ _ _).del i,hr.del i,key M (.refl _) fun a0 len b0 b G Y=>by simp at G;omega⟩
 .have d0:es≠ []∨es=[]:=by cases es<;>simp
  rcases d0 with d0|rfl;rotate_left
  .exact⟨M,(Ext.refl _ _ _ _ _).del i,hr.del i,key M (.refl _) fun a0 len b0 b G Y=>by simp at G;omega⟩
  have S:(AO.row sz es).real=kw:=by cases es with
   |nil=>exact absurd D d0
   |cons=>rfl
  have f0:=hr.dW i _ hi S
  let A:Mem:=M.set (N.aB i) (.cells c) f0
  have hM:M.le A:=fun b d hb=>by
   simp only[A,Mem.set];by_cases B:b=N.aB i
   .rw[B,f0]at hb;cases hb
   .rw[be B];exact hb
  have hnew: ∀b d,M b=jp->A b=io d->b=N.aB i:=fun b d G Y=>by
   simp only[A,Mem.set]at Y;by_cases B:b=N.aB i
   .exact B
   .rw[be B,G]at Y;cases Y
  refine⟨A,?_,?_,key A hM fun a0 len b0 b hb h6 h7 h8 j0=>?_⟩
  .exact⟨rfl,rfl,rfl,QH _,fun _ _ _=>rfl,hM,fun b d G Y=> .inr ⟨i,_,hi,S,(hnew b d G Y).symm⟩,.refl _ _,fun _ h=>h,fun j o u S=> .inr ⟨j,o,(bg j o u).2,S,rfl⟩⟩
  .refine⟨fun b d hb=>?_,fun j o u=>hr.used j o (bg j o u).2,fun j o u c0=>?_,fun j o u=>?_,fun j k o p u hk=>hr.inj j k o p (bg j o u).2 (bg k p hk).2⟩
   .simp only[A,Mem.set]at hb;by_cases B:b=N.aB i
    .rw[am B]at hb;cases hb;exact⟨T,(0,0),by rw[B,G]⟩
    .rw[be B]at hb;exact hr.dT b d hb
   .obtain⟨g1,g2⟩:=bg j o u;simp only[A,Mem.set];rw[be fun e=>g1 (hr.inj j i o _ g2 hi c0 S e)];exact hr.dW j o g2 c0
   .obtain⟨g1,g2⟩:=bg j o u;exact(hr.obj j o g2).mono hM (.refl _ _) (fun _ h=>h) (hr.used j o g2) D
  .subst j0;have I: ∀o,A.cell (N.aB i) o=c[o]? :=fun o=>by simp[Mem.cell,A,Mem.set]
   have k0: ∀k j,k<len->j<sz->a0*sz+k*sz+j<c.size:=by
    intro k j hk u;have:(a0+k+1)*sz<=es.length*sz:=Rb _ (by omega);rw[RJ,RJ]at this;omega
   have g0: ∀k,k<len-> ∃e,es[a0+k]? =io e:=fun k hk=>⟨_,Qy (by omega)⟩
   refine .c5 _ _ _ _ _ _ h7 h8 (fun k hk=>?_) (fun k j hk u=>?_) (fun k j p hk F=>?_)
   .obtain⟨e,Z⟩:=g0 k hk;have:=h4 _ e Z;rw[i0 _ e Z]at this;simpa using this
   .rw[I];simp[k0 k j hk u]
   .obtain⟨e,Z⟩:=g0 k hk;have h9:=h4 _ e Z;have e0:=i0 _ e Z;have u:j<sz:=by rw[<-h9,e0,Rv];exact(Qw.1 F).1
    have:=h5 _ e j (.iv p) Z (by rw[e0,QC,F];rfl);rw[I];have e2:a0*sz+k*sz+j=(a0+k)*sz+j:=by rw[RJ]
    rw[e2];rw[Qt]at this;cases this with
    |iv _ _ h=>exact h.mono hM
def j5(h:AH)(n:Nat)(r:PV)(K:AH->PV->Prop):Prop:= ∀M N w,Rel M N (· <n) h w-> ∃b d j,Ext M N (· <n) h w b N (· <n) d w∧Rel b N (· <n) d w∧(∀x,VR M N (· <n) r x->VR b N (· <n) j x)∧K d j
theorem j5.done{h:AH}{n:Nat}{r:PV}{K:AH->PV->Prop}(b:K h r):j5 h n r K:=fun M N w d=>⟨M,h,r,.refl _ _ _ _ _,d,fun _ h=>h,b⟩
theorem j5.row{h:AH}{n:Nat}{r:PV}{K:AH->PV->Prop}(i:Nat){sz:Nat}{es:List (List PV)}(el:Nat->List IV)(hi:h.get i=io (.row sz es))(b: ∀k e,es[k]? =io e->e=(el k).map .iv)
  (d:r.cU i sz es.length) (G:j5 ((i,jp)::h) n (r.dT i sz el) K):j5 h n r K:=by
 intro M N w I;obtain⟨j,A,B,F⟩:=sT I hi b;obtain⟨u,y,S,g1,g2,g3,g4⟩:=G j N w B;exact⟨u,y,S,A.trans g1,g2,fun x J=>g3 x (F _ _ J d),g4⟩
def J4(ty:Ty)(l:List ResultVar)(m:Nat)(R:PV->AH->Nat->Prop):AQ:=fun e s=>
 (e= .normal∨e= .ret)∧ ∃j,jw ty s l=io j∧j5 s.h s.nx j fun u x=> ∃r b d L,R r b d∧Wk m L ⟨[(0,x)],u,s.nx⟩ ⟨[(0,r)],b,d⟩
section
variable {P:Program}
theorem uu {ty:Ty} (Y:bT P ty) {k:FuncId} {fn:Func} {c:Code} (hf:P.funcs[k]? =io fn) (hb:fn.body=io c) (hn:(fn.name== "runtime.NumGoroutine")=lc) {nt:Nat} (S:fn.ntmps=nt)
  {l:List ResultVar} (hl:fn.results.toList=l) {args:List PV} (J:args.length<=nt) {os:List AO} {R:PV->AH->Nat->Prop}
  (h:GO P nt [.code c] (J4 ty l os.length R) ⟨nJ 0 args,dQ 0 os,os.length⟩):Fn P k args os R:=by
 have key:Fn P k args os (fun r0 h0 n0=>j5 h0 n0 r0 fun b Z=> ∃r B F L,R r B F∧Wk os.length L ⟨[(0,Z)],b,n0⟩ ⟨[(0,r)],B,F⟩):=by
  refine Bl Y hf hb hn S hl J ?_;intro M N a w u;refine wp_mono (h M N a w u) fun e a' w' hp=>?_;obtain⟨G,A,s',h1,b,h3⟩:=hp;refine⟨G,A,s',h1,b,?_⟩;simp only[kp]at h3 ⊢;obtain⟨he,r,g1,g2⟩:=h3;exact⟨he,r,g1,g2⟩
 refine⟨key.1,fun M N w vs hr y hv=>(key.2 M N w vs hr y hv).mono ?_⟩;rintro e w' ⟨x,G,A,r0,h0,n0,rfl,hF,hx,hr',hvr⟩;obtain⟨M2,b,Z,g1,g2,g3,r,B,F,L,hR,hw⟩:=hF G A w' hr'
 have I:Fits M2 A ⟨[(0,Z)],b,n0⟩ 1 ⟨#[x],[]⟩ w':=⟨g2,fun d=>by
  rw[AF.ay];by_cases hd:d=0
  .subst hd;rw[am D];exact g3 x hvr
  .rw[be hd];exact .any _,rfl,rfl⟩
 have j:=hw.fits I;refine⟨x,M2,_,r,B,F,rfl,hR,hw.ext (hx.trans g1),j.1,?_⟩;have:=j.2.1 0;exact this
def Ei(ty:Ty)(l:List ResultVar)(r:PV):AQ:=fun e s=>
 (e= .normal∨e= .ret)∧ ∃b,jw ty s l=io b∧j5 s.h s.nx b fun _ d=>aC d r
theorem ar {ty:Ty} (x:bT P ty) {k:FuncId} {fn:Func} {c:Code} (hf:P.funcs[k]? =io fn) (hb:fn.body=io c) (hn:(fn.name== "runtime.NumGoroutine")=lc) {nt:Nat} (u:fn.ntmps=nt)
  {l:List ResultVar} (J:fn.results.toList=l) {args:List PV} (j:args.length<=nt) {r:PV} (hlow:r.low 0=kw)
  (h:GO P nt [.code c] (Ei ty l r) ⟨nJ 0 args,[],0⟩):Pure P k args r:=by
 refine uu x hf hb hn u J j ?_;intro M N a w b;refine wp_mono (h M N a w b) fun e a' w' S=>?_;obtain⟨A,F,s',G,d,y⟩:=S;refine⟨A,F,s',G,d,?_⟩;simp only[kp]at y ⊢;obtain⟨I,r0,g1,g2⟩:=y;refine⟨I,r0,g1,fun M N w Y=>?_⟩;obtain⟨B,d,r2,Z,q2,q3,q4⟩:=g2 M N w Y;refine⟨B,d,r2,Z,q2,q3,r,[],0,[],⟨rfl,rfl,rfl⟩,rfl,QN _,by simp,⟨?_,hlow,ac⟩,ac,RF⟩;rw[PV.ja _ _ hlow];exact q4
theorem jT{ty:Ty}{l:List ResultVar}{r d:PV}{e:Exit}{s:AS}(he:e= .normal∨e= .ret)(h:jw ty s l=io d)(b:aC d r):Ei ty l r e s:=⟨he,d,h,.done b⟩
end
section
variable {P:Program}
theorem Gl{k:FuncId}{args:List PV}{os:List AO}{R:PV->AH->Nat->Prop}(hc:lG P k){n:Nat}(hn: ∃sz d,PV.iv (.c5 sz n d)∈args)(h:n<=maxLen->Fn P k args os R):Fn P k args os R:=by
 refine⟨hc,fun M N w x B A u=>?_⟩;obtain⟨sz,d,hn⟩:=hn;obtain⟨j,y⟩:=RE hn;have:=u j _ y;have b:n<=maxLen:=by
  generalize x.getD j undef=v at this;cases this with
  |iv _ _ hi=>cases hi with
   |iA=>exact QN _
   |c5=>omega
 exact(h b).2 M N w x B A u
theorem Fc{k:FuncId}{args:List PV}{r:PV}(hc:lG P k){n:Nat}(hn: ∃sz b,PV.iv (.c5 sz n b)∈args)(h:n<=maxLen->Pure P k args r):Pure P k args r:=Gl hc hn h
end
abbrev iI(n:Int):IV:= .v (.int .i64 n)
abbrev iS(s:ByteArray):IV:= .v (.string s)
abbrev pI(n:Int):PV:= .iv (iI n)
abbrev pS(s:ByteArray):PV:= .iv (iS s)
abbrev pB(b:Bool):PV:= .iv (.v (.bool b))
abbrev ag(l:List IV):PV:= .agg (l.map .iv)
abbrev de{α:Type}[Inhabited α](sz:Nat)(l:List α)(f:α->List IV):IV:= .c5 sz l.length (fun k=>f (l.getD k co))
def aW{α:Type}(sz:Nat)(l:List α)(f:α->List IV):AO:= .row sz (l.map fun x=>(f x).map .iv)
theorem xg(σ:Nat->Nat): ∀l:List IV,dL σ (l.map .iv)=l.map .iv
 | []=>rfl
 |x::r=>by simp only[Q4,dL,PV.cx,xg σ r]
theorem oc(n:Nat): ∀l:List IV,bp n (l.map .iv)=kw
 | []=>rfl
 |x::r=>by simp only[Q4,bp,PV.low,oc n r]
section
variable {α:Type} {sz:Nat} {l:List α} {f:α->List IV}
theorem bD(σ:Nat->Nat):(aW sz l f).cx σ=aW sz l f:=by
 simp only[aW,AO.cx,List.map_map];congr 1;exact List.map_congr_left fun x _=>xg σ _
theorem dB(n:Nat):(aW sz l f).low n:=by
 intro k e b;rw[QC,QF]at b;obtain⟨x,_,rfl⟩:=b;exact oc n _
theorem IK{es:List (List PV)}(σ:Nat->Nat)(h:es=l.map fun x=>(f x).map .iv):eJ (.row sz es) ((aW sz l f).cx σ):=by
 rw[bD];exact .of_eq (by rw[h];rfl)
theorem fQ[Inhabited α]{es:List (List PV)}(h:es=l.map fun x=>(f x).map .iv): ∀k e,es[k]? =io e->e=(f (l.getD k co)).map .iv:=by
 subst h;intro k e b;rw[QC,QF]at b;obtain⟨x,d,rfl⟩:=b;rw[Qx,d];rfl
theorem nR[Inhabited α](l:List α)(f:α->List IV):(Rh l.length).map (fun k=>(f (l.getD k co)).map PV.iv)=l.map fun x=>(f x).map .iv:=by
 apply List.ext_getElem?;intro k;rw[QC,QC];rcases RN k l.length with h|h
 .rw[Tt h,Qy h];simp[Qx,h]
 .simp[h]
theorem sc(h: ∀x,gd ((f x).map .iv)=kw)(l:List α):allOnes (l.map fun x=>(f x).map .iv)=kw:=by
 induction l with
 |nil=>rfl
 |cons x r ih=>simp only[Q4,allOnes,h x,ih]
theorem ec[Inhabited α](h: ∀x,gd ((f x).map .iv)=kw)(l:List α):allOnes ((Rh l.length).map (fun k=>(f (l.getD k co)).map PV.iv))=kw:=by
 rw[nR];exact sc h l
end
def au(l:List IV):AO:= .cells (l.map .iv)
theorem Br(σ:Nat->Nat)(l:List IV):(au l).cx σ=au l:=by
 simp only[au,AO.cx,xg]
theorem Ea{cs:List PV}{b:Option TypeId}{l:List IV}(σ:Nat->Nat)(h:cs=l.map .iv):eJ (.cells cs b) ((au l).cx σ):=by
 rw[Br];exact .trans (.ND cs b) (.of_eq (by rw[h];rfl))
def cL:List Nat->Bool
 | []=>kw
 |x::r=>!r.elem x&&cL r
theorem fA: ∀{l:List Nat},cL l=kw->l.Nodup
 | [],_=>RF
 |x::r,h=>by
  simp only[cL,Q5,Rw,List.elem_eq_mem,decide_eq_false_iff_not]at h;exact RT.2 ⟨h.1,fA h.2⟩
theorem wk{n0:Nat}{L:List Nat}{s t:AS}(h1:Q6 t.nx (n0+L.length)=kw)(b:SE n0 s.nx=kw)(d:L.all (fun j=>QZ j s.nx)=kw)(hf:En t.nx (sg n0 L) s.f t.f)(hh:mg t.nx (sg n0 L) s.h t.h)
  (u:cL (eB (sg n0 L) t.h)=kw):Wk n0 L s t:=
 ⟨QS h1,Qs b,fun j x=>Qs (Q7.1 d j x),hf,hh,fA u⟩
theorem Pj{n0:Nat}{s t:AS}(h1:t.nx=n0)(b:SE n0 s.nx=kw)(hf:En t.nx (sg n0 []) s.f t.f)(hh:t.h=[]):Wk n0 [] s t:=
 ⟨by simpa using h1,Qs b,by simp,hf,by rw[hh];trivial,by rw[hh];exact RF⟩
section
variable {n i:Nat} {σ:Nat->Nat} {h r:AH}
theorem hC{cs:List PV}{b:Option TypeId}{c:List IV}(ho:h.get (σ i)=io (.cells cs b))(he:cs=c.map .iv)(hi:QZ i n=kw)(hr:mg n σ h r):mg n σ h ((i,io (au c))::r):=
 ⟨⟨_,ho,Ea σ he⟩,Qs hi,oc n c,hr⟩
theorem hR{α:Type}{sz:Nat}{es:List (List PV)}{l:List α}{f:α->List IV}(ho:h.get (σ i)=io (.row sz es))(he:es=l.map fun x=>(f x).map .iv)(hi:QZ i n=kw)(hr:mg n σ h r):mg n σ h ((i,io (aW sz l f))::r):=
 ⟨⟨_,ho,IK σ he⟩,Qs hi,dB n,hr⟩
theorem hM{V:Type}{kc:KC}{ev:V->IV}{z:V}{j:Value}{b:PV->V}{m d:List (kc.K×V)}(ho:h.get (σ i)=io (.map kc ev z j b m))(he:m=d)(hi:QZ i n=kw)(hr:mg n σ h r):mg n σ h ((i,io (.map kc ev z j b d))::r):=
 ⟨⟨_,ho,.of_eq (by rw[he];rfl)⟩,Qs hi,ac,hr⟩
theorem DV{V:Type}{kc:KC}{ev:V->IV}{z:V}{b:Value}{d:PV->V}(ho:h.get (σ i)=io .fg)(x: ∀M,IR M (ev z) b)(hi:QZ i n=kw)(hr:mg n σ h r):mg n σ h ((i,io (.map kc ev z b d []))::r):=
 ⟨⟨_,ho,id,fun M N U w j u=>⟨#[],0,u,⟨rfl,by simp,by simp,by simp,by simp⟩,x M⟩⟩,Qs hi,ac,hr⟩
theorem hI{V:Type}{kc:KC}{ev:V->IV}{m:List (kc.K×V)}{vs x:List Nat}{F d:Option (kc.K×V)}(ho:h.get (σ i)=io (.bQ kc ev m vs F))(he:vs=x)(hc:d=F∨d=jp)(hi:QZ i n=kw)(hr:mg n σ h r):mg n σ h ((i,io (.bQ kc ev m x d))::r):=by
 refine⟨⟨_,ho,id,fun M N U w j G=>?_⟩,Qs hi,ac,hr⟩;subst he;rcases hc with rfl|rfl
 .exact G
 .rcases G with⟨y,A,_,B⟩|⟨b,ents,clock,u,y,A,I,B,J,S,Y⟩
  .exact .inl ⟨y,A,rfl,B⟩
  .exact .inr ⟨b,ents,clock,u,y,A,I,B,J,S,by simp⟩
end
theorem fS{ty:Ty}{b:List ResultVar}{e:Exit}{s:AS}{α:Type}[Inhabited α]{i n sz:Nat}{es:List (List PV)}{L:List α}{f:α->List IV}(he:e= .normal∨e= .ret)(h:jw ty s b=io (.sl i 0 n sz))(hi:s.h.get i=io (.row sz es))
  (hes:es=L.map fun x=>(f x).map .iv) (hn:n=L.length):Ei ty b (.iv (de sz L f)) e s:=by
 refine⟨he,_,h,.row i (fun k=>f (L.getD k co)) hi (fQ hes) ?_ (.done ?_)⟩
 .subst hes;subst hn;simp[PV.cU]
 .have:Q6 i i=kw:=by simp
  simp only[PV.dT,this,cond_true,Q9];subst hn;exact .refl _
theorem aC.bk{b c:Bool}(h:b=c):aC (pB b) (.kb c):=fun _ _ _ _ d=>by
 subst h;cases d with
 |iv _ _ h=>cases h;exact .kb _
theorem aC.MO{b c:Bool}(h:b=c):aC (.kb b) (pB c):=h▸ .kb b
theorem aC.row{i n m sz:Nat}(h:n=m):aC (.sl i 0 n sz) (.sl i 0 m sz):= .of_eq (by rw[h])
section
variable {α:Type} [Inhabited α] {l:List α} {f:α->Bool} {i:Nat}
theorem cP(h:(l.take i).any f=lc)(hi:i<l.length):((l.take (i+1)).any f=lc↔f (l.getD i co)=lc):=by
 rw[SS hi,List.any_append,h,Qx,Qy hi];simp
theorem ya(hi:i<l.length)(h:f (l.getD i co)=kw):l.any f=kw:=by
 rw[Qx,Qy hi]at h;exact RR.2 ⟨_,Rz hi,h⟩
omit [Inhabited α] in
theorem any_none(h:(l.take i).any f=lc)(hi:l.length<=i):l.any f=lc:=by
 rwa[QM hi]at h
theorem G8(h:(l.take i).all f=kw)(hi:i<l.length):((l.take (i+1)).all f=kw↔f (l.getD i co)=kw):=by
 rw[SS hi,List.all_append,h,Qx,Qy hi];simp
theorem cC(hi:i<l.length):l.take (i+1)=l.take i++ [l.getD i co]:=by
 rw[SS hi,Qx,Qy hi];rfl
theorem dz{β:Type}{g:β->α->β}{b:β}(hi:i<l.length):(l.take (i+1)).foldl g b=g ((l.take i).foldl g b) (l.getD i co):=by
 rw[cC hi,Sp];rfl
omit [Inhabited α] in
theorem D0{β:Type}{g:β->α->β}{b:β}(hi:l.length<=i):(l.take i).foldl g b=l.foldl g b:=by rw[QM hi]
end
theorem fZ{P:Program}{nt:Nat}{Q:AQ}{k:List KI}{s:AS}{body:Code}{K:Type}(m:List K)(I:List Nat->AS)(J:List Nat->Prop)(A:List Nat)(Y:J [])(h0:Wk s.nx A s (I []))
  (d: ∀vs:List Nat,J vs->GO P nt (.code body:: .lp (fun t=> ∃j x,m[j]? =io x∧j∉vs∧J (j::vs)∧ ∃L,Wk s.nx L t (I (j::vs)))::k) Q (I vs)):GO P nt (.code (.loop body)::k) Q s:=by
 refine mZ (σ:={vs:List Nat//vs.Nodup∧(∀j∈vs,j<m.length)∧J vs}) (fun v=>I v.1) (fun v=>m.length-v.1.length) ⟨[],RF,by simp,Y⟩ A h0 fun v=>?_;obtain⟨vs,B,F,G⟩:=v;refine pf ?_ (d vs G)
 rintro t ⟨j,x,g1,g2,g3,L,g4⟩;have S:j<m.length:=(Qw.1 g1).1;have b: ∀i∈j::vs,i<m.length:=by
  intro i hi;rcases QY.1 hi with rfl|hi
  .exact S
  .exact F i hi
 have y:(j::vs).Nodup:=RT.2 ⟨g2,B⟩;have u:(j::vs).length<=m.length:=by
  have:=Sf y (l₂:=Rh m.length) (fun i hi=>R3.2 (b i hi));simpa using this
 refine⟨⟨j::vs,y,b,g3⟩,L,?_,g4⟩;show m.length-(j::vs).length<m.length-vs.length;simp only[Rf]at u ⊢;omega
def bL(P:Program)(k:FuncId)(args:List PV)(os:List AO)(r:PV)(h:AH)(n:Nat):Prop:=Fn P k args os fun q b d=>q=r∧b=h∧d=n
def qy:List AO->List AO->Prop
 | [],[]=>True
 |p::r,q::s=>eJ p q∧qy r s
 |_,_=>False
theorem qy.length: ∀{a b:List AO},qy a b->a.length=b.length
 | [],[],_=>rfl
 |_::_,_::_,h=>congrArg (· +1) (qy.length h.2)
 | [],_::_,h=>h.elim
 |_::_,[],h=>h.elim
theorem qy.get: ∀{a b:List AO},qy a b-> ∀(j:Nat) (q:AO),b[j]? =io q-> ∃p,a[j]? =io p∧eJ p q
 | [],[],_,j,q,h=>by simp at h
 |p::r,q0::s,hh,j,q,h=>by
  cases j with
  |zero=>simp at h;subst h;exact⟨p,rfl,hh.1⟩
  |succ j=>simpa using qy.get hh.2 j q (by simpa using h)
 | [],_::_,hh,_,_,_=>hh.elim
 |_::_,[],hh,_,_,_=>hh.elim
theorem Fn.Lh{P:Program}{k:FuncId}{args:List PV}{os ps:List AO}{R:PV->AH->Nat->Prop}(h:Fn P k args os R)(I:qy ps os):Fn P k args ps R:=by
 have J:=I.length;have d: ∀i o,(dQ 0 os).get i=io o-> ∃p,(dQ 0 ps).get i=io p∧eJ p o:=by
  intro i o u;rw[rf,am (QN _)]at u ⊢;exact I.get _ _ u
 refine⟨h.1,fun M N w vs F hl hv=>?_⟩;rw[J]at F hv ⊢;have Z:Rel M N (· <os.length) (dQ 0 os) w:=by
  refine⟨F.dT,fun i o u=>?_,fun i o u a0=>?_,fun i o u=>?_,fun i j o p u hj S hp he=>?_⟩
  .obtain⟨p,y,A⟩:=d i o u;exact F.used i p y
  .obtain⟨p,y,A⟩:=d i o u;exact F.dW i p y (A.1 a0)
  .obtain⟨p,y,A⟩:=d i o u;exact A.2 _ _ _ _ _ (F.obj i p y)
  .obtain⟨o',y,A⟩:=d i o u;obtain⟨p',B,G⟩:=d j p hj;exact F.inj i j o' p' y B (A.1 S) (G.1 hp) he
 refine(h.2 M N w vs Z hl hv).mono ?_;rintro e w' ⟨x,M',N',r,h',n',rfl,hR,hx,hrr,hvr⟩;refine⟨x,M',N',r,h',n',rfl,hR,⟨hx.os,hx.tape,hx.output,hx.size,fun b hb hn=>hx.fG b hb fun i o u S=>?_,hx.pb,fun b c y A=>?_,hx.nm,hx.ule,fun i o u S=>?_⟩,hrr,hvr⟩
 .obtain⟨p,y,A⟩:=d i o u;exact hn i p y (A.1 S)
 .rcases hx.gK b c y A with B|⟨i,o,B,G,Y⟩
  .exact .inl B
  .obtain⟨p,g1,g2⟩:=d i o B;exact .inr ⟨i,p,g1,g2.1 G,Y⟩
 .rcases hx.fV i o u S with B|⟨j,q,B,G,Y⟩
  .exact .inl B
  .obtain⟨p,g1,g2⟩:=d j q B;exact .inr ⟨j,p,g1,g2.1 G,Y⟩
theorem bL.Lh{P:Program}{k:FuncId}{args:List PV}{os d:List AO}{r:PV}{h:AH}{n:Nat}(hc:bL P k args os r h n)(b:qy d os):bL P k args d r h n:=Fn.Lh hc b
theorem bL.le{P:Program}{k:FuncId}{aa args:List PV}{os:List AO}{r:PV}{h:AH}{n:Nat}(hc:bL P k args os r h n)(b:j4 aa args):bL P k aa os r h n:=Fn.le hc b
theorem Pure.det{P:Program}{k:FuncId}{args:List PV}{r:PV}(h:Pure P k args r):bL P k args [] r [] 0:=h
section
variable {P:Program} {ty:Ty} {nt:Nat} {Q:AQ} {k:List KI} {s:AS}
theorem Gu{o:Oper}{c:Call}{g:FuncId}{asv args:List PV}{os:List AO}{r:PV}{u:AH}{x:Nat}{s':AS}(L:List Nat)(hc:bL P g args os r u x)(ho:o.op= .call c)(ha:bK s.f c=io (g,asv))
  (hn:cL L=kw) (A:L.all (fun j=>QZ j s.nx)=kw) (d:L.map s.h.get=os.map fun o=>io (o.cx (sig L s.nx))) (b:asv=dL (sig L s.nx) args) (hp:putDst nt o (r.cx (sig L s.nx)) (aE s L u x)=io s'):
  OT P nt o s (fun t=>t=s'):=
 me ho ha hc (fA hn) (fun j y=>Qs (Q7.1 A j y)) d b (by rintro q B n0 ⟨rfl,rfl,rfl⟩;exact⟨s',hp,rfl⟩)
theorem bc{all rest:List Oper}{o:Oper}{c:Call}{g:FuncId}{asv args:List PV}{os:List AO}{r:PV}{u:AH}{x:Nat}{s':AS}(L:List Nat)(hc:bL P g args os r u x)(ho:o.op= .call c)(hg:o.guard=jp)(ha:bK s.f c=io (g,asv))
  (hn:cL L=kw) (y:L.all (fun j=>QZ j s.nx)=kw) (d:L.map s.h.get=os.map fun o=>io (o.cx (sig L s.nx))) (b:asv=dL (sig L s.nx) args) (hp:putDst nt o (r.cx (sig L s.nx)) (aE s L u x)=io s')
  (h:GO P nt (.ops all rest::k) Q s'):GO P nt (.ops all (o::rest)::k) Q s:=
 dp hg (Gu L hc ho ha hn y d b hp) fun t A=>by subst A;exact h
theorem rk(u:bT P ty){all:List Oper}{todo pend:List (Nat×Oper)}{j:Nat}{o:Oper}{s':AS}{J I:Prop}(hrd:eG todo=[(j,o)])(hg:cf nt all s.f o=io kw)(hpb:gT all pend o=kw)(hE:nA todo [j]=kw)
  (hag:rB ty nt all s todo pend=io J) (hCA:J) (B:OT P nt o s (fun t=>t=s')) (hag2:dH ty nt all s' (a8 pend o)=io I) (hC2:I)
  (h:GO P nt (.ct all (todo.filter fun x=>!Q6 x.1 j) (a8 pend o)::k) Q s'):GO P nt (.ct all todo pend::k) Q s:=by
 have d:(j,o)∈eG todo:=by rw[hrd];simp
 obtain⟨S,A⟩:=Rn.1 d;simp only[Rw,Rq,RD]at A;have b: ∀y∈todo,aF y.2=kw-> ∀y∈pend,fP P nt all s y.2:=by
  intro y F G;unfold rB at hag;split at hag
  .exact dU u hag hCA
  .rename_i Z;have:=RD.1 Z y F;rw[G]at this;exact absurd D this
 refine xH hE ⟨_,S,A.1⟩ b fun j' o' Y _ hu=>?_;simp only[QJ]at Y;subst Y;have:=hu o S;subst this;exact⟨A.1,fun y F _=>by simpa using A.2 y F,hpb,hg,_,B,fun t ht=>by subst ht;exact⟨dU u hag2 hC2,h⟩⟩
theorem xI(u:bT P ty){all:List Oper}{todo pend:List (Nat×Oper)}{j:Nat}{o:Oper}{c:Call}{g:FuncId}{asv args:List PV}{os:List AO}{r:PV}{B:AH}{F:Nat}{s':AS}{A y:Prop}(L:List Nat)(hc:bL P g args os r B F)
  (hrd:eG todo=[(j,o)]) (ho:o.op= .call c) (ha:bK s.f c=io (g,asv))
  (hn:cL L=kw) (G:L.all (fun j=>QZ j s.nx)=kw) (d:L.map s.h.get=os.map fun o=>io (o.cx (sig L s.nx))) (b:asv=dL (sig L s.nx) args) (hp:putDst nt o (r.cx (sig L s.nx)) (aE s L B F)=io s')
  (hg:cf nt all s.f o=io kw) (hpb:gT all pend o=kw) (hE:nA todo [j]=kw)
  (hag:rB ty nt all s todo pend=io A) (hCA:A) (hag2:dH ty nt all s' (a8 pend o)=io y) (hC2:y)
  (h:GO P nt (.ct all (todo.filter fun x=>!Q6 x.1 j) (a8 pend o)::k) Q s'):GO P nt (.ct all todo pend::k) Q s:=
 rk u hrd hg hpb hE hag hCA (Gu L hc ho ha hn G d b hp) hag2 hC2 h
def BA(ty:Ty)(l:List ResultVar)(m:Nat)(r:PV)(h:AH)(n:Nat):AQ:=J4 ty l m fun q b d=>q=r∧b=h∧d=n
theorem aw (u:bT P ty) {g:FuncId} {fn:Func} {c:Code} (hf:P.funcs[g]? =io fn) (hb:fn.body=io c) (hn:(fn.name== "runtime.NumGoroutine")=lc) (j:fn.ntmps=nt)
  {l:List ResultVar} (x:fn.results.toList=l) {args:List PV} (d:args.length<=nt) {os:List AO} {r:PV} {h:AH} {n:Nat}
  (b:GO P nt [.code c] (BA ty l os.length r h n) ⟨nJ 0 args,dQ 0 os,os.length⟩):bL P g args os r h n:=uu u hf hb hn j x d b
theorem en{l:List ResultVar}{m:Nat}{r b:PV}{h:AH}{n:Nat}{e:Exit}(L:List Nat)(he:e= .normal∨e= .ret)(hr:jw ty s l=io b)(hw:Wk m L ⟨[(0,b)],s.h,s.nx⟩ ⟨[(0,r)],h,n⟩):BA ty l m r h n e s:=
 ⟨he,b,hr,.done ⟨r,h,n,L,⟨rfl,rfl,rfl⟩,hw⟩⟩
end
theorem j5.map{h:AH}{n:Nat}{r:PV}{K:AH->PV->Prop}(i:Nat){kc:KC}{V:Type}{e:V->IV}{z:V}{b:Value}{u:PV->V}{m:List (kc.K×V)}(hi:h.get i=io (.map kc e z b u m))
  (G:j5 ((i,jp)::h.ej i (.du kc e z b m)) n (r.ej i (.du kc e z b m)) K):j5 h n r K:=by
 intro M N w I;obtain⟨d,A,B,_,F⟩:=ni I hi;obtain⟨j,y,S,g1,g2,g3,g4⟩:=G d N w B;exact⟨j,y,S,A.trans g1,g2,fun x J=>g3 x (F _ _ J),g4⟩
mutual
def PV.Gk(i:Nat)(l:List IV):PV->PV
 | .iv x=> .iv x
 | .agg cs=> .agg (zQ i l cs)
 | .bB cs=> .bB (zQ i l cs)
 | .ptr j o=>bif Q6 j i then .iv (.j6 (l.drop o)) else .ptr j o
 | .sl j off len sz'=> .sl j off len sz'
 | .dd j a b c=> .dd j a b c
 | .dV z j=> .dV z j
 | .mp j=> .mp j
 | .cK fn a b=> .cK fn a b
 | .kb b=> .kb b
 | .any=> .any
def zQ(i:Nat)(l:List IV):List PV->List PV
 | []=> []
 |p::r=>PV.Gk i l p::zQ i l r
end
theorem nj(i:Nat)(x:List IV): ∀l:List PV,zQ i x l=l.map (PV.Gk i x)
 | []=>rfl
 |p::r=>by simp[zQ,nj i x r]
theorem DZ{M:Mem}{N:Nm}{n:Nat}{h:AH}{w:World}(hr:Rel M N (· <n) h w){i:Nat}{l:List IV}{cs:List PV}{T0:Option TypeId}(hi:h.get i=io (.cells cs T0))(b0:cs=l.map .iv):
  ∃B,Ext M N (· <n) h w B N (· <n) ((i,jp)::h) w∧Rel B N (· <n) ((i,jp)::h) w∧ ∀p x,VR M N (· <n) p x->VR B N (· <n) (p.Gk i l) x:=by
 subst b0;have Z:=hr.dW i _ hi D;obtain⟨c,T,S,I,h3,h4,h5⟩:=hr.obj i _ hi
 let B:Mem:=M.set (N.aB i) (.cells c) Z
 have hM:M.le B:=fun b d hb=>by
  simp only[B,Mem.set];by_cases u:b=N.aB i
  .rw[u,Z]at hb;cases hb
  .rw[be u];exact hb
 have hnew: ∀b d,M b=jp->B b=io d->b=N.aB i:=fun b d S I=>by
  simp only[B,Mem.set]at I;by_cases u:b=N.aB i
  .exact u
  .rw[be u,S]at I;cases I
 have F: ∀o,B.cell (N.aB i) o=c[o]? :=fun o=>by simp[Mem.cell,B,Mem.set]
 refine⟨B,?_,?_,fun p x hx=>?_⟩
 .exact⟨rfl,rfl,rfl,QH _,fun _ _ _=>rfl,hM,fun b d S I=> .inr ⟨i,_,hi,rfl,(hnew b d S I).symm⟩,.refl _ _,fun _ h=>h,fun j o A c0=> .inr ⟨j,o,(bg j o A).2,c0,rfl⟩⟩
 .refine⟨fun b d hb=>?_,fun j o A=>hr.used j o (bg j o A).2,fun j o A J=>?_,fun j o A=>?_,fun j k o p A hk=>hr.inj j k o p (bg j o A).2 (bg k p hk).2⟩
  .simp only[B,Mem.set]at hb;by_cases u:b=N.aB i
   .rw[am u]at hb;cases hb;exact⟨T,(0,0),by rw[u];exact S⟩
   .rw[be u]at hb;exact hr.dT b d hb
  .obtain⟨g1,g2⟩:=bg j o A;simp only[B,Mem.set];rw[be fun e=>g1 (hr.inj j i o _ g2 hi J D e)];exact hr.dW j o g2 J
  .obtain⟨g1,g2⟩:=bg j o A;exact(hr.obj j o g2).mono hM (.refl _ _) (fun _ h=>h) (hr.used j o g2) D
 .induction hx with
  |iv x y h=>exact .iv _ _ (h.mono hM)
  |agg cs ys hl _ ih=>
   refine .agg _ _ (by simpa[nj]using hl) fun j q G=>?_;rw[nj,QC,QF]at G;obtain⟨q0,Y,rfl⟩:=G
   exact ih j q0 Y
  |bB cs ys hl _ ih=>
   refine .bB _ _ (by simpa[nj]using hl) fun j q G=>?_;rw[nj,QC,QF]at G;obtain⟨q0,Y,rfl⟩:=G
   exact ih j q0 Y
  |ptr j off h=>
   simp only[PV.Gk];cases hb:Q6 j i with
   |true=>
    have A:=QS hb;subst A;have a0:l.length=c.size:=by simpa using h3
    refine .iv _ _ (.j6 _ _ _ (fun k hk=>?_) fun k q G=>?_)
    .rw[List.length_drop]at hk;rw[F];simp[show off+k<c.size by omega]
    .rw[RQ]at G;have d0:off+k<c.size:=by rw[<-a0];exact(Qw.1 G).1
     have:=h4 (off+k) (.iv q) (by rw[QC,G];rfl);rw[F];rw[Qt]at this;cases this with
     |iv _ _ h=>exact h.mono hM
   |false=>exact .ptr _ _ h
  |dd i sz k off h=>exact .dd _ _ _ _ h
  |dV z i h=>exact .dV _ _ h
  |sl j off len sz' cap h h0 hl hc he=>exact .sl _ _ _ _ _ h h0 hl hc he
  |mE j sz' h=>exact .mE _ _ h
  |sle j sz' cap h hc he=>exact .sle _ _ _ h hc he
  |mp j h=>exact .mp _ h
  |cK fn first caps f' c' S I hr1 hr2 _ _=>exact .cK _ _ _ _ _ S I (fun j p A=>(hr1 j p A).mono hM (.refl _ _) (fun _ h=>h)) (fun j p A=>(hr2 j p A).mono hM (.refl _ _) (fun _ h=>h))
  |kb b=>exact .kb _
  |any x=>exact .any _
theorem j5.cells{h:AH}{n:Nat}{r:PV}{K:AH->PV->Prop}(i:Nat)(l:List IV){cs:List PV}{u:Option TypeId}(hi:h.get i=io (.cells cs u))(b:cs=l.map .iv)(G:j5 ((i,jp)::h) n (r.Gk i l) K):j5 h n r K:=by
 intro M N w I;obtain⟨d,A,B,F⟩:=DZ I hi b;obtain⟨j,y,S,g1,g2,g3,g4⟩:=G d N w B;exact⟨j,y,S,A.trans g1,g2,fun x J=>g3 x (F _ _ J),g4⟩
theorem sV{ty:Ty}{l:List ResultVar}{r b:PV}{e:Exit}{s:AS}(he:e= .normal∨e= .ret)(h:jw ty s l=io b)(d:j5 s.h s.nx b fun _ j=>aC j r):Ei ty l r e s:=⟨he,b,h,d⟩
section
variable {P:Program} {ty:Ty} {nt:Nat} {Q:AQ} {k:List KI} {s:AS}
theorem Cy{all rest:List Oper}{o:Oper}{c:Call}{g:FuncId}{asv args:List PV}{os:List AO}{R:PV->AH->Nat->Prop}(L:List Nat)(hc:Fn P g args os R)(ho:o.op= .call c)(hg:o.guard=jp)(ha:bK s.f c=io (g,asv))
  (hn:cL L=kw) (A:L.all (fun j=>QZ j s.nx)=kw) (d:L.map s.h.get=os.map fun o=>io (o.cx (sig L s.nx))) (b:asv=dL (sig L s.nx) args)
  (h: ∀r u x,R r u x-> ∃s',putDst nt o (r.cx (sig L s.nx)) (aE s L u x)=io s'∧GO P nt (.ops all rest::k) Q s'):GO P nt (.ops all (o::rest)::k) Q s:=
 dp (R:=fun t=>GO P nt (.ops all rest::k) Q t) hg (me ho ha hc (fA hn) (fun j y=>Qs (Q7.1 A j y)) d b h) fun t B=>B
theorem CD{R:PV->AH->Nat->Prop}{l:List ResultVar}{m:Nat}{r b:PV}{h:AH}{n:Nat}{e:Exit}(L:List Nat)(he:e= .normal∨e= .ret)(hr:jw ty s l=io b)(hR:R r h n)(hw:Wk m L ⟨[(0,b)],s.h,s.nx⟩ ⟨[(0,r)],h,n⟩):J4 ty l m R e s:=
 ⟨he,b,hr,.done ⟨r,h,n,L,hR,hw⟩⟩
end
theorem uj{P:Program}{nt:Nat}{Q:AQ}{k:List KI}{s:AS}{c:Code}(i j sz:Nat){cs:List PV}{d:Option TypeId}(hi:s.h.get i=io (.cells cs d))(hj:cs[j]? =io (.iv (.v (.slice jp 0 0))))
  (h:GO P nt (.code c::k) Q ⟨s.f,(i,io (.cells (cs.set j (.sl s.nx 0 0 sz)) d))::(s.nx,io (.row sz []))::s.h,s.nx+1⟩):GO P nt (.code c::k) Q s:=by
 intro M N a w y;obtain⟨sf,Z,x⟩:=s;obtain⟨h1,Y⟩:=y.1.Ho sz;have F:i≠x:=fun e=>by have:=y.1.used i _ hi;simp only at this;omega
 have b:AH.get ((x,io (AO.row sz []))::Z) i=io (.cells cs d):=by
  rw[AH.ay,be F];exact hi
 obtain⟨J,T,e1,e2,e3,S,e5⟩:=Y.obj i _ b
 obtain⟨g1,g2⟩:=Y.write (i:=i) (o0:= .cells cs d) b D w (.cells (cs.set j (.sl x 0 0 sz)) d) D D D D (fun _ _=>rfl) ⟨J,T,e1,e2,by rw[SO];exact e3,fun k p u=>by
  rw[R5]at u;split at u
  .rename_i hk;subst hk;split at u
   .cases u;have:=S j _ hj;generalize J.getD j undef=v at this ⊢;cases this with
    |iv _ _ h=>cases h with
     |v=>exact .mE _ _ (RX _)
   .cases u
  .exact S k p u,e5⟩
 have A:Fits M N ⟨sf,(i,io (.cells (cs.set j (.sl x 0 0 sz)) d))::(x,io (.row sz []))::Z,x+1⟩ nt a w:=
  ⟨g2,fun k=>(y.2.1 k).mono (.refl _) (.refl _ _) (fun i hi=>Sb hi),y.2.2⟩
 exact AW.then h A fun e a2 w2 M2 N2 s2 I B G=>⟨M2,N2,s2,(h1.trans g1).trans I,B,G⟩
theorem j5.Mp{h:AH}{n:Nat}{r:PV}{K:AH->PV->Prop}{α:Type}[Inhabited α](i:Nat){sz:Nat}{es:List (List PV)}(L:List α)(f:α->List IV)(hi:h.get i=io (.row sz es))(hes:es=L.map fun x=>(f x).map .iv)
  (b:r.cU i sz L.length) (d:j5 ((i,jp)::h) n (r.dT i sz fun k=>f (L.getD k co)) K):j5 h n r K:=
 .row i (fun k=>f (L.getD k co)) hi (fQ hes) (by subst hes;simpa using b) d
def AO.jf(i sz:Nat)(el:Nat->List IV):AO->AO
 | .cells cs T=> .cells (uq i sz el cs) T
 |o=>o
def AO.tP(i sz n:Nat):AO->Prop
 | .cells cs _=>gB i sz n cs
 | .row _ es=> ∀(k:Nat) (e:List PV) (j:Nat) (p:PV),es[k]? =io e->e[j]? =io p-> ∃y,p= .iv y
 |_=>True
def AH.jf(i sz:Nat)(el:Nat->List IV):AH->AH
 | []=> []
 |(k,jp)::r=>(k,jp)::AH.jf i sz el r
 |(k,io o)::r=>(k,io (o.jf i sz el))::AH.jf i sz el r
def AH.tP(i sz n:Nat):AH->Prop
 | []=>True
 |(_,jp)::r=>AH.tP i sz n r
 |(_,io o)::r=>o.tP i sz n∧AH.tP i sz n r
def AF.jf(i sz:Nat)(el:Nat->List IV):AF->AF
 | []=> []
 |(d,p)::r=>(d,p.dT i sz el)::AF.jf i sz el r
def AF.tP(i sz n:Nat):AF->Prop
 | []=>True
 |(_,p)::r=>p.cU i sz n∧AF.tP i sz n r
theorem AH.jM(i sz:Nat)(el:Nat->List IV): ∀(h:AH) (j:Nat),(AH.jf i sz el h).get j=(h.get j).map (AO.jf i sz el)
 | [],_=>rfl
 |(k,jp)::r,j=>by
  simp only[AH.jf,AH.ay,AH.jM i sz el r j];split<;>rfl
 |(k,io o)::r,j=>by
  simp only[AH.jf,AH.ay,AH.jM i sz el r j];split<;>rfl
theorem AH.lN{i sz n:Nat}: ∀{h:AH} (_:h.tP i sz n) (j:Nat) (o:AO),h.get j=io o->o.tP i sz n
 | [],_,j,o,ho=>nomatch ho
 |(k,jp)::r,hh,j,o,ho=>by
  rw[AH.ay]at ho;split at ho
  .cases ho
  .exact AH.lN (h:=r) hh j o ho
 |(k,io q)::r,hh,j,o,ho=>by
  rw[AH.ay]at ho;split at ho
  .cases ho;exact hh.1
  .exact AH.lN (h:=r) hh.2 j o ho
theorem AF.jM(i sz:Nat)(el:Nat->List IV): ∀(f:AF) (d:Nat),(AF.jf i sz el f).get d=(f.get d).dT i sz el
 | [],_=>rfl
 |(k,p)::r,d=>by
  simp only[AF.jf,AF.ay,AF.jM i sz el r d];split<;>rfl
theorem AF.lN{i sz n:Nat}: ∀{f:AF} (_:f.tP i sz n) (d:Nat),(f.get d).cU i sz n
 | [],_,d=>trivial
 |(k,p)::r,h,d=>by
  rw[AF.ay];split
  .exact h.1
  .exact AF.lN (f:=r) h.2 d
theorem AO.rn(i sz:Nat)(el:Nat->List IV)(o:AO):(o.jf i sz el).real=o.real:=by
 cases o<;>rfl
theorem xF{P:Program}{nt:Nat}{Q:AQ}{k:List KI}{s:AS}{c:Code}(i:Nat){sz:Nat}{es:List (List PV)}(el:Nat->List IV)(hi:s.h.get i=io (.row sz es))(I: ∀k e,es[k]? =io e->e=(el k).map .iv)
  (hf:s.f.tP i sz es.length) (hh:s.h.tP i sz es.length) (h:GO P nt (.code c::k) Q ⟨s.f.jf i sz el,(i,jp)::s.h.jf i sz el,s.nx⟩):GO P nt (.code c::k) Q s:=by
 intro M N a w b;obtain⟨G,u,A,h4⟩:=sT b.1 hi I;have hM:M.le G:=u.pb;have B: ∀j o,AH.get ((i,jp)::s.h.jf i sz el) j=io o-> ∃p,AH.get ((i,jp)::s.h) j=io p∧s.h.get j=io p∧o=p.jf i sz el:=by
  intro j o x;obtain⟨g1,g2⟩:=bg j o x;rw[AH.jM,QF]at g2;obtain⟨p,g3,g4⟩:=g2;exact⟨p,by rw[AH.ay,be g1];exact g3,g3,g4.symm⟩
 have hE:Ext M N (· <s.nx) s.h w G N (· <s.nx) ((i,jp)::s.h.jf i sz el) w:=⟨u.os,u.tape,u.output,u.size,u.fG,u.pb,u.gK,u.nm,u.ule,fun j o x y=>by
  obtain⟨p,g1,_,rfl⟩:=B j o x;rw[AO.rn]at y
  exact u.fV j p g1 y⟩
 have hR:Rel G N (· <s.nx) ((i,jp)::s.h.jf i sz el) w:=by
  refine⟨A.dT,fun j o x=>?_,fun j o x y=>?_,fun j o x=>?_,fun j k o p x hk ho hp=>?_⟩
  .obtain⟨p,g1,_,rfl⟩:=B j o x;exact A.used j p g1
  .obtain⟨p,g1,_,rfl⟩:=B j o x;rw[AO.rn]at y;exact A.dW j p g1 y
  .obtain⟨p,g1,g2,rfl⟩:=B j o x;cases p with
   |cells cs T0=>
    obtain⟨c,T,q1,q2,q3,q4,q5⟩:=b.1.obj j _ g2;have Y:=AH.lN hh j _ g2;refine⟨c,T,q1,q2,by simpa[gF]using q3,fun k q hq=>?_,q5⟩;rw[gF,QC,QF]at hq;obtain⟨q0,F,rfl⟩:=hq;exact h4 _ _ (q4 k q0 F) (ia Y k q0 F)
   |row=>exact A.obj j _ g1
   |bu=>exact A.obj j _ g1
   |fg=>exact A.obj j _ g1
   |map=>exact A.obj j _ g1
   |bQ=>exact A.obj j _ g1
   |dJ=>exact A.obj j _ g1
  .obtain⟨o',g1,_,rfl⟩:=B j o x;obtain⟨p',g2,_,rfl⟩:=B k p hk;rw[AO.rn]at ho hp;exact A.inj j k o' p' g1 g2 ho hp
 have J:Fits G N ⟨s.f.jf i sz el,(i,jp)::s.h.jf i sz el,s.nx⟩ nt a w:=⟨hR,fun d=>by
  rw[AF.jM];exact h4 _ _ (b.2.1 d) (AF.lN hf d),b.2.2⟩
 exact AW.then h J fun e a2 w2 M2 N2 s2 a0 S Z=>⟨M2,N2,s2,hE.trans a0,S,Z⟩
def AO.jN(i sz:Nat)(el:Nat->List IV):AO->AO
 | .cells cs T=> .cells (uq i sz el cs) T
 | .row s es=> .row s (es.map (uq i sz el))
 |o=>o
def AO.y7(i sz n:Nat):AO->Prop
 | .cells cs _=>gB i sz n cs
 | .row _ es=> ∀e∈es,gB i sz n e
 |_=>True
def AH.jN(i sz:Nat)(el:Nat->List IV):AH->AH
 | []=> []
 |(k,jp)::r=>(k,jp)::AH.jN i sz el r
 |(k,io o)::r=>(k,io (o.jN i sz el))::AH.jN i sz el r
def AH.y7(i sz n:Nat):AH->Prop
 | []=>True
 |(_,jp)::r=>AH.y7 i sz n r
 |(_,io o)::r=>o.y7 i sz n∧AH.y7 i sz n r
theorem AH.rq(i sz:Nat)(el:Nat->List IV): ∀(h:AH) (j:Nat),(AH.jN i sz el h).get j=(h.get j).map (AO.jN i sz el)
 | [],_=>rfl
 |(k,jp)::r,j=>by
  simp only[AH.jN,AH.ay,AH.rq i sz el r j];split<;>rfl
 |(k,io o)::r,j=>by
  simp only[AH.jN,AH.ay,AH.rq i sz el r j];split<;>rfl
theorem AH.pZ{i sz n:Nat}: ∀{h:AH} (_:h.y7 i sz n) (j:Nat) (o:AO),h.get j=io o->o.y7 i sz n
 | [],_,j,o,ho=>nomatch ho
 |(k,jp)::r,hh,j,o,ho=>by
  rw[AH.ay]at ho;split at ho
  .cases ho
  .exact AH.pZ (h:=r) hh j o ho
 |(k,io q)::r,hh,j,o,ho=>by
  rw[AH.ay]at ho;split at ho
  .cases ho;exact hh.1
  .exact AH.pZ (h:=r) hh.2 j o ho
theorem AO.pn(i sz:Nat)(el:Nat->List IV)(o:AO):(o.jN i sz el).real=o.real:=by
 cases o with
 |row s es=>cases es<;>rfl
 |_=>rfl
def ES:List Code->Code->Code
 | [],r=>r
 |c::l,r=> .seq c (ES l r)
def pJ:Nat->Code->List Code
 |n+1,.seq a b=>a::pJ n b
 |_,_=> []
def l0:Nat->Code->Code
 |n+1,.seq _ b=>l0 n b
 |_,c=>c
theorem xB{P:Program}{nt:Nat}{R:AQ}: ∀{l:List Code} {e:Exit} {s:AS},e≠ .normal->kp P nt (l.map KI.code) R e s->R e s
 | [],_,_,_,h=>h
 |c::l,e,s,he,h=>by
  cases e with
  |normal=>exact absurd D he
  |_=>exact xB (l:=l) he h
mutual
def An:PV->Bool
 | .iv (.v _)=>kw
 | .iv _=>lc
 | .agg cs=>uN cs
 | .bB cs=>uN cs
 | .cK _ _ _=>lc
 |_=>kw
def uN:List PV->Bool
 | []=>kw
 |p::r=>An p&&uN r
end
theorem lB: ∀{l:List PV},uN l=kw-> ∀(j:Nat) (p:PV),l[j]? =io p->An p=kw
 | [],_,j,p,h=>by simp at h
 |c::l,hh,j,p,h=>by
  simp only[uN,Q5]at hh;cases j with
  |zero=>simp at h;subst h;exact hh.1
  |succ j=>exact lB hh.2 j p (by simpa using h)
theorem uM{M u:Mem}{N:Nm}{U:Nat->Prop}{p:PV}{x:Value}(h:VR M N U p x):An p=kw->VR u N U p x:=by
 induction h with
 |iv x y h=>
  intro hb;cases h with
  |v=>exact .iv _ _ (.v _)
  |_=>cases hb
 |agg cs ys hl hr ih=>exact fun hb=> .agg _ _ hl fun j p d=>ih j p d (lB hb j p d)
 |bB cs ys hl hr ih=>exact fun hb=> .bB _ _ hl fun j p d=>ih j p d (lB hb j p d)
 |ptr i off h=>exact fun _=> .ptr _ _ h
 |dd i sz k off h=>exact fun _=> .dd _ _ _ _ h
 |dV z i h=>exact fun _=> .dV _ _ h
 |sl i off len sz cap h h0 hl hc he=>exact fun _=> .sl _ _ _ _ _ h h0 hl hc he
 |mE i sz h=>exact fun _=> .mE _ _ h
 |sle i sz cap h hc he=>exact fun _=> .sle _ _ _ h hc he
 |mp i h=>exact fun _=> .mp _ h
 |cK=>intro hb;cases hb
 |kb b=>exact fun _=> .kb _
 |any=>exact fun _=> .any _
def GZ:AO->Prop
 | .row _ es=> ∀e∈es,uN e=kw
 | .cells cs _=>uN cs=kw
 |_=>False
theorem GY{M F:Mem}{N:Nm}{U:Nat->Prop}{w:World}{i:Nat}{o:AO}(hb:GZ o)(h:OR M N U w i o):OR F N U w i o:=by
 cases o with
 |row sz es=>
  rcases h with h|⟨G,c,T,d,u,x,y,A⟩
  .exact .inl h
  .exact .inr ⟨G,c,T,d,u,x,y,fun k e j p B b=>uM (A k e j p B b) (lB (hb e (Rk B)) j p b)⟩
 |cells cs T0=>
  obtain⟨c,T,d,u,x,y,A⟩:=h;exact⟨c,T,d,u,x,fun j p b=>uM (y j p b) (lB hb j p b),A⟩
 |_=>exact hb.elim
section
variable {P:Program} {nt:Nat} {Q:AQ} {k:List KI} {s:AS}
theorem GW{o:Oper}{c:Call}{g:FuncId}{asv args:List PV}(ho:o.op= .call c)(ha:bK s.f c=io (g,asv)){r:PV}{h':AH}{n':Nat}(hc:bL P g args [] r h' n')
  (i0:args.length=asv.length) (hlow:bp 0 args=kw)
  (f0: ∀M N w,Rel M N (· <s.nx) s.h w-> ∃M1:Mem,M.le M1∧Rel M1 N (· <s.nx) [] w∧ ∀(j:Nat) (p:PV) (x:Value),args[j]? =io p->(∀q,asv[j]? =io q->VR M N (· <s.nx) q x)->VR M1 N (· <s.nx) p x)
  (e0:An (r.cx (sig [] s.nx))=kw) (d0: ∀j o,(pU (sig [] s.nx) h').get j=io o->GZ o)
  {s':AS} (hp:putDst nt o (r.cx (sig [] s.nx)) (aE s [] h' n')=io s'):OT P nt o s (fun t=>t=s'):=by
 intro M N a w y K Z hk;obtain⟨vs,a0,hl,hv⟩:=z8 y ho ha hc.1;unfold Oper.wp;rw[a0];simp only[Oper.upon];obtain⟨M1,m0,j0,k0⟩:=f0 M N w y.1
 have Y:=Fn.calls (s:=⟨s.f,[],s.nx⟩) (L:=[]) hc RF (by simp) D (M:=M1) (N:=N) (w:=w) j0 (vs:=vs) (by omega) (fun j p B=>by
  rw[PV.ja _ _ (fq hlow j p B)]
  exact k0 j p _ B fun q hq=>hv j q hq)
 refine Y.mono ?_;rintro e w' ⟨x,M',N',r',h2,n2,rfl,⟨rfl,rfl,rfl⟩,hx,hr,hvr⟩;have F:N.agree N' (· <s.nx):=hx.nm;have I: ∀i,i<s.nx->i<s.nx+(n2-0):=fun i hi=>hx.ule i hi;have G: ∀b,b<w.heap.size->w'.heap[b]? =w.heap[b]? :=fun b hb=>hx.fG b hb fun i o hi=>(nomatch hi)
 have g0:(aE ⟨s.f,[],s.nx⟩ [] h2 n2).h=pU (sig [] s.nx) h2:=by simp[aE,Ac]
 have A: ∀j o,(aE s [] h2 n2).h.get j=io o->(pU (sig [] s.nx) h2).get j=io o∨s.h.get j=io o:=by
  intro j o B;simp only[aE,Ac,Sa]at B;rw[AH.get_append]at B;split at B
  .exact .inl B
  .exact .inr B
 rw[g0]at hr hx;have hnew: ∀j o,(pU (sig [] s.nx) h2).get j=io o->o.real=kw->w.heap.size<=N'.aB j:=by
  intro j o B u;rcases hx.fV j o B u with h|⟨i,p,hi,_⟩
  .exact h
  .exact nomatch hi
 have hR:Rel M N' (· <s.nx+(n2-0)) (aE s [] h2 n2).h w':=by
  refine⟨fun b d hb=>(y.1.dT b d hb).mono (G b (y.1.dT b d hb).lt),fun j o B=>?_,fun j o B u=>?_,fun j o B=>?_,fun i j o p hi B J S e=>?_⟩
  .rcases A j o B with h|h
   .exact hr.used j o h
   .exact I j (y.1.used j o h)
  .rcases A j o B with h|h
   .have:=hnew j o h u;cases hm:M (N'.aB j) with
    |none=>rfl
    |some d=>have:=(y.1.dT _ d hm).lt;omega
   .rw[F.aB j (y.1.used j o h)];exact y.1.dW j o h u
  .rcases A j o B with h|h
   .exact GY (d0 j o h) (hr.obj j o h)
   .cases u:o.real with
    |true=>exact(y.1.obj j o h).mono (.refl _) F I (y.1.used j o h) (G _ ((y.1.obj j o h).lt u))
    |false=>
     cases o with
     |row sz es=>cases es with
      |nil=>exact .inl D
      |cons=>cases u
     |bu l T=>cases l with
      |nil=>exact .inl D
      |cons=>cases u
     |_=>cases u
  .rcases A i o hi with h1|h1<;>rcases A j p B with h2'|h2'
   .exact hr.inj i j o p h1 h2' J S e
   .have:=hnew i o h1 J;rw[e,F.aB j (y.1.used j p h2')]at this;have:=(y.1.obj j p h2').lt S;omega
   .have:=hnew j p h2' S;rw[<-e,F.aB i (y.1.used i o h1)]at this;have:=(y.1.obj i o h1).lt J;omega
   .rw[F.aB i (y.1.used i o h1),F.aB j (y.1.used j p h2')]at e;exact y.1.inj i j o p h1 h2' J S e
 have hX:Ext M N (· <s.nx) s.h w M N' (· <s.nx+(n2-0)) (aE s [] h2 n2).h w':=
  ⟨hx.os,hx.tape,hx.output,hx.size,fun b hb _=>G b hb,.refl _,fun b d g1 g2=>absurd (g1.symm.trans g2) (by simp),F,I,fun j o B u=>by
   rcases A j o B with h|h
   .exact .inl (hnew j o h u)
   .exact .inr ⟨j,o,h,u,(F.aB j (y.1.used j o h)).symm⟩⟩
 have c0:Fits M N' (aE s [] h2 n2) nt a w':=⟨hR,y.2.1.ext hX,y.2.2⟩
 have b0:VR M N' (· <(aE s [] h2 n2).nx) (r'.cx (sig [] s.nx)) x:=uM hvr e0;show K (a.put o.dst x) w';cases hd:o.dst with
 |none=>
  have:=eZ hp hd;subst this;exact hk M N' _ _ w' hX c0 D
 |some d=>
  obtain⟨h1,rfl⟩:=eY hp hd;exact hk M N' {aE s [] h2 n2 with f:=(d,r'.cx (sig [] s.nx))::(aE s [] h2 n2).f} _ w' hX (c0.put d _ x h1 b0) D
theorem Gb{all rest:List Oper}{o:Oper}{c:Call}{g:FuncId}{asv args:List PV}{r:PV}{u:AH}{F:Nat}{s':AS}(hc:bL P g args [] r u F)(ho:o.op= .call c)(hg:o.guard=jp)(ha:bK s.f c=io (g,asv))
  (b:args.length=asv.length) (hlow:bp 0 args=kw)
  (B: ∀M N w,Rel M N (· <s.nx) s.h w-> ∃d:Mem,M.le d∧Rel d N (· <s.nx) [] w∧ ∀(j:Nat) (p:PV) (x:Value),args[j]? =io p->(∀q,asv[j]? =io q->VR M N (· <s.nx) q x)->VR d N (· <s.nx) p x)
  (A:An (r.cx (sig [] s.nx))=kw) (y: ∀j o,(pU (sig [] s.nx) u).get j=io o->GZ o) (hp:putDst nt o (r.cx (sig [] s.nx)) (aE s [] u F)=io s')
  (h:GO P nt (.ops all rest::k) Q s'):GO P nt (.ops all (o::rest)::k) Q s:=
 dp hg (GW ho ha hc b hlow B A y hp) fun t G=>by subst G;exact h
end
end
end Go.Al
namespace Go.Al
open Go.ChangeShapes Go.WideShapes Go.RowKit
section
def we(W:World)(b:Nat):Option MB:=match W.heap[b]? with
 |some (.cells c _ _)=>io (.cells c)
 |some (.map es cl)=>io (.map es cl)
 |_=>jp
def nM(W:World):Prop:= ∀b c,MR b=io c-> ∃T d,W.heap[b]? =io (.cells c T d)
def Mem.oh(W:World)(h:nM W):Mem:=⟨we W,fun b c hb=>by obtain⟨T,d,e⟩:=h b c hb;simp[we,e]⟩
def Ox:Nm:=⟨fun _=>0,fun _=>0⟩
theorem IN(W:World)(h:nM W):Rel (Mem.oh W h) Ox (· <0) [] W:=by
 refine⟨fun b c hb=>?_,fun i o u=>by simp[AH.get]at u,fun i o u=>by simp[AH.get]at u,fun i o u=>by simp[AH.get]at u,fun i j o p u=>by simp[AH.get]at u⟩;have d:we W b=io c:=hb;unfold we at d;split at d
 .rename_i y T x e;obtain rfl:=RC d;exact⟨T,x,e⟩
 .rename_i es A e;obtain rfl:=RC d;exact e
 .cases d
theorem Ah{W:World}{h:nM W}{b o:Nat}{v:Value}(hc:W.cell? ⟨b,o,jp⟩=io v):(Mem.oh W h).cell b o=io v:=by
 show(match we W b with|some (.cells c)=>c[o]? |_=>jp)=io v;unfold World.cell? at hc;unfold we;split at hc
 .rename_i c T d e;simp only at e;rw[e];simpa using hc
 .cases hc
def CR(M:Mem)(l:List IV)(cs:List Value):Prop:=l.length=cs.length∧ ∀j p,l[j]? =io p->IR M p (cs.getD j undef)
theorem CR.nil(M:Mem):CR M [] []:=⟨rfl,fun j p h=>by simp at h⟩
theorem CR.one{M:Mem}{p:IV}{v:Value}(h:IR M p v):CR M [p] [v]:=⟨rfl,fun j q b=>by
 cases j with
 |zero=>simp at b;subst b;simpa using h
 |succ j=>simp at b⟩
theorem CR.append{M:Mem}{l u:List IV}{cs b:List Value}(h:CR M l cs)(k:CR M u b):CR M (l++u) (cs++b):=by
 refine⟨by simp[h.1,k.1],fun j p d=>?_⟩;rcases RN j l.length with hj|hj
 .rw[QQ hj]at d;have:=h.2 j p d;rw[Qx]at this ⊢;rwa[QQ (by rw[<-h.1];exact hj)]
 .rw[QX hj]at d;have:=k.2 _ p d;rw[Qx]at this ⊢;rw[QX (by rw[<-h.1];exact hj),<-h.1];exact this
theorem CR.fw{M:Mem}{l r:List IV}{cs:List Value}{o n o':Nat}(h:CR M l ((cs.drop o).take n))(e:o'=o+n)(k:CR M r (cs.drop o')):CR M (l++r) (cs.drop o):=by
 subst e;have:=h.append k;rwa[<-List.drop_drop,S6]at this
theorem CR.end_{M:Mem}{cs:List Value}{o:Nat}(h:cs.length=o):CR M [] (cs.drop o):=by
 rw[List.drop_eq_nil_of_le (by omega)];exact .nil M
theorem CR.agg{M:Mem}{N:Nm}{U:Nat->Prop}{l:List IV}{ys:Array Value}(h:CR M l ys.toList):VR M N U (ag l) (.agg ys):=by
 refine .agg _ _ (by simpa using h.1) fun j p b=>?_;rw[QC,QF]at b;obtain⟨q,d,rfl⟩:=b;have:=h.2 j q d;exact .iv _ _ (by simpa[Qt,Qx]using this)
theorem CR.le{M:Mem}{l d:List IV}{cs:List Value}(h:CR M l cs)(x:l.length=d.length)(b: ∀(j:Nat) (p q:IV),l[j]? =io p->d[j]? =io q->lE p q):CR M d cs:=by
 refine⟨x▸h.1,fun j q y=>?_⟩;have u:j<l.length:=by rw[x];exact(Qw.1 y).1
 exact b j _ q (Qy u) y M _ (h.2 j _ (Qy u))
theorem CR.Bb{M:Mem}{p q:IV}{cs:List Value}(h:CR M [p] cs)(b:lE p q):CR M [q] cs:=
 h.le D fun j x y d u=>by
  cases j with
  |zero=>simp at d u;subst d;subst u;exact b
  |succ j=>simp at d
section
variable {H:Type} {enc:TypeId×Value->H} {P:Program} {W:World} {hT:nM W} {sp:Nat->Bool} {held:Bool}
def Rd(enc:TypeId×Value->H)(P:Program)(W:World)(hT:nM W)(sp:Nat->Bool)(held:Bool)(t:TypeId){α:Type}(c:α->List IV)(Q:α->DataW H->Prop)(n:Nat):Prop:=
 ∀m,m<=n-> ∀b y,DataW.trod enc P W 0 sp held m t b=io y-> ∃x,CR (Mem.oh W hT) (c x) b∧Q x y.1
theorem Rd.mono{t:TypeId}{α:Type}{c:α->List IV}{Q:α->DataW H->Prop}{n m:Nat}(h:Rd enc P W hT sp held t c Q n)(hm:m<=n):Rd enc P W hT sp held t c Q m:=fun k b=>h k (Rr b hm)
theorem jA{t:TypeId}{k:IntKind}(b:P.underlying t=io (.int k))(n:Nat):Rd enc P W hT sp held t (fun z=> [.v (.int k z)]) (fun z d=>d= .lit (.int k z)∧(Lit.int k z).wf=kw) n:=by
 intro m _ u y h;cases m with
 |zero=>simp[DataW.trod]at h
 |succ m=>
  unfold DataW.trod at h;rw[b]at h;split at h<;>simp_all;obtain⟨⟨rfl,j⟩,rfl⟩:=h;exact⟨_,.one (.v _),rfl,j⟩
theorem jm{t:TypeId}(b:P.underlying t=io .string)(n:Nat):Rd enc P W hT sp held t (fun s=> [.v (.string s)]) (fun s d=>d= .lit (.string s.data.toList)∧s.size<=maxLen) n:=by
 intro m _ u y h;cases m with
 |zero=>simp[DataW.trod]at h
 |succ m=>
  unfold DataW.trod at h;rw[b]at h;split at h<;>simp_all;rename_i s;obtain⟨j,rfl⟩:=h;exact⟨s,.one (.v _),rfl,j⟩
def QL{α:Type}(Q:α->DataW H->Prop)(l:List α)(d:DataW H):Prop:=
 ∃b:List (DataW H),(d= .nil∧b=[]∨ ∃sp,d= .slice b sp)∧l.length=b.length∧ ∀(i:Nat) (x:α) (e:DataW H),l[i]? =io x->b[i]? =io e->Q x e
theorem jz{α:Type}[Inhabited α]{t e:TypeId}{sz:Nat}{c:α->List IV}{Q:α->DataW H->Prop}{n:Nat}(ht:P.underlying t=io (.slice e))(hc:P.cellsOf e=sz)(B:0<sz)(hl: ∀x,(c x).length=sz)
  (he:Rd enc P W hT sp held e c Q n):Rd enc P W hT sp held t (fun l:List α=> [de sz l c]) (QL Q) (n+1):=by
 intro m hm cs y h;rcases DataW.trod_slice ht h with⟨rfl,rfl⟩|⟨a,len,f0,u,rest,k,rfl,rfl,rfl,_,h1,h2,h3,h4,_⟩
 .exact⟨[],.one (.iA ..),[],.inl ⟨rfl,rfl⟩,rfl,fun i x e h=>by simp at h⟩
 have key: ∀i,i<len-> ∃x,(∃d,W.cells? 0 (a.add (i*sz)) sz=io d∧CR (Mem.oh W hT) (c x) d)∧ ∃y,u[i]? =io y∧Q x y.1:=by
  intro i F;have h5:=h4 i F;rw[hc,Qy (by omega)]at h5;obtain⟨d,h6,h7⟩:=Option.bind_eq_some_iff.1 h5;obtain⟨x,h8,h9⟩:=he k (by omega) _ _ h7;exact⟨x,⟨d,h6,h8⟩,_,Qy (by omega),h9⟩
 obtain⟨f,hf⟩:=Deep.choose_lt key;refine⟨(Rh len).map f,.one ?_,u.map (·.1),.inr ⟨_,rfl⟩,by simp[h3],fun i x e hx a0=>?_⟩
 .cases len with
  |zero=>exact .iA ..
  |succ len=>
   have i0: ∀i,i<len+1-> ∀j,j<sz->W.cell? ((a.add (i*sz)).add j)=((c (f i))[j]?).bind fun _=>(W.cell? ((a.add (i*sz)).add j)):=by
    intro i F j A;rw[Qy (by rw[hl];exact A)];rfl
   have b: ∀i,i<len+1-> ∀j,j<sz-> ∃v,W.cell? ⟨a.block,a.off+i*sz+j,jp⟩=io v∧(∀p,(c (f i))[j]? =io p->IR (Mem.oh W hT) p v)∧a.spot=jp:=by
    intro i F j A;obtain⟨⟨d,h6,h8⟩,_⟩:=hf i F;obtain⟨_,h9,I⟩:=World.cells?_some h6;have J:=I j A;rw[Qy (by omega)]at J;have hs: ∀j,j<sz->(a.add (i*sz+j)).spot=jp:=fun j A=>by
     have S:=I j A;rw[Qy (by omega),Deep.add_add]at S;exact World.cell?_spot S
    have Y:a.add (i*sz+j)=⟨a.block,a.off+i*sz+j,jp⟩:=by
     have:=hs j A;unfold Addr.add at this ⊢;split
     .rename_i h0;rw[am h0]at this;cases a;simp_all
     .rw[Sm]
    refine⟨d[j]'(by omega),?_,fun p hp=>?_,?_⟩
    .rw[<-Y,<-Deep.add_add];exact J
    .have:=h8.2 j p hp;rwa[Qx,Qy (by omega)]at this
    .obtain⟨⟨g0,g6,_⟩,_⟩:=hf 0 (by omega);obtain⟨_,g9,d0⟩:=World.cells?_some g6;have c0:=d0 0 B;rw[Qy (by omega),Deep.add_add]at c0;have:=World.cell?_spot c0;simpa[Addr.add]using this
   have ha:io a=io (⟨a.block,a.off,jp⟩:Addr):=by
    obtain⟨_,_,_,hs⟩:=b 0 (by omega) 0 B;cases a;simp_all
   rw[ha];have b0:((Rh (len+1)).map f).length=len+1:=by simp
   have Z: ∀k,k<len+1->((Rh (len+1)).map f).getD k co=f k:=fun k G=>by
    simp[Qx,Tt G]
   unfold de;rw[b0];refine .c5 _ _ _ _ _ _ h1 h2 (fun k _=>hl _) (fun k j G A=>?_) (fun k j p G hp=>?_)
   .obtain⟨v,hv,_⟩:=b k G j A;rw[Ah hv];rfl
   .rw[Z k G]at hp;have A:j<sz:=by rw[<-hl (f k)];exact(Qw.1 hp).1
    obtain⟨v,hv,e0,_⟩:=b k G j A;rw[Ah hv];exact e0 p hp
 .have F:i<len:=by simpa using(Qw.1 hx).1
  obtain⟨_,y,hy,hq⟩:=hf i F;rw[QC,hy]at a0;rw[QC,Tt F]at hx;simp at a0 hx;subst a0;subst hx;exact hq
theorem nY{n:Nat}{b:Array Field}{cs:List Value}{xs:List (DataW H×List MemPlace)}(hf: ∀(i:Nat) (f:Field),b[i]? =io f->DataW.trod enc P W 0 sp held n f.type ((cs.drop f.offset).take (P.cellsOf f.type))=xs[i]?)
  (i:Nat) {f:Field} (h1:b[i]? =io f) {t o sz:Nat} (d:f.type=t) (j:f.offset=o) (u:P.cellsOf t=sz) {x:DataW H×List MemPlace} (y:xs[i]? =io x):DataW.trod enc P W 0 sp held n t ((cs.drop o).take sz)=io x:=by
 subst d;subst j;subst u;rw[hf i f h1,y]
end
section
variable {H:Type} {enc:TypeId×Value->H} {P:Program} {W W':World} {T:TypeId->Prop}
theorem Dq{W W':World}(d: ∀b,b<W.heap.size->W'.heap[b]? =W.heap[b]?){p:MemPlace}(hp:p.block<W.heap.size):W.sameAt W' p:=by
 cases p with
 |cell b o=>exact World.cell?_of_block (a:=⟨b,o,jp⟩) (d b hp)
 |map b=>exact d b hp
theorem ou(K:Kids P T)(B: ∀{t e},T t->P.underlying t=io (.slice e)->0<P.cellsOf e)(A: ∀b,b<W.heap.size->W'.heap[b]? =W.heap[b]?){sp:Nat->Bool}:
  ∀{ts:List TypeId} {vs:List Value} {y:List (DataW H)} {u:List MemPlace},(∀t∈ts,T t)->DataW.TrodAll enc P W 0 (fun _=>kw) kw ts vs y u->(∀p∈u,p.block<W.heap.size)->(∀p∈u,sp p.block=kw)->
   DataW.TrodAll enc P W' 0 sp kw ts vs y u
 | [],vs,y,u,_,h,_,_=>by
  obtain⟨rfl,rfl,rfl⟩:=trodAll_nil h;exact trodAll_mk0
 |t::ts,vs,y,u,hT,h,hlt,hsp=>by
  obtain⟨v,S,d,F,p,q,rfl,rfl,rfl,⟨n,G⟩,I⟩:=trodAll_cons h;refine⟨p,q,⟨n,DataW.trod_stays K B (fun h=>by cases h) (hT t (by simp)) G (fun x j=>Dq A (hlt x (Q8 _ j))) (fun x j=>hsp x (Q8 _ j))⟩,?_,rfl⟩;exact ou K B A (fun t J=>hT t (QR _ J)) I (fun x j=>hlt x (RA _ j)) (fun x j=>hsp x (RA _ j))
theorem Jl{W W':World}(j:W'.os=W.os)(d:W'.output=W.output)(u: ∀b,b<W.heap.size->W'.heap[b]? =W.heap[b]?)(may:MemPlace->Prop):W.keptBut W' may:=by
 refine World.keptBut_mono (fun p x=>(x:False).elim) (World.keptBut_none_iff.2 ⟨j,d,u⟩)
theorem xm{f:Func}{s:ChangeSpec}{x I y again:Bool}{args:Array Value}{v:Value}{B gs:List (DataW H)}{d:List MemPlace}
  (K:Kids P T) (hz: ∀{t e},T t->P.underlying t=io (.slice e)->0<P.cellsOf e) (d0: ∀t∈f.params.toList,T t) (A:s.vars=[])
  (hW:DataW.Whole enc P f.params.toList s.vars x W args.toList B gs d) (i0:W'.os=W.os) (Z:W'.output=W.output) (hk: ∀b,b<W.heap.size->W'.heap[b]? =W.heap[b]?)
  (G: ∀(b:Nat) (sp:Nat->Bool) (hd:Bool),DataW.TrodAll enc P W' b sp hd f.resultTypes.toList (v.resultList f.resultTypes.size) (s.fn H (B++gs)).results [])
  (J:(s.fn H (B++gs)).args=B) (k0:(s.fn H (B++gs)).vars=[])
  (g0: ∀(j:Nat) (t:TypeId) (r:Value),f.resultTypes[j]? =io t->(v.resultList f.resultTypes.size)[j]? =io r->Value.okWide P W' .any 0 t r):
  s.post enc P f x I y again W args v W':=by
 have S: ∀p∈d,p.block<W.heap.size:=fun p Y=>by simpa using hW.lt p Y
 have F: ∀p∈d,(fun b=>li (b<W.heap.size)) p.block=kw:=fun p Y=>by simpa using hW.lt p Y
 obtain⟨pa,pv,hA,hV,rfl,e0,f0⟩:=id hW;rw[A]at hV;obtain⟨rfl,rfl⟩:gs=[]∧pv=[]:=by
  cases gs with
  |nil=>exact⟨rfl,hV⟩
  |cons _ _=>exact hV.elim
 rw[Ro]at S F;have u: ∀sp:Nat->Bool,(∀p∈pa,sp p.block=kw)->DataW.TrodAll enc P W' 0 sp kw f.params.toList args.toList (s.fn H (B++ [])).args pa:=fun sp j0=>by
  rw[J];exact ou K hz hk d0 hA S j0
 have b0: ∀sp:Nat->Bool,DataW.TrodVars enc P W' sp s.vars (s.fn H (B++ [])).vars []:=fun sp=>by
  rw[k0,A];rfl
 refine⟨B,[],pa++ [],[],pa,[],hW,G _ _ _,u _ F,b0 _,?_,fun _=>⟨g0,_,_,([]++pa)++ [],⟨[]++pa,[],trodAll_append (u _ (fun _ _=>rfl)) (G _ _ _),b0 _,rfl,?_,?_⟩,?_⟩⟩
 .exact Jl i0 Z hk _
 .intro b c0 Y;have a0:MemPlace.cell b c0∈pa:=by simpa using Y
  have hb:=S _ a0;have:=e0 b c0 (by simpa using a0);rw[<-this];simp only[World.frozen?];rw[hk b hb]
 .intro ha;have:=f0 ha;simpa using this
 .intro p Y _;simpa using Y
end
section
variable {P:Program} {ty:Ty} {nt:Nat} {s:AS} {Q:AQ} {k:List KI}
def uF(c:UInt8):List IV:=[.v (.int .u8 (c.toNat:Int))]
theorem qL(w:World)(t u G e:TypeId)(i:TypeInfo)(J:P.underlying t=io (.slice e))(hu:P.underlying u=io .string)(hi:P.info? e=io i)(F:i.size=1)(T:TypeId)
  (g d x:Nat) (j:Array Value) (hg:w.heap[g]? =io (.cells j T (0,0))) (b:ByteArray)
  (y:d+b.size<=x) (A:d+b.size<=j.size):
  (Builtin.append_ #[t,u] G #[.slice (io ⟨g,0,jp⟩) d x,.string b]).run P w=
   .ok (.slice (io ⟨g,0,jp⟩) (d+b.size) x) (w.setRow g (j.toList.take d++Lib.strCells b++j.toList.drop (d+b.size)).toArray):=by
 have I:=Lib.run_firstCells_string (P:=P) w 1 b;have B:=run_storeCells_at P g d T (Lib.strCells b) 0 j w hg (by simpa[Lib.strCells_length]using A) (Lib.strCells_oneCell b);simp only[S2,Lib.strCells_length]at B;simp[Builtin.append_,run_underlying J,run_underlying hu,sizeOf,typeInfo,hi,F,Builtin.lenOf,y,I,Addr.add_lit,B]
theorem kW(w:World)(t u B e:TypeId)(i:TypeInfo)(F:P.underlying t=io (.slice e))(hu:P.underlying u=io .string)(hi:P.info? e=io i)(y:Option Addr)(j d:Nat)(x:j<=d)(b:ByteArray)(hb:b.size=0)(hs:y=jp∨ ∃b o,y=io ⟨b,o,jp⟩):
  (Builtin.append_ #[t,u] B #[.slice y j d,.string b]).run P w= .ok (.slice y j d) w:=by
 have A:=Lib.run_firstCells_string (P:=P) w i.size b;have G:Lib.strCells b=[]:=Rx (by rw[Lib.strCells_length];exact hb);rw[hb,G]at A;rcases hs with rfl|⟨g,o,rfl⟩
 .simp[Builtin.append_,run_underlying F,run_underlying hu,sizeOf,typeInfo,hi,Builtin.lenOf,hb,x,A]
 .simp[Builtin.append_,run_underlying F,run_underlying hu,sizeOf,typeInfo,hi,Builtin.lenOf,hb,x,A,storeCells]
def sk(s:AS)(i:Nat)(l:List UInt8)(u:TypeId):AS:=⟨s.f,(s.nx,io (.bu l u))::(i,jp)::s.h,s.nx+1⟩
theorem pP{i:Nat}{l:List UInt8}{u:TypeId}{M b:Mem}{N d:Nm}{a:Act}{w j:World}(hf:Fits M N s nt a w)(x:Ext M N (· <s.nx) s.h w b d (· <s.nx+1) ((s.nx,io (.bu l u))::(i,jp)::s.h) j)
  (hr:Rel b d (· <s.nx+1) ((s.nx,io (.bu l u))::(i,jp)::s.h) j):
  Ext M N (· <s.nx) s.h w b d (· <(sk s i l u).nx) (sk s i l u).h j∧Fits b d (sk s i l u) nt a j:=
 ⟨x,hr,hf.2.1.ext x,hf.2.2⟩
theorem Rel.J7{M:Mem}{N:Nm}{w:World}{n:Nat}{h:AH}(hr:Rel M N (· <n) h w)(T:TypeId):Ext M N (· <n) h w M N (· <n+1) ((n,io (.bu [] T))::h) w∧Rel M N (· <n+1) ((n,io (.bu [] T))::h) w:=by
 have d: ∀i p,AH.get ((n,io (.bu [] T))::h) i=io p->(i=n∧p= .bu [] T)∨(i<n∧h.get i=io p):=by
  intro i p u;rw[AH.ay]at u;split at u
  .rename_i F;exact .inl ⟨F,by simpa using u.symm⟩
  .exact .inr ⟨hr.used i p u,u⟩
 refine⟨⟨rfl,rfl,rfl,QH _,fun _ _ _=>rfl,.refl _,fun b c A y=>by simp[A]at y,.refl _ _,fun i u=>by omega,fun i p u x=>?_⟩,⟨hr.dT,fun i p u=>?_,fun i p u x=>?_,fun i p u=>?_,fun i j p q u S G I B=>?_⟩⟩
 .rcases d i p u with⟨rfl,rfl⟩|⟨A,y⟩
  .cases x
  .exact .inr ⟨i,p,y,x,rfl⟩
 .rcases d i p u with⟨rfl,rfl⟩|⟨A,y⟩<;>omega
 .rcases d i p u with⟨rfl,rfl⟩|⟨A,y⟩
  .cases x
  .exact hr.dW i p y x
 .rcases d i p u with⟨rfl,rfl⟩|⟨A,y⟩
  .exact .inl D
  .exact(hr.obj i p y).mono (.refl _) (.refl _ _) (fun i u=>by omega) A D
 .rcases d i p u with⟨rfl,rfl⟩|⟨A,y⟩<;>rcases d j q S with⟨rfl,rfl⟩|⟨Y,J⟩
  .rfl
  .cases G
  .cases I
  .exact hr.inj i j p q y J G I B
theorem IC(w0:bT P ty){o:Oper}{x y:Operand}{t tu u:TypeId}(ho:o.op= .call ⟨.builtin .append, #[x,y], #[t,tu]⟩){e et eu:b7}(ht:ty t=io e)(hk:e.k= .aT (.slice u))(t1:ty tu=io et)(n1:et.k= .aT .string)(hu:ty u=io eu)
  {i len:Nat} {l:List UInt8} {b:ByteArray} (hx:ev s.f x= .sl i 0 len 1) (hi:s.h.get i=io (.bu l u)) (B:l.length=len) (s1:eu.size=1) (l1:eu.bytes=1) (hz:eu.zero= .int .u8 0)
  (p1:ev s.f y= .iv (.v (.string b))) (z1:len+b.size<=140737488355328)
  {s':AS} (hp:putDst nt o (.sl s.nx 0 (len+b.size) 1) (sk s i (l++b.data.toList) u)=io s'):OT P nt o s (fun t=>t=s'):=by
 refine OT.value hp fun M N a w J=>?_;obtain⟨⟨ii,f0,q0,p0,r0⟩,_⟩:=w0 u _ hu;rw[s1]at q0;rw[l1]at p0;rw[hz]at r0
 have j0:P.underlying t=io (.slice u):=by
  have:=(w0 t _ ht).2.1;rw[hk]at this;exact this.1
 have i0:P.underlying tu=io .string:=by
  have:=(w0 tu _ t1).2.1;rw[n1]at this;exact this.1
 have x0:=aO J.2.1 x;rw[hx]at x0;have a1:=aO J.2.1 y;rw[p1]at a1;have w1:a.eval y= .string b:=by
  generalize a.eval y=v at a1;cases a1 with
  |iv _ _ h=>cases h;rfl
 have d: ∀v w',(Builtin.append_ #[t,tu] o.type #[a.eval x,a.eval y]).run P w= .ok v w'->(execOp a.eval o).run P w= .ok (.value v) w':=by
  intro v w' h;simp only[execOp,ho,resolve];simp[invoke,builtin,h]
 rw[w1]at d;have a2:i<s.nx:=J.1.used i _ hi;have k0:s.nx≠i:=by omega
 have o1:=J.1.obj i _ hi;have Z:b.data.toList.length=b.size:=by simp
 have e0: ∀(j:Nat) (x:UInt8),b.data.toList[j]? =io x->(Lib.strCells b).getD j undef= .int .u8 (x.toNat:Int):=by
  intro j x hx;simp only[Lib.strCells,Qx,QC,hx,RZ,R2]
 have b0: ∀z:Array Value,(∀(j:Nat) (x:UInt8),l[j]? =io x->z.getD j undef= .int .u8 (x.toNat:Int))->(∀j,j<b.size->z.getD (len+j) undef=(Lib.strCells b).getD j undef)->
   ∀(j:Nat) (x:UInt8),(l++b.data.toList)[j]? =io x->z.getD j undef= .int .u8 (x.toNat:Int):=by
  intro z h1 h2 j x F;rcases RN j l.length with hk|hk
  .rw[QQ hk]at F;exact h1 j x F
  .rw[QX hk]at F;have s0:j-l.length<b.size:=by rw[<-Z];exact(Qw.1 F).1
   have:=h2 _ s0;rw[e0 _ _ F,show len+(j-l.length)=j by omega]at this;exact this
 have Y: ∀(G:List Value) (a0:Nat),G.length=len->(∀(j:Nat) (x:UInt8),l[j]? =io x->G.getD j undef= .int .u8 (x.toNat:Int))->len+b.size<=a0->a0<=maxLen->0<len+b.size->
   ∀z:Array Value,z=G.toArray++(Lib.strCells b).toArray++Builtin.zeroCells (Value.int .u8 0).cells (a0-(len+b.size))->
   ∃M' S,Ext M N (· <s.nx) s.h w M' S (· <(sk s i (l++b.data.toList) u).nx) (sk s i (l++b.data.toList) u).h (w.drew.alloc (.cells z u))∧Fits M' S (sk s i (l++b.data.toList) u) nt a (w.drew.alloc (.cells z u))∧
    VR M' S (· <(sk s i (l++b.data.toList) u).nx) (.sl s.nx 0 (len+b.size) 1) (.slice (io ⟨w.heap.size,0,jp⟩) (len+b.size) a0):=by
  intro G a0 f1 u1 n0 m1 t0 z b1;have x1:(Value.int IntKind.u8 0).cells.size=1:=rfl;have I:z.size=a0:=by
   rw[b1,SR,SR,size_zeroCells,x1];simp only[List.size_toArray,f1,Lib.strCells_length];omega
  obtain⟨S,h1,h2,h3,h4,h5⟩:=J.1.drew.alloc (.cells z u) (.bu (l++b.data.toList) u) z.size (fun S g1 g2 g3=>by
   refine .inr ⟨z,by rw[g1];exact heap_alloc_new _ _,g2.symm,by rw[I,Qv,B,Z];omega,b0 z (fun j x F=>?_) (fun j F=>?_)⟩
   .have b2:=(Qw.1 F).1;have e1:z.getD j undef=G.getD j undef:=by
     rw[b1,Qt,Array.append_assoc,RB (by simp;omega),Qx];simp
    rw[e1];exact u1 j x F
   .rw[b1,Qt,RB (by simp[Lib.strCells_length];omega),Array.getElem?_append_right (by simp;omega),Qx]
    simp[f1])
  have r1:=(h5.del i).swap (Ne.symm k0);have v1:=(((Ext.drew (M:=M) (N:=N) (U:=(· <s.nx)) (h:=s.h) (w:=w)).trans h4).del i).swap (Ne.symm k0);obtain⟨g1,g2⟩:=pP J v1 r1;refine⟨M,S,g1,g2,?_⟩;have:=VR.sl (M:=M) (N:=S) (U:=(· <s.nx+1)) s.nx 0 (len+b.size) 1 a0 (by omega) t0 n0 m1 (by rw[h2,I];simp);rw[h1,Sy]at this;exact this
 generalize a.eval x=vx at x0 d;cases x0 with
 |mE _ _ hU=>
  have he:l=[]:=Rx B;subst he;by_cases hm:b.size=0
  .have m0:b.data.toList=[]:=Rx (by rw[Z];exact hm);have A:=kW (P:=P) w t tu o.type u ii j0 i0 f0 jp 0 0 (QH _) b hm (.inl D);obtain⟨h1,h2⟩:=J.1.J7 u;obtain⟨g1,g2⟩:=pP (i:=i) (l:=[]) (u:=u) J ((h1.del i).swap (Ne.symm k0)) ((h2.del i).swap (Ne.symm k0));rw[m0,hm];exact⟨_,w,M,N,d _ _ A,g1,g2,.mE _ _ (by simp only[sk];omega)⟩
  .have A:=run_append_nil_string (P:=P) w t tu o.type u ii (.int .u8 0) j0 i0 f0 r0 b (by omega) (by omega) (by rw[p0];omega);have e1:(b.data.map fun b=>Value.int .u8 b.toNat)=(Lib.strCells b).toArray:=by
    apply Array.ext';simp[Lib.strCells]
   rw[e1]at A;obtain⟨M',S,g1,g2,g3⟩:=Y [] (grownCap w b.size 0 u) D (by simp) (by simpa using grownCap_ge w b.size 0 u) (grownCap_le_maxLen w _ _ _ (by simp only[maxLen];omega)) (by omega) _ D;simp only[Q9,Sa,Array.empty_append] at*
   exact⟨_,_,M',S,d _ _ A,by simpa using g1,by simpa using g2,by simpa using g3⟩
 |sl _ _ _ _ a0 hU h0 hl hc hext=>
  rcases o1 with rfl|⟨cur,q1,q2,q3,q4⟩
  .simp at B;omega
  have c0:(AO.bu l u).real=kw:=by cases l with
   |nil=>simp at B;omega
   |cons=>rfl
  rw[Sy]at d;have o0:cur.size=a0:=by rw[q2,<-hext];omega
  by_cases hm:b.size=0
  .have m0:b.data.toList=[]:=Rx (by rw[Z];exact hm);have A:=kW (P:=P) w t tu o.type u ii j0 i0 f0 (io ⟨N.aB i,0,jp⟩) len a0 hl b hm (.inr ⟨_,_,rfl⟩)
   obtain⟨h1,h2⟩:=J.1.move hi c0 w (.bu (l++ []) u) D D D D (fun _ _=>rfl) (by
    rw[Ro]
    exact .inr ⟨cur,by simpa using q1,by simpa using q2,q3,q4⟩)
   obtain⟨g1,g2⟩:=pP (i:=i) J h1 h2;rw[m0,hm];refine⟨_,w,M,_,d _ _ A,g1,g2,?_⟩;have:=VR.sl (M:=M) (N:=N.with s.nx (N.aB i) (N.ext i)) (U:=(· <s.nx+1)) s.nx 0 len 1 a0 (by omega) h0 hl hc (by simpa using hext);simpa[sk]using this
  .by_cases d0:len+b.size<=a0
   .have A:=qL (P:=P) w t tu o.type u ii j0 i0 f0 q0 u (N.aB i) len a0 cur q1 b d0 (by omega);generalize hL:(cur.toList.take len++Lib.strCells b++cur.toList.drop (len+b.size)).toArray=L at A;have d1:L.size=cur.size:=by rw[<-hL];simp[Lib.strCells_length];omega
    have v0:=setRow_heap w (N.aB i) cur L u (0,0) q1;have k1: ∀j,j<len->L.getD j undef=cur.getD j undef:=by
     intro j F;rw[<-hL,Qt,Qt];simp only[RU];rw[QU,QQ (by simp;omega),Rt,am F,RI]
    have i1: ∀j,j<b.size->L.getD (len+j) undef=(Lib.strCells b).getD j undef:=by
     intro j F;rw[<-hL,Qt,Qx];simp only[RU];rw[QQ (by simp[Lib.strCells_length];omega),QX (by simp;omega)];congr 2;simp;omega
    obtain⟨h1,h2⟩:=J.1.move hi c0 (w.setRow (N.aB i) L) (.bu (l++b.data.toList) u) D D D (by simp) (fun b hb=>by
      simp only[World.setRow,Ru]
      rw[be (fun e=>hb e.symm)]) (by
     refine .inr ⟨L,by simpa using v0,by rw[d1];simpa using q2,by rw[d1,o0,Qv,B,Z];omega,b0 L (fun j x F=>?_) i1⟩;rw[k1 j (by rw[<-B];exact(Qw.1 F).1)]
     exact q4 j x F)
    obtain⟨g1,g2⟩:=pP (i:=i) J h1 h2;refine⟨_,_,M,_,d _ _ A,g1,g2,?_⟩;have:=VR.sl (M:=M) (N:=N.with s.nx (N.aB i) (N.ext i)) (U:=(· <s.nx+1)) s.nx 0 (len+b.size) 1 a0 (by omega) (by omega) d0 hc (by simpa using hext);simpa[sk]using this
   .have g0: ∀(j:Nat) (v:Value),(cur.toList.take len)[j]? =io v->w.cell? ((⟨N.aB i,0,jp⟩:Addr).add j)=io v:=by
     intro j v hv;rw[Rt]at hv;split at hv
     .rw[fv,Q9];simp only[World.cell?,q1];simpa using hv
     .cases hv
    have A:=Lib.run_append_grow_string (P:=P) w t tu o.type u ii (.int .u8 0) j0 i0 f0 r0 ⟨N.aB i,0,jp⟩ len a0 (cur.toList.take len) (by rw[q0];simp;omega) g0 b (by omega) (by omega)
     (by rw[p0];exact growslice_fits (by omega) (by omega))
    obtain⟨M',S,g1,g2,g3⟩:=Y (cur.toList.take len) (grownCap w (len+b.size) a0 u) (by simp;omega) (fun j x F=>by
      have:=q4 j x F;have s0:j<len:=by rw[<-B];exact(Qw.1 F).1
      rw[Qx,Rt,am s0,RI]
      rw[Qt]at this;exact this) (grownCap_ge w _ _ _) (grownCap_le_maxLen w _ _ _ (by simp only[maxLen];omega)) (by omega) _ D
    exact⟨_,_,M',S,d _ _ A,g1,g2,g3⟩
theorem Jm(Z:bT P ty){all rest:List Oper}{o:Oper}{x y:Operand}{t tu u d:Nat}{e et A:b7}{i len:Nat}{l:List UInt8}{b:ByteArray}(ho:o.op= .call ⟨.builtin .append, #[x,y], #[t,tu]⟩)(hg:o.guard=jp)(S:ty t=io e)(hk:e.k= .aT (.slice u))(Y:ty tu=io et)(G:et.k= .aT .string)(hu:ty u=io A)
  (hx:ev s.f x= .sl i 0 len 1) (hi:s.h.get i=io (.bu l u)) (J:A.size=1) (F:A.bytes=1) (hz:A.zero= .int .u8 0)
  (I:ev s.f y= .iv (.v (.string b))) (hd:o.dst=io d) (hlt:QZ d nt=kw) (j:l.length=len) (B:len+b.size<=140737488355328)
  (h:GO P nt (.ops all rest::k) Q ⟨(d,.sl s.nx 0 (l++b.data.toList).length 1)::s.f,(s.nx,io (.bu (l++b.data.toList) u))::(i,jp)::s.h,s.nx+1⟩):GO P nt (.ops all (o::rest)::k) Q s:=by
 have e:(l++b.data.toList).length=len+b.size:=by rw[Qv,j];simp
 rw[e]at h
 exact dp hg (IC Z ho S hk Y G hu hx hi j J F hz I B (s':=⟨(d,.sl s.nx 0 (len+b.size) 1)::s.f,(s.nx,io (.bu (l++b.data.toList) u))::(i,jp)::s.h,s.nx+1⟩) (by
  simp only[putDst,sk,hd,hlt,cond_true,dy])) fun t S=>by subst S;exact h
theorem EN{o:Oper}{J:Operand}(ho:o.op= .next J kw){i:Nat}(S:ev s.f J= .ptr i 0){b:ByteArray}{a0:Nat}(hi:s.h.get i=io (.dJ b a0)){d:Nat}(hd:o.dst=io d)(hlt:QZ d nt=kw):
  OT P nt o s (fun t=>(b.size<=a0∧t=⟨(d,.bB [.kb lc])::s.f,s.h,s.nx⟩)∨
   (a0<b.size∧t=⟨(d,.bB [.kb kw,.iv (.v (.int .i64 (a0:Nat))),.iv (.v (.int .i32 (Utf8.decode b a0).1))])::s.f,(i,io (.dJ b (a0+(Utf8.decode b a0).2)))::s.h,s.nx⟩)):=by
 intro M N a w I K Z hk;have Y:=aO I.2.1 J;rw[S]at Y;have A:w.heap[N.aB i]? =io (.stringIter b a0):=I.1.obj i _ hi;have B:N.aB i<w.heap.size:=(RO.1 A).1;have F:d<nt:=Qs hlt;have G:a.eval J= .pointer (io ⟨N.aB i,0,jp⟩):=by
  generalize a.eval J=y at Y;cases Y;rfl
 unfold Oper.wp;by_cases u:a0<b.size
 .have x:(execOp a.eval o).run P w= .ok (.value (.tuple #[.bool kw,.int .i64 (a0:Nat),.int .i32 (Utf8.decode b a0).1])) {w with heap:=w.heap.setIfInBounds (N.aB i) (.stringIter b (a0+(Utf8.decode b a0).2))}:=by
   simp only[execOp,ho,G];simp[Instr.next,getObj,setObj,Sem.run,A,u,Result.andThen,goInt]
  rw[x];simp only[Oper.upon]
  obtain⟨q1,q2⟩:=I.1.write hi D {w with heap:=w.heap.setIfInBounds (N.aB i) (.stringIter b (a0+(Utf8.decode b a0).2))} (.dJ b (a0+(Utf8.decode b a0).2)) D D D (by simp) (fun c hc=>by
   show(w.heap.setIfInBounds _ _)[c]? =_
   rw[Rj,be (fun e=>hc e.symm)]) (by
   show(w.heap.setIfInBounds _ _)[_]? =_
   rw[Rj,am D,am B])
  refine hk M N _ _ _ q1 ?_ (.inr ⟨u,rfl⟩);rw[hd];refine Fits.put (s:=⟨s.f,(i,io (.dJ b (a0+(Utf8.decode b a0).2)))::s.h,s.nx⟩) ⟨q2,I.2⟩ d _ _ F (.bB _ _ D fun q p u=>?_)
  match q with
  |0=>simp at u;subst u;exact .kb _
  |1=>simp at u;subst u;exact .iv _ _ (.v _)
  |2=>simp at u;subst u;exact .iv _ _ (.v _)
  |q+3=>simp at u
 .have x:(execOp a.eval o).run P w= .ok (.value (.tuple #[.bool lc])) w:=by
   simp only[execOp,ho,G];simp[Instr.next,getObj,Sem.run,A,u,Result.andThen]
  rw[x];simp only[Oper.upon];refine hk M N ⟨(d,.bB [.kb lc])::s.f,s.h,s.nx⟩ _ w (.refl _ _ _ _ _) ?_ (.inl ⟨by omega,rfl⟩);rw[hd]
  exact I.put d _ _ F (.bB _ _ D fun j p u=>by
    match j with
    |0=>simp at u;subst u;exact .kb _
    |j+1=>simp at u)
theorem lk{all rest:List Oper}{o:Oper}{u:Operand}{i:Nat}{b:ByteArray}{a0 d:Nat}(ho:o.op= .next u kw)(hg:o.guard=jp)(j:ev s.f u= .ptr i 0)(hi:s.h.get i=io (.dJ b a0))(hd:o.dst=io d)(hlt:QZ d nt=kw)
  (h1:b.size<=a0->GO P nt (.ops all rest::k) Q ⟨(d,.bB [.kb lc])::s.f,s.h,s.nx⟩)
  (x:a0<b.size->GO P nt (.ops all rest::k) Q ⟨(d,.bB [.kb kw,.iv (.v (.int .i64 (a0:Nat))),.iv (.v (.int .i32 (Utf8.decode b a0).1))])::s.f,(i,io (.dJ b (a0+(Utf8.decode b a0).2)))::s.h,s.nx⟩):
  GO P nt (.ops all (o::rest)::k) Q s:=by
 refine dp hg (EN ho j hi hd hlt) fun t y=>?_;rcases y with⟨g1,rfl⟩|⟨g1,rfl⟩
 .exact h1 g1
 .exact x g1
theorem wa(B:bT P ty){all rest:List Oper}{o:Oper}{x:Operand}{t d:Nat}{b:ByteArray}{e:b7}(ho:o.op= .range t x)(hg:o.guard=jp)(A:ty t=io e)(Y:e.k= .aT .string)(Z:ev s.f x= .iv (.v (.string b)))(hd:o.dst=io d)(hlt:QZ d nt=kw)
  (h:GO P nt (.ops all rest::k) Q ⟨(d,.ptr s.nx 0)::s.f,(s.nx,io (.dJ b 0))::s.h,s.nx+1⟩):GO P nt (.ops all (o::rest)::k) Q s:=by
 have F:P.underlying t=io .string:=by
  have:=(B t _ A).2.1;rw[Y]at this;exact this.1
 refine dp (R:=fun t=>t=⟨(d,.ptr s.nx 0)::s.f,(s.nx,io (.dJ b 0))::s.h,s.nx+1⟩) hg (OT.value (s1:=newObj s (.dJ b 0)) (p:= .ptr s.nx 0) (by cases s;simp only[putDst,newObj,hd,hlt,cond_true,dy]) fun M N a w y=>?_) fun t A=>by subst A;exact h
 have j:=aO y.2.1 x;rw[Z]at j;have G:a.eval x= .string b:=by
  generalize a.eval x=v at j;cases j with
  |iv _ _ h=>cases h;rfl
 obtain⟨u,J,h2,h3,I,S⟩:=y.1.alloc (.stringIter b 0) (.dJ b 0) 0 (fun u g1 g2 g3=>by
  show(w.alloc _).heap[u.aB s.nx]? =_
  rw[g1];exact heap_alloc_new w _)
 refine⟨.pointer (io ⟨w.heap.size,0,jp⟩),_,M,u,?_,I,dG y I S,?_⟩
 .simp only[execOp,ho,G];simp[Instr.range,run_underlying F]
 .have:=VR.ptr (M:=M) (N:=u) (U:=(· <s.nx+1)) s.nx 0 (by omega);rw[J]at this;exact this
end
section
variable {P:Program} {ty:Ty} {nt:Nat} {s:AS} {Q:AQ} {k:List KI}
theorem DX(a0:bT P ty){all rest:List Oper}{o:Oper}{x:Operand}{t t' u d:Nat}{b:ByteArray}{et c0 eu:b7}(ho:o.op= .convert t t' x)(hg:o.guard=jp)(ht:ty t=io et)(hk:et.k= .aT .string)(k0:ty t'=io c0)(g0:c0.k= .aT (.slice u))(hu:ty u=io eu)(i0:eu.k= .aT (.int .u8))
  (hx:ev s.f x= .iv (.v (.string b))) (hd:o.dst=io d) (hlt:QZ d nt=kw) (hb:b.size<=1000000)
  (h:GO P nt (.ops all rest::k) Q ⟨(d,.iv (.c5 1 b.data.toList.length fun k=>uF (b.data.toList.getD k co)))::s.f,s.h,s.nx⟩):GO P nt (.ops all (o::rest)::k) Q s:=by
 have hs:P.underlying t=io .string:=by have:=(a0 t _ ht).2.1;rw[hk]at this;exact this.1
 have j0:P.underlying t'=io (.slice u):=by have:=(a0 t' _ k0).2.1;rw[g0]at this;exact this.1
 have m0:P.underlying u=io (.int .u8):=by have:=(a0 u _ hu).2.1;rw[i0]at this;exact this.1
 refine dp (R:=fun t=>t=⟨(d,.iv (.c5 1 b.data.toList.length fun k=>uF (b.data.toList.getD k co)))::s.f,s.h,s.nx⟩) hg (OT.value (s1:=s) (p:= .iv (.c5 1 b.data.toList.length fun k=>uF (b.data.toList.getD k co))) (by cases s;simp only[putDst,hd,hlt,cond_true,dy]) fun M N a w F=>?_) fun t ht=>by subst ht;exact h
 have b0:=aO F.2.1 x;rw[hx]at b0;have n0:a.eval x= .string b:=by
  generalize a.eval x=v at b0;cases b0 with
  |iv _ _ h=>cases h;rfl
 have S:=Go.run_bytes_of_string (P:=P) w t t' u b hs j0 m0;generalize hC:bytesRow b (grownCap w b.size 0 u)=C at S;have B:M w.heap.size=jp:=by
  cases hm:M w.heap.size with
  |none=>rfl
  |some c=>exact absurd (F.1.dT _ _ hm).lt (TE _)
 have G: ∀c,c<w.heap.size->(w.drew.alloc (.cells C u (C.size,C.size+1))).heap[c]? =w.heap[c]? :=fun c A=>by
  show(w.heap.push _)[c]? =_;rw[SV,be (by omega)]
 have hnew:(w.drew.alloc (.cells C u (C.size,C.size+1))).heap[w.heap.size]? =io (.cells C u (C.size,C.size+1)):=by
  show(w.heap.push _)[w.heap.size]? =_;simp
 have d0: ∀j,j<b.data.toList.length->C[j]? =io (.int .u8 ((b.data.toList.getD j co).toNat:Int)):=by
  intro j hj;have Y:j<b.data.size:=by simpa using hj
  rw[<-hC];simp only[bytesRow];rw[RB (by simpa using Y)];simp[Qx];exact⟨b.data[j],Rs Y,by rw[Rs Y];rfl⟩
 have I:=grownCap_ge w b.size 0 u;refine⟨.slice (io ⟨w.heap.size,0,jp⟩) b.size (grownCap w b.size 0 u),w.drew.alloc (.cells C u (C.size,C.size+1)),M.set w.heap.size (.cells C) B,N,?_,?_,?_,?_⟩
 .simp only[execOp,ho,n0];rw[Sem.run_bind,S];rfl
 .have q1:M.le (M.set w.heap.size (.cells C) B):=fun c e A=>by
   simp only[Mem.set];rw[be fun e2=>by rw[e2,B]at A;cases A];exact A
  have q2: ∀c e,M c=jp->(M.set w.heap.size (.cells C) B) c=io e->w.heap.size<=c∨ ∃i o,s.h.get i=io o∧o.real=kw∧N.aB i=c:=fun c e h1 h2=>by
   simp only[Mem.set]at h2;by_cases he:c=w.heap.size
   .exact .inl (by omega)
   .rw[be he,h1]at h2;cases h2
  exact⟨rfl,rfl,rfl,(by show w.heap.size<=(w.heap.push _).size;simp),fun c A _=>G c A,q1,q2,.refl _ _,fun _ h=>h,fun i o J y=> .inr ⟨i,o,J,y,rfl⟩⟩
 .have e0:M.le (M.set w.heap.size (.cells C) B):=fun c e A=>by
   simp only[Mem.set];rw[be fun e2=>by rw[e2,B]at A;cases A];exact A
  refine⟨⟨fun c e A=>?_,F.1.used,fun i o J y=>?_,fun i o J=>?_,F.1.inj⟩,fun i=>(F.2.1 i).mono e0 (.refl _ _) fun _ h=>h,F.2.2⟩
  .simp only[Mem.set]at A;by_cases he:c=w.heap.size
   .rw[am he]at A;cases A;exact⟨u,(C.size,C.size+1),by rw[he];exact hnew⟩
   .rw[be he]at A;exact(F.1.dT c e A).mono (G c (F.1.dT c e A).lt)
  .simp only[Mem.set];have:=F.1.lt J y;rw[be (by omega)];exact F.1.dW i o J y
  .cases y:o.real with
   |true=>exact(F.1.obj i o J).mono e0 (.refl _ _) (fun _ h=>h) (F.1.used i o J) (G _ (F.1.lt J y))
   |false=>
    cases o with
    |row sz es=>cases es with
     |nil=>exact .inl D
     |cons=>cases y
    |bu l T=>cases l with
     |nil=>exact .inl D
     |cons=>cases y
    |_=>cases y
 .have f0:b.data.toList.length=b.size:=by simp
  rw[<-f0]at I ⊢;by_cases h0:b.data.toList.length=0
  .rw[h0];exact .iv _ _ (.iA _ _ _ _)
  .refine .iv _ _ (.c5 _ _ _ _ _ _ (by omega) (grownCap_le_maxLen w _ _ _ (by simp only[maxLen];omega)) (fun _ _=>rfl) (fun k j hk hj=>?_) (fun k j p hk hp=>?_))
   .have Z:j=0:=by omega
    subst Z;have:=d0 k hk;simp only[Mem.cell,Mem.set,if_true,Q9,TB,S2,this,Option.isSome_some]
   .have Z:j=0:=by
     have:=(Qw.1 hp).1;simp[uF]at this;exact this
    subst Z;cases hp;have:=d0 k hk;simp only[Mem.cell,Mem.set,if_true,Q9,TB,S2,this,R2];exact .v _
theorem Jr(B:bT P ty)(l:List UInt8){all rest:List Oper}{o:Oper}{x:Operand}{t F u d i n:Nat}{es:List (List PV)}{et I eu:b7}(ho:o.op= .convert t F x)(hg:o.guard=jp)(ht:ty t=io et)(hk:et.k= .aT (.slice u))(f0:ty F=io I)(c0:I.k= .aT .string)(hu:ty u=io eu)(d0:eu.k= .aT (.int .u8))
  (hx:ev s.f x= .sl i 0 n 1) (hi:s.h.get i=io (.row 1 es)) (hd:o.dst=io d) (hlt:QZ d nt=kw) (hes:es=l.map fun x=>(uF x).map .iv) (hn:n=l.length)
  (h:GO P nt (.ops all rest::k) Q ⟨(d,.iv (.v (.string ⟨l.toArray⟩)))::s.f,s.h,s.nx⟩):GO P nt (.ops all (o::rest)::k) Q s:=by
 have hs:P.underlying F=io .string:=by have:=(B F _ f0).2.1;rw[c0]at this;exact this.1
 have Z:P.underlying t=io (.slice u):=by have:=(B t _ ht).2.1;rw[hk]at this;exact this.1
 have a0:P.underlying u=io (.int .u8):=by have:=(B u _ hu).2.1;rw[d0]at this;exact this.1
 subst hn;subst hes;refine dp (R:=fun t=>t=⟨(d,.iv (.v (.string ⟨l.toArray⟩)))::s.f,s.h,s.nx⟩) hg (OT.value (s1:=s) (p:= .iv (.v (.string ⟨l.toArray⟩))) (by cases s;simp only[putDst,hd,hlt,cond_true,dy]) fun M N a w hf=>?_) fun t ht=>by subst ht;exact h
 have b:=aO hf.2.1 x;rw[hx]at b;have Y:(convert t F (a.eval x)).run P w= .ok (.string ⟨l.toArray⟩) w:=by
  generalize a.eval x=v at b;cases hor:l with
  |nil=>
   rw[hor]at b;generalize G:PV.sl i 0 ([]:List UInt8).length 1=q at b;cases b with
   |sl _ _ _ _ _ _ h0=>cases G;simp at h0
   |mE _ _ _=>
    have:=run_convert_bytes_nil (P:=P) w t u Z a0 0 0 F hs;exact this
   |_=>cases G
  |cons x0 r0=>
   rw[<-hor];have S:0<l.length:=by rw[hor];simp
   generalize e0:l.length=n at b S;generalize G:PV.sl i 0 n 1=q at b;cases b with
   |sl _ _ _ _ cap hU h0 hl hc he=>
    cases G;rcases hf.1.obj i _ hi with A|⟨_,c,T,q1,q2,q3,q4,q5⟩
    .rw[hor]at A;cases A
    rw[Sy,<-e0];refine run_convert_bytes_back (P:=P) w t F u ⟨N.aB i,0,jp⟩ cap l Z a0 hs fun j hj=>?_;rw[fv,Q9];have J:j<c.size:=by rw[Rv]at q3;omega
    have:=q5 j [.iv (.v (.int .u8 (l[j].toNat:Int)))] 0 _ (by rw[QC,Qy hj];rfl) D;rw[TB,S2,Qt,Rs J,R2]at this;simp only[World.cell?,q1];generalize b0:c[j]=y at this;cases this with
    |iv _ _ h=>cases h;simp[J,b0]
   |mE _ _ _=>cases G;omega
   |_=>cases G
 exact⟨_,w,M,N,by simp only[execOp,ho];exact bt Y,.refl _ _ _ _ _,hf,.iv _ _ (.v _)⟩
theorem sR(u:bT P ty){all rest:List Oper}{o:Oper}{x:Operand}{t y d:Nat}{q S:IntKind}{n:Int}{I j:b7}(ho:o.op= .convert t y x)(hg:o.guard=jp)(B:ty t=io I)(Z:I.k= .aT (.int q))(F:ty y=io j)(A:j.k= .aT .string)
  (hx:ev s.f x= .iv (.v (.int S n))) (hd:o.dst=io d) (hlt:QZ d nt=kw)
  (h:GO P nt (.ops all rest::k) Q ⟨(d,.iv (.v (.string (Utf8.encode n))))::s.f,s.h,s.nx⟩):GO P nt (.ops all (o::rest)::k) Q s:=by
 have hs:P.underlying y=io .string:=by have:=(u y _ F).2.1;rw[A]at this;exact this.1
 have Y:P.underlying t=io (.int q):=by have:=(u t _ B).2.1;rw[Z]at this;exact this.1
 refine dp (R:=fun t=>t=⟨(d,.iv (.v (.string (Utf8.encode n))))::s.f,s.h,s.nx⟩) hg (OT.value (s1:=s) (p:= .iv (.v (.string (Utf8.encode n)))) (by cases s;simp only[putDst,hd,hlt,cond_true,dy]) fun M N a w J=>?_) fun t B=>by subst B;exact h
 have b:=aO J.2.1 x;rw[hx]at b;have G:a.eval x= .int S n:=by
  generalize a.eval x=v at b;cases b with
  |iv _ _ h=>cases h;rfl
 refine⟨_,w,M,N,?_,.refl _ _ _ _ _,J,.iv _ _ (.v _)⟩;simp only[execOp,ho,G];refine bt ?_;simp[convert,run_underlying Y,run_underlying hs,Conv.intToString]
end
section
variable {P:Program} {ty:Ty} {nt:Nat} {s:AS}
theorem re{M:Mem}{N:Nm}{a:Act}{w:World}(hf:Fits M N s nt a w){x:Operand}{k:IntKind}{n:Int}(h:ev s.f x= .iv (.v (.int k n))):a.eval x= .int k n:=by
 have b:=aO hf.2.1 x;rw[h]at b;generalize a.eval x=v at b;cases b with
 |iv _ _ b=>cases b with
  |v=>rfl
theorem Oy(F:bT P ty){o:Oper}{t u:TypeId}{l c:Operand}(ho:o.op= .makeSlice t l c){e b:b7}(ht:ty t=io e)(hk:e.k= .aT (.slice u))(hu:ty u=io b)
  {n m sz:Nat} {kl kc:IntKind} {ml nc:Int} (hl:ev s.f l= .iv (.v (.int kl ml))) (hc:ev s.f c= .iv (.v (.int kc nc))) (g0:ml=(m:Int)) (i0:nc=(n:Int)) (hn:0<n) (p0:n<=100000000000) (hb:b.bytes*n<=281474976710656) (m0:b.size=sz) (G:b.zero.cells.size=sz) (k0:0<sz)
  {z:List PV} (hz:z=ch b.zero) {p:PV} (B:(m=0∧p= .sl s.nx 1 0 sz)∨(m=n∧p= .sl s.nx 0 n sz))
  {s':AS} (hp:putDst nt o p (newObj s (.row sz (SM n z)))=io s'):OT P nt o s (fun t=>t=s'):=by
 refine OT.value hp fun M N a w S=>?_;subst hz m0 g0 i0;obtain⟨⟨ii,a0,b0,Z,c0⟩,_⟩:=F u _ hu
 have n0:P.underlying t=io (.slice u):=by
  have:=(F t _ ht).2.1;rw[hk]at this;exact this.1
 have o0:m<=n:=by rcases B with⟨h,_⟩|⟨h,_⟩<;>omega
 have A:=run_make w t u ii b.zero n0 a0 c0 kl kc (m:Int) (n:Int) (by omega) (by omega) (by rw[Z];omega) (by omega);rw[QW,QW,b0]at A;have I:(ch b.zero).length=b.size:=by rw[(eE (M:=M) (N:=N) (U:=(· <s.nx)) b.zero).1,G]
 have y: ∀(k:Nat) (e:List PV),(SM n (ch b.zero))[k]? =io e->k<n∧e=ch b.zero:=by
  intro k e d;rw[S0]at d;split at d
  .exact⟨by assumption,by simpa using d.symm⟩
  .cases d
 obtain⟨J,h1,h2,h8,h9,Y⟩:=S.1.alloc (.cells (madeCells b.zero.cells (n*b.size)) u) (.row b.size (SM n (ch b.zero))) (n*b.size) (fun J g1 g2 g3=>
  .inr ⟨k0,_,u,by rw[g1];exact heap_alloc_new w _,by rw[size_madeCells,g2],by rw[size_madeCells,List.length_replicate];exact QH _,fun k e d=>by rw[(y k e d).2,I],fun k e j p d hj=>by
   obtain⟨e0,rfl⟩:=y k e d;have d0:j<b.size:=by rw[<-I];exact(Qw.1 hj).1
   have f0:k*b.size+j<n*b.size:=by
    have:(k+1)*b.size<=n*b.size:=Rb _ e0;rw[RJ]at this;omega
   have h7:(madeCells b.zero.cells (n*b.size)).getD (k*b.size+j) undef=b.zero.cells.getD j undef:=by
    have hx:(Tz (n*b.size))[k*b.size+j]? =io (k*b.size+j):=by simp[f0]
    have hm:(k*b.size+j) % b.zero.cells.size=j:=by rw[G,Nat.add_comm,Nat.add_mul_mod_self_right,Nat.mod_eq_of_lt d0]
    rw[madeCells,Qt,S3,hx];simp only[RZ,R2,hm];rw[Qt,getElem!_pos b.zero.cells j (by omega),Rs (by omega)];rfl
   rw[h7];exact(eE b.zero).2 j p hj⟩)
 refine⟨.slice (io ⟨w.heap.size,0,jp⟩) m n,_,M,J,?_,h9,dG S h9 Y,?_⟩
 .simp only[execOp,ho,re S hl,re S hc];rw[Sem.run_bind,A];rfl
 .have j0:(newObj s (.row b.size (SM n (ch b.zero)))).nx=s.nx+1:=by cases s;rfl
  rw[j0];have x:n<=maxLen:=by simp only[maxLen];omega
  rcases B with⟨rfl,rfl⟩|⟨rfl,rfl⟩
  .have:=VR.sle (M:=M) (N:=J) (U:=(· <s.nx+1)) s.nx b.size n (by omega) x (by rw[h2]);rw[h1]at this;exact this
  .have:=VR.sl (M:=M) (N:=J) (U:=(· <s.nx+1)) s.nx 0 m b.size m (by omega) hn (QH _) x (by rw[h2,Q9]);rw[h1,Sy]at this;exact this
theorem ML(d:bT P ty){o:Oper}{t u:TypeId}{l c:Operand}(ho:o.op= .makeSlice t l c){e x:b7}(ht:ty t=io e)(hk:e.k= .aT (.slice u))(hu:ty u=io x)
  {sz:Nat} (el:Nat->List IV) {Z kc:IntKind} {ml nc:Int} (hl:ev s.f l= .iv (.v (.int Z ml))) (hc:ev s.f c= .iv (.v (.int kc nc))) (F:ml=0) (G:nc=0)
  {s':AS} (hp:putDst nt o (.iv (.c5 sz 0 el)) (newObj s (.row sz []))=io s'):OT P nt o s (fun t=>t=s'):=by
 refine OT.value hp fun M N a w j=>?_;subst F G;obtain⟨⟨Y,A,b0,a0,B⟩,_⟩:=d u _ hu
 have I:P.underlying t=io (.slice u):=by
  have:=(d t _ ht).2.1;rw[hk]at this;exact this.1
 have b:=run_make w t u Y x.zero I A B Z kc 0 0 (by omega) (by omega) (by omega) (by omega);obtain⟨J,h1,h2,h8,S,y⟩:=j.1.alloc (.cells (madeCells x.zero.cells ((0:Int).toNat*Y.size)) u) (.row sz []) 0 (fun J g1 g2 g3=> .inl D);refine⟨.slice (io ⟨w.heap.size,0,jp⟩) 0 0,_,M,J,?_,S,dG j S y,.iv _ _ (.iA _ _ _ _)⟩;simp only[execOp,ho,re j hl,re j hc];rw[Sem.run_bind,b];rfl
theorem M7(A:bT P ty){o:Oper}{t u:TypeId}{x hi:Operand}(ho:o.op= .slice t x jp (io hi) jp){e I:b7}(ht:ty t=io e)(S:e.k= .aT (.slice u))(hu:ty u=io I)
  {i n m sz:Nat} {kc:IntKind} {J:Int} (hx:ev s.f x= .sl i 0 n sz) (hh:ev s.f hi= .iv (.v (.int kc J))) (F:J=(m:Int)) (Z:m<=n) (hn:0<n)
  {p:PV} (G:(m=0∧p= .sl i 1 0 sz)∨(0<m∧p= .sl i 0 m sz)) {s':AS} (hp:putDst nt o p s=io s'):OT P nt o s (fun t=>t=s'):=by
 refine OT.value hp fun M N a w B=>?_;subst F
 have j:P.underlying t=io (.slice u):=by
  have:=(A t _ ht).2.1;rw[S]at this;exact this.1
 have d:P.elem t=u:=by simp[Program.elem,j]
 have y:=aO B.2.1 x;rw[hx]at y;generalize hv:a.eval x=vx at y;cases y with
 |mE=>omega
 |sl _ _ _ _ cap hU h0 hl hc hext=>
  have b:=run_slice_h (P:=P) (w:=w) t (io ⟨N.aB i,0*sz,jp⟩) n cap (by rw[d];exact j) kc (m:Int) (by omega) (by omega);rw[d,bC (A u _ hu)]at b;refine⟨sliced (io ⟨N.aB i,0*sz,jp⟩) 0 m cap I.size,w,M,N,?_,.refl _ _ _ _ _,B,?_⟩
  .simp only[execOp,ho,hv,RZ,TP,re B hh];refine bt ?_;rw[run_sliceAt_slice w t _ _ _ _ (by rw[d];exact j),b];rfl
  .rcases G with⟨rfl,rfl⟩|⟨Y,rfl⟩
   .have:=VR.sle (M:=M) (N:=N) (U:=(· <s.nx)) i sz cap hU hc (by rw[<-hext,Q9]);simpa[sliced,Addr.add]using this
   .have:=VR.sl (M:=M) (N:=N) (U:=(· <s.nx)) i 0 m sz cap hU Y (by omega) hc hext;simpa[sliced,Addr.add]using this
theorem JT(i0:bT P ty){o:Oper}{x y:Operand}{t u:TypeId}(ho:o.op= .call ⟨.builtin .append, #[x,y], #[t,t]⟩){e A:b7}(ht:ty t=io e)(hk:e.k= .aT (.slice u))(hu:ty u=io A)
  {i sz:Nat} {es news:List (List PV)} {py:PV} (hx:ev s.f x= .sl i 1 0 sz) (hi:s.h.get i=io (.row sz es)) (w0:A.size=sz) (a0:news.length<=es.length) (hm:0<news.length)
  (v0:ev s.f y=py) (hy:Src s.h sz py news) (d0: ∀e∈news,gd e=kw)
  {s':AS} (hp:putDst nt o (.sl s.nx 0 news.length sz) (qv s i sz [] news)=io s'):OT P nt o s (fun t=>t=s'):=by
 refine OT.value hp fun M N a w hf=>?_;subst w0;obtain⟨⟨ii,q0,c0,e1,f1⟩,_⟩:=i0 u _ hu
 have x0:P.underlying t=io (.slice u):=by
  have:=(i0 t _ ht).2.1;rw[hk]at this;exact this.1
 have f0:=aO hf.2.1 x;rw[hx]at f0;have m0:=aO hf.2.1 y;rw[v0]at m0;obtain⟨I,ao,c,b1,Y⟩:=hy.ok hf m0;have B: ∀v w',(Builtin.append_ #[t,t] o.type #[a.eval x,a.eval y]).run P w= .ok v w'->(execOp a.eval o).run P w= .ok (.value v) w':=by
  intro v w' h;simp only[execOp,ho,resolve];simp[invoke,builtin,h]
 rw[b1]at B;have J:(AO.row A.size es).real=kw:=by cases es with
  |nil=>exact absurd a0 (by simp only[R0];omega)
  |cons=>rfl
 rcases hf.1.obj i _ hi with rfl|⟨hsz0,cur,T,q1,q2,q3,q4,q5⟩
 .cases J
 generalize a.eval x=vx at f0 B;cases f0 with
 |sl _ _ _ _ _ _ h0=>exact absurd h0 (TE _)
 |sle _ _ cap hU hc hext=>
  have G:cur.size=cap*A.size:=by rw[q2,<-hext]
  have d:news.length<=cap:=by
   have:es.length*A.size<=cap*A.size:=by rw[<-G];exact q3
   have:=Nat.le_of_mul_le_mul_right this hsz0;omega
  obtain⟨b2,d1,o0,Z⟩:=Y (List.ne_nil_of_length_pos hm);subst o0;obtain⟨vs,j0,a1,k0⟩:=sF (s:=s) Z;have S:vs.length=news.length*A.size:=by rw[j0,jP I]
  have p0:vs.length<=cur.size:=by rw[S,G];exact Rb _ d
  have b0: ∀v∈vs,v.oneCell'=kw:=by
   intro v hv;obtain⟨j,hj⟩:=RE hv;have r0:j<news.flatten.length:=by rw[<-j0];exact(Qw.1 hj).1
   have hp:=Qy r0;obtain⟨k,e,i',h1,h2,_⟩:=nn I j _ hp;have:=(k0 j _ hp).one (lD (d0 e (Rk h1)) i' _ h2);rw[Qx,hj]at this;exact this
  have F:=kX (P:=P) (w:=w) t o.type u ii x0 q0 T (N.aB i) 0 cap cur q1 ⟨b2,d1,jp⟩ news.length c vs (by rw[S,c0]) a1 b0 (by omega) (by rw[c0];omega);rw[c0]at F;generalize hL:(cur.toList.take (0*A.size)++vs++cur.toList.drop (0*A.size+vs.length)).toArray=L at F;rw[Q9]at F;have g0:L.size=cur.size:=by rw[<-hL];simp;omega
  have e0:=setRow_heap w (N.aB i) cur L T (0,0) q1;have n0: ∀j,j<vs.length->L.getD j undef=vs.getD j undef:=by
   intro j hj;rw[<-hL,Qt,Qx];simp only[RU];rw[QQ (by simp;omega),QX (by simp)];simp
  obtain⟨h1,h2⟩:=hf.1.move hi J (w.setRow (N.aB i) L) (.row A.size ([]++news)) D D D (by simp) (fun b hb=>by
    simp only[World.setRow,Ru]
    rw[be (fun e=>hb e.symm)]) (by
   refine .inr ⟨hsz0,L,T,by simpa using e0,by rw[g0];simpa using q2,by rw[g0,G];exact Rb _ d,fun k e he=>I _ e he,fun k e j p he hj=>?_⟩;have i1:j<A.size:=by rw[<-I _ e he];exact(Qw.1 hj).1
   have s0:k<news.length:=(Qw.1 he).1;have t0:k*A.size+j<vs.length:=by
    rw[S];have:(k+1)*A.size<=news.length*A.size:=Rb _ s0;rw[RJ]at this;omega
   rw[n0 _ t0]
   exact(k0 _ p (nk I _ e j p he hj)).mono (.refl _) (N.eP _ _ _) (fun i hi=>by omega))
  obtain⟨g1,g2⟩:=nK (es:=[]) (news:=news) (i:=i) hf h1 h2;refine⟨_,_,M,_,B _ _ F,g1,g2,?_⟩;have:=VR.sl (M:=M) (N:=N.with s.nx (N.aB i) (N.ext i)) (U:=(· <s.nx+1)) s.nx 0 news.length A.size cap (by omega) hm d hc (by simpa using hext);rw[kC];simpa using this
section
variable {Q:AQ} {k:List KI} {all rest:List Oper} {o:Oper} {s':AS}
theorem F3(F:bT P ty){t u:TypeId}{l c:Operand}(n m:Nat)(hg:o.guard=jp)(ho:o.op= .makeSlice t l c){e b:b7}(B:ty t=io e)(S:e.k= .aT (.slice u))(hu:ty u=io b)
  {kl kc:IntKind} {I J:Int} (Y:ev s.f l= .iv (.v (.int kl I))) (hc:ev s.f c= .iv (.v (.int kc J))) (d:I=(m:Int)) (x:J=(n:Int)) (hn:0<n) (j:n<=100000000000) (hb:b.bytes*n<=281474976710656) (G:b.zero.cells.size=b.size) (A:0<b.size)
  {z:List PV} (Z:z=ch b.zero) {p:PV} (y:(m=0∧p= .sl s.nx 1 0 b.size)∨(m=n∧p= .sl s.nx 0 n b.size))
  (hp:putDst nt o p (newObj s (.row b.size (SM n z)))=io s') (h:GO P nt (.ops all rest::k) Q s'):GO P nt (.ops all (o::rest)::k) Q s:=
 dp hg (Oy F ho B S hu Y hc d x hn j hb D G A Z y hp) fun t B=>by subst B;exact h
theorem Bj(x:bT P ty){t u:TypeId}{l c:Operand}(sz:Nat)(el:Nat->List IV)(hg:o.guard=jp)(ho:o.op= .makeSlice t l c){e B:b7}(j:ty t=io e)(F:e.k= .aT (.slice u))(hu:ty u=io B)
  {I kc:IntKind} {y A:Int} (G:ev s.f l= .iv (.v (.int I y))) (hc:ev s.f c= .iv (.v (.int kc A))) (b:y=0) (d:A=0)
  (hp:putDst nt o (.iv (.c5 sz 0 el)) (newObj s (.row sz []))=io s') (h:GO P nt (.ops all rest::k) Q s'):GO P nt (.ops all (o::rest)::k) Q s:=
 dp hg (ML x ho j F hu el G hc b d hp) fun t j=>by subst j;exact h
theorem Cz(A:bT P ty){t u:TypeId}{x hi:Operand}{i n sz:Nat}(m:Nat)(hg:o.guard=jp)(ho:o.op= .slice t x jp (io hi) jp){e F:b7}(y:ty t=io e)(G:e.k= .aT (.slice u))(hu:ty u=io F)
  {kc:IntKind} {B:Int} (I:ev s.f x= .sl i 0 n sz) (hh:ev s.f hi= .iv (.v (.int kc B))) (b:B=(m:Int)) (d:m<=n) (hn:0<n)
  {p:PV} (j:(m=0∧p= .sl i 1 0 sz)∨(0<m∧p= .sl i 0 m sz)) (hp:putDst nt o p s=io s') (h:GO P nt (.ops all rest::k) Q s'):GO P nt (.ops all (o::rest)::k) Q s:=
 dp hg (M7 A ho y G hu I hh b d hn j hp) fun t y=>by subst y;exact h
theorem xJ(F:bT P ty){x y:Operand}{t u:TypeId}(hg:o.guard=jp)(ho:o.op= .call ⟨.builtin .append, #[x,y], #[t,t]⟩){e d:b7}(B:ty t=io e)(I:e.k= .aT (.slice u))(hu:ty u=io d)
  {i:Nat} {es news:List (List PV)} {G:PV} (J:ev s.f x= .sl i 1 0 d.size) (hi:s.h.get i=io (.row d.size es))
  (A:ev s.f y=G) (S:Mc s.h d.size G=io news) (b:news.length<=es.length) (hm:0<news.length) (j: ∀e∈news,gd e=kw)
  (hp:putDst nt o (.sl s.nx 0 news.length d.size) (qv s i d.size [] news)=io s') (h:GO P nt (.ops all rest::k) Q s'):GO P nt (.ops all (o::rest)::k) Q s:=
 dp hg (JT F ho B I hu J hi D b hm A (BR S) j hp) fun t B=>by subst B;exact h
end
section
variable {Q:AQ} {k:List KI} {all rest:List Oper} {o:Oper} {s':AS}
end
end
theorem eJ.take{sz n:Nat}{es:List (List PV)}:eJ (.row sz es) (.row sz (es.take n)):=by
 refine⟨fun h=>?_,fun M N U w i h=>?_⟩
 .cases es with
  |nil=>rw[List.take_nil]at h;exact h
  |cons=>rfl
 .rcases h with h|⟨d,c,T,u,x,y,A,B⟩
  .exact .inl (by rw[h,List.take_nil])
  .refine .inr ⟨d,c,T,u,x,Rr (Rb _ (by rw[RW];omega)) y,fun k e b=>?_,fun k e j p b F=>?_⟩
   .rw[Rt]at b;split at b
    .exact A k e b
    .cases b
   .rw[Rt]at b;split at b
    .exact B k e j p b F
    .cases b
theorem ql{P:Program}{nt:Nat}{Q:AQ}{k:List KI}{s:AS}{body:Code}{σ:Type}(i0 n:Nat)(j:i0<=n)(I:Nat->σ->AS)(J:Nat->σ->Prop)(u:σ)(y:List Nat)(F:J i0 u)(h0:Wk s.nx y s (I i0 u))
  (b: ∀i x,i<=n->J i x->GO P nt (.code body:: .lp (fun t=>i<n∧ ∃d L,J (i+1) d∧Wk s.nx L t (I (i+1) d))::k) Q (I i x)):GO P nt (.code (.loop body)::k) Q s:=by
 refine mZ (σ:={p:Nat×σ//p.1<=n∧J p.1 p.2}) (fun p=>I p.1.1 p.1.2) (fun p=>n-p.1.1) ⟨(i0,u),j,F⟩ y h0 fun p=>?_;obtain⟨⟨i,x⟩,A,B⟩:=p;refine pf ?_ (b i x A B)
 rintro t ⟨h3,d,L,h4,h5⟩;exact⟨⟨(i+1,d),h3,h4⟩,L,by show n-(i+1)<n-i;omega,h5⟩
theorem Jn{P:Program}{ty:Ty}{nt:Nat}{Q:AQ}{k:List KI}{s:AS}(d:bT P ty){all rest:List Oper}{o:Oper}{t:TypeId}{x i:Operand}(p:PV)(ho:o.op= .lookup t x i lc)(hg:o.guard=jp)
  {kc:KC} {V:Type} {e:V->IV} {z:V} {j:Value} {m:List (kc.K×V)} (B:ev s.f x= .iv (.du kc e z j m)) {q:PV} (y:ub ty t lc kc e z j m (ev s.f i)=io (q,True)) (A:q=p)
  {s':AS} (hp:putDst nt o p s=io s') (h:GO P nt (.ops all rest::k) Q s'):GO P nt (.ops all (o::rest)::k) Q s:=by
 have b:iO ty s o.op=io (p,True):=by
  rw[ho,<-A];simp only[iO,B];exact y
 exact dp hg (qN d b ac hp) fun u hu=>by subst hu;exact h
section
variable {P:Program} {ty:Ty} {nt:Nat} {Q:AQ} {k:List KI} {s:AS}
theorem oP(q0:bT P ty){o:Oper}{t:TypeId}{a x:Operand}(ho:o.op= .store t a x)(hd:o.dst=jp){i sz q:Nat}{e:b7}(he:ty t=io e)(x0:e.size=sz){es:List (List PV)}{xs:List PV}
  (ha:ev s.f a= .dd i sz q 0) (hi:s.h.get i=io (.row sz es)) (hq:q<es.length) (t0:(ev s.f x).cells=io xs) (e0:xs.length=sz) (b0:gd xs=kw):
  OT P nt o s (fun u=>u=⟨s.f,(i,io (.row sz (es.set q xs)))::s.h,s.nx⟩):=by
 have hp:putDst nt o .any ⟨s.f,(i,io (.row sz (es.set q xs)))::s.h,s.nx⟩=io ⟨s.f,(i,io (.row sz (es.set q xs)))::s.h,s.nx⟩:=by simp only[putDst,hd]
 refine OT.skip hp fun M N b w J=>?_;have hu:=aO J.2.1 a;have hy:=aO J.2.1 x;rw[ha]at hu;generalize r0:b.eval a=u at hu;generalize v0:b.eval x=y at hy
 have key: ∃w',(Instr.storeAt t u y).run P w= .ok () w'∧Ext M N (· <s.nx) s.h w M N (· <s.nx) ((i,io (.row sz (es.set q xs)))::s.h) w'∧Fits M N ⟨s.f,(i,io (.row sz (es.set q xs)))::s.h,s.nx⟩ nt b w':=by
  cases hu with
  |dd _ _ _ _ hU=>
   obtain⟨hl,hv⟩:=qs hy t0;have a1:y.cells.size=sz:=by omega
   rcases J.1.obj i _ hi with h0|⟨h0,c,T,g1,g2,g3,g4,g5⟩
   .rw[h0]at hq;simp at hq
   have a0:(q+1)*sz<=es.length*sz:=Rb _ hq;have w0:q*sz+sz<=c.size:=by rw[SQ]at a0;omega
   have B: ∀z∈y.cells.toList,z.oneCell'=kw:=by
    intro v s0;obtain⟨j,hj⟩:=RE s0;have j0:j<y.cells.toList.length:=(Qw.1 hj).1;have Z:xs[j]? =io (xs[j]'(by simp at j0;omega)):=Qy _;have:=(hv j _ Z).one (lD b0 j _ Z);rw[Qt]at this;have g0:y.cells[j]? =io v:=by simpa using hj
    rw[g0]at this;exact this
   have d0:=run_storeCells_at P (N.aB i) (q*sz) T y.cells.toList 0 c w g1 (by simp;omega) B;refine⟨w.setRow (N.aB i) (c.toList.take (q*sz+0)++y.cells.toList++c.toList.drop (q*sz+0+y.cells.toList.length)).toArray,?_,?_⟩
   .have F:=bC (w:=w) (q0 t e he);have p0:y.cells.size=e.size:=by omega
    simp only[Instr.storeAt,Instr.sureAddr,pure_bind,storeVar,Sem.run_bind,F,Result.andThen_ok,p0,ne_eq,not_true_eq_false,if_false];exact d0
   .have c0:=setRow_heap w (N.aB i) c (c.toList.take (q*sz+0)++y.cells.toList++c.toList.drop (q*sz+0+y.cells.toList.length)).toArray T (0,0) g1;have n0: ∀b,b≠N.aB i->(w.setRow (N.aB i) (c.toList.take (q*sz+0)++y.cells.toList++c.toList.drop (q*sz+0+y.cells.toList.length)).toArray).heap[b]? =w.heap[b]? :=by
     intro b hb;simp only[World.setRow,Ru];rw[be (fun e=>hb e.symm)]
    have o0:(AO.row sz es).real=kw:=by cases es with
     |nil=>simp at hq
     |cons=>rfl
    have f0: ∀m,(c.toList.take (q*sz+0)++y.cells.toList++c.toList.drop (q*sz+0+y.cells.toList.length)).toArray.getD m undef=if q*sz<=m∧m<q*sz+sz then y.cells.getD (m-q*sz) undef else c.getD m undef:=by
     intro m;rw[Qt,Qt,Qt];have k0:y.cells.toList.length=sz:=by simp;omega
     split
     .rename_i hm;have e1:(c.toList.take (q*sz+0)++y.cells.toList++c.toList.drop (q*sz+0+y.cells.toList.length)).toArray[m]? =y.cells[m-q*sz]? :=by
       simp only[RU];rw[QQ (by simp;omega),QX (by simp;omega)];simp only[RW,Array.length_toList,RI];congr 1;omega
      rw[e1]
     .rename_i hm;have e1:(c.toList.take (q*sz+0)++y.cells.toList++c.toList.drop (q*sz+0+y.cells.toList.length)).toArray[m]? =c[m]? :=by
       simp only[RU];rcases RN m (q*sz) with k1|k1
       .rw[QU,QQ (by simp;omega),Rt,am (by omega),RI]
       .rw[QX (by simp;omega),RQ,RI];congr 1;simp;omega
      rw[e1]
    have:=J.1.write hi o0 (w.setRow (N.aB i) (c.toList.take (q*sz+0)++y.cells.toList++c.toList.drop (q*sz+0+y.cells.toList.length)).toArray) (.row sz (es.set q xs)) D D D (by simp) n0
     (.inr ⟨h0,_,T,c0,by simp;omega,by simp;omega,fun G Y d=>?_,fun G Y S p2 d I=>?_⟩)
    .exact⟨this.1,this.2,J.2.1,J.2.2⟩
    .rw[R5]at d;split at d
     .cases d;exact e0
     .exact g4 G Y d
    .rw[f0];rw[R5]at d;split at d
     .rename_i A;subst A;cases d;have i0:S<sz:=by rw[<-e0];exact(Qw.1 I).1
      rw[am (by omega),show q*sz+S-q*sz=S by omega];exact hv S p2 I
     .rename_i A;have i0:S<sz:=by rw[<-g4 G Y d];exact(Qw.1 I).1
      rw[be ?_]
      .exact g5 G Y S p2 d I
      .intro⟨e1,Y⟩;rcases Nat.lt_trichotomy q G with m0|heq|hgt
       .have:(q+1)*sz<=G*sz:=Rb _ m0;rw[SQ]at this;omega
       .exact A heq
       .have:(G+1)*sz<=q*sz:=Rb _ hgt;rw[SQ]at this;omega
 obtain⟨w',h1,d,I⟩:=key;refine⟨w',M,N,?_,d,I⟩;simp only[execOp,ho];simp[r0,v0,h1]
theorem Bh(j:bT P ty){all rest:List Oper}{o:Oper}{t:TypeId}{a x:Operand}(ho:o.op= .store t a x)(hd:o.dst=jp)(hg:o.guard=jp){i sz q:Nat}{e:b7}(he:ty t=io e)(d:e.size=sz){es:List (List PV)}{xs:List PV}
  (ha:ev s.f a= .dd i sz q 0) (hi:s.h.get i=io (.row sz es)) (B:q<es.length) (A:(ev s.f x).cells=io xs) (y:xs.length=sz) (b:gd xs=kw)
  {s':AS} (hs:(⟨s.f,(i,io (.row sz (es.set q xs)))::s.h,s.nx⟩:AS)=s') (h:GO P nt (.ops all rest::k) Q s'):GO P nt (.ops all (o::rest)::k) Q s:=
 dp hg (oP j ho hd he d ha hi B A y b) fun u hu=>by subst hu;subst hs;exact h
end
theorem fz1{M:Mem}{N:Nm}{n:Nat}{h:AH}{w:World}(i sz:Nat){es:List (List PV)}(el:Nat->List IV)(hi:h.get i=io (.row sz es))(d: ∀k e,es[k]? =io e->e=(el k).map .iv)
  {asv args:List PV} (hm: ∀(j:Nat) (p:PV),args[j]? =io p-> ∃q,asv[j]? =io q∧q.cU i sz es.length∧aC (q.dT i sz el) p) (hr:Rel M N (· <n) h w):
  ∃b:Mem,M.le b∧Rel b N (· <n) [] w∧ ∀(j:Nat) (p:PV) (x:Value),args[j]? =io p->(∀q,asv[j]? =io q->VR M N (· <n) q x)->VR b N (· <n) p x:=by
 obtain⟨b,u,y,A⟩:=sT hr hi d;refine⟨b,u.pb,⟨y.dT,fun i o hi=>(nomatch hi),fun i o hi=>(nomatch hi),fun i o hi=>(nomatch hi),fun i j o p hi=>(nomatch hi)⟩,fun j p x B F=>?_⟩;obtain⟨q,g1,g2,g3⟩:=hm j p B;exact g3 _ _ _ _ (A q x (F q g1) g2)
theorem nf{P:Program}{nt:Nat}{Q:AQ}{k:List KI}{s:AS}{c:Code}(i:Nat){sz:Nat}{es:List (List PV)}(el:Nat->List IV)(hi:s.h.get i=io (.row sz es))(a0: ∀k e,es[k]? =io e->e=(el k).map .iv)
  (hf:s.f.tP i sz es.length) (hh:s.h.y7 i sz es.length) (h:GO P nt (.code c::k) Q ⟨s.f.jf i sz el,(i,jp)::s.h.jN i sz el,s.nx⟩):GO P nt (.code c::k) Q s:=by
 intro M N a w b;obtain⟨M',y,A,h4⟩:=sT b.1 hi a0;have G: ∀j o,AH.get ((i,jp)::s.h.jN i sz el) j=io o-> ∃p,AH.get ((i,jp)::s.h) j=io p∧s.h.get j=io p∧o=p.jN i sz el:=by
  intro j o u;obtain⟨g1,g2⟩:=bg j o u;rw[AH.rq,QF]at g2;obtain⟨p,g3,g4⟩:=g2;exact⟨p,by rw[AH.ay,be g1];exact g3,g3,g4.symm⟩
 have hE:Ext M N (· <s.nx) s.h w M' N (· <s.nx) ((i,jp)::s.h.jN i sz el) w:=⟨y.os,y.tape,y.output,y.size,y.fG,y.pb,y.gK,y.nm,y.ule,fun j o u x=>by
  obtain⟨p,g1,_,rfl⟩:=G j o u;rw[AO.pn]at x
  exact y.fV j p g1 x⟩
 have hR:Rel M' N (· <s.nx) ((i,jp)::s.h.jN i sz el) w:=by
  refine⟨A.dT,fun j o u=>?_,fun j o u x=>?_,fun j o u=>?_,fun j k o p u hk ho J=>?_⟩
  .obtain⟨p,g1,_,rfl⟩:=G j o u;exact A.used j p g1
  .obtain⟨p,g1,_,rfl⟩:=G j o u;rw[AO.pn]at x;exact A.dW j p g1 x
  .obtain⟨p,g1,g2,rfl⟩:=G j o u;cases p with
   |cells cs T0=>
    obtain⟨c,T,q1,q2,q3,q4,q5⟩:=b.1.obj j _ g2;have F:=AH.pZ hh j _ g2;refine⟨c,T,q1,q2,by simpa[gF]using q3,fun k q hq=>?_,q5⟩;rw[gF,QC,QF]at hq;obtain⟨q0,Y,rfl⟩:=hq;exact h4 _ _ (q4 k q0 Y) (ia F k q0 Y)
   |row s2 es2=>
    have F:=AH.pZ hh j _ g2;rcases b.1.obj j _ g2 with rfl|⟨q0,c,T,q1,q2,q3,q4,q5⟩
    .exact .inl D
    .refine .inr ⟨q0,c,T,q1,q2,by simpa using q3,fun k e I=>?_,fun k e j2 p I J=>?_⟩
     .rw[QC,QF]at I;obtain⟨Z,B,rfl⟩:=I;rw[gF,Rv];exact q4 k Z B
     .rw[QC,QF]at I;obtain⟨Z,B,rfl⟩:=I;rw[gF,QC,QF]at J;obtain⟨p0,S,rfl⟩:=J;exact h4 _ _ (q5 k Z j2 p0 B S) (ia (F Z (Rk B)) j2 p0 S)
   |bu=>exact A.obj j _ g1
   |fg=>exact A.obj j _ g1
   |map=>exact A.obj j _ g1
   |bQ=>exact A.obj j _ g1
   |dJ=>exact A.obj j _ g1
  .obtain⟨o',g1,_,rfl⟩:=G j o u;obtain⟨p',g2,_,rfl⟩:=G k p hk;rw[AO.pn]at ho J;exact A.inj j k o' p' g1 g2 ho J
 have b0:Fits M' N ⟨s.f.jf i sz el,(i,jp)::s.h.jN i sz el,s.nx⟩ nt a w:=⟨hR,fun d=>by
  rw[AF.jM];exact h4 _ _ (b.2.1 d) (AF.lN hf d),b.2.2⟩
 exact AW.then h b0 fun e a2 w2 M2 N2 s2 f0 c0 d0=>⟨M2,N2,s2,hE.trans f0,c0,d0⟩
end
end Go.Al
namespace Go.Al
open Go
section
section
variable {P:Program} {ty:Ty} {nt:Nat} {s:AS}
theorem MP(b:bT P ty){o:Oper}{t u:TypeId}{x i:Operand}(ho:o.op= .index t x i){e j:b7}{len:Nat}(J:ty t=io e)(G:e.k= .arr len u)(hu:ty u=io j)
  {cs:List PV} {kc:IntKind} {n:Nat} (Y:ev s.f x= .agg cs) (hi:ev s.f i= .iv (.v (.int kc (n:Int)))) (hn:n<len) {p:PV} (I:fU j (cs.drop (n*j.size))=io p) {s':AS} (hp:putDst nt o p s=io s'):OT P nt o s (fun t=>t=s'):=by
 refine OT.value hp fun M N a w A=>?_
 have B:P.underlying t=io (.array len u):=by
  have:=(b t _ J).2.1;rw[G]at this;exact this
 have d:=aO A.2.1 x;rw[Y]at d;generalize S:a.eval x=v at d;cases d with
 |agg _ ys hl hr=>
  obtain⟨y,Z,F⟩:=gj (P:=P) (w:=w) (b u _ hu) hl hr I;refine⟨y,w,M,N,?_,.refl _ _ _ _ _,A,F⟩;simp only[execOp,ho,S,re A hi];refine bt ?_;simp[Instr.index,run_underlying B,asIntOf,hn,bC (b u _ hu),Z]
theorem F5(j:bT P ty){Q:AQ}{k:List KI}{all rest:List Oper}{o:Oper}{t u:TypeId}{x i:Operand}(hg:o.guard=jp)(ho:o.op= .index t x i){e b:b7}{len:Nat}(d:ty t=io e)(y:e.k= .arr len u)(hu:ty u=io b)
  {cs:List PV} {kc:IntKind} {n:Nat} (B:ev s.f x= .agg cs) (hi:ev s.f i= .iv (.v (.int kc (n:Int)))) (hn:n<len) {p:PV} (A:fU b (cs.drop (n*b.size))=io p) {s':AS} (hp:putDst nt o p s=io s') (h:GO P nt (.ops all rest::k) Q s'):GO P nt (.ops all (o::rest)::k) Q s:=
 dp hg (MP j ho d y hu B hi hn A hp) fun t d=>by subst d;exact h
end
def No{σ:Type}(P:Program)(nt:Nat)(k:List KI)(Q:AQ)(n0:Nat)(t:σ->AS):AQ:=fun e u=>(e= .normal∧ ∃i L,Wk n0 L u (t i))∨(e≠ .normal∧kp P nt k Q e u)
theorem go_cut{P:Program}{nt:Nat}{Q:AQ}{k:List KI}{s:AS}{c:Code}{σ:Type}(n:Nat)(t:σ->AS)(y:c=ES (pJ n c) (l0 n c))
  (h1:GO P nt ((pJ n c).map KI.code) (No P nt k Q s.nx t) s) (h2: ∀i,GO P nt (.code (l0 n c)::k) Q (t i)):GO P nt (.code c::k) Q s:=by
 intro M N a w hf;rw[y];have key: ∀(l:List Code) (u:AS) B G J A,Ext M N (· <s.nx) s.h w B G (· <u.nx) u.h A->Fits B G u nt J A->
   kp P nt (l.map KI.code) (No P nt k Q s.nx t) .normal u->(ES l (l0 n c)).wp P (mz nt M N s w (kp P nt k Q)) J A:=by
  intro l
  induction l with
  |nil=>
   intro u B G J A S x hk;rcases hk with⟨_,i,L,hw⟩|⟨Z,_⟩
   .exact AW.then (h2 i) (hw.fits x) fun e a2 w2 F I Y j b d=>⟨F,I,Y,(hw.ext S).trans j,b,d⟩
   .exact absurd D Z
  |cons c l ih=>
   intro u B G J A S x hk;refine wp_seq (AW.then hk x fun e a2 w2 F I Y j b d=>?_);cases e with
   |normal=>exact ih Y F I a2 w2 (S.trans j) b d
   |_=>
    rcases xB (l:=l) (by simp) d with⟨Z,_⟩|⟨_,hq⟩
    .cases Z
    .exact⟨F,I,Y,S.trans j,b,hq⟩
 exact key _ s M N a w (.refl _ _ _ _ _) hf h1
theorem GC{P:Program}{nt:Nat}{k:List KI}{Q:AQ}{n0:Nat}{σ:Type}{t:σ->AS}{u:AS}(i:σ)(L:List Nat)(h:Wk n0 L u (t i)):No P nt k Q n0 t .normal u:= .inl ⟨rfl,i,L,h⟩
section
variable {P:Program} {ty:Ty} {nt:Nat} {Q:AQ} {k:List KI} {s:AS}
theorem aM(d:bT P ty){all rest:List Oper}{o:Oper}{t:TypeId}{a:Operand}(ho:o.op= .load t a)(hg:o.guard=jp){e:b7}(he:ty t=io e){i sz q off:Nat}{es:List (List PV)}{row:List PV}{v:PV}
  (ha:ev s.f a= .dd i sz q off) (hi:s.h.get i=io (.row sz es)) (j:es[q]? =io row) (hr:fU e (row.drop off)=io v)
  {s':AS} (hp:putDst nt o v s=io s') (h:GO P nt (.ops all rest::k) Q s'):GO P nt (.ops all (o::rest)::k) Q s:=by
 have hb:behind s.h (.dd i sz q off)=io (row.drop off):=by
  simp only[behind,hi,j,Nat.beq_refl]
 have b:iO ty s o.op=io (v,True):=by
  rw[ho];simp only[iO,he,ha,hb,hr]
 exact dp hg (qN d b ac hp) fun u hu=>by subst hu;exact h
theorem b8{α:Type}[Inhabited α]{l:List α}{f:α->List IV}{i:Nat}(h:i<l.length):(l.map fun x=>(f x).map PV.iv)[0+i]? =io ((f (l.getD i co)).map .iv):=by
 rw[Q9,QC,Qy h,Qx,Qy h];rfl
end
def Nm.one(b e:Nat):Nm:=⟨fun _=>b,fun _=>e⟩
inductive SB:Type 1 where
 |obj (o:AO) (e:Nat)
 |out (i e:Nat)
abbrev aX:=Nat->Option SB
def aX.nil:aX:=fun _=>jp
def aX.put(X:aX)(b:Nat)(x:SB):aX:=fun c=>if c=b then io x else X c
def aX.still(X:aX):Prop:= ∀b i e,X b≠io (.out i e)
theorem aX.eW(X:aX)(b:Nat)(x:SB):X.put b x b=io x:=by simp[aX.put]
theorem aX.iP(X:aX){b c:Nat}(x:SB)(h:c≠b):X.put b x c=X c:=by simp[aX.put,h]
theorem aX.IX(X:aX)(b:Nat)(x y:SB):(X.put b x).put b y=X.put b y:=by
 funext c;simp only[aX.put];split<;>rfl
structure c9 (M:Mem) (N:Nm) (n:Nat) (h:AH) (X:aX) (w:World):Prop where
 real: ∀b o e,X b=io (.obj o e)->o.real=kw
 obj: ∀b o e,X b=io (.obj o e)->OR M (Nm.one b e) (fun _=>False) w 0 o
 dT: ∀b o e,X b=io (.obj o e)->M b=jp
 apart: ∀b o e,X b=io (.obj o e)-> ∀i p,h.get i=io p->p.real=kw->N.aB i≠b
 out: ∀b i e,X b=io (.out i e)->i<n∧N.aB i=b∧N.ext i=e
def AO.all(G:PV->Prop):AO->Prop
 | .cells cs _=> ∀p∈cs,G p
 | .row _ es=> ∀e∈es,∀p∈e,G p
 |_=>True
theorem AO.all_true(o:AO):o.all fun _=>True:=by cases o<;>simp[AO.all]
theorem OR.move{M S:Mem}{N B:Nm}{U U':Nat->Prop}{w J:World}{i I:Nat}{o:AO}{G:PV->Prop}(hM:M.le S)(hG:o.all G)(hV: ∀p x,G p->VR M N U p x->VR S B U' p x)
  (hb:B.aB I=N.aB i) (he:B.ext I=N.ext i) (hw:J.heap[N.aB i]? =w.heap[N.aB i]?) (h:OR M N U w i o):OR S B U' J I o:=by
 cases o with
 |cells cs T0=>
  obtain⟨c,T,d,u,y,A,Z⟩:=h;exact⟨c,T,by rw[hb,hw,d],by rw[he,u],y,fun j p F=>hV _ _ (hG p (Rk F)) (A j p F),Z⟩
 |row sz es=>
  rcases h with h|⟨h0,c,T,d,u,y,A,Z⟩
  .exact .inl h
  exact .inr ⟨h0,c,T,by rw[hb,hw,d],by rw[he,u],y,A,fun k e j p hk F=>hV _ _ (hG e (Rk hk) p (Rk F)) (Z k e j p hk F)⟩
 |bu l T=>
  rcases h with h|⟨c,d,u,y,A⟩
  .exact .inl h
  exact .inr ⟨c,by rw[hb,hw,d],by rw[he,u],y,A⟩
 |fg=>show J.heap[B.aB I]? =_;rw[hb,hw];exact h
 |map kc ev z zv dv m=>
  obtain⟨e,Y,d,u,y⟩:=h;exact⟨e,Y,by rw[hb,hw,d],u.mono hM,y.mono hM⟩
 |bQ kc ev m l cu=>
  rcases h with⟨d,u,y,A⟩|⟨b,e,Y,se,d,u,y,A⟩
  .exact .inl ⟨d,u,y,by rw[hb,hw,A]⟩
  .exact .inr ⟨b,e,Y,se,by rw[hb,hw,d],hM _ _ u,y.mono hM,A⟩
 |dJ s p=>show J.heap[B.aB I]? =_;rw[hb,hw];exact h
theorem VR.Ca{M b:Mem}{N d:Nm}{j:Nat->Prop}(hM:M.le b){p:PV}{x:Value}(h:VR M N (fun _=>False) p x):VR b d j p x:=
 h.mono hM ⟨fun _ h=>h.elim,fun _ h=>h.elim⟩ (fun _ h=>h.elim)
def PV.flat:PV->Prop
 | .iv _=>True
 | .kb _=>True
 | .any=>True
 |_=>False
theorem VR.Is{M:Mem}{N d:Nm}{U j:Nat->Prop}{p:PV}{x:Value}(hp:p.flat)(h:VR M N U p x):VR M d j p x:=by
 cases h with
 |iv x y h=>exact .iv _ _ h
 |kb b=>exact .kb _
 |any x=>exact .any _
 |_=>exact hp.elim
def Pb(N:Nm)(h:AH)(X:aX)(b:Nat):Prop:=(∃i o,h.get i=io o∧o.real=kw∧N.aB i=b)∨ ∃o e,X b=io (.obj o e)
structure fO (M:Mem) (N:Nm) (n:Nat) (h:AH) (X:aX) (w:World) (M':Mem) (N':Nm) (n':Nat) (h':AH) (X':aX) (w':World):Prop where
 os:w'.os=w.os
 tape:w'.tape=w.tape
 output:w'.output=w.output
 size:w.heap.size<=w'.heap.size
 fG: ∀b,b<w.heap.size-> ¬Pb N h X b->w'.heap[b]? =w.heap[b]?
 pb:M.le M'
 gK: ∀b c,M b=jp->M' b=io c->w.heap.size<=b∨Pb N h X b
 nm:N.agree N' (· <n)
 ule:n<=n'
 fV: ∀b,Pb N' h' X' b->w.heap.size<=b∨Pb N h X b
theorem fO.refl(M:Mem)(N:Nm)(n:Nat)(h:AH)(X:aX)(w:World):fO M N n h X w M N n h X w:=
 ⟨rfl,rfl,rfl,QH _,fun _ _ _=>rfl,.refl _,fun b c d j=>by simp[d]at j,.refl _ _,QH _,fun _ h=> .inr h⟩
theorem fO.trans{M u x:Mem}{N y A:Nm}{n J S:Nat}{h h1 G:AH}{X B F:aX}{w Y Z:World}
  (a:fO M N n h X w u y J h1 B Y) (b:fO u y J h1 B Y x A S G F Z):fO M N n h X w x A S G F Z where
 os:=b.os.trans a.os
 tape:=b.tape.trans a.tape
 output:=b.output.trans a.output
 size:=Rr a.size b.size
 fG:=fun k j I=>by
  rw[b.fG k (Ss j a.size) (fun ho=>?_),a.fG k j I];rcases a.fV k ho with h3|h3
  .omega
  .exact I h3
 pb:=a.pb.trans b.pb
 gK:=fun k c h3 h4=>by
  cases h5:u k with
  |some c'=>exact a.gK k c' h3 h5
  |none=>
   rcases b.gK k c h5 h4 with h6|h6
   .exact .inl (Rr a.size h6)
   .exact a.fV k h6
 nm:=⟨fun i d=>(b.nm.aB i (Ss d a.ule)).trans (a.nm.aB i d),fun i d=>(b.nm.ext i (Ss d a.ule)).trans (a.nm.ext i d)⟩
 ule:=Rr a.ule b.ule
 fV:=fun k j=>by
  rcases b.fV k j with h3|h3
  .exact .inl (Rr a.size h3)
  .exact a.fV k h3
theorem fO.frame{M Y:Mem}{N Z:Nm}{n S:Nat}{h h':AH}{X:aX}{w w':World}(x:Ext M N (· <n) h w Y Z (· <S) h' w')(hs:c9 M N n h X w):
  fO M N n h X w Y Z S h' X w'∧c9 Y Z S h' X w':=by
 have F: ∀b o e,X b=io (.obj o e)->b<w.heap.size:=fun b o e hb=>(hs.obj b o e hb).lt (hs.real b o e hb);have A:n<=S:=Su fun hh=>absurd (x.ule S hh) (TE _);refine⟨⟨x.os,x.tape,x.output,x.size,fun b hb hn=>x.fG b hb fun i o hi I he=>hn (.inl ⟨i,o,hi,I,he⟩),x.pb,fun b c J h2=>?_,x.nm,A,fun b hb=>?_⟩,hs.real,fun b o e hb=>?_,fun b o e hb=>?_,fun b o e hb i p hi I a0=>?_,fun b i e hb=>?_⟩
 .rcases x.gK b c J h2 with d|⟨i,o,d,B,u⟩
  .exact .inl d
  .exact .inr (.inl ⟨i,o,d,B,u⟩)
 .rcases hb with⟨i,o,d,B,u⟩|hb
  .rcases x.fV i o d B with h6|⟨j,p,h6,h7,h8⟩
   .exact .inl (u▸h6)
   .exact .inr (.inl ⟨j,p,h6,h7,h8.trans u⟩)
  .exact .inr (.inr hb)
 .refine OR.move (G:=fun _=>True) x.pb (AO.all_true o) (fun p y _ hv=>hv.Ca x.pb) D D ?_ (hs.obj b o e hb);exact x.fG b (F b o e hb) (hs.apart b o e hb)
 .cases hM:Y b with
  |none=>rfl
  |some c=>
   rcases x.gK b c (hs.dT b o e hb) hM with d|⟨i,p,d,B,u⟩
   .have:=F b o e hb;omega
   .exact absurd u (hs.apart b o e hb i p d B)
 .rcases x.fV i p hi I with d|⟨j,q,d,B,u⟩
  .have:=F b o e hb;omega
  .exact hs.apart b o e hb j q d B (u.trans a0)
 .obtain⟨J,h2,d⟩:=hs.out b i e hb;exact⟨Ss J A,(x.nm.aB i J).trans h2,(x.nm.ext i J).trans d⟩
theorem fO.L4{M B:Mem}{N F:Nm}{n I:Nat}{h G:AH}{S:aX}{w J:World}(x:fO M N n h aX.nil w B F I G S J):Ext M N (· <n) h w B F (· <I) G J:=by
 have d: ∀b,Pb N h aX.nil b-> ∃i o,h.get i=io o∧o.real=kw∧N.aB i=b:=fun b hb=>by
  rcases hb with hb|⟨o,e,hb⟩
  .exact hb
  .cases hb
 refine⟨x.os,x.tape,x.output,x.size,fun b hb Z=>x.fG b hb fun ho=>?_,x.pb,fun b c j u=>?_,x.nm,fun i y=>Ss y x.ule,fun i o y A=>?_⟩
 .obtain⟨i,o,j,u,Y⟩:=d b ho;exact Z i o j u Y
 .exact(x.gK b c j u).imp id (d b)
 .exact(x.fV _ (.inl ⟨i,o,y,A,rfl⟩)).imp id (d _)
theorem c9.nil(M:Mem)(N:Nm)(n:Nat)(h:AH)(w:World):c9 M N n h aX.nil w:=⟨nofun,nofun,nofun,nofun,nofun⟩
abbrev XQ:=Exit->AS->aX->Prop
def my(nt:Nat)(M:Mem)(N:Nm)(s:AS)(X:aX)(w:World)(R:XQ):Exit->Act->World->Prop:=fun e x u=>
 ∃b d s' j,fO M N s.nx s.h X w b d s'.nx s'.h j u∧Fits b d s' nt x u∧c9 b d s'.nx s'.h j u∧R e s' j
theorem my.later{nt:Nat}{M b:Mem}{N d:Nm}{s s':AS}{X j:aX}{w u:World}{R:XQ}{e:Exit}{a:Act}{y:World}
  (x:fO M N s.nx s.h X w b d s'.nx s'.h j u) (h:my nt b d s' j u R e a y):my nt M N s X w R e a y:=by
 obtain⟨A,B,J,F,G,I⟩:=h;exact⟨A,B,J,F,x.trans G,I⟩
theorem my.now{nt:Nat}{M:Mem}{N:Nm}{s:AS}{X:aX}{w:World}{R:XQ}{e:Exit}{a:Act}(hf:Fits M N s nt a w)(hs:c9 M N s.nx s.h X w)(h:R e s X):my nt M N s X w R e a w:=
 ⟨M,N,s,X,.refl _ _ _ _ _ _,hf,hs,h⟩
def AX(P:Program)(nt:Nat)(c:Code)(R:XQ)(s:AS)(X:aX):Prop:= ∀M N a w,Fits M N s nt a w->c9 M N s.nx s.h X w->c.wp P (my nt M N s X w R) a w
def ALX(P:Program)(nt:Nat)(all rest:List Oper)(R:XQ)(s:AS)(X:aX):Prop:= ∀M N a w,Fits M N s nt a w->c9 M N s.nx s.h X w->wpList P all.toArray (my nt M N s X w R) rest a w
def SLX(P:Program)(nt:Nat)(all rest:List Oper)(R:XQ)(s:AS)(X:aX):Prop:= ∀M N a w,Fits M N s nt a w->c9 M N s.nx s.h X w->
 wpStill P all.toArray w (fun b=>my nt M N s X w R .normal b w) rest a
inductive XI where
 |sj (all rest:List Oper)
 |code (c:Code)
 |aB (id:Nat)
 |ops (all rest:List Oper)
 |lp (R:AS->aX->Prop)
 |Ej
def kx(P:Program)(nt:Nat):List XI->XQ->XQ
 | [],Q=>Q
 | .code c::k,Q=>fun e s X=>match e with| .normal=>AX P nt c (kx P nt k Q) s X|e=>kx P nt k Q e s X
 | .ops all rest::k,Q=>fun e s X=>match e with| .normal=>ALX P nt all rest (kx P nt k Q) s X|e=>kx P nt k Q e s X
 | .sj all rest::k,Q=>fun e s X=>match e with| .normal=>SLX P nt all rest (kx P nt k Q) s X|e=>kx P nt k Q e s X
 | .lp R::k,Q=>fun e s X=>match e with| .normal=>R s X|e=>kx P nt k Q e s X
 | .aB id::k,Q=>fun e s X=>match e with| .exit j=>if j=id then kx P nt k Q .normal s X else kx P nt k Q (.exit j) s X|e=>kx P nt k Q e s X
 | .Ej::k,Q=>fun e s X=>match e with| .goto _=>False|e=>kx P nt k Q e s X
def GX(P:Program)(nt:Nat)(k:List XI)(Q:XQ)(s:AS)(X:aX):Prop:=kx P nt k Q .normal s X
section
variable {P:Program} {nt:Nat} {Q:XQ} {k:List XI} {s:AS} {X:aX}
theorem AX.then{c:Code}{R:XQ}(h:AX P nt c R s X){M:Mem}{N:Nm}{a:Act}{w:World}(hf:Fits M N s nt a w)(hs:c9 M N s.nx s.h X w){Z:Exit->Act->World->Prop}
  (y: ∀e x b d j s' u,fO M N s.nx s.h X w d j s'.nx s'.h u b->Fits d j s' nt x b->c9 d j s'.nx s'.h u b->R e s' u->Z e x b):c.wp P Z a w:=
 wp_mono (h M N a w hf hs) fun e x b ⟨d,j,s',u,h1,h2,h3,h4⟩=>y e x b d j s' u h1 h2 h3 h4
theorem Li{d:AQ}{k0:List KI}{c:Code}(h:GX P nt [.code c] (fun e t _=>kp P nt k0 d e t) s aX.nil):GO P nt (.code c::k0) d s:=by
 intro M N a w x;exact AX.then h x (.nil ..) fun e F G j u s' B A b _ y=>⟨j,u,s',A.L4,b,y⟩
theorem fi{c:Code}(h:GO P nt [.code c] (fun e u=>kx P nt k Q e u X) s):GX P nt (.code c::k) Q s X:=by
 intro M N a w A F;refine AW.then h A fun e I J d j s' G b B=>?_;obtain⟨x,y⟩:=fO.frame G F;exact⟨d,j,s',X,x,b,y,B⟩
theorem bP{x y:Code}(h:GX P nt (.code x:: .code y::k) Q s X):GX P nt (.code (.seq x y)::k) Q s X:=by
 intro M N a w hf hs;refine wp_seq (AX.then h hf hs fun e a' w' I S s' Z G b d F=>?_);cases e with
 |normal=>exact AX.then F b d fun e a2 w2 J Y s2 X2 B j A u=>⟨J,Y,s2,X2,G.trans B,j,A,u⟩
 |_=>exact⟨I,S,s',Z,G,b,d,F⟩
theorem kr(h:GX P nt k Q s X):GX P nt (.code .skip::k) Q s X:=fun _ _ _ _ b d=>wp_skip (.now b d h)
theorem nW{id:Nat}(h:kx P nt k Q (.exit id) s X):GX P nt (.code (.exit id)::k) Q s X:=fun _ _ _ _ b d=>wp_exit (.now b d h)
theorem pj{id:Nat}(h:GX P nt k Q s X):GX P nt (.aB id::k) Q s X:=h
theorem eC{id:Nat}{x:Code}(h:GX P nt (.code x:: .aB id::k) Q s X):GX P nt (.code (.block id x)::k) Q s X:=by
 intro M N a w I J;refine wp_block (AX.then h I J fun e S Y y A s' B G b d u=>?_);cases e with
 |exit j=>
  simp only[kx]at u;simp only[Exit.inBlock];split
  .rename_i F;rw[am F]at u;exact⟨y,A,s',B,G,b,d,u⟩
  .rename_i F;rw[be F]at u;exact⟨y,A,s',B,G,b,d,u⟩
 |_=>exact⟨y,A,s',B,G,b,d,u⟩
theorem v8{id:Nat}{ops:Array Oper}(h:GX P nt (.ops ops.toList ops.toList::k) Q s X):GX P nt (.code (.region id ops lc)::k) Q s X:=by
 intro M N a w b d;refine wp_region_list ?_;have:=h M N a w b d;simpa using this
theorem ug{all:List Oper}(h:GX P nt k Q s X):GX P nt (.ops all []::k) Q s X:=fun _ _ _ _ b d=>wpList_nil (my.now b d h)
theorem ku{c:Operand}{x y:Code}{t:Bool}(hc:ev s.f c= .iv (.v (.bool t)))(h1:t=kw->GX P nt (.code x::k) Q s X)(u:t=lc->GX P nt (.code y::k) Q s X):
  GX P nt (.code (.cond c x y)::k) Q s X:=by
 intro M N a w b j;refine wp_cond_split (b.bool hc) (fun d=>?_) (fun d=>?_)
 .exact h1 d M N a w b j
 .exact u d M N a w b j
theorem xq{o:Oper}{a:Act}{w:World}{K K':Act->World->Prop}{Q d:Exit->Act->World->Prop}(h: ∀a w,K a w->K' a w)(j: ∀e a w,e≠ .normal->Q e a w->d e a w)(hh:o.wp P a w K Q):o.wp P a w K' d:=by
 have u:LetsOut Q->LetsOut d:=fun⟨a,w,x⟩=>⟨a,w,j _ _ _ (by simp) x⟩
 unfold Oper.wp at*
 generalize(execOp a.eval o).run P w=r at*
 cases r with
 |ok n w'=>
  cases n<;>simp only[Oper.upon]at hh ⊢ <;>
   first
    |exact h _ _ hh
    |exact Calls.mono hh (fun e y b=>by cases e<;>first|exact h _ _ b|exact u b|exact j _ _ _ (by simp) b)
    |exact Rows.mono hh (fun _ _ b=>h _ _ b)
 |halt x w'=>cases x<;>simp only[Oper.upon]at hh ⊢ <;>exact j _ _ _ (by simp) hh
theorem oK{ops:Array Oper}{j u:Exit->Act->World->Prop}(d:List Oper)(x: ∀a w,j .normal a w->wpList P ops u d a w)(b: ∀e a w,e≠ .normal->j e a w->u e a w): ∀(l:List Oper) (a:Act) (w:World),wpList P ops j l a w->wpList P ops u (l++d) a w
 | [],a,w,h=>x _ _ h
 |o::r,a,w,h=>by
  rw[Se];rw[wpList]at h ⊢;split
  .rename_i y;rw[am y]at h;exact h.imp (xq (oK d x b r) b) (fun⟨h3,a1,w1,h4⟩=>⟨h3,a1,w1,b _ _ _ (by simp) h4⟩)
  .rename_i y;rw[be y]at h;exact oK d x b r _ _ h
theorem DW{all J d:List Oper}(h:GO P nt [.ops all J] (fun e u=>kx P nt (.ops all d::k) Q e u X) s):GX P nt (.ops all (J++d)::k) Q s X:=by
 intro M N a w hf Y;refine oK d (fun y S F=>?_) (fun e y S Z F=>?_) J a w (h M N a w hf)
 .obtain⟨j,x,s',I,b,G⟩:=F;obtain⟨A,B⟩:=fO.frame I Y;have:=G j x y S b B;exact eO (fun _ _ _=>my.later A) d y S this
 .obtain⟨j,x,s',I,b,G⟩:=F;obtain⟨A,B⟩:=fO.frame I Y;refine⟨j,x,s',X,A,b,B,?_⟩;cases e with
  |normal=>exact absurd D Z
  |_=>exact G
theorem c9.drew{M:Mem}{N:Nm}{n:Nat}{h:AH}{X:aX}{w:World}(hs:c9 M N n h X w):c9 M N n h X {w with drawn:=w.drawn+1}:=
 ⟨hs.real,fun b o e hb=>OR.move (G:=fun _=>True) (.refl _) (AO.all_true o) (fun _ _ _ d=>d) D D D (hs.obj b o e hb),hs.dT,hs.apart,hs.out⟩
theorem fO.drew{M:Mem}{N:Nm}{n:Nat}{h:AH}{X:aX}{w:World}:fO M N n h X w M N n h X {w with drawn:=w.drawn+1}:=
 ⟨rfl,rfl,rfl,QH _,fun _ _ _=>rfl,.refl _,fun b c d j=>by simp[d]at j,.refl _ _,QH _,fun _ h=> .inr h⟩
theorem sQ{all rest:List Oper}(m:Nat)(h:GO P nt [.ops all (rest.take m)] (fun e u=>kx P nt (.ops all (rest.drop m)::k) Q e u X) s):GX P nt (.ops all rest::k) Q s X:=by
 have:=DW h;rwa[S6]at this
def SX(nt:Nat)(s:AS)(X:aX)(T:AS->aX->Prop):Prop:= ∀M N a w,Fits M N s nt a w->c9 M N s.nx s.h X w->
 ∃b d t Y,fO M N s.nx s.h X w b d t.nx t.h Y w∧Fits b d t nt a w∧c9 b d t.nx t.h Y w∧T t Y
theorem FT{c:Code}{T:AS->aX->Prop}(h:SX nt s X T)(S: ∀t Y,T t Y->GX P nt (.code c::k) Q t Y):GX P nt (.code c::k) Q s X:=by
 intro M N a w J Z;obtain⟨M',N',t,Y,B,F,G,I⟩:=h M N a w J Z;exact AX.then (S t Y I) F G fun e a2 w2 x y s2 A u b j d=>⟨x,y,s2,A,B.trans u,b,j,d⟩
theorem xE{all rest:List Oper}{T:AS->aX->Prop}(h:SX nt s X T)(B: ∀t Y,T t Y->GX P nt (.ops all rest::k) Q t Y):GX P nt (.ops all rest::k) Q s X:=by
 intro M N a w A F;obtain⟨b,d,t,Y,j,u,x,y⟩:=h M N a w A F;exact eO (fun _ _ _=>my.later j) rest a w (B t Y y b d a w u x)
theorem K5{L:List Nat}{t:AS}(hw:Wk s.nx L s t):SX nt s X (fun x Y=>x=t∧Y=X):=by
 intro M N a w j u;obtain⟨b,d⟩:=fO.frame (hw.ext (.refl M N (· <s.nx) s.h w)) u;exact⟨M,_,t,X,b,hw.fits j,d,rfl,rfl⟩
theorem OF{body:Code}{σ:Type 1}(I:σ->AS)(J:σ->aX)(μ:σ->Nat)(i0:σ)(L0:List Nat)(h0:Wk s.nx L0 s (I i0))(y:J i0=X)(j0: ∀i,(J i).still)
  (A: ∀i,GX P nt (.code body:: .lp (fun t Y=> ∃j L,μ j<μ i∧Wk s.nx L t (I j)∧Y=J j)::k) Q (I i) (J i)):GX P nt (.code (.loop body)::k) Q s X:=by
 intro S Z a0 w0 d0 g0
 let K:Act->World->Nat->Prop:=fun a w n=> ∃i M N,μ i=n∧fO S Z s.nx s.h X w0 M N (I i).nx (I i).h (J i) w∧Fits M N (I i) nt a w∧c9 M N (I i).nx (I i).h (J i) w
 have c0:K a0 w0 (μ i0):=by
  obtain⟨h1,h2⟩:=fO.frame (h0.ext (.refl S Z (· <s.nx) s.h w0)) g0;exact⟨i0,S,Z.comp (sg s.nx L0),rfl,by rw[y];exact h1,h0.fits d0,by rw[y];exact h2⟩
 refine wp_loop (fun a w=> ∃n,K a w n) (fun a w=>by classical exact if h: ∃n,K a w n then Tb (cY h) else 0) ⟨_,c0⟩ fun a w b0=>?_;obtain⟨⟨i,M,N,x,hx,hf,hs⟩,e0⟩:=Sr (cY b0);refine AX.then (A i) hf hs fun e a' w' M' N' s' X' F B u hr=>?_
 cases e with
 |normal=>
  obtain⟨j,L,hj,G,hY⟩:=hr
  have y:K a' w' (μ j):=⟨j,M',N'.comp (sg s.nx L),rfl,by
   have d:=hx.trans F;rw[hY]at d u;refine⟨d.os,d.tape,d.output,d.size,d.fG,d.pb,d.gK,⟨fun i x=>?_,fun i x=>?_⟩,by have:=G.nx;omega,fun b hb=>d.fV b ?_⟩
   .simp only[Nm.comp,fC x];exact d.nm.aB i x
   .simp only[Nm.comp,fC x];exact d.nm.ext i x
   .rcases hb with⟨i,o,h3,h4,h5⟩|hb
    .obtain⟨⟨o',g1,g2⟩,_⟩:=ic G.h i o h3;exact .inl ⟨_,o',g1,g2.real ((AO.b3 _ o).trans h4),h5⟩
    .exact .inr hb,G.fits B,by
   rw[hY]at u;refine⟨u.real,u.obj,u.dT,fun b o e hb i p x f0=>?_,fun b i e hb=>?_⟩
   .obtain⟨⟨o',g1,g2⟩,_⟩:=ic G.h i p x;exact u.apart b o e hb _ o' g1 (g2.real ((AO.b3 _ p).trans f0))
   .exact absurd hb (j0 j b i e)⟩
  refine⟨⟨_,y⟩,?_⟩;simp only[dif_pos b0,dif_pos (⟨_,y⟩: ∃n,K a' w' n)];rw[<-x];exact T3 ((Sr (cY (⟨_,y⟩: ∃n,K a' w' n))).2 _ y) hj
 |_=>exact⟨M',N',s',X',hx.trans F,B,u,hr⟩
theorem ED{b e d:Nat}{o:AO}{p:PV}(hX:X b=io (.obj o e))(hp: ∀(M:Mem) (N:Nm) (U:Nat->Prop) (x:Value),U s.nx->N.aB s.nx=b->N.ext s.nx=e->VR M N U (s.f.get d) x->VR M N U p x):
  SX nt s X (fun t Y=>t=⟨(d,p)::s.f,(s.nx,io o)::s.h,s.nx+1⟩∧Y=X.put b (.out s.nx e)):=by
 intro M N a w hf hs;obtain⟨f,h,n⟩:=s
 let N':Nm:=⟨fun j=>if j=n then b else N.aB j,fun j=>if j=n then e else N.ext j⟩
 have A:N.agree N' (· <n):=⟨fun i I=>be (TJ I),fun i I=>be (TJ I)⟩
 have J:N'.aB n=b:=am D;have a0:N'.ext n=e:=am D;have hU: ∀i,i<n->i<n+1:=fun i I=>Sb I;have c0:=hs.real b o e hX
 have F: ∀i q,AH.get ((n,io o)::h) i=io q->(i=n∧q=o)∨(i<n∧h.get i=io q):=by
  intro i q I;rw[AH.ay]at I;split at I
  .rename_i b0;exact .inl ⟨b0,by simpa using I.symm⟩
  .exact .inr ⟨hf.1.used i q I,I⟩
 refine⟨M,N',⟨(d,p)::f,(n,io o)::h,n+1⟩,X.put b (.out n e),⟨rfl,rfl,rfl,QH _,fun _ _ _=>rfl,.refl _,fun c m S h2=>by simp[S]at h2,A,Tr _,fun c B=> .inr ?_⟩,⟨⟨hf.1.dT,fun i q I=>?_,fun i q I hr=>?_,fun i q I=>?_,fun i j q r I hj hq hr he=>?_⟩,fun k=>?_,hf.2.2⟩,⟨fun c q g B=>?_,fun c q g B=>?_,fun c q g B=>?_,fun c q g B i r I hr=>?_,fun c i g B=>?_⟩,rfl,rfl⟩
 .rcases B with⟨i,q,S,h2,h3⟩|⟨q,g,S⟩
  .rcases F i q S with⟨rfl,rfl⟩|⟨Z,h5⟩
   .rw[J]at h3;subst h3;exact .inr ⟨_,_,hX⟩
   .exact .inl ⟨i,q,h5,h2,by rw[<-h3];exact(A.aB i Z).symm⟩
  .by_cases u:c=b
   .subst u;rw[aX.eW]at S;cases S
   .rw[aX.iP _ _ u]at S;exact .inr ⟨q,g,S⟩
 .rcases F i q I with⟨rfl,rfl⟩|⟨Z,_⟩
  .exact RX _
  .exact hU i Z
 .rcases F i q I with⟨rfl,rfl⟩|⟨Z,h5⟩
  .rw[J];exact hs.dT _ _ _ hX
  .rw[A.aB i Z];exact hf.1.dW i q h5 hr
 .rcases F i q I with⟨rfl,rfl⟩|⟨Z,h5⟩
  .exact OR.move (G:=fun _=>True) (.refl _) (AO.all_true _) (fun p y _ hv=>hv.Ca (.refl _)) J a0 D (hs.obj b _ e hX)
  .exact(hf.1.obj i q h5).mono (.refl _) A hU Z D
 .rcases F i q I with⟨rfl,rfl⟩|⟨Z,h5⟩<;>rcases F j r hj with⟨h6,rfl⟩|⟨h6,h7⟩
  .exact h6.symm
  .rw[J,A.aB j h6]at he;exact absurd he.symm (hs.apart b _ e hX j r h7 hr)
  .subst h6;rw[J,A.aB i Z]at he;exact absurd he (hs.apart b _ e hX i q h5 hq)
  .rw[A.aB i Z,A.aB j h6]at he;exact hf.1.inj i j q r h5 h7 hq hr he
 .rw[AF.ay];split
  .rename_i hk;subst hk;exact hp M N' _ _ (RX _) J a0 ((hf.2.1 k).mono (.refl _) A hU)
  .exact(hf.2.1 k).mono (.refl _) A hU
 all_goals by_cases u:c=b
 .subst u;rw[aX.eW]at B;cases B
 .rw[aX.iP _ _ u]at B;exact hs.real c q g B
 .subst u;rw[aX.eW]at B;cases B
 .rw[aX.iP _ _ u]at B;exact hs.obj c q g B
 .subst u;rw[aX.eW]at B;cases B
 .rw[aX.iP _ _ u]at B;exact hs.dT c q g B
 .subst u;rw[aX.eW]at B;cases B
 .rw[aX.iP _ _ u]at B;rcases F i r I with⟨rfl,rfl⟩|⟨Z,h5⟩
  .rw[J];exact fun e=>u e.symm
  .rw[A.aB i Z];exact hs.apart c q g B i r h5 hr
 .subst u;rw[aX.eW]at B;cases B;exact⟨RX _,J,a0⟩
 .rw[aX.iP _ _ u]at B;obtain⟨S,h2,h3⟩:=hs.out c i g B;exact⟨hU i S,(A.aB i S).trans h2,(A.ext i S).trans h3⟩
theorem Dc{b e d len cap sz:Nat}{o:AO}(u:X b=io (.obj o e))(hd:s.f.get d= .iv (.v (.slice (io ⟨b,0,jp⟩) len cap)))(h0:0<len)(y:len<=cap)(hc:cap<=maxLen)(he:cap*sz=e):
  SX nt s X (fun t Y=>t=⟨(d,.sl s.nx 0 len sz)::s.f,(s.nx,io o)::s.h,s.nx+1⟩∧Y=X.put b (.out s.nx e)):=
 ED u fun M N U x hu hb hE j=>by
  rw[hd]at j;cases j with
  |iv _ _ hi=>cases hi with
   |v=>
    have:=VR.sl (M:=M) (N:=N) s.nx 0 len sz cap hu h0 y hc (by rw[hE,Q9];exact he);rw[hb,Sy]at this;exact this
theorem Dd{b e d:Nat}{o:AO}(u:X b=io (.obj o e))(hd:s.f.get d= .iv (.v (.map (io b)))):
  SX nt s X (fun t Y=>t=⟨(d,.mp s.nx)::s.f,(s.nx,io o)::s.h,s.nx+1⟩∧Y=X.put b (.out s.nx e)):=
 ED u fun M N U x hu hb hE j=>by
  rw[hd]at j;cases j with
  |iv _ _ hi=>cases hi with
   |v=>
    have:=VR.mp (M:=M) (N:=N) s.nx hu;rw[hb]at this;exact this
theorem Rel.drop{M:Mem}{N:Nm}{n:Nat}{h:AH}{w:World}(hr:Rel M N (· <n) h w)(i:Nat):Rel M N (· <n) ((i,jp)::h) w:=
 ⟨hr.dT,fun j o b=>hr.used j o (bg j o b).2,fun j o b d=>hr.dW j o (bg j o b).2 d,fun j o b=>hr.obj j o (bg j o b).2,fun j l o p b x y A u=>hr.inj j l o p (bg j o b).2 (bg l p x).2 y A u⟩
theorem lK{M:Mem}{N:Nm}{n:Nat}{h:AH}{w:World}(hr:Rel M N (· <n) h w)(hs:c9 M N n h X w){i:Nat}{o:AO}(hi:h.get i=io o)(y:o.real=kw)(I:o.all PV.flat):
  fO M N n h X w M N n ((i,jp)::h) (X.put (N.aB i) (.obj o (N.ext i))) w∧c9 M N n ((i,jp)::h) (X.put (N.aB i) (.obj o (N.ext i))) w:=by
 refine⟨⟨rfl,rfl,rfl,QH _,fun _ _ _=>rfl,.refl _,fun b c A B=>by simp[A]at B,.refl _ _,QH _,fun c u=> .inr ?_⟩,fun c q g u=>?_,fun c q g u=>?_,fun c q g u=>?_,fun c q g u j r J F=>?_,fun c j g u=>?_⟩
 .rcases u with⟨j,q,A,B,S⟩|⟨q,g,A⟩
  .exact .inl ⟨j,q,(bg j q A).2,B,S⟩
  .by_cases d:c=N.aB i
   .exact .inl ⟨i,o,hi,y,d.symm⟩
   .rw[aX.iP _ _ d]at A;exact .inr ⟨q,g,A⟩
 all_goals by_cases d:c=N.aB i
 .subst d;rw[aX.eW]at u;cases u;exact y
 .rw[aX.iP _ _ d]at u;exact hs.real c q g u
 .subst d;rw[aX.eW]at u;cases u;exact OR.move (G:=PV.flat) (N:=N) (i:=i) (.refl _) I (fun p x Y Z=>Z.Is Y) D D D (hr.obj i o hi)
 .rw[aX.iP _ _ d]at u;exact hs.obj c q g u
 .subst d;exact hr.dW i o hi y
 .rw[aX.iP _ _ d]at u;exact hs.dT c q g u
 .obtain⟨A,B⟩:=bg j r J;subst d;exact fun e=>A (hr.inj j i r o B hi F y e)
 .rw[aX.iP _ _ d]at u;exact hs.apart c q g u j r (bg j r J).2 F
 .subst d;rw[aX.eW]at u;cases u
 .rw[aX.iP _ _ d]at u;exact hs.out c j g u
theorem Oe{b e i:Nat}{o:AO}(B:X b=io (.out i e))(hi:s.h.get i=io o)(u:o.real=kw)(j:o.all PV.flat):
  SX nt s X (fun t Y=>t=⟨s.f,(i,jp)::s.h,s.nx⟩∧Y=X.put b (.obj o e)):=by
 intro M N a w d x;obtain⟨F,rfl,rfl⟩:=x.out b i e B;obtain⟨y,A⟩:=lK d.1 x hi u j;exact⟨M,N,⟨s.f,(i,jp)::s.h,s.nx⟩,_,y,⟨d.1.drop i,d.2⟩,A,rfl,rfl⟩
theorem EE{i d:Nat}{o:AO}{G:Nat->Nat->PV->Prop}(F:X.still)(hi:s.h.get i=io o)(A:o.real=kw)(B:o.all PV.flat)
  (hq: ∀(M:Mem) (N:Nm) (U:Nat->Prop) (x:Value),VR M N U (s.f.get d) x-> ∃q,G (N.aB i) (N.ext i) q∧VR M N U q x):
  SX nt s X (fun t Y=> ∃b e q,X b=jp∧G b e q∧t=⟨(d,q)::s.f,(i,jp)::s.h,s.nx⟩∧Y=X.put b (.obj o e)):=by
 intro M N a w u I;obtain⟨J,S⟩:=lK u.1 I hi A B;obtain⟨q,Z,h5⟩:=hq M N _ _ (u.2.1 d);refine⟨M,N,⟨(d,q)::s.f,(i,jp)::s.h,s.nx⟩,_,J,⟨u.1.drop i,fun k=>?_,u.2.2⟩,S,N.aB i,N.ext i,q,?_,Z,rfl,rfl⟩
 .rw[AF.ay];split
  .rename_i hk;subst hk;exact h5
  .exact u.2.1 k
 .cases hx:X (N.aB i) with
  |none=>rfl
  |some y=>
   cases y with
   |obj p g=>exact absurd D (I.apart _ p g hx i o hi A)
   |out j g=>exact absurd hx (F _ _ _)
theorem vt{i d len sz:Nat}{o:AO}(y:X.still)(hi:s.h.get i=io o)(u:o.real=kw)(j:o.all PV.flat)(hd:s.f.get d= .sl i 0 len sz)(h0:0<len):
  SX nt s X (fun t Y=> ∃b e a0,X b=jp∧len<=a0∧a0<=maxLen∧a0*sz=e∧t=⟨(d,.iv (.v (.slice (io ⟨b,0,jp⟩) len a0)))::s.f,(i,jp)::s.h,s.nx⟩∧Y=X.put b (.obj o e)):=by
 intro M N a w hf hs
 obtain⟨B,F,t,Y,I,J,S,b,e,q,Z,⟨a0,h5,h6,h7,rfl⟩,h8,h9⟩:=EE (G:=fun b e q=> ∃a0,len<=a0∧a0<=maxLen∧a0*sz=e∧q= .iv (.v (.slice (io ⟨b,0,jp⟩) len a0))) (d:=d) y hi u j (fun M N U x A=>by
  rw[hd]at A;cases A with
  |sl _ _ _ _ a0 hu h0 hl hc he=>exact⟨_,⟨a0,hl,hc,by rw[Q9]at he;exact he,rfl⟩,by rw[Sy];exact .iv _ _ (.v _)⟩
  |mE=>exact absurd h0 (TE _)) M N a w hf hs
 exact⟨B,F,t,Y,I,J,S,b,e,a0,Z,h5,h6,h7,h8,h9⟩
theorem De{i d:Nat}{o:AO}(y:X.still)(hi:s.h.get i=io o)(u:o.real=kw)(j:o.all PV.flat)(hd:s.f.get d= .mp i):
  SX nt s X (fun t Y=> ∃b e,X b=jp∧t=⟨(d,.iv (.v (.map (io b))))::s.f,(i,jp)::s.h,s.nx⟩∧Y=X.put b (.obj o e)):=by
 intro M N a w hf hs
 obtain⟨B,F,t,Y,I,J,S,b,e,q,Z,rfl,h8,h9⟩:=EE (G:=fun b e q=>q= .iv (.v (.map (io b)))) (d:=d) y hi u j (fun M N U x A=>by
  rw[hd]at A;cases A with
  |mp _ hu=>exact⟨_,rfl,.iv _ _ (.v _)⟩) M N a w hf hs
 exact⟨B,F,t,Y,I,J,S,b,e,Z,h8,h9⟩
inductive Up (X:aX):Value->IV->Prop
 | row (b len cap sz e:Nat) (es:List (List PV)) (el:Nat->List IV) (hX:X b=io (.obj (.row sz es) e)) (hn:len=es.length) (hl:len<=cap) (hc:cap<=maxLen) (hel: ∀k e,es[k]? =io e->e=(el k).map .iv):
   Up X (.slice (io ⟨b,0,jp⟩) len cap) (.c5 sz len el)
 |map {V:Type} (b e:Nat) (kc:KC) (ev:V->IV) (z:V) (zv:Value) (dv:PV->V) (m:List (kc.K×V)) (hX:X b=io (.obj (.map kc ev z zv dv m) e)):Up X (.map (io b)) (.du kc ev z zv m)
 |fg {V:Type} (b e:Nat) (kc:KC) (ev:V->IV) (z:V) (zv:Value) (hX:X b=io (.obj .fg e)) (hz: ∀M,IR M (ev z) zv):Up X (.map (io b)) (.du kc ev z zv [])
 |Ou (y:Value):Up X y (.v y)
 |nil (sz:Nat) (el:Nat->List IV) (a:Option Addr) (cap:Nat):Up X (.slice a 0 cap) (.c5 sz 0 el)
theorem EP{M:Mem}{N:Nm}{n:Nat}{h:AH}{w:World}(hr:Rel M N (· <n) h w)(hs:c9 M N n h X w):
  ∃u:Mem,M.le u∧fO M N n h X w u N n h aX.nil w∧Rel u N (· <n) h w∧ ∀y p,Up X y p->IR u p y:=by
 let u:Mem:=⟨fun b=>match X b with
  |some (.obj _ _)=>(match w.heap[b]? with|some (.cells c _ _)=>io (.cells c)|some (.map es I)=>io (.map es I)|_=>jp)
  |_=>M.fn b,fun b c hb=>by
   have:=M.Ju b c hb;cases d:X b with
   |none=>simpa using this
   |some y=>cases y with
    |obj o e=>exact absurd (this.symm.trans (hs.dT b o e d)) (by simp)
    |out i e=>simpa using this⟩
 have x: ∀b,(∀o e,X b≠io (.obj o e))->u b=M b:=fun b hb=>by
  show(match X b with|some (.obj _ _)=>_|_=>M.fn b)=M.fn b;cases d:X b with
  |none=>rfl
  |some y=>cases y with
   |obj o e=>exact absurd d (hb o e)
   |out i e=>rfl
 have F: ∀b o e,X b=io (.obj o e)->u b=(match w.heap[b]? with|some (.cells c _ _)=>io (MB.cells c)|some (.map es I)=>io (MB.map es I)|_=>jp):=fun b o e hb=>by
  show(match X b with|some (.obj _ _)=>_|_=>M.fn b)=_;rw[hb]
 have A:M.le u:=fun b c hb=>by
  rw[x b fun o e d=>absurd (hb.symm.trans (hs.dT b o e d)) (by simp)];exact hb
 refine⟨u,A,⟨rfl,rfl,rfl,QH _,fun _ _ _=>rfl,A,fun b c Y G=>?_,.refl _ _,QH _,fun c J=> .inr ?_⟩,⟨fun b c hb=>?_,hr.used,fun i o hi c0=>?_,fun i o hi=>(hr.obj i o hi).mono A (.refl _ _) (fun _ h=>h) (hr.used i o hi) D,hr.inj⟩,fun y p hu=>?_⟩
 .cases d:X b with
  |none=>rw[x b (by simp[d]),Y]at G;cases G
  |some y=>cases y with
   |obj o e=>exact .inr (.inr ⟨o,e,d⟩)
   |out i e=>rw[x b (by simp[d]),Y]at G;cases G
 .rcases J with J|⟨o,e,J⟩
  .exact .inl J
  .cases J
 .cases d:X b with
  |none=>rw[x b (by simp[d])]at hb;exact hr.dT b c hb
  |some y=>cases y with
   |out i e=>rw[x b (by simp[d])]at hb;exact hr.dT b c hb
   |obj o e=>
    rw[F b o e d]at hb;split at hb
    .rename_i hh;cases hb;exact⟨_,_,hh⟩
    .rename_i hh;cases hb;exact hh
    .cases hb
 .rw[x _ fun q e d=>hs.apart _ q e d i o hi c0 D];exact hr.dW i o hi c0
 .cases hu with
  |Ou=>exact .v _
  |nil=>exact .iA _ _ _ _
  |fg b e kc ev z zv hX hz=>
   have Y:=hs.obj b _ e hX;have G:u b=io (.map #[] 0):=by rw[F b _ e hX];rw[show w.heap[b]? =io (.map #[] 0) from Y]
   exact .du _ _ _ _ _ b #[] 0 G D (by simp) (by simp) (hz u) (by simp) (by simp)
  |map b e kc ev z zv dv m hX=>
   obtain⟨ents,I,Y,G,h3⟩:=hs.obj b _ e hX;have h4:u b=io (.map ents I):=by rw[F b _ e hX];rw[show w.heap[b]? =io (.map ents I) from Y]
   have h5:=G.mono A;exact .du _ _ _ _ _ b ents I h4 h5.size h5.key h5.val (h3.mono A) h5.inj h5.lt
  |row b len cap sz e es el hX hn hl J hel=>
   rcases hs.obj b _ e hX with h0|⟨h0,c,T,g1,g2,g3,g4,g5⟩
   .have:=hs.real b _ e hX;rw[h0]at this;cases this
   have h4:u b=io (.cells c):=by rw[F b _ e hX];rw[show w.heap[b]? =io (.cells c T (0,0)) from g1]
   have B: ∀o,u.cell b o=c[o]? :=fun o=>by simp only[Mem.cell,h4]
   have b0: ∀k,k<len-> ∃e,es[k]? =io e:=fun k S=>⟨_,Qy (by omega)⟩
   have d0: ∀k j,k<len->j<sz->k*sz+j<c.size:=fun k j S hj=>by
    have:(k+1)*sz<=es.length*sz:=Rb _ (by omega);rw[RJ]at this;omega
   refine .c5 _ _ _ _ _ _ hl J (fun k S=>?_) (fun k j S hj=>?_) (fun k j p S hp=>?_)
   .obtain⟨e,Z⟩:=b0 k S;have:=g4 _ e Z;rw[hel _ e Z]at this;simpa using this
   .rw[B,Q9];simp[d0 k j S hj]
   .obtain⟨e,Z⟩:=b0 k S;have h9:=g4 _ e Z;have a0:=hel _ e Z;have hj:j<sz:=by rw[<-h9,a0,Rv];exact(Qw.1 hp).1
    have:=g5 _ e j (.iv p) Z (by rw[a0,QC,hp];rfl);rw[B,Q9];rw[Qt]at this;cases this with
    |iv _ _ h=>exact h.mono A
def Up1(X:aX)(p b:PV):Prop:=b=p∨ ∃y q,p= .iv (.v y)∧b= .iv q∧Up X y q
inductive J0 (X:aX):AO->AO->Prop
 | row (sz:Nat) (es es':List (List PV)) (hl:es'.length=es.length) (h: ∀(k:Nat) (e':List PV),es'[k]? =io e'-> ∃e,es[k]? =io e∧e'.length=e.length∧ ∀(j:Nat) (p':PV),e'[j]? =io p'-> ∃p,e[j]? =io p∧Up1 X p p'):
   J0 X (.row sz es) (.row sz es')
 | map {V V':Type} (kc:KC) (ev:V->IV) (z:V) (zv:Value) (dv:PV->V) (m:List (kc.K×V)) (ev':V'->IV) (z':V') (dv':PV->V') (m':List (kc.K×V')) (hl:m'.length=m.length)
   (h: ∀(j:Nat) (x':kc.K×V'),m'[j]? =io x'-> ∃x y,m[j]? =io x∧x'.1=x.1∧ev x.2= .v y∧Up X y (ev' x'.2)) (hz: ∀M,IR M (ev' z') zv):J0 X (.map kc ev z zv dv m) (.map kc ev' z' zv dv' m')
theorem J0.or{M A:Mem}{N:Nm}{U:Nat->Prop}{w:World}{i:Nat}{o o':AO}(S:M.le A)(hu: ∀y p,Up X y p->IR A p y)(h:J0 X o o')(ho:OR M N U w i o):OR A N U w i o':=by
 have hv: ∀p F x,Up1 X p F->VR M N U p x->VR A N U F x:=by
  rintro p F x (rfl|⟨y,q,rfl,rfl,B⟩) hx
  .exact hx.mono S (.refl _ _) (fun _ h=>h)
  .cases hx with
   |iv _ _ hi=>cases hi with
    |v=>exact .iv _ _ (hu _ _ B)
 cases h with
 |row sz es es' hl h=>
  rcases ho with rfl|⟨h0,c,T,g1,g2,g3,g4,g5⟩
  .left;exact S1.1 hl
  .refine .inr ⟨h0,c,T,g1,g2,by rw[hl];exact g3,fun k G d=>?_,fun k G j F d Y=>?_⟩
   .obtain⟨e,b,I,_⟩:=h k G d;rw[I];exact g4 k e b
   .obtain⟨e,b,_,B⟩:=h k G d;obtain⟨p,J,h5⟩:=B j F Y;exact hv _ _ _ h5 (g5 k e j p b J)
 |map kc ev z zv dv m ev' z' dv' m' hl h hz=>
  obtain⟨ents,cl,g1,g2,g3⟩:=ho;refine⟨ents,cl,g1,⟨g2.size.trans hl.symm,fun j Z u=>?_,fun j Z u=>?_,g2.inj,g2.lt⟩,hz A⟩
  .obtain⟨x,y,b,I,_⟩:=h j Z u;rw[I];exact g2.key j x b
  .obtain⟨x,y,b,_,B,J⟩:=h j Z u;have:=g2.val j x b;rw[B]at this;generalize(ents.getD j co).val=v at this ⊢;cases this with
   |v=>exact hu _ _ J
theorem J0.real{o o':AO}(h:J0 X o o'):o'.real=o.real:=by
 cases h with
 |row sz es es' hl h=>cases es<;>cases es'<;>first|rfl|simp at hl
 |map=>rfl
theorem EF{i:Nat}{o o':AO}(hi:s.h.get i=io o)(hu:J0 X o o'):SX nt s X (fun t Y=>t=⟨s.f,(i,io o')::s.h,s.nx⟩∧Y=aX.nil):=by
 intro M N a w A hs;obtain⟨J,I,y,B,S⟩:=EP A.1 hs;have d: ∀j q,AH.get ((i,io o')::s.h) j=io q-> ∃x,s.h.get j=io x∧q.real=x.real∧(q=x∨(j=i∧q=o')):=by
  intro j q u;rw[AH.ay]at u;split at u
  .rename_i F;subst F;cases u;exact⟨o,hi,hu.real,.inr ⟨rfl,rfl⟩⟩
  .exact⟨q,u,rfl,.inl D⟩
 refine⟨J,N,⟨s.f,(i,io o')::s.h,s.nx⟩,aX.nil,?_,⟨⟨B.dT,fun j q u=>?_,fun j q u G=>?_,fun j q u=>?_,fun j k q r u hk hq G Z=>?_⟩,fun k=>(A.2.1 k).mono I (.refl _ _) (fun _ h=>h),A.2.2⟩,.nil ..,rfl,rfl⟩
 .exact⟨y.os,y.tape,y.output,y.size,y.fG,y.pb,y.gK,y.nm,y.ule,fun b hb=> .inr<|by
   rcases hb with⟨j,q,g1,g2,g3⟩|⟨q,g,g1⟩
   .obtain⟨x,g4,g5,_⟩:=d j q g1;exact .inl ⟨j,x,g4,g5▸g2,g3⟩
   .cases g1⟩
 .obtain⟨x,g4,_⟩:=d j q u;exact A.1.used j x g4
 .obtain⟨x,g4,g5,_⟩:=d j q u;exact B.dW j x g4 (g5▸G)
 .obtain⟨x,g4,_,rfl|⟨rfl,rfl⟩⟩:=d j q u
  .exact B.obj j _ g4
  .exact hu.or I S (A.1.obj j o hi)
 .obtain⟨x,g4,g5,_⟩:=d j q u;obtain⟨r',g6,g7,_⟩:=d k r hk;exact A.1.inj j k x r' g4 g6 (g5▸hq) (g7▸G) Z
end
section
variable {P:Program}
section
variable {nt:Nat} {Q:XQ} {k0:List XI} {s:AS} {X:aX}
theorem BN{t:AS}(hh:t.h=s.h)(hn:t.nx=s.nx)(h: ∀M N a w,Fits M N s nt a w->c9 M N s.nx s.h X w->FR M N (· <s.nx) t.f a.tmps):SX nt s X (fun j Y=>j=t∧Y=X):=by
 intro M N a w b d;obtain⟨f,u,n⟩:=t;simp only at hh hn;subst hh;subst hn;exact⟨M,N,⟨f,s.h,s.nx⟩,X,.refl _ _ _ _ _ _,⟨b.1,h M N a w b d,b.2.2⟩,d,rfl,rfl⟩
theorem K6{d:Nat}{p:PV}(b:aC (s.f.get d) p):SX nt s X (fun t Y=>t=⟨(d,p)::s.f,s.h,s.nx⟩∧Y=X):=
 BN D D fun M N a w j _ k=>by
  rw[AF.ay];split
  .rename_i u;subst u;exact b M N _ _ (j.2.1 k)
  .exact j.2.1 k
theorem EG{b j e d:Nat}{p:PV}(F:X b=io (.out j e))(hp: ∀(M:Mem) (N:Nm) (U:Nat->Prop) (x:Value),U j->N.aB j=b->N.ext j=e->VR M N U (s.f.get d) x->VR M N U p x):
  SX nt s X (fun t Y=>t=⟨(d,p)::s.f,s.h,s.nx⟩∧Y=X):=
 BN D D fun M N a w u I k=>by
  obtain⟨y,A,B⟩:=I.out b j e F;rw[AF.ay];split
  .rename_i G;subst G;exact hp M N _ _ y A B (u.2.1 k)
  .exact u.2.1 k
theorem AU{M:Mem}{N:Nm}{n:Nat}{h:AH}{w:World}(hr:Rel M N (· <n) h w){i:Nat}{o o':AO}(hi:h.get i=io o)(A:o'.real=kw->o.real=kw)(ho:OR M N (· <n) w i o'):Rel M N (· <n) ((i,io o')::h) w:=by
 have b: ∀j q,AH.get ((i,io o')::h) j=io q->(j=i∧q=o')∨(j≠i∧h.get j=io q):=by
  intro j q u;rw[AH.ay]at u;split at u
  .rename_i y;exact .inl ⟨y,by simpa using u.symm⟩
  .rename_i y;exact .inr ⟨y,u⟩
 refine⟨hr.dT,fun j q u=>?_,fun j q u d=>?_,fun j q u=>?_,fun j k q r u I G d F=>?_⟩
 .rcases b j q u with⟨rfl,rfl⟩|⟨_,x⟩
  .exact hr.used j o hi
  .exact hr.used j q x
 .rcases b j q u with⟨rfl,rfl⟩|⟨_,x⟩
  .exact hr.dW j o hi (A d)
  .exact hr.dW j q x d
 .rcases b j q u with⟨rfl,rfl⟩|⟨_,x⟩
  .exact ho
  .exact hr.obj j q x
 .rcases b j q u with⟨rfl,rfl⟩|⟨g1,x⟩<;>rcases b k r I with⟨g2,B⟩|⟨g2,B⟩
  .exact g2.symm
  .exact hr.inj j k o r hi B (A G) d F
  .subst g2;subst B;exact hr.inj j k q o x hi G (A d) F
  .exact hr.inj j k q r x B G d F
theorem L8{i:Nat}{o o':AO}(hi:s.h.get i=io o)(A:o'.real=kw->o.real=kw)(ho: ∀M N w,c9 M N s.nx s.h X w->OR M N (· <s.nx) w i o->OR M N (· <s.nx) w i o'):
  SX nt s X (fun t Y=>t=⟨s.f,(i,io o')::s.h,s.nx⟩∧Y=X):=by
 intro M N a w I x;have d: ∀j q,AH.get ((i,io o')::s.h) j=io q->q.real=kw-> ∃y,s.h.get j=io y∧y.real=kw:=by
  intro j q u B;rw[AH.ay]at u;split at u
  .rename_i J;subst J;cases u;exact⟨o,hi,A B⟩
  .exact⟨q,u,B⟩
 refine⟨M,N,⟨s.f,(i,io o')::s.h,s.nx⟩,X,⟨rfl,rfl,rfl,QH _,fun _ _ _=>rfl,.refl _,fun b c F G=>by simp[F]at G,.refl _ _,QH _,fun b hb=> .inr ?_⟩,
  ⟨AU I.1 hi A (ho M N w x (I.1.obj i o hi)),I.2⟩,⟨x.real,x.obj,x.dT,fun b p e hb j q u B=>?_,x.out⟩,rfl,rfl⟩
 .rcases hb with⟨j,q,F,G,S⟩|hb
  .obtain⟨y,g1,g2⟩:=d j q F G;exact .inl ⟨j,y,g1,g2,S⟩
  .exact .inr hb
 .obtain⟨y,g1,g2⟩:=d j q u B;exact x.apart b p e hb j y g1 g2
theorem L9{i:Nat}{o o':AO}(hi:s.h.get i=io o)(b:eJ o o'):SX nt s X (fun t Y=>t=⟨s.f,(i,io o')::s.h,s.nx⟩∧Y=X):=
 L8 hi b.1 fun M N w _ h=>b.2 M N _ w i h
end
end
section
variable {P:Program} {nt:Nat} {Q:XQ} {k0:List XI} {s:AS} {X:aX} {ty:Ty}
theorem Bc{c:Code}{R j:AS->aX->Prop}(h: ∀t Y,R t Y->j t Y)(hg:GX P nt (.code c:: .lp R::k0) Q s X):GX P nt (.code c:: .lp j::k0) Q s X:=by
 intro M N a w B F;refine AX.then hg B F fun e I J x y s' A G b d u=>⟨x,y,s',A,G,b,d,?_⟩
 cases e with
 |normal=>exact h _ _ u
 |_=>exact u
theorem rh{body:Code}{σ:Type 1}(i0 n:Nat)(u:i0<=n)(I:Nat->σ->AS)(J:Nat->σ->aX->Prop)(A:σ)(B:List Nat)(S:J i0 A X)(h0:Wk s.nx B s (I i0 A))(y: ∀i x Y,J i x Y->Y.still)
  (b: ∀i x Y,i<=n->J i x Y->GX P nt (.code body:: .lp (fun t j=>i<n∧ ∃d L,J (i+1) d j∧Wk s.nx L t (I (i+1) d))::k0) Q (I i x) Y):GX P nt (.code (.loop body)::k0) Q s X:=by
 refine OF (σ:={p:Nat×σ×aX//p.1<=n∧J p.1 p.2.1 p.2.2}) (fun p=>I p.1.1 p.1.2.1) (fun p=>p.1.2.2) (fun p=>n-p.1.1) ⟨(i0,A,X),u,S⟩ B h0 D (fun p=>y _ _ _ p.2.2) fun p=>?_;obtain⟨⟨i,x,Y⟩,F,G⟩:=p;refine Bc ?_ (b i x Y F G)
 rintro t j ⟨h3,d,L,h4,h5⟩;exact⟨⟨(i+1,d,j),h3,h4⟩,L,by show n-(i+1)<n-i;omega,h5,rfl⟩
end
section
variable {P:Program} {nt:Nat} {Q:XQ} {k:List XI} {s:AS} {X:aX}
def Pp(P:Program)(nt:Nat)(k:List XI)(Q:XQ)(X:aX)(n0:Nat)(t:AS):AQ:=fun e u=>(e= .normal∧ ∃L,Wk n0 L u t)∨(e≠ .normal∧kx P nt k Q e u X)
theorem kv{n0:Nat}{t u:AS}(L:List Nat)(h:Wk n0 L u t):Pp P nt k Q X n0 t .normal u:= .inl ⟨rfl,L,h⟩
theorem ph{c:Code}(t:AS)(h1:GO P nt [.code c] (Pp P nt k Q X s.nx t) s)(F:GX P nt k Q t X):GX P nt (.code c::k) Q s X:=by
 intro M N a w G x;refine AW.then h1 G fun e I J j B u A b d=>?_;rcases d with⟨rfl,L,y⟩|⟨_,d⟩
 .obtain⟨g1,g2⟩:=fO.frame (y.ext A) x;exact⟨j,_,t,X,g1,y.fits b,g2,F⟩
 .obtain⟨g1,g2⟩:=fO.frame A x;exact⟨j,B,u,X,g1,b,g2,d⟩
theorem uh{c:Code}(n:Nat)(t:AS)(A:c=ES (pJ n c) (l0 n c))(h1:GO P nt ((pJ n c).map KI.code) (Pp P nt k Q X s.nx t) s)(h2:GX P nt (.code (l0 n c)::k) Q t X):GX P nt (.code c::k) Q s X:=by
 intro M N a w hf hs;rw[A];have key: ∀(l:List Code) (u:AS) F I S B,Ext M N (· <s.nx) s.h w F I (· <u.nx) u.h B->Fits F I u nt S B->
   kp P nt (l.map KI.code) (Pp P nt k Q X s.nx t) .normal u->(ES l (l0 n c)).wp P (my nt M N s X w (kx P nt k Q)) S B:=by
  intro l
  induction l with
  |nil=>
   intro u F I S B Y y hk;rcases hk with⟨_,L,hw⟩|⟨he,_⟩
   .obtain⟨g1,g2⟩:=fO.frame (hw.ext Y) hs;exact AX.then h2 (hw.fits y) g2 fun e a2 w2 G J Z X2 x b a0 j=>⟨G,J,Z,X2,g1.trans x,b,a0,j⟩
   .exact absurd D he
  |cons d l ih=>
   intro u F I S B Y y hk;refine wp_seq (AW.then hk y fun e a2 w2 G J Z x b j=>?_);cases e with
   |normal=>exact ih Z G J a2 w2 (Y.trans x) b j
   |_=>
    rcases xB (l:=l) (by simp) j with⟨he,_⟩|⟨_,hq⟩
    .cases he
    .obtain⟨g1,g2⟩:=fO.frame (Y.trans x) hs;exact⟨G,J,Z,X,g1,b,g2,hq⟩
 exact key _ s M N a w (.refl _ _ _ _ _) hf h1
def aX.drop(X:aX)(b:Nat):aX:=fun c=>if c=b then jp else X c
theorem Df(b:Nat):SX nt s X (fun t Y=>t=s∧Y=X.drop b):=by
 intro M N a w B u;have h: ∀c y,X.drop b c=io y->X c=io y:=fun c y j=>by
  unfold aX.drop at j;split at j
  .cases j
  .exact j
 refine⟨M,N,s,X.drop b,⟨rfl,rfl,rfl,QH _,fun _ _ _=>rfl,.refl _,fun c d x A=>by simp[x]at A,.refl _ _,QH _,fun c j=> .inr ?_⟩,B,⟨fun c o e j=>u.real c o e (h c _ j),fun c o e j=>u.obj c o e (h c _ j),fun c o e j=>u.dT c o e (h c _ j),fun c o e j=>u.apart c o e (h c _ j),fun c i e j=>u.out c i e (h c _ j)⟩,rfl,rfl⟩;rcases j with j|⟨o,e,j⟩
 .exact .inl j
 .exact .inr ⟨o,e,h c _ j⟩
end
structure BX where
 M:Mem
 N:Nm
 n:Nat
 h:AH
 X:aX
 w:World
def Pa(nt:Nat)(B:BX)(R:XQ):Exit->Act->World->Prop:=fun e x u=>
 ∃b d s' j,fO B.M B.N B.n B.h B.X B.w b d s'.nx s'.h j u∧Fits b d s' nt x u∧c9 b d s'.nx s'.h j u∧R e s' j
def yh(P:Program)(nt:Nat)(all:List Oper)(todo pend:List (Nat×Oper))(R:XQ)(s:AS)(X:aX):Prop:=
 Region.noSelect all.toArray=kw->fm 0 all=kw->gI P nt all->(∀x∈todo,aF x.2=lc)-> ∀(B:BX) (b:Bs) M N listed a w fuel,fO B.M B.N B.n B.h B.X B.w M N s.nx s.h X w->c9 M N s.nx s.h X w->
  lF P nt all todo pend b M N s listed a w->listed.toList.count lc<=fuel->wpAny P .any all.toArray (Pa nt B R) fuel listed a w
section
variable {P:Program} {ty:Ty} {nt:Nat} {all:List Oper} {todo pend:List (Nat×Oper)} {Q R:XQ} {k:List XI} {s:AS} {X:aX}
theorem CI(h:R .normal s X):yh P nt all [] pend R s X:=by
 intro A hd x Z B B0 M N listed a w b hB J
 induction b generalizing listed a with
 |zero=>
  intro j Y;have d: ∀i,listed.getD i kw=kw:=fun i=>by
   cases hx:listed.getD i kw with
   |true=>rfl
   |false=>have:=lx hx;omega
  exact⟨tT d,M,N,s,X,hB,j.done d,J,h⟩
 |succ b ih=>
  intro j Y;refine⟨fun hr=>⟨M,N,s,X,hB,j.done (jx j.size hd hr),J,h⟩,fun i u=>?_⟩;obtain⟨hu,o,I,_⟩:=mem_ready.1 u;have F:all[i]? =io o:=by simpa using I
  rcases j.xR i o F hu with hm|hm
  .cases hm
  .obtain⟨v,hv,y⟩:=j.take A x hm u;refine wpOp_of_stOp (K:=fun G=>G=a.put o.dst v) (fun G S=>?_) (hv.stOp I D);subst S;exact ih _ _ y (by have:=cJ hu;omega)
theorem ux{i:Nat}{o:Oper}{s':AS}(F:(i,o)∈todo)(G:aF o=lc)(I: ∀x∈todo,waits o x.1=lc)(j:vj all pend o=kw)(he:s'.h=s.h∧s'.nx=s.nx)
  (hy: ∀M N b w,Fits M N s nt b w-> ∃v,YieldsAt P all.toArray w o v b∧Fits M N s' nt (b.put o.dst v) w) (h:yh P nt all (todo.filter fun x=>!Q6 x.1 i) ((i,o)::pend) R s' X):yh P nt all todo pend R s X:=by
 intro y hd A u B J M N listed a w d hB Z Y S;exact h y hd A (fun x hx=>u x (Rn.1 hx).1) B J M N listed a w d (by rw[he.1,he.2];exact hB) (by rw[he.1,he.2];exact Z) (Y.read y F G I j he hy) S
theorem nB{T:AS->aX->Prop}(h:SX nt s X T)(hk: ∀t Y,T t Y->yh P nt all todo pend R t Y):yh P nt all todo pend R s X:=by
 intro J hd G A B S M N listed a w u hB hs d hc;obtain⟨b,hb,hr⟩:=d.ap;obtain⟨Z,N',t,Y,h1,h2,h3,h4⟩:=h M N b w hb hs;obtain⟨bl,I,_⟩:=d.er;have F: ∀x∈todo,listed.getD x.1 kw=kw->False:=fun x j y=>by
  have:=(I x j y).alloc;rw[A x j]at this;cases this
 exact hk t Y h4 J hd G A B S Z N' listed a w u (hB.trans h1) h3 ⟨d.size,d.tl,d.pl,d.dj,d.xR,d.pw,d.pp,d.pa,⟨bl,fun x j y=>(F x j y).elim,fun x j _ _ y=>(F x j y).elim⟩,b,h2,hr⟩ hc
theorem JB{j:Nat}{o:Oper}{T:AS->Prop}(hrd:eG todo=[(j,o)])(hg:cf nt all s.f o=io kw)(hpb:gT all pend o=kw)(hE:nA todo [j]=kw)(k0:OT P nt o s T)
  (h: ∀s',T s'->(∀x∈a8 pend o,fP P nt all s' x.2)∧yh P nt all (todo.filter fun x=>!Q6 x.1 j) (a8 pend o) R s' X):yh P nt all todo pend R s X:=by
 have e0:(j,o)∈eG todo:=by rw[hrd];simp
 obtain⟨F,h4⟩:=Rn.1 e0;simp only[Rw,Rq,RD]at h4;intro g0 hd Z f0 B B0 M N listed a w u hB hs
 induction u generalizing listed a w with
 |zero=>
  intro S hc;obtain⟨bl,c0,_⟩:=S.er;have q0:listed.getD j kw=lc:=by
   cases hl:listed.getD j kw with
   |false=>rfl
   |true=>have:=(c0 _ F hl).alloc;simp only at this;rw[h4.1]at this;cases this
  have:=lx q0;omega
 |succ u ih=>
  intro S hc;obtain⟨bl,c0,r0⟩:=S.er;have Y: ∀x∈todo,aF x.2=lc->listed.getD x.1 kw=lc:=fun x A G=>by
   cases hl:listed.getD x.1 kw with
   |false=>rfl
   |true=>have:=(c0 x A hl).alloc;rw[G]at this;cases this
  refine⟨fun hr=>?_,fun i d0=>?_⟩
  .have:=jx S.size hd hr j;rw[Y _ F h4.1]at this;cases this
  obtain⟨hu,q,hq,b0⟩:=mem_ready.1 d0;have j0:all[i]? =io q:=by simpa using hq
  rcases S.xR i q j0 hu with hm|hm
  .have n0:i=j:=by
    have:=Q7.1 hE _ hm;simp only[R9,RR,Q5,Rw]at this;rcases this with h1|h1|⟨y,hy,h0,h1⟩
    .simpa using h1
    .rw[f0 _ hm]at h1;cases h1
    .obtain⟨e,he,hb,o0⟩:=eQ h1;have:=b0 e he hb;rw[o0,jW (Y y hy h0)]at this;cases this
   subst n0;have p0:q=o:=by
    have:=S.tl _ F;simp only at this;rw[j0]at this;exact RC this
   subst p0;obtain⟨b,hb,a0,i0,hnew⟩:=S.eff g0 hd Z F (fun x A G=>by rw[f0 x A]at G;cases G) hpb d0 hu;unfold wpOp;simp only[hq];rw[am (by rw[i0];exact di hg hb)];refine .inl (BD (K':=fun a' w'=> ∃I J s',Ext M N (· <s.nx) s.h w I J (· <s'.nx) s'.h w'∧Fits I J s' nt a' w'∧T s') a0 ?_ ?_ (k0 M N b w hb _ _ fun I J s' a' w' A hf hr=>⟨I,J,s',A,hf,hr⟩))
   .rintro d w' ⟨I,J,s',_,hf,_⟩;have:=hf.2.2.1;rw[jd]at this;cases this
   .rintro v w' ⟨I,J,s',A,hf,hr⟩;obtain⟨h5,h6⟩:=h s' hr;obtain⟨g1,g2⟩:=fO.frame A hs;exact h6 g0 hd Z (fun x A=>f0 x (Rn.1 A).1) B B0 I J _ _ w' u (hB.trans g1) g2 (hnew v I J s' w' A hf h5) (by have:=cJ hu;omega)
  .obtain⟨v,hv,m0⟩:=S.take g0 Z hm d0;refine wpOp_of_stOp (K:=fun a'=>a'=a.put q.dst v) (fun a' ha=>?_) (hv.stOp hq D);subst ha;exact ih _ _ _ hB hs m0 (by have:=cJ hu;omega)
theorem FU{id:Nat}{ops:Array Oper}(hm:P.follows .mixedOrders=kw)(hns:qW ops.toList=kw)(hd:fm 0 ops.toList=kw)(d:ops.toList.all (fun o=>!aF o)=kw)(h:yh P nt ops.toList (fc 0 ops.toList) [] (kx P nt k Q) s X):GX P nt (.code (.region id ops kw)::k) Q s X:=by
 intro M N a w J Y;refine wp_region_any hm ?_;have B:=J.drew;have d: ∀o∈ops.toList,aF o=lc:=fun o A=>by simpa using Q7.1 d o A
 have j: ∀x∈fc 0 ops.toList,ops.toList[x.1]? =io x.2:=fun x b=>by
  obtain⟨_,I⟩:=(gx _ 0 x.1 x.2).1 b;simpa using I
 have F: ∀i,i<ops.size->(Sj ops.size lc).getD i kw=lc:=fun i S=>by simp[Qt,S]
 have y: ∀x∈fc 0 ops.toList,(Sj ops.size lc).getD x.1 kw=kw->False:=fun x b u=>by
  have:x.1<ops.size:=by simpa using(Qw.1 (j x b)).1
  rw[F _ this]at u;cases u
 have:=h (vM hns) hd (fun i o A G=>by rw[d o (Rk A)]at G;cases G) (fun x b=>d _ (Rk (j x b))) ⟨M,N,s.nx,s.h,X,w⟩ ⟨M,N,s.nx,s.h,w⟩ M N (Sj ops.size lc) a {w with drawn:=w.drawn+1} ops.size fO.drew Y.drew
  ⟨by simp,j,fun _ b=>(nomatch b),fun _ b=>(nomatch b),fun i o A _=> .inl ((gx _ 0 i o).2 ⟨QN _,by simpa using A⟩),Tl,fun _ b=>(nomatch b),fun _ b=>(nomatch b),
   ⟨fun _=>0,fun x b u=>(y x b u).elim,fun x b _ _ u=>(y x b u).elim⟩,⟨a,B,rfl,rfl,fun _ _ _=>rfl,fun _ b=>(nomatch b)⟩⟩ (by simp)
 rw[R6]at this;exact this
def Lm(ty:Ty)(nt:Nat)(all:List Oper):Nat->List (Nat×Oper)->List (Nat×Oper)->AS->Prop->Prop×List (Nat×Oper)×List (Nat×Oper)×AS
 |0,todo,pend,s,C=>(C,todo,pend,s)
 |n+1,todo,pend,s,C=>match kg ty nt s all todo pend todo with
  |some (.read i o p C')=>match putDst nt o p s with
   |none=>(C,todo,pend,s)
   |some s'=>match xp o.op with
    |true=>Lm ty nt all n (todo.filter fun x=>!Q6 x.1 i) ((i,o)::pend) s' (C∧C')
    |false=>Lm ty nt all n (todo.filter fun x=>!Q6 x.1 i) ((i,o)::pend) s' C
  |some (.skip i o)=>Lm ty nt all n (todo.filter fun x=>!Q6 x.1 i) ((i,o)::pend) (fD o s) C
  |_=>(C,todo,pend,s)
theorem xO(u:bT P ty): ∀{n:Nat} {todo pend:List (Nat×Oper)} {s:AS} {C G:Prop} {j d:List (Nat×Oper)} {s':AS},Lm ty nt all n todo pend s C=(G,j,d,s')->G->C∧(yh P nt all j d R s' X->yh P nt all todo pend R s X)
 |0,todo,pend,s,C,G,j,d,s',h,hC=>by
  simp only[Lm,QI]at h;obtain⟨rfl,rfl,rfl,rfl⟩:=h;exact⟨hC,id⟩
 |n+1,todo,pend,s,C,G,j,d,s',h,hC=>by
  simp only[Lm]at h;split at h
  .rename_i i o p C1 A;obtain⟨g1,I,J,g2,g3,g4⟩:=(mP (fun _ h=>h)).1 A;split at h
   .simp only[QI]at h;obtain⟨rfl,rfl,rfl,rfl⟩:=h;exact⟨hC,id⟩
   .rename_i s1 Z;split at h
    .obtain⟨⟨B,h2⟩,F⟩:=xO u h hC;obtain⟨S,Y⟩:=jl u g4 h2 Z;exact⟨B,fun g=>ux g1 I J g3 S (fun M N b w y=>let ⟨x,f1,f2⟩:=Y M N b w y;⟨x,.inl ⟨di g2 y,.inl f1⟩,f2⟩) (F g)⟩
    .rename_i ho;obtain⟨B,F⟩:=xO u h hC;obtain⟨S,Y⟩:=jl u g4 (sJ g4 ho) Z;exact⟨B,fun g=>ux g1 I J g3 S (fun M N b w y=>let ⟨x,f1,f2⟩:=Y M N b w y;⟨x,.inl ⟨di g2 y,.inl f1⟩,f2⟩) (F g)⟩
  .rename_i i o A;obtain⟨g1,I,J,g2,g3⟩:=(mP (fun _ h=>h)).2 A;obtain⟨B,F⟩:=xO u h hC;exact⟨B,fun g=>ux g1 I J g3 (gi o s) (fun _ _ _ _ y=>⟨undef,.inr ⟨di g2 y,rfl⟩,y.skip o⟩) (F g)⟩
  .simp only[QI]at h;obtain⟨rfl,rfl,rfl,rfl⟩:=h;exact⟨hC,id⟩
def Pm(ty:Ty)(nt:Nat)(s:AS)(o:Oper):Option (Prop×AS):=match iO ty s o.op with
 |some (p,C)=>(putDst nt o p s).map fun s'=>(C,s')
 |none=>match Ek ty s o.op with
  |some (p,s1)=>(putDst nt o p s1).map fun s'=>(True,s')
  |none=>match Nv ty s o.op with
   |some (C,p,s1)=>(putDst nt o p s1).map fun s'=>(C,s')
   |none=>jp
theorem MZ(b:bT P ty){o:Oper}{C:Prop}{s':AS}(h:Pm ty nt s o=io (C,s'))(hC:C):OT P nt o s (fun t=>t=s'):=by
 unfold Pm at h;split at h
 .rename_i p y A;obtain⟨x,d,j⟩:=QF.1 h;cases j;exact qN b A hC d
 .split at h
  .rename_i p s0 u;obtain⟨x,d,j⟩:=QF.1 h;cases j;exact A7 b u d
  .split at h
   .rename_i y p s0 u;obtain⟨x,d,j⟩:=QF.1 h;cases j;exact Av b u hC d
   .cases h
theorem JA(j:bT P ty)(n:Nat){u:Prop}{d b:List (Nat×Oper)}{s':AS}(h:Lm ty nt all n todo pend s True=(u,d,b,s'))(hC:u)(g:yh P nt all d b R s' X):yh P nt all todo pend R s X:=(xO j h hC).2 g
theorem M3(b:bT P ty){j:Nat}{o:Oper}{C d:Prop}{s':AS}(hrd:eG todo=[(j,o)])(ho:Pm ty nt s o=io (C,s'))(hg:cf nt all s.f o=io kw)(hpb:gT all pend o=kw)(hE:nA todo [j]=kw)(hag:dH ty nt all s' (a8 pend o)=io d)
  (hC:C) (hC2:d) (h:yh P nt all (todo.filter fun x=>!Q6 x.1 j) (a8 pend o) R s' X):yh P nt all todo pend R s X:=
 JB hrd hg hpb hE (MZ b ho hC) fun t u=>by subst u;exact⟨dU b hag hC2,h⟩
end
section
variable {P:Program} {ty:Ty} {nt:Nat} {Q:AQ} {k:List KI} {s:AS}
theorem F1{all rest:List Oper}{o:Oper}{t e:TypeId}{x:Operand}{d sz n:Nat}{el:Nat->List IV}(hg:o.guard=jp)(ho:o.op= .binOp .eql t x (.const (.slice jp 0 0)) t)(hd:o.dst=io d)(A:QZ d nt=kw)(J:P.underlying t=io (.slice e))(S:ev s.f x= .iv (.c5 sz n el))
  (h: ∀b:Bool,(b=kw->n=0)->GO P nt (.ops all rest::k) Q ⟨(d,pB b)::s.f,s.h,s.nx⟩):GO P nt (.ops all (o::rest)::k) Q s:=by
 refine dp (R:=fun u=> ∃b:Bool,(b=kw->n=0)∧u=⟨(d,pB b)::s.f,s.h,s.nx⟩) hg (fun M N a w F K Z I=>?_) fun u ⟨b,hb,hu⟩=>by subst hu;exact h b hb
 have y:=aO F.2.1 x;rw[S]at y;generalize B:a.eval x=v at y;have j: ∀(a0:Option Addr) (l c:Nat),v= .slice a0 l c->(execOp a.eval o).run P w= .ok (.value (.bool a0.isNone)) w:=fun a0 l c y=>by
  unfold execOp;rw[ho];simp only[B,y];exact bt (Lib.run_eql_slice_nil w t e a0 l c 0 0 J)
 have b0: ∀(b:Bool),(b=kw->n=0)->(execOp a.eval o).run P w= .ok (.value (.bool b)) w->o.wp P a w K Z:=fun b hb G=>by
  unfold Oper.wp;rw[G];simp only[Oper.upon];rw[hd];exact I M N ⟨(d,pB b)::s.f,s.h,s.nx⟩ _ w (.refl _ _ _ _ _) (F.put d (pB b) (.bool b) (Qs A) (.iv _ _ (.v _))) ⟨b,hb,rfl⟩
 cases y with
 |iv _ _ hi=>cases hi with
  |iA _ _ a0 cap=>exact b0 _ (fun _=>rfl) (j a0 0 cap D)
  |c5 _ _ _ b off cap hn hc hl hm G=>exact b0 lc (fun h=>by cases h) (j _ n cap D)
theorem Js(j:bT P ty){all rest:List Oper}{o:Oper}{t u:TypeId}{d:Nat}(hg:o.guard=jp)(ho:o.op= .buildSlice t 0 #[])(hd:o.dst=io d)(y:QZ d nt=kw){e J:b7}(ht:ty t=io e)(hk:e.k= .aT (.slice u))(hu:ty u=io J)
  (h: ∀b:Nat,GO P nt (.ops all rest::k) Q ⟨(d,.iv (.v (.slice (io ⟨b,0,jp⟩) 0 0)))::s.f,(s.nx,io (.row 1 []))::s.h,s.nx+1⟩):GO P nt (.ops all (o::rest)::k) Q s:=by
 refine dp (R:=fun v=> ∃b:Nat,v=⟨(d,.iv (.v (.slice (io ⟨b,0,jp⟩) 0 0)))::s.f,(s.nx,io (.row 1 []))::s.h,s.nx+1⟩) hg (fun M N a w Y K Z B=>?_) fun v ⟨b,hv⟩=>by subst hv;exact h b
 have G:P.underlying t=io (.slice u):=by
  have:=(j t _ ht).2.1;rw[hk]at this;exact this.1
 obtain⟨I,h1,h2,h8,S,x⟩:=Y.1.alloc (.cells #[] u) (.row 1 []) 0 (fun I g1 g2 g3=> .inl D);have hr:(execOp a.eval o).run P w= .ok (.value (.slice (io ⟨w.heap.size,0,jp⟩) 0 0)) (w.alloc (.cells #[] u)):=by
  have F:=bC (w:=w) (j u J hu);simp[execOp,ho,Instr.buildSlice,Sem.run_bind,run_underlying G,Result.andThen_ok,F,newRow,Instr.fill,show Tz 0= #[] from rfl]
 have A:=dG Y S x;unfold Oper.wp;rw[hr];simp only[Oper.upon];rw[hd];exact B M I ⟨(d,.iv (.v (.slice (io ⟨w.heap.size,0,jp⟩) 0 0)))::s.f,(s.nx,io (.row 1 []))::s.h,s.nx+1⟩ _ _ S (Fits.put (s:=⟨s.f,(s.nx,io (.row 1 []))::s.h,s.nx+1⟩) A d _ _ (Qs y) (.iv _ _ (.v _))) ⟨_,rfl⟩
theorem Jt(d0:bT P ty){all rest:List Oper}{o:Oper}{x y:Operand}{t u:TypeId}(hg:o.guard=jp)(ho:o.op= .call ⟨.builtin .append, #[x,y], #[t,t]⟩){e d:b7}(ht:ty t=io e)(hk:e.k= .aT (.slice u))(hu:ty u=io d)
  {b0 sz:Nat} {news:List (List PV)} {py:PV} (hx:ev s.f x= .iv (.v (.slice (io ⟨b0,0,jp⟩) 0 0))) (v0:d.size=sz) (hz:d.zero.cells.size=sz) (t0:0<sz)
  (s0:ev s.f y=py) (hy:Src s.h sz py news) (hm:news≠ []) (hb:news.length*d.bytes<=140737488355328) (f1:news.length<=140737488355328)
  {s':AS} (hp:putDst nt o (.sl s.nx 0 news.length sz) (newObj s (.row sz news))=io s') (h:GO P nt (.ops all rest::k) Q s'):GO P nt (.ops all (o::rest)::k) Q s:=by
 refine dp hg (OT.value hp fun M N a w hf=>?_) fun v hv=>by subst hv;exact h
 subst v0;obtain⟨⟨ii,o0,p0,n0,q0⟩,_⟩:=d0 u _ hu;have w0:P.underlying t=io (.slice u):=by
  have:=(d0 t _ ht).2.1;rw[hk]at this;exact this.1
 have Z:=aO hf.2.1 x;rw[hx]at Z;have f0:=aO hf.2.1 y;rw[s0]at f0;obtain⟨F,ao,c,b1,G⟩:=hy.ok hf f0;have A: ∀v w',(Builtin.append_ #[t,t] o.type #[a.eval x,a.eval y]).run P w= .ok v w'->(execOp a.eval o).run P w= .ok (.value v) w':=by
  intro v w' h;simp only[execOp,ho,resolve];simp[invoke,builtin,h]
 rw[b1]at A;have a0: ∀I:List Value,I.length=news.flatten.length->I.length=news.length*ii.size:=fun I h=>by rw[h,jP F,p0]
 generalize a.eval x=vx at Z A;cases Z with
 |iv _ _ hi=>cases hi with
  |v=>
   obtain⟨b,d1,j0,J⟩:=G hm;subst j0;obtain⟨I,e0,x0,a1⟩:=sF (s:=s) J;have l1:0<news.length:=SD.2 hm;have S:=run_append_grow (P:=P) w t o.type u ii d.zero w0 o0 q0 ⟨b0,0,jp⟩ 0 0 [] (by simp) (fun j v hj=>by simp at hj) ⟨b,d1,jp⟩ news.length c I (a0 I e0) x0 (by omega) (by omega) (growslice_fits (by omega) (by rw[n0,Q9];exact hb));have Y:I.length=news.length*d.size:=by rw[e0,jP F]
   have c0:=grownCap_ge w (0+news.length) 0 u;have k0:=grownCap_le_maxLen w (0+news.length) 0 u (by simp only[maxLen];omega);generalize grownCap w (0+news.length) 0 u=cap at*
   generalize i0:([]:List Value).toArray++I.toArray++Builtin.zeroCells d.zero.cells (cap-(0+news.length))=z at S;have B:z.size=cap*d.size:=by
    rw[<-i0,SR,SR,size_zeroCells,hz];simp only[List.size_toArray,Y,R0,Q9] at*
    rw[<-RJ,Nat.add_sub_cancel' c0]
   obtain⟨N',h1,h2,h3,h4,h5⟩:=hf.1.drew.alloc (.cells z u) (.row d.size news) z.size (fun N' g1 g2 g3=>by
    refine .inr ⟨t0,z,u,by rw[g1];exact heap_alloc_new _ _,g2.symm,?_,fun k e he=>F _ e he,fun k e j p he hj=>?_⟩
    .rw[B];exact Rb _ (by omega)
    .have i1:j<d.size:=by rw[<-F _ e he];exact(Qw.1 hj).1
     have r0:k<news.length:=(Qw.1 he).1;have m0:=nk F _ e j p he hj;have k1:k*d.size+j<I.length:=by
      rw[Y];have:(k+1)*d.size<=news.length*d.size:=Rb _ r0;rw[RJ]at this;omega
     have:=a1 _ p m0;have e1:z.getD (k*d.size+j) undef=I.getD (k*d.size+j) undef:=by
      rw[<-i0,Qt,RB (by simp;omega),Qx];simp
     rw[e1];exact this.mono (.refl _) g3 (fun i hi=>by omega))
   have g0:=(Ext.drew (M:=M) (N:=N) (U:=(· <s.nx)) (h:=s.h) (w:=w)).trans h4;refine⟨_,_,M,N',A _ _ S,g0,⟨h5,hf.2.1.ext g0,hf.2.2⟩,?_⟩;have:=VR.sl (M:=M) (N:=N') (U:=(· <s.nx+1)) s.nx 0 (0+news.length) d.size cap (by omega) (by omega) c0 k0 (by rw[h2,B];simp);rw[h1,Sy,show PV.sl s.nx 0 (0+news.length) d.size=PV.sl s.nx 0 news.length d.size by rw[Q9]]at this;exact(show(newObj s (.row d.size news)).nx=s.nx+1 from rfl)▸this
theorem Gc(I:bT P ty){all rest:List Oper}{o:Oper}{x y:Operand}{t u:TypeId}(hg:o.guard=jp)(ho:o.op= .call ⟨.builtin .append, #[x,y], #[t,t]⟩){e Z:b7}(ht:ty t=io e)(hk:e.k= .aT (.slice u))(hu:ty u=io Z)
  {Y sz:Nat} (hx:ev s.f x= .iv (.v (.slice (io ⟨Y,0,jp⟩) 0 0))) (d0:Z.size=sz)
  {el:Nat->List IV} (c0:ev s.f y= .iv (.c5 sz 0 el)) {el2:Nat->List IV}
  {s':AS} (hp:putDst nt o (.iv (.c5 sz 0 el2)) s=io s') (h:GO P nt (.ops all rest::k) Q s'):GO P nt (.ops all (o::rest)::k) Q s:=by
 refine dp hg (OT.value hp fun M N a w hf=>?_) fun v hv=>by subst hv;exact h
 subst d0;obtain⟨⟨ii,a0,g0,f0,i0⟩,_⟩:=I u _ hu;have e0:P.underlying t=io (.slice u):=by
  have:=(I t _ ht).2.1;rw[hk]at this;exact this.1
 have A:=aO hf.2.1 x;rw[hx]at A;have B:=aO hf.2.1 y;rw[c0]at B;have d: ∀v F,(Builtin.append_ #[t,t] o.type #[a.eval x,a.eval y]).run P w= .ok v F->(execOp a.eval o).run P w= .ok (.value v) F:=by
  intro v F h;simp only[execOp,ho,resolve];simp[invoke,builtin,h]
 generalize a.eval x=vx at A d;generalize a.eval y=vy at B d;have j: ∀(G:Option Addr) (c:Nat),vx= .slice (io ⟨Y,0,jp⟩) 0 0->vy= .slice G 0 c-> ∃v F J S,(execOp a.eval o).run P w= .ok (.value v) F∧Ext M N (· <s.nx) s.h w J S (· <s.nx) s.h F∧Fits J S s nt a F∧VR J S (· <s.nx) (.iv (.c5 Z.size 0 el2)) v:=fun G c e1 e2=>by
  subst e1 e2;exact⟨_,w,M,N,d _ _ (iN (P:=P) (w:=w) t o.type u ii e0 a0 (io ⟨Y,0,jp⟩) 0 0 (QH _) G c (.inr ⟨_,_,rfl⟩)),.refl _ _ _ _ _,hf,.iv _ _ (.iA _ _ _ _)⟩
 cases A with
 |iv _ _ hi=>cases hi with
  |v=>cases B with
   |iv _ _ hi=>cases hi with
    |iA _ _ G c=>exact j G c D D
    |c5 _ _ _ b off cap=>exact j _ _ D D
end
end
end Go.Al
namespace Go.Proofs.YtflegjieadkonaaGreatDoor
open Go Go.Al Go.Proofs.Tryz
def ty2:b7:=⟨.aT (.int .i64),1,8,.int .i64 (0),lc⟩
theorem NJ:ak prog 2 ty2:=⟨ah (by kernel_rfl),⟨underlying2,rfl⟩,fun h=>nomatch h⟩
def ty3:b7:=⟨.aT (.int .i64),1,8,.int .i64 (0),lc⟩
theorem NI:ak prog 3 ty3:=⟨ah (by kernel_rfl),⟨underlying3,rfl⟩,fun h=>nomatch h⟩
def ty4:b7:=⟨.aT (.bool),1,1,.bool lc,lc⟩
theorem NH:ak prog 4 ty4:=⟨ah (by kernel_rfl),⟨underlying4,rfl⟩,fun h=>nomatch h⟩
def ty5:b7:=⟨.aT (.int .u8),1,1,.int .u8 (0),lc⟩
theorem NG:ak prog 5 ty5:=⟨ah (by kernel_rfl),⟨underlying5,rfl⟩,fun h=>nomatch h⟩
def ty9:b7:=⟨.aT (.string),1,16,.string Qz,lc⟩
theorem NF:ak prog 9 ty9:=⟨ah (by kernel_rfl),⟨underlying9,rfl⟩,fun h=>nomatch h⟩
def Oa:b7:=⟨.aT (.int .i32),1,4,.int .i32 (0),lc⟩
theorem LZ:ak prog 21 Oa:=⟨ah (by kernel_rfl),⟨underlying21,rfl⟩,fun h=>nomatch h⟩
def N9:b7:=⟨.aT (.slice 49),1,24,.slice jp 0 0,lc⟩
theorem LY:ak prog 22 N9:=⟨ah (by kernel_rfl),⟨underlying22,rfl⟩,fun h=>nomatch h⟩
def N8:b7:=⟨.aT (.slice 76),1,24,.slice jp 0 0,lc⟩
theorem LX:ak prog 23 N8:=⟨ah (by kernel_rfl),⟨underlying23,rfl⟩,fun h=>nomatch h⟩
def N7:b7:=⟨.df [(0,22),(1,23)],2,48,.agg #[.slice jp 0 0,.slice jp 0 0],kw⟩
theorem LW:ak prog 25 N7:=⟨ah (by kernel_rfl),⟨_,underlying25,rfl⟩,fun _=>cz underlying25 Tryz.stoodInHeld25 Tryz.eqGuardType25 (by decide)⟩
def N6:b7:=⟨.aT (.int .i64),1,8,.int .i64 (0),lc⟩
theorem LV:ak prog 33 N6:=⟨ah (by kernel_rfl),⟨underlying33,rfl⟩,fun h=>nomatch h⟩
def N5:b7:=⟨.df [(0,3),(1,3)],2,16,.agg #[.int .i64 (0),.int .i64 (0)],kw⟩
theorem LU:ak prog 35 N5:=⟨ah (by kernel_rfl),⟨_,underlying35,rfl⟩,fun _=>cz underlying35 Tryz.stoodInHeld35 Tryz.eqGuardType35 (by decide)⟩
def N4:b7:=⟨.df [(0,33),(1,35)],3,24,.agg #[.int .i64 (0),.int .i64 (0),.int .i64 (0)],kw⟩
theorem LS:ak prog 37 N4:=⟨ah (by kernel_rfl),⟨_,underlying37,rfl⟩,fun _=>cz underlying37 Tryz.stoodInHeld37 Tryz.eqGuardType37 (by decide)⟩
def N3:b7:=⟨.aT (.slice 3),1,24,.slice jp 0 0,lc⟩
theorem LR:ak prog 47 N3:=⟨ah (by kernel_rfl),⟨underlying47,rfl⟩,fun h=>nomatch h⟩
def NZ:b7:=⟨.df [(0,9),(1,47),(2,35)],4,56,.agg #[.string Qz,.slice jp 0 0,.int .i64 (0),.int .i64 (0)],kw⟩
theorem LQ:ak prog 49 NZ:=⟨ah (by kernel_rfl),⟨_,underlying49,rfl⟩,fun _=>cz underlying49 Tryz.stoodInHeld49 Tryz.eqGuardType49 (by decide)⟩
def NY:b7:=⟨.aT (.slice 9),1,24,.slice jp 0 0,lc⟩
theorem LP:ak prog 53 NY:=⟨ah (by kernel_rfl),⟨underlying53,rfl⟩,fun h=>nomatch h⟩
def NX:b7:=⟨.aT (.slice 119),1,24,.slice jp 0 0,lc⟩
theorem LO:ak prog 60 NX:=⟨ah (by kernel_rfl),⟨underlying60,rfl⟩,fun h=>nomatch h⟩
def NW:b7:=⟨.df [(0,3),(1,3),(2,53),(3,60)],4,64,.agg #[.int .i64 (0),.int .i64 (0),.slice jp 0 0,.slice jp 0 0],kw⟩
theorem LN:ak prog 62 NW:=⟨ah (by kernel_rfl),⟨_,underlying62,rfl⟩,fun _=>cz underlying62 Tryz.stoodInHeld62 Tryz.eqGuardType62 (by decide)⟩
def NV:b7:=⟨.aT (.slice 143),1,24,.slice jp 0 0,lc⟩
theorem LM:ak prog 71 NV:=⟨ah (by kernel_rfl),⟨underlying71,rfl⟩,fun h=>nomatch h⟩
def NU:b7:=⟨.df [(0,9),(1,71)],2,40,.agg #[.string Qz,.slice jp 0 0],kw⟩
theorem LL:ak prog 73 NU:=⟨ah (by kernel_rfl),⟨_,underlying73,rfl⟩,fun _=>cz underlying73 Tryz.stoodInHeld73 Tryz.eqGuardType73 (by decide)⟩
def NT:b7:=⟨.aT (.slice 105),1,24,.slice jp 0 0,lc⟩
theorem LK:ak prog 74 NT:=⟨ah (by kernel_rfl),⟨underlying74,rfl⟩,fun h=>nomatch h⟩
def NS:b7:=⟨.df [(0,73),(2,74),(3,35)],5,80,.agg #[.string Qz,.slice jp 0 0,.slice jp 0 0,.int .i64 (0),.int .i64 (0)],kw⟩
theorem LJ:ak prog 76 NS:=⟨ah (by kernel_rfl),⟨_,underlying76,rfl⟩,fun _=>cz underlying76 Tryz.stoodInHeld76 Tryz.eqGuardType76 (by decide)⟩
def NR:b7:=⟨.aT (.map 9 88),1,8,.map jp,lc⟩
theorem LI:ak prog 83 NR:=⟨ah (by kernel_rfl),⟨underlying83,rfl⟩,fun h=>nomatch h⟩
def NQ:b7:=⟨.aT (.map 9 88),1,8,.map jp,lc⟩
theorem LH:ak prog 84 NQ:=⟨ah (by kernel_rfl),⟨underlying84,rfl⟩,fun h=>nomatch h⟩
def NP:b7:=⟨.aT (.map 9 3),1,8,.map jp,lc⟩
theorem LG:ak prog 88 NP:=⟨ah (by kernel_rfl),⟨underlying88,rfl⟩,fun h=>nomatch h⟩
def NO:b7:=⟨.aT (.map 3 53),1,8,.map jp,lc⟩
theorem LF:ak prog 91 NO:=⟨ah (by kernel_rfl),⟨underlying91,rfl⟩,fun h=>nomatch h⟩
def NN:b7:=⟨.aT (.map 3 3),1,8,.map jp,lc⟩
theorem LD:ak prog 92 NN:=⟨ah (by kernel_rfl),⟨underlying92,rfl⟩,fun h=>nomatch h⟩
def NL:b7:=⟨.df [(0,3),(1,3),(2,9)],3,32,.agg #[.int .i64 (0),.int .i64 (0),.string Qz],kw⟩
theorem LC:ak prog 98 NL:=⟨ah (by kernel_rfl),⟨_,underlying98,rfl⟩,fun _=>cz underlying98 Tryz.stoodInHeld98 Tryz.eqGuardType98 (by decide)⟩
def NK:b7:=⟨.aT (.slice 101),1,24,.slice jp 0 0,lc⟩
theorem LB:ak prog 99 NK:=⟨ah (by kernel_rfl),⟨underlying99,rfl⟩,fun h=>nomatch h⟩
def K4:b7:=⟨.df [(0,3),(1,9),(2,98),(5,3),(6,99)],7,88,.agg #[.int .i64 (0),.string Qz,.int .i64 (0),.int .i64 (0),.string Qz,.int .i64 (0),.slice jp 0 0],kw⟩
theorem Ip:ak prog 101 K4:=⟨ah (by kernel_rfl),⟨_,underlying101,rfl⟩,fun _=>cz underlying101 Tryz.stoodInHeld101 Tryz.eqGuardType101 (by decide)⟩
def K3:b7:=⟨.df [(0,3),(1,9),(2,101),(9,74)],10,136,.agg #[.int .i64 (0),.string Qz,.int .i64 (0),.string Qz,.int .i64 (0),.int .i64 (0),.string Qz,.int .i64 (0),.slice jp 0 0,.slice jp 0 0],kw⟩
theorem Io:ak prog 103 K3:=⟨ah (by kernel_rfl),⟨_,underlying103,rfl⟩,fun _=>cz underlying103 Tryz.stoodInHeld103 Tryz.eqGuardType103 (by decide)⟩
def K2:b7:=⟨.df [(0,3),(1,73),(3,3),(4,101),(11,101),(18,103),(28,35)],30,384,.agg #[.int .i64 (0),.string Qz,.slice jp 0 0,.int .i64 (0),.int .i64 (0),.string Qz,.int .i64 (0),.int .i64 (0),.string Qz,.int .i64 (0),.slice jp 0 0,.int .i64 (0),.string Qz,.int .i64 (0),.int .i64 (0),.string Qz,.int .i64 (0),.slice jp 0 0,.int .i64 (0),.string Qz,.int .i64 (0),.string Qz,.int .i64 (0),.int .i64 (0),.string Qz,.int .i64 (0),.slice jp 0 0,.slice jp 0 0,.int .i64 (0),.int .i64 (0)],kw⟩
theorem Im:ak prog 105 K2:=⟨ah (by kernel_rfl),⟨_,underlying105,rfl⟩,fun _=>cz underlying105 Tryz.stoodInHeld105 Tryz.eqGuardType105 (by decide)⟩
def K1:b7:=⟨.df [(0,3),(1,3),(2,47),(3,9)],4,56,.agg #[.int .i64 (0),.int .i64 (0),.slice jp 0 0,.string Qz],kw⟩
theorem Il:ak prog 119 K1:=⟨ah (by kernel_rfl),⟨_,underlying119,rfl⟩,fun _=>cz underlying119 Tryz.stoodInHeld119 Tryz.eqGuardType119 (by decide)⟩
def K0:b7:=⟨.aT (.pointer 135),1,8,.pointer jp,lc⟩
theorem Ik:ak prog 124 K0:=⟨ah (by kernel_rfl),⟨underlying124,rfl⟩,fun h=>nomatch h⟩
def KZ:b7:=⟨.aT (.map 9 3),1,8,.map jp,lc⟩
theorem Ij:ak prog 133 KZ:=⟨ah (by kernel_rfl),⟨underlying133,rfl⟩,fun h=>nomatch h⟩
def KY:b7:=⟨.df [(0,76),(5,133),(6,91),(7,92)],8,104,.agg #[.string Qz,.slice jp 0 0,.slice jp 0 0,.int .i64 (0),.int .i64 (0),.map jp,.map jp,.map jp],kw⟩
theorem Ii:ak prog 135 KY:=⟨ah (by kernel_rfl),⟨_,underlying135,rfl⟩,fun _=>cz underlying135 Tryz.stoodInHeld135 Tryz.eqGuardType135 (by decide)⟩
def KX:b7:=⟨.df [(0,3),(1,9),(2,98)],5,56,.agg #[.int .i64 (0),.string Qz,.int .i64 (0),.int .i64 (0),.string Qz],kw⟩
theorem Ih:ak prog 143 KX:=⟨ah (by kernel_rfl),⟨_,underlying143,rfl⟩,fun _=>cz underlying143 Tryz.stoodInHeld143 Tryz.eqGuardType143 (by decide)⟩
def KW:b7:=⟨.aT (.func #[9] #[3] lc),1,8,.nilFunc,lc⟩
theorem Ig:ak prog 148 KW:=⟨ah (by kernel_rfl),⟨underlying148,rfl⟩,fun h=>nomatch h⟩
def KV:b7:=⟨.aT (.func #[37] #[4] lc),1,8,.nilFunc,lc⟩
theorem Ie:ak prog 151 KV:=⟨ah (by kernel_rfl),⟨underlying151,rfl⟩,fun h=>nomatch h⟩
def KU:b7:=⟨.aT (.func #[105] #[4] lc),1,8,.nilFunc,lc⟩
theorem Ic:ak prog 155 KU:=⟨ah (by kernel_rfl),⟨underlying155,rfl⟩,fun h=>nomatch h⟩
def KT:b7:=⟨.aT (.map 9 3),1,8,.map jp,lc⟩
theorem Ib:ak prog 164 KT:=⟨ah (by kernel_rfl),⟨underlying164,rfl⟩,fun h=>nomatch h⟩
def KS:b7:=⟨.df [(0,76),(5,164)],6,88,.agg #[.string Qz,.slice jp 0 0,.slice jp 0 0,.int .i64 (0),.int .i64 (0),.map jp],kw⟩
theorem Ia:ak prog 166 KS:=⟨ah (by kernel_rfl),⟨_,underlying166,rfl⟩,fun _=>cz underlying166 Tryz.stoodInHeld166 Tryz.eqGuardType166 (by decide)⟩
def KR:b7:=⟨.aT (.pointer 166),1,8,.pointer jp,lc⟩
theorem H9:ak prog 167 KR:=⟨ah (by kernel_rfl),⟨underlying167,rfl⟩,fun h=>nomatch h⟩
def KQ:b7:=⟨.aT (.slice 173),1,24,.slice jp 0 0,lc⟩
theorem H8:ak prog 169 KQ:=⟨ah (by kernel_rfl),⟨underlying169,rfl⟩,fun h=>nomatch h⟩
def KP:b7:=⟨.aT (.func #[124,3] #[119,4] lc),1,8,.nilFunc,lc⟩
theorem H7:ak prog 171 KP:=⟨ah (by kernel_rfl),⟨underlying171,rfl⟩,fun h=>nomatch h⟩
def KO:b7:=⟨.df [(0,3),(1,171)],2,16,.agg #[.int .i64 (0),.nilFunc],kw⟩
theorem H6:ak prog 173 KO:=⟨ah (by kernel_rfl),⟨_,underlying173,rfl⟩,fun _=>cz underlying173 Tryz.stoodInHeld173 Tryz.eqGuardType173 (by decide)⟩
def KN:b7:=⟨.aT (.int .u64),1,8,.int .u64 (0),lc⟩
theorem H5:ak prog 179 KN:=⟨ah (by kernel_rfl),⟨underlying179,rfl⟩,fun h=>nomatch h⟩
def KL:b7:=⟨.aT (.map 9 49),1,8,.map jp,lc⟩
theorem H4:ak prog 181 KL:=⟨ah (by kernel_rfl),⟨underlying181,rfl⟩,fun h=>nomatch h⟩
def KK:b7:=⟨.aT (.func #[101] #[4] lc),1,8,.nilFunc,lc⟩
theorem H3:ak prog 185 KK:=⟨ah (by kernel_rfl),⟨underlying185,rfl⟩,fun h=>nomatch h⟩
def KJ:b7:=⟨.aT (.func #[103] #[4] lc),1,8,.nilFunc,lc⟩
theorem H2:ak prog 186 KJ:=⟨ah (by kernel_rfl),⟨underlying186,rfl⟩,fun h=>nomatch h⟩
def KH:b7:=⟨.aT (.int .i64),1,8,.int .i64 (0),lc⟩
theorem H0:ak prog 195 KH:=⟨ah (by kernel_rfl),⟨underlying195,rfl⟩,fun h=>nomatch h⟩
def KG:b7:=⟨.aT (.int .u32),1,4,.int .u32 (0),lc⟩
theorem HZ:ak prog 203 KG:=⟨ah (by kernel_rfl),⟨underlying203,rfl⟩,fun h=>nomatch h⟩
def KF:b7:=⟨.aT (.int .u64),1,8,.int .u64 (0),lc⟩
theorem HY:ak prog 205 KF:=⟨ah (by kernel_rfl),⟨underlying205,rfl⟩,fun h=>nomatch h⟩
def KE:b7:=⟨.aT (.func #[3] #[4] lc),1,8,.nilFunc,lc⟩
theorem HX:ak prog 207 KE:=⟨ah (by kernel_rfl),⟨underlying207,rfl⟩,fun h=>nomatch h⟩
def KD:b7:=⟨.aT (.slice 73),1,24,.slice jp 0 0,lc⟩
theorem HW:ak prog 215 KD:=⟨ah (by kernel_rfl),⟨underlying215,rfl⟩,fun h=>nomatch h⟩
def KB:b7:=⟨.aT (.func #[73] #[4] lc),1,8,.nilFunc,lc⟩
theorem HV:ak prog 217 KB:=⟨ah (by kernel_rfl),⟨underlying217,rfl⟩,fun h=>nomatch h⟩
def KA:b7:=⟨.df [(0,33),(1,207)],2,16,.agg #[.int .i64 (0),.nilFunc],kw⟩
theorem HU:ak prog 218 KA:=⟨ah (by kernel_rfl),⟨_,underlying218,rfl⟩,fun _=>cz underlying218 Tryz.stoodInHeld218 Tryz.eqGuardType218 (by decide)⟩
def Kz:b7:=⟨.aT (.pointer 257),1,8,.pointer jp,lc⟩
theorem HT:ak prog 220 Kz:=⟨ah (by kernel_rfl),⟨underlying220,rfl⟩,fun h=>nomatch h⟩
def Ky:b7:=⟨.aT (.slice 218),1,24,.slice jp 0 0,lc⟩
theorem HS:ak prog 222 Ky:=⟨ah (by kernel_rfl),⟨underlying222,rfl⟩,fun h=>nomatch h⟩
def Kx:b7:=⟨.arr 2 101,14,176,.agg #[.int .i64 (0),.string Qz,.int .i64 (0),.int .i64 (0),.string Qz,.int .i64 (0),.slice jp 0 0,.int .i64 (0),.string Qz,.int .i64 (0),.int .i64 (0),.string Qz,.int .i64 (0),.slice jp 0 0],lc⟩
theorem HR:ak prog 232 Kx:=⟨ah (by kernel_rfl),underlying232,fun h=>nomatch h⟩
def Kw:b7:=⟨.aT (.int .u64),1,8,.int .u64 (0),lc⟩
theorem HQ:ak prog 233 Kw:=⟨ah (by kernel_rfl),⟨underlying233,rfl⟩,fun h=>nomatch h⟩
def Kv:b7:=⟨.aT (.pointer 3),1,8,.pointer jp,lc⟩
theorem HP:ak prog 237 Kv:=⟨ah (by kernel_rfl),⟨underlying237,rfl⟩,fun h=>nomatch h⟩
def Ku:b7:=⟨.aT (.pointer 247),1,8,.pointer jp,lc⟩
theorem HO:ak prog 241 Ku:=⟨ah (by kernel_rfl),⟨underlying241,rfl⟩,fun h=>nomatch h⟩
def Kt:b7:=⟨.aT (.pointer 245),1,8,.pointer jp,lc⟩
theorem HN:ak prog 242 Kt:=⟨ah (by kernel_rfl),⟨underlying242,rfl⟩,fun h=>nomatch h⟩
def Ks:b7:=⟨.aT (.slice 5),1,24,.slice jp 0 0,lc⟩
theorem HM:ak prog 243 Ks:=⟨ah (by kernel_rfl),⟨underlying243,rfl⟩,fun h=>nomatch h⟩
def Kr:b7:=⟨.df [(0,242),(1,243)],2,32,.agg #[.pointer jp,.slice jp 0 0],kw⟩
theorem HL:ak prog 245 Kr:=⟨ah (by kernel_rfl),⟨_,underlying245,rfl⟩,fun _=>cz underlying245 Tryz.stoodInHeld245 Tryz.eqGuardType245 (by decide)⟩
def Kq:b7:=⟨.df [(0,245),(2,4),(3,3)],4,48,.agg #[.pointer jp,.slice jp 0 0,.bool lc,.int .i64 (0)],kw⟩
theorem HK:ak prog 247 Kq:=⟨ah (by kernel_rfl),⟨_,underlying247,rfl⟩,fun _=>cz underlying247 Tryz.stoodInHeld247 Tryz.eqGuardType247 (by decide)⟩
def Kp:b7:=⟨.aT (.func #[143] #[4] lc),1,8,.nilFunc,lc⟩
theorem HJ:ak prog 252 Kp:=⟨ah (by kernel_rfl),⟨underlying252,rfl⟩,fun h=>nomatch h⟩
def Ko:b7:=⟨.aT (.map 263 263),1,8,.map jp,lc⟩
theorem HI:ak prog 253 Ko:=⟨ah (by kernel_rfl),⟨underlying253,rfl⟩,fun h=>nomatch h⟩
def Kn:b7:=⟨.aT (.map 263 3),1,8,.map jp,lc⟩
theorem HH:ak prog 254 Kn:=⟨ah (by kernel_rfl),⟨underlying254,rfl⟩,fun h=>nomatch h⟩
def Km:b7:=⟨.aT (.slice 265),1,24,.slice jp 0 0,lc⟩
theorem HG:ak prog 255 Km:=⟨ah (by kernel_rfl),⟨underlying255,rfl⟩,fun h=>nomatch h⟩
def Kl:b7:=⟨.df [(0,167),(1,253),(2,255),(3,254)],4,48,.agg #[.pointer jp,.map jp,.slice jp 0 0,.map jp],kw⟩
theorem HF:ak prog 257 Kl:=⟨ah (by kernel_rfl),⟨_,underlying257,rfl⟩,fun _=>cz underlying257 Tryz.stoodInHeld257 Tryz.eqGuardType257 (by decide)⟩
def Kk:b7:=⟨.df [(0,9),(1,3)],2,24,.agg #[.string Qz,.int .i64 (0)],kw⟩
theorem HE:ak prog 263 Kk:=⟨ah (by kernel_rfl),⟨_,underlying263,rfl⟩,fun _=>cz underlying263 Tryz.stoodInHeld263 Tryz.eqGuardType263 (by decide)⟩
def Kj:b7:=⟨.df [(0,3),(1,263),(3,3),(4,3)],5,48,.agg #[.int .i64 (0),.string Qz,.int .i64 (0),.int .i64 (0),.int .i64 (0)],kw⟩
theorem HD:ak prog 265 Kj:=⟨ah (by kernel_rfl),⟨_,underlying265,rfl⟩,fun _=>cz underlying265 Tryz.stoodInHeld265 Tryz.eqGuardType265 (by decide)⟩
def Ki:b7:=⟨.aT (.pointer 233),1,8,.pointer jp,lc⟩
theorem HC:ak prog 280 Ki:=⟨ah (by kernel_rfl),⟨underlying280,rfl⟩,fun h=>nomatch h⟩
def Kh:b7:=⟨.aT (.func #[21] #[4] lc),1,8,.nilFunc,lc⟩
theorem HB:ak prog 284 Kh:=⟨ah (by kernel_rfl),⟨underlying284,rfl⟩,fun h=>nomatch h⟩
def Kg:b7:=⟨.arr 7 9,7,112,.agg #[.string Qz,.string Qz,.string Qz,.string Qz,.string Qz,.string Qz,.string Qz],lc⟩
theorem HA:ak prog 289 Kg:=⟨ah (by kernel_rfl),underlying289,fun h=>nomatch h⟩
def Kf:b7:=⟨.aT (.pointer 5),1,8,.pointer jp,lc⟩
theorem Hz:ak prog 306 Kf:=⟨ah (by kernel_rfl),⟨underlying306,rfl⟩,fun h=>nomatch h⟩
def Ke:b7:=⟨.arr 5 9,5,80,.agg #[.string Qz,.string Qz,.string Qz,.string Qz,.string Qz],lc⟩
theorem Hy:ak prog 307 Ke:=⟨ah (by kernel_rfl),underlying307,fun h=>nomatch h⟩
def Kd:b7:=⟨.aT (.unsafePointer),1,8,.pointer jp,lc⟩
theorem Hx:ak prog 327 Kd:=⟨ah (by kernel_rfl),⟨underlying327,rfl⟩,fun h=>nomatch h⟩
def Kc:b7:=⟨.arr 24 5,24,24,.agg (.replicate 24 (.int .u8 (0))),lc⟩
theorem Hw:ak prog 337 Kc:=⟨ah (by kernel_rfl),underlying337,fun h=>nomatch h⟩
def Kb:b7:=⟨.arr 20 205,20,160,.agg (.replicate 20 (.int .u64 (0))),lc⟩
theorem Hv:ak prog 343 Kb:=⟨ah (by kernel_rfl),underlying343,fun h=>nomatch h⟩
def Ka:b7:=⟨.arr 65 5,65,65,.agg (.replicate 65 (.int .u8 (0))),lc⟩
theorem Hu:ak prog 344 Ka:=⟨ah (by kernel_rfl),underlying344,fun h=>nomatch h⟩
def J9:b7:=⟨.arr 32 5,32,32,.agg (.replicate 32 (.int .u8 (0))),lc⟩
theorem Ht:ak prog 345 J9:=⟨ah (by kernel_rfl),underlying345,fun h=>nomatch h⟩
def J8:b7:=⟨.arr 64 5,64,64,.agg (.replicate 64 (.int .u8 (0))),lc⟩
theorem Hs:ak prog 346 J8:=⟨ah (by kernel_rfl),underlying346,fun h=>nomatch h⟩
def Ew:TT:=(.node (.node (.node (.node (.node (.node (.node .leaf 2 ty2 .leaf) 3 ty3 .leaf) 4 ty4 (.node (.node .leaf 5 ty5 .leaf) 9 ty9 .leaf)) 21 Oa (.node (.node (.node .leaf 22 N9 .leaf) 23 N8 .leaf) 25 N7 (.node .leaf 33 N6 .leaf))) 35 N5 (.node (.node (.node (.node .leaf 37 N4 .leaf) 47 N3 .leaf) 49 NZ (.node (.node .leaf 53 NY .leaf) 60 NX .leaf)) 62 NW (.node (.node (.node .leaf 71 NV .leaf) 73 NU .leaf) 74 NT (.node .leaf 76 NS .leaf)))) 83 NR (.node (.node (.node (.node (.node .leaf 84 NQ .leaf) 88 NP .leaf) 91 NO (.node (.node .leaf 92 NN .leaf) 98 NL .leaf)) 99 NK (.node (.node (.node .leaf 101 K4 .leaf) 103 K3 .leaf) 105 K2 (.node .leaf 119 K1 .leaf))) 124 K0 (.node (.node (.node (.node .leaf 133 KZ .leaf) 135 KY .leaf) 143 KX (.node .leaf 148 KW .leaf)) 151 KV (.node (.node (.node .leaf 155 KU .leaf) 164 KT .leaf) 166 KS (.node .leaf 167 KR .leaf))))) 169 KQ (.node (.node (.node (.node (.node (.node .leaf 171 KP .leaf) 173 KO .leaf) 179 KN (.node (.node .leaf 181 KL .leaf) 185 KK .leaf)) 186 KJ (.node (.node (.node .leaf 195 KH .leaf) 203 KG .leaf) 205 KF (.node .leaf 207 KE .leaf))) 215 KD (.node (.node (.node (.node .leaf 217 KB .leaf) 218 KA .leaf) 220 Kz (.node .leaf 222 Ky .leaf)) 232 Kx (.node (.node (.node .leaf 233 Kw .leaf) 237 Kv .leaf) 241 Ku (.node .leaf 242 Kt .leaf)))) 243 Ks (.node (.node (.node (.node (.node .leaf 245 Kr .leaf) 247 Kq .leaf) 252 Kp (.node (.node .leaf 253 Ko .leaf) 254 Kn .leaf)) 255 Km (.node (.node (.node .leaf 257 Kl .leaf) 263 Kk .leaf) 265 Kj (.node .leaf 280 Ki .leaf))) 284 Kh (.node (.node (.node (.node .leaf 289 Kg .leaf) 306 Kf .leaf) 307 Ke (.node .leaf 327 Kd .leaf)) 337 Kc (.node (.node (.node .leaf 343 Kb .leaf) 344 Ka .leaf) 345 J9 (.node .leaf 346 J8 .leaf))))))
theorem Ax:Ew.Pr (ak prog):=⟨H8,⟨LI,⟨LU,⟨LZ,⟨NH,⟨NI,⟨NJ,ac,ac⟩,ac⟩,⟨NF,⟨NG,ac,ac⟩,ac⟩⟩,⟨LW,⟨LX,⟨LY,ac,ac⟩,ac⟩,⟨LV,ac,ac⟩⟩⟩,⟨LN,⟨LQ,⟨LR,⟨LS,ac,ac⟩,ac⟩,⟨LO,⟨LP,ac,ac⟩,ac⟩⟩,⟨LK,⟨LL,⟨LM,ac,ac⟩,ac⟩,⟨LJ,ac,ac⟩⟩⟩⟩,⟨Ik,⟨LB,⟨LF,⟨LG,⟨LH,ac,ac⟩,ac⟩,⟨LC,⟨LD,ac,ac⟩,ac⟩⟩,⟨Im,⟨Io,⟨Ip,ac,ac⟩,ac⟩,⟨Il,ac,ac⟩⟩⟩,⟨Ie,⟨Ih,⟨Ii,⟨Ij,ac,ac⟩,ac⟩,⟨Ig,ac,ac⟩⟩,⟨Ia,⟨Ib,⟨Ic,ac,ac⟩,ac⟩,⟨H9,ac,ac⟩⟩⟩⟩⟩,⟨HM,⟨HW,⟨H2,⟨H5,⟨H6,⟨H7,ac,ac⟩,ac⟩,⟨H3,⟨H4,ac,ac⟩,ac⟩⟩,⟨HY,⟨HZ,⟨H0,ac,ac⟩,ac⟩,⟨HX,ac,ac⟩⟩⟩,⟨HR,⟨HT,⟨HU,⟨HV,ac,ac⟩,ac⟩,⟨HS,ac,ac⟩⟩,⟨HO,⟨HP,⟨HQ,ac,ac⟩,ac⟩,⟨HN,ac,ac⟩⟩⟩⟩,⟨HB,⟨HG,⟨HJ,⟨HK,⟨HL,ac,ac⟩,ac⟩,⟨HH,⟨HI,ac,ac⟩,ac⟩⟩,⟨HD,⟨HE,⟨HF,ac,ac⟩,ac⟩,⟨HC,ac,ac⟩⟩⟩,⟨Hw,⟨Hy,⟨Hz,⟨HA,ac,ac⟩,ac⟩,⟨Hx,ac,ac⟩⟩,⟨Ht,⟨Hu,⟨Hv,ac,ac⟩,ac⟩,⟨Hs,ac,ac⟩⟩⟩⟩⟩⟩
def nP:Ty:=Ew.find
theorem ab:bT prog nP:=TT.uv Ax
theorem cW:prog.follows .mixedOrders=kw:=rfl
theorem mu{Q:AQ}{nt:Nat}{k:List KI}{s:AS}{C:Prop}{b:Nat}{st:Stop}(h:bw nP ⟨fun _=>jp,0,lc⟩ 400 nt k s True=io (C,b,st))(hC:C)(hg:eD prog b Q st):GO prog nt k Q s:=a7 cW ab 400 h hC hg
theorem gA{Q:AQ}{nt:Nat}{k:List KI}{s:AS}{C:Prop}{b:Nat}{st:Stop}(h:bw nP ⟨fun _=>jp,0,lc⟩ 400 nt k s True=io (C,b,st))(hg:eD prog b Q st)
  (hC:C:=by(repeat' (first|exact ac|exact rfl|exact aC.refl _|exact aC.bk (by assumption)|apply Rm))<;>first|omega|exact ec (fun _=>rfl) _|(simp only[QW];omega)|(simp;done)|(simp;omega)):GO prog nt k Q s:=a7 cW ab 400 h hC hg
theorem gM(N:Nat){Q:AQ}{nt:Nat}{k:List KI}{s:AS}{C:Prop}{b:Nat}{st:Stop}(h:bw nP ⟨fun _=>jp,0,lc⟩ N nt k s True=io (C,b,st))(hg:eD prog b Q st)
  (hC:C:=by(repeat' (first|exact ac|exact rfl|exact aC.refl _|exact aC.bk (by assumption)|apply Rm))<;>first|omega|exact ec (fun _=>rfl) _|(simp only[QW];omega)|(simp;done)|(simp;omega)):GO prog nt k Q s:=a7 cW ab N h hC hg
theorem zp{nt:Nat}{Q:AQ}{k:List KI}{s:AS}{all rest:List Oper}{o:Oper}{c:Call}{g:FuncId}{args:List PV}{r:PV}{s':AS}(hc:Al.Pure prog g args r)(h:GO prog nt (.ops all rest::k) Q s')(ho:o.op= .call c:=by exact rfl)(hg:o.guard=jp:=by exact rfl)(ha:bK s.f c=io (g,args):=by exact rfl)(b:bp 0 args=kw:=by exact rfl)(hr:r.low 0=kw:=by exact rfl)(hp:putDst nt o r s=io s':=by exact rfl):GO prog nt (.ops all (o::rest)::k) Q s:=dr hc ho hg ha b hr hp h
theorem zL{ty:Ty}{j:List ResultVar}{e:Exit}{s:AS}{r d:PV}(b:aC d r)(he:e= .normal∨e= .ret:=by first|exact .inr D|exact .inl D)(h:jw ty s j=io d:=by exact rfl):Ei ty j r e s:=jT he h b
theorem zq{nt:Nat}{Q:AQ}{k:List KI}{s:AS}{all rest:List Oper}{o:Oper}{c:Call}{g:FuncId}{asv args:List PV}{os:List AO}{r:PV}{u:AH}{x:Nat}{s':AS}(L:List Nat)(hc:bL prog g args os r u x)(h:GO prog nt (.ops all rest::k) Q s')(ho:o.op= .call c:=by exact rfl)(hg:o.guard=jp:=by exact rfl)(ha:bK s.f c=io (g,asv):=by exact rfl)(hn:cL L=kw:=by exact rfl)(y:L.all (fun j=>QZ j s.nx)=kw:=by exact rfl)(d:L.map s.h.get=os.map fun o=>io (o.cx (sig L s.nx)):=by exact rfl)(b:asv=dL (sig L s.nx) args:=by exact rfl)(hp:putDst nt o (r.cx (sig L s.nx)) (aE s L u x)=io s':=by exact rfl):GO prog nt (.ops all (o::rest)::k) Q s:=bc L hc ho hg ha hn y d b hp h
theorem zd{nt:Nat}{Q:AQ}{k:List KI}{s:AS}{all:List Oper}{todo pend:List (Nat×Oper)}{j:Nat}{o:Oper}{c:Call}{g:FuncId}{asv args:List PV}{os:List AO}{r:PV}{A:AH}{B:Nat}{s':AS}{y u:Prop}(L:List Nat)(hc:bL prog g args os r A B)(h:GO prog nt (.ct all (todo.filter fun x=>!Q6 x.1 j) (a8 pend o)::k) Q s')(hrd:eG todo=[(j,o)]:=by exact rfl)(ho:o.op= .call c:=by exact rfl)(ha:bK s.f c=io (g,asv):=by exact rfl)(hn:cL L=kw:=by exact rfl)(F:L.all (fun j=>QZ j s.nx)=kw:=by exact rfl)(d:L.map s.h.get=os.map fun o=>io (o.cx (sig L s.nx)):=by exact rfl)(b:asv=dL (sig L s.nx) args:=by exact rfl)(hp:putDst nt o (r.cx (sig L s.nx)) (aE s L A B)=io s':=by exact rfl)(hg:cf nt all s.f o=io kw:=by exact rfl)(hpb:gT all pend o=kw:=by exact rfl)(hE:nA todo [j]=kw:=by exact rfl)(hag:rB nP nt all s todo pend=io y:=by exact rfl)(hCA:y:=by(repeat' (first|exact ac|exact rfl|exact aC.refl _|exact aC.bk (by assumption)|apply Rm))<;>first|omega|(simp only[QW];omega)|(simp;done)|(simp;omega))(hag2:dH nP nt all s' (a8 pend o)=io u:=by exact rfl)(hC2:u:=by(repeat' (first|exact ac|exact rfl|exact aC.refl _|exact aC.bk (by assumption)|apply Rm))<;>first|omega|(simp only[QW];omega)|(simp;done)|(simp;omega)):GO prog nt (.ct all todo pend::k) Q s:=xI ab L hc hrd ho ha hn F d b hp hg hpb hE hag hCA hag2 hC2 h
theorem Au{nt:Nat}{Q:AQ}{k:List KI}{s:AS}{all:List Oper}{todo pend:List (Nat×Oper)}{j:Nat}{o:Oper}{c:Call}{g:FuncId}{asv args:List PV}{r:PV}{s':AS}{u d:Prop}(hc:Al.Pure prog g args r)(h:GO prog nt (.ct all (todo.filter fun x=>!Q6 x.1 j) (a8 pend o)::k) Q s')(hrd:eG todo=[(j,o)]:=by exact rfl)(ho:o.op= .call c:=by exact rfl)(ha:bK s.f c=io (g,asv):=by exact rfl)(b:asv=dL (sig [] s.nx) args:=by exact rfl)(hp:putDst nt o (r.cx (sig [] s.nx)) (aE s [] [] 0)=io s':=by exact rfl)(hg:cf nt all s.f o=io kw:=by exact rfl)(hpb:gT all pend o=kw:=by exact rfl)(hE:nA todo [j]=kw:=by exact rfl)(hag:rB nP nt all s todo pend=io u:=by exact rfl)(hCA:u:=by(repeat' (first|exact ac|exact rfl|exact aC.refl _|exact aC.bk (by assumption)|apply Rm))<;>first|omega|(simp only[QW];omega)|(simp;done)|(simp;omega))(hag2:dH nP nt all s' (a8 pend o)=io d:=by exact rfl)(hC2:d:=by(repeat' (first|exact ac|exact rfl|exact aC.refl _|exact aC.bk (by assumption)|apply Rm))<;>first|omega|(simp only[QW];omega)|(simp;done)|(simp;omega)):GO prog nt (.ct all todo pend::k) Q s:=xI ab [] hc.det hrd ho ha D D D b hp hg hpb hE hag hCA hag2 hC2 h
theorem zW{n0:Nat}{L:List Nat}{s t:AS}(hh:mg t.nx (sg n0 L) s.h t.h)(h1:Q6 t.nx (n0+L.length)=kw:=by exact rfl)(b:SE n0 s.nx=kw:=by exact rfl)(d:L.all (fun j=>QZ j s.nx)=kw:=by exact rfl)(hf:En t.nx (sg n0 L) s.f t.f:=by repeat' (first|exact ac|exact aC.refl _|exact rfl|apply Rm))(u:cL (eB (sg n0 L) t.h)=kw:=by exact rfl):Wk n0 L s t:=wk h1 b d hf hh u
theorem zM{n0:Nat}{L:List Nat}{s t:AS}(hf:En t.nx (sg n0 L) s.f t.f)(hh:mg t.nx (sg n0 L) s.h t.h)(h1:Q6 t.nx (n0+L.length)=kw:=by exact rfl)(b:SE n0 s.nx=kw:=by exact rfl)(d:L.all (fun j=>QZ j s.nx)=kw:=by exact rfl)(u:cL (eB (sg n0 L) t.h)=kw:=by exact rfl):Wk n0 L s t:=wk h1 b d hf hh u
theorem zK{n i:Nat}{σ:Nat->Nat}{h r:AH}{cs:List PV}{b:Option TypeId}{c:List IV}(hr:mg n σ h r)(ho:h.get (σ i)=io (.cells cs b):=by exact rfl)(he:cs=c.map .iv:=by exact rfl)(hi:QZ i n=kw:=by exact rfl):mg n σ h ((i,io (au c))::r):=hC ho he hi hr
theorem zS{n i:Nat}{σ:Nat->Nat}{h r:AH}{α:Type}{sz:Nat}{es:List (List PV)}{l:List α}{f:α->List IV}(hr:mg n σ h r)(ho:h.get (σ i)=io (.row sz es):=by exact rfl)(he:es=l.map fun x=>(f x).map .iv:=by exact rfl)(hi:QZ i n=kw:=by exact rfl):mg n σ h ((i,io (aW sz l f))::r):=hR ho he hi hr
theorem zI{a b:Prop}(l:a)(r:b):a∧b:=⟨l,r⟩
theorem zO{n i:Nat}{σ:Nat->Nat}{h r:AH}{o:AO}(hr:mg n σ h r)(he: ∃p,h.get (σ i)=io p∧eJ p (o.cx σ):=by exact⟨_,rfl,.of_eq D⟩)(hi:i<n:=by exact Qs D)(b:o.low n:=by exact rfl):mg n σ h ((i,io o)::r):=⟨he,hi,b,hr⟩
theorem zD{ty:Ty}{s:AS}{l:List ResultVar}{m:Nat}{r b:PV}{h:AH}{n:Nat}{e:Exit}(L:List Nat)(hr:jw ty s l=io b)(hw:Wk m L ⟨[(0,b)],s.h,s.nx⟩ ⟨[(0,r)],h,n⟩)(he:e= .normal∨e= .ret:=by first|exact .inr D|exact .inl D):BA ty l m r h n e s:=en L he hr hw
theorem zU{ty:Ty}{j:List ResultVar}{nt:Nat}{k:List KI}{s s':AS}{e:Exit}{C:Prop}{b:Nat}{r d:PV}(h:bw nP ⟨fun _=>jp,0,lc⟩ 400 nt k s True=io (C,b,.fin e s'))(hr:d=r:=by exact rfl)(he:e= .normal∨e= .ret:=by first|exact .inr D|exact .inl D)(h1:jw ty s' j=io d:=by exact rfl)(hC:C:=by(repeat' (first|exact ac|exact rfl|exact aC.refl _|exact aC.bk (by assumption)|apply Rm))<;>first|omega|exact ec (fun _=>rfl) _|(simp only[QW];omega)|(simp;done)|(simp;omega)):GO prog nt k (Ei ty j r) s:=gA h (jT he h1 (.of_eq hr)) hC
theorem zC{n i:Nat}{σ:Nat->Nat}{h r:AH}{V:Type}{kc:KC}{ev:V->IV}{z:V}{j:Value}{b:PV->V}{m d:List (kc.K×V)}(hr:mg n σ h r)(ho:h.get (σ i)=io (.map kc ev z j b m):=by exact rfl)(he:m=d:=by exact rfl)(hi:QZ i n=kw:=by exact rfl):mg n σ h ((i,io (.map kc ev z j b d))::r):=hM ho he hi hr
theorem zJ{Q:AQ}{nt:Nat}{k:List KI}{s:AS}{C:Prop}{d:Nat}{st:Stop}{a b:Prop}(h:bw nP ⟨fun _=>jp,0,lc⟩ 400 nt k s True=io (C,d,st))(e:eD prog d Q st=(a∧b))(l:a)(r:b)(hC:C:=by(repeat' (first|exact ac|exact rfl|exact aC.refl _|exact aC.bk (by assumption)|apply Rm))<;>first|omega|exact ec (fun _=>rfl) _|(simp only[QW];omega)|(simp;done)|(simp;omega)):GO prog nt k Q s:=gA h (e.mpr ⟨l,r⟩) hC
theorem zE{Q:AQ}{nt:Nat}{k:List KI}{s:AS}{C:Prop}{d:Nat}{st:Stop}{a b:Prop}(h:bw nP ⟨fun _=>jp,0,lc⟩ 400 nt k s True=io (C,d,st))(e:eD prog d Q st=(a∧b))(r:b)(l:a)(hC:C:=by(repeat' (first|exact ac|exact rfl|exact aC.refl _|exact aC.bk (by assumption)|apply Rm))<;>first|omega|exact ec (fun _=>rfl) _|(simp only[QW];omega)|(simp;done)|(simp;omega)):GO prog nt k Q s:=gA h (e.mpr ⟨l,r⟩) hC
theorem zA{b:Bool}(h:(!b)=kw):b=lc:=by simpa using h
theorem zB{b:Bool}(h:(!b)=lc):b=kw:=by simpa using h
theorem zX{p:Prop}[Decidable p](h:(!decide p)=kw): ¬p:=by simpa using h
theorem zY{p:Prop}[Decidable p](h:(!decide p)=lc):p:=by simpa using h
theorem zT{p:Prop}[Decidable p](h:decide p=kw):p:=of_decide_eq_true h
theorem zF{p:Prop}[Decidable p](h:decide p=lc): ¬p:=of_decide_eq_false h
theorem zN{a b:Nat}(h:li ((a:Int)<(b:Int))=kw):a<b:=Int.ofNat_lt.1 (of_decide_eq_true h)
theorem zG{a b:Nat}(h:li ((a:Int)<(b:Int))=lc):b<=a:=Su fun hh=>absurd (Int.ofNat_lt.2 hh) (of_decide_eq_false h)
end Go.Proofs.YtflegjieadkonaaGreatDoor
namespace Go.Proofs.YtflegjieadkonaaGreatDoor
open Go Go.Al
abbrev ae:=ByteArray
structure sB where
 kind:Int
 num:Int
 sym:ae
 deriving Inhabited,DecidableEq
structure Term where
 kind:Int
 var:ae
 val:sB
 deriving Inhabited,DecidableEq
inductive Expr where
 |mk (kind:Int) (var:ae) (val:sB) (op:Int) (args:List Expr)
instance:Inhabited Expr:=⟨.mk 0 Qz ⟨0,0,Qz⟩ 0 []⟩
def Expr.kind:Expr->Int| .mk k _ _ _ _=>k
def Expr.var:Expr->ae| .mk _ v _ _ _=>v
def Expr.val:Expr->sB| .mk _ _ v _ _=>v
def Expr.op:Expr->Int| .mk _ _ _ o _=>o
def Expr.args:Expr->List Expr| .mk _ _ _ _ a=>a
structure Atom where
 rel:ae
 ad:List Term
 deriving Inhabited,DecidableEq
structure Pos where
 line:Int
 yg:Int
 deriving Inhabited,DecidableEq
inductive Lit where
 |mk (kind:Int) (atom:Atom) (op:Int) (left right:Expr) (cH:Int) (ba:ae) (iJ:Expr) (an:List Lit) (at_:Pos)
instance:Inhabited Lit:=⟨.mk 0 co 0 co co 0 Qz co [] ⟨0,0⟩⟩
def Lit.kind:Lit->Int| .mk k _ _ _ _ _ _ _ _ _=>k
def Lit.atom:Lit->Atom| .mk _ a _ _ _ _ _ _ _ _=>a
def Lit.op:Lit->Int| .mk _ _ o _ _ _ _ _ _ _=>o
def Lit.left:Lit->Expr| .mk _ _ _ l _ _ _ _ _ _=>l
def Lit.right:Lit->Expr| .mk _ _ _ _ r _ _ _ _ _=>r
def Lit.cH:Lit->Int| .mk _ _ _ _ _ f _ _ _ _=>f
def Lit.ba:Lit->ae| .mk _ _ _ _ _ _ v _ _ _=>v
def Lit.iJ:Lit->Expr| .mk _ _ _ _ _ _ _ o _ _=>o
def Lit.an:Lit->List Lit| .mk _ _ _ _ _ _ _ _ b _=>b
def Lit.at:Lit->Pos| .mk _ _ _ _ _ _ _ _ _ p=>p
structure eM where
 func:Int
 var:ae
 gZ:Expr
 body:List Lit
 deriving Inhabited
def Lit.agg(l:Lit):eM:=⟨l.cH,l.ba,l.iJ,l.an⟩
structure ai where
 head:Atom
 body:List Lit
 at_:Pos
 deriving Inhabited
structure Decl where
 name:ae
 types:List Int
 at_:Pos
 deriving Inhabited
structure Prog where
 aZ:List Decl
 rules:List ai
 deriving Inhabited
structure Fact where
 rel:ae
 args:List sB
 deriving Inhabited
def sB.c(v:sB):List IV:=[iI v.kind,iI v.num,iS v.sym]
def Term.c(t:Term):List IV:=[iI t.kind,iS t.var,iI t.val.kind,iI t.val.num,iS t.val.sym]
def bR(s:ae):List IV:=[iS s]
def cR(n:Int):List IV:=[iI n]
abbrev strs(l:List ae):IV:=de 1 l bR
def Atom.c(a:Atom):List IV:=[iS a.rel,de 5 a.ad Term.c]
mutual
def Expr.cr:Expr->List IV
 | .mk k v val op args=> [iI k,iS v,iI val.kind,iI val.num,iS val.sym,iI op,.c5 7 args.length (fun j=>(Expr.xQ args).getD j [])]
def Expr.xQ:List Expr->List (List IV)
 | []=> []
 |e::r=>e.cr::Expr.xQ r
end
def Expr.c(e:Expr):List IV:=[iI e.kind,iS e.var,iI e.val.kind,iI e.val.num,iS e.val.sym,iI e.op,.c5 7 e.args.length (fun j=>(Expr.xQ e.args).getD j [])]
def Expr.c1(e:Expr):List IV:=[iI e.kind,iS e.var,iI e.val.kind,iI e.val.num,iS e.val.sym,iI e.op,de 7 e.args Expr.c]
theorem Expr.GD(e:Expr):e.cr=e.c:=by cases e;rfl
theorem Expr.pt: ∀(l:List Expr) (k:Nat),k<l.length->(Expr.xQ l).getD k []=(l.getD k co).c
 |e::r,0,_=>by simp[Expr.xQ,Expr.GD]
 |e::r,k+1,h=>by simpa[Expr.xQ]using Expr.pt r k (by simpa using h)
 | [],k,h=>by simp at h
theorem MY(e:Expr):lE (.c5 7 e.args.length (fun j=>(Expr.xQ e.args).getD j [])) (de 7 e.args Expr.c):= .c5 D (Expr.pt e.args)
theorem Jy(e:Expr):lE (de 7 e.args Expr.c) (.c5 7 e.args.length (fun j=>(Expr.xQ e.args).getD j [])):= .c5 D (fun k b=>(Expr.pt e.args k b).symm)
mutual
def Lit.cr:Lit->List IV
 | .mk kind atom op left right cH ba iJ an at_=>
  iI kind::(atom.c++(iI op::(left.c++(right.c++(iI cH::iS ba::(iJ.c++ [.c5 30 an.length (fun j=>(Lit.xQ an).getD j []),iI at_.line,iI at_.yg]))))))
def Lit.xQ:List Lit->List (List IV)
 | []=> []
 |e::r=>e.cr::Lit.xQ r
end
def Lit.cw(l:Lit)(b:IV):List IV:=
 [iI l.kind,iS l.atom.rel,de 5 l.atom.ad Term.c,iI l.op,
  iI l.left.kind,iS l.left.var,iI l.left.val.kind,iI l.left.val.num,iS l.left.val.sym,iI l.left.op,.c5 7 l.left.args.length (fun j=>(Expr.xQ l.left.args).getD j []),
  iI l.right.kind,iS l.right.var,iI l.right.val.kind,iI l.right.val.num,iS l.right.val.sym,iI l.right.op,.c5 7 l.right.args.length (fun j=>(Expr.xQ l.right.args).getD j []),
  iI l.cH,iS l.ba,
  iI l.iJ.kind,iS l.iJ.var,iI l.iJ.val.kind,iI l.iJ.val.num,iS l.iJ.val.sym,iI l.iJ.op,.c5 7 l.iJ.args.length (fun j=>(Expr.xQ l.iJ.args).getD j []),
  b,iI l.at.line,iI l.at.yg]
def Aj(l:List Lit):IV:= .c5 30 l.length (fun j=>(Lit.xQ l).getD j [])
def Lit.c(l:Lit):List IV:=l.cw (Aj l.an)
abbrev lits(l:List Lit):IV:=de 30 l Lit.c
def Lit.c1(l:Lit):List IV:=l.cw (lits l.an)
theorem Lit.GD(e:Lit):e.cr=e.c:=by cases e;rfl
theorem Lit.pt: ∀(l:List Lit) (k:Nat),k<l.length->(Lit.xQ l).getD k []=(l.getD k co).c
 |e::r,0,_=>by simp[Lit.xQ,Lit.GD]
 |e::r,k+1,h=>by simpa[Lit.xQ]using Lit.pt r k (by simpa using h)
 | [],k,h=>by simp at h
theorem mX(l:List Lit):lE (Aj l) (lits l):= .c5 D (Lit.pt l)
theorem FD(l:List Lit):lE (lits l) (Aj l):= .c5 D (fun k b=>(Lit.pt l k b).symm)
def eM.cw(a:eM)(b:IV):List IV:=[iI a.func,iS a.var,iI a.gZ.kind,iS a.gZ.var,iI a.gZ.val.kind,iI a.gZ.val.num,iS a.gZ.val.sym,iI a.gZ.op,.c5 7 a.gZ.args.length (fun j=>(Expr.xQ a.gZ.args).getD j []),b]
def eM.c(a:eM):List IV:=a.cw (Aj a.body)
def eM.c1(a:eM):List IV:=a.cw (lits a.body)
def ai.c(r:ai):List IV:=[iS r.head.rel,de 5 r.head.ad Term.c,lits r.body,iI r.at_.line,iI r.at_.yg]
def Decl.c(r:Decl):List IV:=[iS r.name,de 1 r.types cR,iI r.at_.line,iI r.at_.yg]
def Prog.c(p:Prog):List IV:=[de 4 p.aZ Decl.c,de 5 p.rules ai.c]
def Fact.c(f:Fact):List IV:=[iS f.rel,de 3 f.args sB.c]
theorem Expr.Bb(e:Expr):aC (ag e.c) (ag e.c1):= .agg ⟨.refl _,.refl _,.refl _,.refl _,.refl _,.refl _,.iv (MY e),ac⟩
theorem Lit.CM(l:Lit){b b':IV}(h:lE b b'):aC (ag (l.cw b)) (ag (l.cw b')):=
 .agg ⟨.refl _,.refl _,.refl _,.refl _,.refl _,.refl _,.refl _,.refl _,.refl _,.refl _,.refl _,.refl _,.refl _,.refl _,.refl _,.refl _,.refl _,.refl _,.refl _,.refl _,.refl _,.refl _,.refl _,.refl _,.refl _,.refl _,.refl _,.iv h,.refl _,.refl _,ac⟩
theorem Lit.Bb(l:Lit):aC (ag l.c) (ag l.c1):=l.CM (mX _)
theorem eM.CM(l:eM){b b':IV}(h:lE b b'):aC (ag (l.cw b)) (ag (l.cw b')):=
 .agg ⟨.refl _,.refl _,.refl _,.refl _,.refl _,.refl _,.refl _,.refl _,.refl _,.iv h,ac⟩
theorem eM.Bb(l:eM):aC (ag l.c) (ag l.c1):=l.CM (mX _)
theorem eM.PC(l:eM):aC (ag l.c1) (ag l.c):=l.CM (FD _)
mutual
def Expr.size:Expr->Nat
 | .mk _ _ _ _ args=>1+Expr.az args
def Expr.az:List Expr->Nat
 | []=>0
 |e::r=>e.size+Expr.az r
end
mutual
def Lit.size:Lit->Nat
 | .mk _ a _ l r _ _ o b _=>2+a.ad.length+l.size+r.size+o.size+Lit.az b
def Lit.az:List Lit->Nat
 | []=>0
 |e::r=>e.size+Lit.az r
end
theorem Expr.size_eq(e:Expr):e.size=1+Expr.az e.args:=by cases e;rfl
theorem Lit.size_eq(l:Lit):l.size=2+l.atom.ad.length+l.left.size+l.right.size+l.iJ.size+Lit.az l.an:=by cases l;rfl
theorem Expr.aV: ∀(l:List Expr) (k:Nat),k<l.length->(l.getD k co).size<=Expr.az l
 |e::r,0,_=>by simp[Expr.az]
 |e::r,k+1,h=>by
  have:=Expr.aV r k (by simpa using h);simp only[Sg,Expr.az];omega
 | [],k,h=>by simp at h
theorem Lit.aV: ∀(l:List Lit) (k:Nat),k<l.length->(l.getD k co).size<=Lit.az l
 |e::r,0,_=>by simp[Lit.az]
 |e::r,k+1,h=>by
  have:=Lit.aV r k (by simpa using h);simp only[Sg,Lit.az];omega
 | [],k,h=>by simp at h
theorem Expr.size_pos(e:Expr):1<=e.size:=by rw[e.size_eq];omega
theorem Lit.size_pos(e:Lit):2<=e.size:=by rw[e.size_eq];omega
theorem Expr.aA: ∀(l:List Expr),l.length<=Expr.az l
 | []=>QH _
 |e::r=>by have:=e.size_pos;have:=Expr.aA r;simp only[Rf,Expr.az];omega
theorem Lit.aA: ∀(l:List Lit),l.length<=Lit.az l
 | []=>QH _
 |e::r=>by have:=e.size_pos;have:=Lit.aA r;simp only[Rf,Lit.az];omega
def ai.size(r:ai):Nat:=r.head.ad.length+Lit.az r.body
def aJ(l:List ae)(s:ae):Bool:=l.any fun x=>li (x=s)
def ck(s:ae)(a:List ae×Bool)(x:ae):List ae×Bool:=
 if(a.2||decide (x=s))=lc∧(!(Op.bytesLess x.toList s.toList||decide (x=s)))=kw then(a.1++ [s]++ [x],kw) else(a.1++ [x],a.2||decide (x=s))
def dt(l:List ae)(s:ae):List ae:=
 let r:=l.foldl (ck s) ([],lc)
 if r.2 then r.1 else r.1++ [s]
def il(l:List ae)(s:ae)(i:Nat):List ae×Bool:=(l.take i).foldl (ck s) ([],lc)
theorem ta{l:List ae}{s:ae}{i:Nat}(h:i<l.length):il l s (i+1)=ck s (il l s i) (l.getD i co):=dz h
theorem tc{l:List ae}{s:ae}{i:Nat}(h:l.length<=i):dt l s=if(il l s i).2 then(il l s i).1 else(il l s i).1++ [s]:=by
 simp only[il,D0 h];rfl
theorem wP(s:ae)(a:List ae×Bool)(x:ae)(n:Nat)(h:a.1.length<=n+(if a.2 then 1 else 0)):(ck s a x).1.length<=(n+1)+(if(ck s a x).2 then 1 else 0):=by
 obtain⟨b,a2⟩:=a;simp only[ck];cases a2<;>cases hd:li (x=s)<;>simp only[R4,Tm,SK,if_false,if_true,Sn,SG,false_and,true_and,reduceCtorEq]at h ⊢ <;>(try split)<;>simp at h ⊢ <;>omega
theorem qF(l:List ae)(s:ae): ∀i,i<=l.length->(il l s i).1.length<=i+(if(il l s i).2 then 1 else 0)
 |0,_=>by simp[il]
 |i+1,h=>by
  rw[ta (by omega)];exact wP s _ _ i (qF l s i (by omega))
theorem Po(l:List ae)(s:ae)(hb:l.length<=1000000000000):Pure Tryz.prog 111 [.iv (strs l),pS s] (.iv (strs (dt l s))):=by
 refine ar ab Tryz.func111 D (by decide) Tryz.ntmps111 D (by simp) D ?_;refine a7 cW ab 100 D ac ?_;refine nX 5 1 D ?_;refine aD 0 l.length (QN _) (fun i=>⟨[(0,.iv (strs l)),(1,pS s),(5,.sl 1 0 (il l s i).1.length 1),(6,pB (il l s i).2),(7,pI i)],[(1,io (aW 1 (il l s i).1 bR))],2⟩) (fun _=>True) [0] ac
  (zM (bi (bi (bi ⟨.MO D,rfl,bi trivial⟩))) (zS trivial)) fun i F G=>?_
 have y:=qF l s i F;have B:(il l s i).1.length<=i+1:=by split at y<;>omega
 refine a7 cW ab 100 D ac ?_;refine zI (fun j=>?_) (fun j=>?_)
 .have j:=bv j;have b:=ta (s:=s) j;simp only[ck]at b;refine a7 cW ab 100 D ⟨ac,by omega⟩ ?_;refine zI (fun d=>?_) (fun d=>?_)
  .have d:li (l.getD i co=s)=kw:=d;rw[d,SG,be (by simp)]at b;refine a7 cW ab 300 D ?_ ⟨j,ac,[3],zM (bi (bi ⟨.row (by rw[b];simp),rfl,.MO (by rw[b]),rfl,bi ac⟩)) (hR D (by rw[b];simp;rfl) D ac)⟩
   repeat' (first|exact ac|exact rfl|apply Rm)
   all_goals first|omega|(simp;omega)|simp
  .have d:li (l.getD i co=s)=lc:=d;rw[d,Sn,Sn]at b;refine a7 cW ab 300 D ac ?_;refine zI (fun A=>?_) (fun A=>?_)
   .have x:(il l s i).2=lc:=by simpa using A
    refine a7 cW ab 300 D ?_ ?_
    .repeat' (first|exact ac|exact rfl|apply Rm)
     all_goals omega
    refine zI (fun u=>?_) (fun u=>?_)
    .have u:(!(Op.bytesLess (l.getD i co).toList s.toList||decide (l.getD i co=s)))=kw:=u;rw[d,Sn]at u;rw[am ⟨x,u⟩]at b;refine a7 cW ab 300 D ?_ ⟨j,ac,[5],zM (bi (bi ⟨.row (by rw[b];simp),rfl,.MO (by rw[b]),rfl,bi ac⟩)) (hR D (by rw[b,QO,QO];rfl) D ac)⟩
     repeat' (first|exact ac|exact rfl|apply Rm)
     all_goals first|omega|(simp;omega)|simp
    .have u:(!(Op.bytesLess (l.getD i co).toList s.toList||decide (l.getD i co=s)))=lc:=u;rw[d,Sn]at u;rw[be (by rw[u];simp)]at b;refine a7 cW ab 300 D ?_ ⟨j,ac,[3],zM (bi (bi ⟨.row (by rw[b];simp),rfl,.of_eq (by rw[b];rfl),rfl,bi ac⟩)) (hR D (by rw[b];simp;rfl) D ac)⟩
     repeat' (first|exact ac|exact rfl|apply Rm)
     all_goals first|omega|(simp;omega)|simp
   .have x:(il l s i).2=kw:=by simpa using A
    rw[be (by rw[x];simp)]at b;refine a7 cW ab 300 D ?_ ⟨j,ac,[3],zM (bi (bi ⟨.row (by rw[b];simp),rfl,.of_eq (by rw[b];rfl),rfl,bi ac⟩)) (hR D (by rw[b];simp;rfl) D ac)⟩
    repeat' (first|exact ac|exact rfl|apply Rm)
    all_goals first|omega|(simp;omega)|simp
 .have j:=ci j;have b:=tc (s:=s) j;refine a7 cW ab 100 D ac ?_;refine zI (fun d=>?_) (fun d=>?_)
  .have d:(il l s i).2=lc:=by simpa using d
   rw[d,be (by simp)]at b;refine a7 cW ab 300 D ?_ (fS (.inr D) D D (by rw[b];simp;rfl) (by rw[b];simp))
   repeat' (first|exact ac|exact rfl|apply Rm)
   all_goals first|omega|(simp;omega)|simp
  .have d:(il l s i).2=kw:=by simpa using d
   rw[d,am D]at b;refine a7 cW ab 300 D ac (fS (.inr D) D D (by rw[b]) (by rw[b]))
end Go.Proofs.YtflegjieadkonaaGreatDoor
namespace Go.Proofs.YtflegjieadkonaaGreatDoor
open Go Go.Al Go.Proofs.Tryz
theorem nO(l:List ae)(s:ae):(dt l s).length<=l.length+1:=by
 have h:=qF l s l.length (QH _);rw[tc (QH _)];split
 .rename_i b;rw[b]at h;simpa using h
 .rename_i b;simp[b]at h;simp;omega
def bV(l m:List ae):List ae:=m.foldl dt l
theorem gf: ∀(m l:List ae),(bV l m).length<=l.length+m.length
 | [],l=>by simp[bV]
 |x::r,l=>by
  have d:=nO l x;have b:=gf r (dt l x);simp only[bV,Rc,Rf]at b ⊢;omega
theorem qE(l m:List ae)(i:Nat):(bV l (m.take i)).length<=l.length+m.length:=by
 have:=gf (m.take i) l;have b:(m.take i).length<=m.length:=by simp;omega
 omega
theorem wQ{l m:List ae}{i:Nat}(h:i<m.length):bV l (m.take (i+1))=dt (bV l (m.take i)) (m.getD i co):=dz h
theorem PW(l m:List ae)(hb:l.length+m.length<=1000000000000):Pure prog 120 [.iv (strs l),.iv (strs m)] (.iv (strs (bV l m))):=by
 refine ar ab func120 D (by decide) ntmps120 D (by simp) D ?_;refine a7 cW ab 100 D ac ?_;refine aD 0 m.length (QN _) (fun i=>⟨[(0,.iv (strs (bV l (m.take i)))),(1,.iv (strs m)),(5,pI i)],[],0⟩) (fun _=>True) [] ac (Pj D D (bi (bi (bi ac))) D) fun i j d=>?_;have u:=qE l m i;refine a7 cW ab 100 D ac ?_;refine zI (fun b=>?_) (fun b=>?_)
 .have b:=bv b;refine a7 cW ab 100 D ⟨ac,by omega⟩ (dr (Po _ _ (by omega)) D D D D D D ?_);refine a7 cW ab 100 D ⟨ac,by unfold jg;omega⟩ ?_;exact⟨b,ac,[],Pj D D ⟨.of_eq (by rw[wQ b];rfl),rfl,bi (bi ac)⟩ D⟩
 .have b:=ci b;refine a7 cW ab 100 D ac (jT (.inr D) D (.of_eq ?_));rw[QM b];rfl
theorem PU(s:ae):Pure prog 111 [.iv (.v (.slice jp 0 0)),pS s] (.iv (strs (dt [] s))):=(Po [] s (by decide)).le ⟨.nil _ _,.refl _,ac⟩
def iL(a:List ae)(t:Term):List ae:=if t.kind=1 then dt a t.var else a
def aU(a:Atom):List ae:=a.ad.foldl iL []
theorem Ay: ∀(l:List Term) (a:List ae),(l.foldl iL a).length<=a.length+l.length
 | [],a=>by simp
 |t::r,a=>by
  have h:=Ay r (iL a t);have b:(iL a t).length<=a.length+1:=by
   unfold iL;split
   .exact nO _ _
   .omega
  simp only[Rc,Rf];omega
theorem gH(a:Atom):(aU a).length<=a.ad.length:=by have:=Ay a.ad [];simpa[aU]using this
theorem PX(a:Atom)(hb:a.ad.length<=1000000000000):Pure prog 77 [ag a.c] (.iv (strs (aU a))):=by
 refine ar ab func77 D (by decide) ntmps77 D (by simp) D ?_;refine a7 cW ab 100 D ac ?_;refine aD 0 a.ad.length (QN _) (fun i=>⟨[(1,.ptr 0 0),(3,.iv (strs ((a.ad.take i).foldl iL []))),(4,pI i)],[(0,io (au a.c))],1⟩) (fun _=>True) [] ac
  (zM (bi ⟨.nil _ _,rfl,bi trivial⟩) (zK trivial)) fun i A y=>?_
 have x:=Ay (a.ad.take i) [];simp only[R0,RW]at x;refine a7 cW ab 100 D ac ?_;refine zI (fun d=>?_) (fun d=>?_)
 .have d:=bv d;have u:=dz (g:=iL) (b:=[]) d;simp only[iL]at u;refine a7 cW ab 100 D ⟨ac,by omega⟩ ?_;refine zI (fun j=>?_) (fun j=>?_)
  .have j:(a.ad.getD i co).kind=1:=zT j;rw[am j]at u;refine a7 cW ab 100 D ⟨ac,by omega⟩ (dr (Po _ _ (by omega)) D D D D D D ?_);refine a7 cW ab 100 D ⟨ac,by unfold jg;omega⟩ ?_;exact⟨d,ac,[],zM (bi ⟨.of_eq (by simp only[u];rfl),rfl,bi ac⟩) (zK ac)⟩
  .have j: ¬(a.ad.getD i co).kind=1:=zF j;rw[be j]at u;refine a7 cW ab 100 D ⟨ac,by unfold jg;omega⟩ ?_;exact⟨d,ac,[],zM (bi ⟨.of_eq (by simp only[u];rfl),rfl,bi ac⟩) (zK ac)⟩
 .have d:=ci d;refine a7 cW ab 100 D ac (jT (.inr D) D (.of_eq ?_));rw[QM d];rfl
mutual
def bx:Expr->List ae
 | .mk k v _ _ args=>if k=1 then dt [] v else if k=4 then eF [] args else[]
def eF(a:List ae):List Expr->List ae
 | []=>a
 |e::r=>eF (bV a (bx e)) r
end
theorem lW: ∀(l:List Expr) (a:List ae),eF a l=l.foldl (fun a e=>bV a (bx e)) a
 | [],_=>rfl
 |e::r,a=>by simp only[eF,Rc];exact lW r _
theorem z6(e:Expr):bx e=if e.kind=1 then dt [] e.var else if e.kind=4 then e.args.foldl (fun a e=>bV a (bx e)) [] else[]:=by
 cases e with
 |mk k v val op args=>simp only[bx,Expr.kind,Expr.var,Expr.args,lW];rfl
mutual
theorem fB: ∀e:Expr,(bx e).length<=e.size
 | .mk k v _ _ args=>by
  simp only[bx,Expr.size];split
  .have:=nO [] v;simp at this;omega
  .split
   .have:=kO args [];simp at this;omega
   .simp
theorem kO: ∀(l:List Expr) (a:List ae),(eF a l).length<=a.length+Expr.az l
 | [],a=>by simp[eF,Expr.az]
 |e::r,a=>by
  have b:=kO r (bV a (bx e));have d:=gf (bx e) a;have j:=fB e;simp only[eF,Expr.az];omega
end
theorem Lit.tr: ∀(l:List Lit) (i:Nat),Lit.az (l.take i)<=Lit.az l
 | [],i=>by simp
 |e::r,0=>by simp[Lit.az]
 |e::r,i+1=>by have:=Lit.tr r i;simp only[RY,Lit.az];omega
theorem Expr.b4: ∀(l:List Expr) (i:Nat),i<l.length->Expr.az (l.take i)+(l.getD i co).size<=Expr.az l
 |e::r,0,_=>by simp[Expr.az]
 |e::r,i+1,h=>by have:=Expr.b4 r i (by simpa using h);simp only[RY,Sg,Expr.az];omega
 | [],i,h=>by simp at h
theorem Lit.b4: ∀(l:List Lit) (i:Nat),i<l.length->Lit.az (l.take i)+(l.getD i co).size<=Lit.az l
 |e::r,0,_=>by simp[Lit.az]
 |e::r,i+1,h=>by have:=Lit.b4 r i (by simpa using h);simp only[RY,Sg,Lit.az];omega
 | [],i,h=>by simp at h
abbrev PG(a:List ae)(e:Expr):List ae:=bV a (bx e)
theorem O1: ∀(n:Nat) (e:Expr),e.size<=n->e.size<=1000000000000->Pure prog 141 [ag e.c] (.iv (strs (bx e)))
 |0,e,h,_=>by have:=e.size_pos;omega
 |n+1,e,h,hb=>by
  refine Pure.le (args:=[ag e.c1]) ?_ ⟨e.Bb,ac⟩;have x:=z6 e;refine ar ab func141 D (by decide) ntmps141 D (by simp) D ?_;refine a7 cW ab 100 D ac ?_;refine zI (fun j=>?_) (fun j=>?_)
  .have j:e.kind=1:=zT j;rw[am j]at x;refine a7 cW ab 100 D ac (dr (PU _) D D D D D D ?_);refine a7 cW ab 100 D ac (jT (.inr D) D (.of_eq ?_));rw[x];rfl
  have j: ¬e.kind=1:=zF j;rw[be j]at x;refine a7 cW ab 100 D ac ?_;refine zI (fun u=>?_) (fun u=>?_)
  .have u: ¬e.kind=4:=by simpa using u
   rw[be u]at x;refine a7 cW ab 100 D ac (jT (.inr D) D ?_);rw[x];exact .nil _ _
  have u:e.kind=4:=by simpa using u
  rw[am u]at x;have F:=e.size_eq;refine a7 cW ab 100 D ac ?_;refine aD 0 e.args.length (QN _) (fun i=>⟨[(1,.ptr 0 0),(3,.iv (strs ((e.args.take i).foldl PG []))),(4,pI i)],[(0,io (au e.c1))],1⟩) (fun _=>True) [] ac
   (zM (bi ⟨.nil _ _,rfl,bi trivial⟩) (zK trivial)) fun i S J=>?_
  have A:=Expr.aA e.args;refine a7 cW ab 100 D ac ?_;refine zI (fun d=>?_) (fun d=>?_)
  .have d:=bv d;have B:=dz (g:=PG) (b:=[]) d;have Y:=Expr.b4 e.args i d;have y:=kO (e.args.take i) [];rw[lW]at y;have G:=fB (e.args.getD i co);have I:((e.args.take i).foldl PG []).length<=Expr.az (e.args.take i):=by simpa using y
   refine a7 cW ab 100 D ⟨ac,by omega⟩ (dr (O1 n (e.args.getD i co) (by omega) (by omega)) D D D D D D ?_);refine a7 cW ab 100 D ac (dr (PW _ _ (by omega)) D D D D D D ?_);refine a7 cW ab 100 D ⟨ac,by unfold jg;omega⟩ ?_;exact⟨d,ac,[],zM (bi ⟨.of_eq (by simp only[B];rfl),rfl,bi ac⟩) (zK ac)⟩
  .have d:=ci d;refine a7 cW ab 100 D ac (jT (.inr D) D (.of_eq ?_));rw[QM d,x];rfl
theorem Ls(e:Expr)(hb:e.size<=1000000000000):Pure prog 141 [ag e.c] (.iv (strs (bx e))):=O1 e.size e (QH _) hb
def b6(l:Lit):List ae:=if l.kind=1∨l.kind=2 then aU l.atom else if l.kind=3 then bV (bx l.left) (bx l.right) else[]
theorem ow(l:Lit):(b6 l).length+2<=l.size:=by
 have b:=gH l.atom;have d:=fB l.left;have j:=fB l.right;have u:=gf (bx l.right) (bx l.left);rw[l.size_eq];unfold b6;split
 .omega
 .split
  .omega
  .simp;omega
theorem c70(l:Lit)(hb:l.size<=1000000000000):Pure prog 119 [ag l.c] (.iv (strs (b6 l))):=by
 have u:=l.size_eq;have x:=fB l.left;have y:=fB l.right;refine ar ab func119 D (by decide) ntmps119 D (by simp) D ?_;refine a7 cW ab 100 D ac ?_;refine zI (fun b=>?_) (fun b=>?_)
 .have b:l.kind=1:=zT b;refine a7 cW ab 100 D ac (dr (PX l.atom (by omega)) D D D D D D ?_);refine a7 cW ab 100 D ac (jT (.inr D) D (.of_eq ?_));rw[b6,am (.inl b)];rfl
 have b: ¬l.kind=1:=zF b;refine a7 cW ab 100 D ac ?_;refine zI (fun d=>?_) (fun d=>?_)
 .have d:l.kind=2:=zT d;refine a7 cW ab 100 D ac (dr (PX l.atom (by omega)) D D D D D D ?_);refine a7 cW ab 100 D ac (jT (.inr D) D (.of_eq ?_));rw[b6,am (.inr d)];rfl
 have d: ¬l.kind=2:=zF d;refine a7 cW ab 100 D ac ?_;refine zI (fun j=>?_) (fun j=>?_)
 .have j:l.kind=3:=zT j;refine a7 cW ab 100 D ac (dr (Ls l.left (by omega)) D D D D D D ?_);refine a7 cW ab 100 D ac (dr (Ls l.right (by omega)) D D D D D D ?_);refine a7 cW ab 100 D ac (dr (PW _ _ (by omega)) D D D D D D ?_);refine a7 cW ab 100 D ac (jT (.inr D) D (.of_eq ?_));rw[b6,be (by simp[b,d]),am j];rfl
 .have j: ¬l.kind=3:=zF j;refine a7 cW ab 100 D ac (jT (.inr D) D ?_);rw[b6,be (by simp[b,d]),be j];exact .nil _ _
abbrev plF(a:List ae)(l:Lit):List ae:=bV a (b6 l)
def nV(a:eM):List ae:=a.body.foldl plF (if a.func=1 then[] else bx a.gZ)
def eM.size(a:eM):Nat:=a.gZ.size+Lit.az a.body
end Go.Proofs.YtflegjieadkonaaGreatDoor
namespace Go.Proofs.YtflegjieadkonaaGreatDoor
open Go Go.Al
section
def wo(n:Int):IV:= .v (.int .i64 n)
def Pn(p:PV):Int:=match p with
 | .iv (.v (.int _ n))=>n
 |_=>0
abbrev NM:=List ((KC.str).K×Int)
abbrev bI(m:NM):AO:= .map .str wo 0 (.int .i64 0) Pn m
abbrev yf(m:NM):IV:= .du .str wo 0 (.int .i64 0) m
theorem fk: ∀M,IR M (wo 0) (.int .i64 0):=fun _=> .v _
def bump(m:NM)(s:ae):NM:=cj .str m s (bG .str m s 0+1)
def aq(l:List ae):NM:=l.foldl bump []
theorem bZ(l:List ae)(s:ae):aq (l++ [s])=bump (aq l) s:=by simp[aq]
section
variable {V:Type}
theorem jF{m:List ((KC.str).K×V)}{s t:ae}{v z:V}:bG .str (cj .str m s v) t z=if s=t then v else bG .str m t z:=by
 induction m with
 |nil=>simp only[cj,bG]
 |cons x r ih=>
  obtain⟨a,b⟩:=x;simp only[cj];by_cases h:a=s
  .rw[am h];simp only[bG];by_cases d:s=t
   .simp[d]
   .have: ¬a=t:=fun e=>d (h▸e)
    rw[be d,be d,be this]
  .rw[be h];simp only[bG,ih];by_cases d:a=t
   .have: ¬s=t:=fun e=>h (d.trans e.symm)
    simp[d,this]
   .simp[d]
theorem zn{m:List ((KC.str).K×V)}{t:ae}:eH .str m t=kw↔t∈m.map Ra:=by
 induction m with
 |nil=>simp[eH]
 |cons x r ih=>
  obtain⟨a,b⟩:=x;simp only[eH,Q4,QY];by_cases h:a=t
  .simp[h]
  .have: ¬t=a:=fun e=>h e.symm
   simp[h,this,ih]
theorem lT{m:List ((KC.str).K×V)}{s:ae}{v:V}(h:s∈m.map Ra):(cj .str m s v).map Ra=m.map Ra:=by
 induction m with
 |nil=>simp at h
 |cons x r ih=>
  obtain⟨a,b⟩:=x;simp only[cj];by_cases d:a=s
  .rw[am d];simp[d]
  .have: ¬s=a:=fun e=>d e.symm
   rw[be d,Q4,ih (by simpa[this]using h)];rfl
theorem da{m:List ((KC.str).K×V)}{s:ae}{v:V}(h:s∉m.map Ra):(cj .str m s v).map Ra=m.map Ra++ [s]:=by
 induction m with
 |nil=>simp[cj]
 |cons x r ih=>
  obtain⟨a,b⟩:=x;simp only[Q4,QY,not_or]at h;have: ¬a=s:=fun e=>h.1 e.symm;simp only[cj,be this,Q4,ih h.2];rfl
theorem A8{m:List ((KC.str).K×V)}{t:ae}{z:V}(h:t∉m.map Ra):bG .str m t z=z:=by
 induction m with
 |nil=>rfl
 |cons x r ih=>
  obtain⟨a,b⟩:=x;simp only[Q4,QY,not_or]at h;have: ¬a=t:=fun e=>h.1 e.symm;simp only[bG,be this];exact ih h.2
end
theorem pM{α:Type}{p:List α->Prop}(h0:p [])(h1: ∀l a,p l->p (l++ [a]))(l:List α):p l:=by
 have key: ∀r:List α,p r.reverse:=by
  intro r
  induction r with
  |nil=>exact h0
  |cons a r ih=>rw[List.reverse_cons];exact h1 _ _ ih
 simpa using key l.reverse
def oq(l:List ae)(t:ae):Nat:=(l.filter fun x=>li (x=t)).length
theorem Ad(l m:List ae)(t:ae):oq (l++m) t=oq l t+oq m t:=by simp[oq]
theorem dE(l:List ae)(t:ae):oq l t<=l.length:=RP _ _
theorem uz{l:List ae}{t:ae}:0<oq l t↔t∈l:=by
 rw[oq,List.length_pos_iff_exists_mem];constructor
 .rintro⟨x,hx⟩;obtain⟨b,d⟩:=Rn.1 hx;exact(zT d)▸b
 .exact fun h=>⟨t,Rn.2 ⟨h,by simp⟩⟩
theorem ry{l:List ae}{t:ae}:oq l t=0↔t∉l:=by
 rw[<-uz];omega
theorem bf(l:List ae)(t:ae):bG .str (aq l) t 0=(oq l t:Int):=by
 induction l using pM with
 |h0=>rfl
 |h1 l s ih=>
  rw[bZ,bump,jF,Ad];by_cases h:s=t
  .subst h;rw[ih];simp[oq]
  .rw[be h,ih];simp[h,oq]
theorem cS(l:List ae):((aq l).map Ra).Nodup∧ ∀t:ae,t∈(aq l).map Ra↔t∈l:=by
 induction l using pM with
 |h0=>simp[aq]
 |h1 l s ih=>
  rw[bZ,bump];obtain⟨h1,d⟩:=ih;by_cases h:s∈(aq l).map Ra
  .rw[lT h];refine⟨h1,fun t=>?_⟩;rw[d,QK,QJ];exact⟨.inl,fun j=>j.elim id fun e=>e▸(d s).1 h⟩
  .rw[da h];refine⟨?_,fun t=>by rw[QK,d,QK]⟩;rw[Sh];refine⟨h1,RT.2 ⟨To,RF⟩,fun a u b hb e=>?_⟩;rw[QJ]at hb;exact h ((e.trans hb)▸u)
def bA(a:Atom):List ae:=a.ad.flatMap fun t=>if t.kind=1 then[t.var] else[]
theorem bn{α β:Type}[Inhabited α]{l:List α}{f:α->List β}{i:Nat}(h:i<l.length):(l.take (i+1)).flatMap f=(l.take i).flatMap f++f (l.getD i co):=by
 rw[cC h,Te];simp
theorem pK: ∀l:List Term,(l.flatMap fun t=>if t.kind=1 then[t.var] else[]).length<=l.length
 | []=>by simp
 |t::r=>by
  have:=pK r;have b:(if t.kind=1 then[t.var] else[]).length<=1:=by split<;>simp
  rw[Rl,Qv,Rf];omega
theorem fu(a:Atom):(bA a).length<=a.ad.length:=pK a.ad
theorem d88(occ:List ae)(a:Atom)(hb:occ.length+a.ad.length<=1000000000000):bL Tryz.prog 135 [.mp 0,ag a.c] [bI (aq occ)] (.bB []) [(0,io (bI (aq (occ++bA a))))] 1:=by
 refine aw ab Tryz.func135 D (by decide) Tryz.ntmps135 D (by simp) ?_;refine gA D ?_;refine aD 0 a.ad.length (QN _) (fun i=>⟨[(0,.mp 0),(3,.ptr 1 0),(7,.iv (de 5 a.ad Term.c)),(8,pI a.ad.length),(9,pI i)],[(0,io (bI (aq (occ++(a.ad.take i).flatMap fun t=>if t.kind=1 then[t.var] else[]))))],2⟩) (fun _=>True) [] ac
  (zW (hM D (by simp) D trivial)) fun i B _=>?_
 have y:=pK (a.ad.take i);simp only[RW]at y;refine zJ D D (fun b=>?_) fun b=>?_
 .have b:=bv b;have j:=bn (f:=fun t:Term=>if t.kind=1 then[t.var] else[]) b;have A:=bf (occ++(a.ad.take i).flatMap fun t=>if t.kind=1 then[t.var] else[]) (a.ad.getD i co).var;have u:=dE (occ++(a.ad.take i).flatMap fun t=>if t.kind=1 then[t.var] else[]) (a.ad.getD i co).var;rw[Qv]at u;refine zJ D D (fun d=>?_) fun d=>?_
  .have d:(a.ad.getD i co).kind=1:=by simpa using d
   rw[am d]at j;refine gA D ⟨b,ac,[],zW (hM D (by rw[j,<-QU,bZ];rfl) D ac)⟩
  .have d: ¬(a.ad.getD i co).kind=1:=by simpa using d
   rw[be d,Ro]at j;refine gA D ⟨b,ac,[],zW (hM D (by rw[j]) D ac)⟩
 .have b:=ci b;have x:a.ad.take i=a.ad:=QM b;refine gA D (zD [] D (zW (hM D (by rw[x];rfl) D ac)))
end
end Go.Proofs.YtflegjieadkonaaGreatDoor
namespace Go.Proofs.YtflegjieadkonaaGreatDoor
open Go Go.Al Go.Proofs.Tryz
mutual
def aP:Expr->List ae
 | .mk k v _ _ args=>if k=1 then[v] else if k=4 then fN args else[]
def fN:List Expr->List ae
 | []=> []
 |e::r=>aP e++fN r
end
theorem nu: ∀l:List Expr,fN l=l.flatMap aP
 | []=>rfl
 |e::r=>by simp only[fN,Rl,nu r]
theorem lZ(e:Expr):aP e=if e.kind=1 then[e.var] else if e.kind=4 then e.args.flatMap aP else[]:=by
 cases e with
 |mk k v val op args=>simp only[aP,Expr.kind,Expr.var,Expr.args,nu];rfl
mutual
theorem gm: ∀e:Expr,(aP e).length<=e.size
 | .mk k v _ _ args=>by
  have:=lX args;simp only[aP,Expr.size];split
  .simp
  .split
   .omega
   .simp
theorem lX: ∀l:List Expr,(fN l).length<=Expr.az l
 | []=>by simp[fN]
 |e::r=>by
  have b:=gm e;have d:=lX r;simp only[fN,Expr.az,Qv];omega
end
theorem d135: ∀(n:Nat) (e:Expr) (occ:List ae),e.size<=n->occ.length+e.size<=1000000000000->bL prog 178 [.mp 0,ag e.c] [bI (aq occ)] (.bB []) [(0,io (bI (aq (occ++aP e))))] 1
 |0,e,_,h,_=>by have:=e.size_pos;omega
 |n+1,e,occ,h,hb=>by
  refine bL.le (args:=[.mp 0,ag e.c1]) ?_ ⟨.refl _,e.Bb,ac⟩;have u:=lZ e;have G:=e.size_eq;have B:=bf occ e.var;have A:=dE occ e.var;refine aw ab func178 D (by decide) ntmps178 D (by simp) ?_;refine zJ D D (fun d=>?_) fun d=>?_
  .have d:e.kind=1:=by simpa using d
   rw[am d]at u;refine gA D (zD [] D (zW (hM D (by rw[u,bZ];rfl) D ac)))
  have d: ¬e.kind=1:=by simpa using d
  rw[be d]at u;refine zJ D D (fun j=>?_) fun j=>?_
  .have j:e.kind=4:=by simpa using j
   rw[am j]at u;refine gA D ?_;refine aD 0 e.args.length (QN _) (fun i=>⟨[(0,.mp 0),(3,.ptr 1 0),(18,.iv (de 7 e.args Expr.c)),(19,pI e.args.length),(20,pI i)],[(0,io (bI (aq (occ++(e.args.take i).flatMap aP))))],2⟩) (fun _=>True) [] ac
    (zW (hM D (by simp) D trivial)) fun i J _=>?_
   have y:=Expr.aA e.args;refine zJ D D (fun b=>?_) fun b=>?_
   .have b:=bv b;have F:=bn (f:=aP) b;have S:=Expr.b4 e.args i b;have I:=lX (e.args.take i);rw[nu]at I;refine gA D (bc [0] (d135 n (e.args.getD i co) _ (by omega) (by rw[Qv];omega)) D D D D D D D D ?_);refine gA D ⟨b,ac,[],zW (hM D (by rw[F,QU]) D ac)⟩
   .have b:=ci b;have x:e.args.take i=e.args:=QM b;refine gA D (zD [] D (zW (hM D (by rw[u,x]) D ac)))
  .have j: ¬e.kind=4:=by simpa using j
   rw[be j]at u;refine gA D (zD [] D (zW (hM D (by rw[u,Ro]) D ac)))
theorem GB(e:Expr)(occ:List ae)(hb:occ.length+e.size<=1000000000000):bL prog 178 [.mp 0,ag e.c] [bI (aq occ)] (.bB []) [(0,io (bI (aq (occ++aP e))))] 1:=d135 e.size e occ (QH _) hb
def bb(l:Lit):List ae:=if l.kind=1∨l.kind=2 then bA l.atom else if l.kind=3 then aP l.left++aP l.right else[]
theorem lP(l:Lit):(bb l).length+2<=l.size:=by
 have b:=fu l.atom;have d:=gm l.left;have j:=gm l.right;rw[l.size_eq];unfold bb;split
 .omega
 .split
  .rw[Qv];omega
  .simp;omega
theorem d89(l:Lit)(occ:List ae)(hb:occ.length+l.size<=1000000000000):bL prog 136 [.mp 0,ag l.c] [bI (aq occ)] (.bB []) [(0,io (bI (aq (occ++bb l))))] 1:=by
 have y:=l.size_eq;have A:=gm l.left;refine aw ab func136 D (by decide) ntmps136 D (by simp) ?_;refine zJ D D (fun d=>?_) fun d=>?_
 .have d:l.kind=1:=zT d;have x:bb l=bA l.atom:=am (.inl d);refine gA D (zq [0] (d88 occ l.atom (by omega)) ?_);refine gA D (zD [] D (zW (hM D (by rw[x]) D ac)))
 have d: ¬l.kind=1:=zF d;refine zJ D D (fun j=>?_) fun j=>?_
 .have j:l.kind=2:=zT j;have x:bb l=bA l.atom:=am (.inr j);refine gA D (zq [0] (d88 occ l.atom (by omega)) ?_);refine gA D (zD [] D (zW (hM D (by rw[x]) D ac)))
 have j: ¬l.kind=2:=zF j;have b:bb l=if l.kind=3 then aP l.left++aP l.right else[]:=be (by simp[d,j]);refine zJ D D (fun u=>?_) fun u=>?_
 .have u:l.kind=3:=zT u;rw[am u]at b;refine gA D (zq [0] (GB l.left occ (by omega)) ?_);refine gA D (bc [0] (GB l.right _ (by rw[Qv];omega)) D D D D D D D D ?_);refine gA D (zD [] D (zW (hM D (by rw[b,QU]) D ac)))
 .have u: ¬l.kind=3:=zF u;rw[be u]at b;refine gA D (zD [] D (zW (hM D (by rw[b,Ro]) D ac)))
def aR(a:eM):List ae:=(if a.func=1 then[] else aP a.gZ)++a.body.flatMap bb
theorem kn: ∀l:List Lit,(l.flatMap bb).length<=Lit.az l
 | []=>by simp
 |e::r=>by
  have b:=lP e;have d:=kn r;rw[Rl,Qv];simp only[Lit.az];omega
theorem Lq(e:Expr)(hb:e.size<=1000000000000):bL prog 178 [.mp 0,ag e.c] [.fg] (.bB []) [(0,io (bI (aq (aP e))))] 1:=
 (GB e [] (by simpa using hb)).Lh ⟨⟨id,fun M N U w j b=>⟨#[],0,b,⟨rfl,by simp[aq],by simp[aq],by simp,by simp⟩,fk M⟩⟩,ac⟩
theorem PL(a:Atom)(hb:a.ad.length<=1000000000000):bL prog 135 [.mp 0,ag a.c] [.fg] (.bB []) [(0,io (bI (aq (bA a))))] 1:=
 (d88 [] a (by simpa using hb)).Lh ⟨⟨id,fun M N U w j b=>⟨#[],0,b,⟨rfl,by simp[aq],by simp[aq],by simp,by simp⟩,fk M⟩⟩,ac⟩
theorem d127(a:eM)(hb:a.size<=1000000000000):bL prog 196 [ag a.c] [] (.mp 0) [(0,io (bI (aq (aR a))))] 1:=by
 refine bL.le (args:=[ag a.c1]) ?_ ⟨a.Bb,ac⟩;unfold eM.size at hb;have A:=gm a.gZ;have y:=Lit.aA a.body;refine aw ab func196 D (by decide) ntmps196 D (by simp) ?_;refine zJ D D (fun d=>?_) fun d=>?_
 .have d: ¬a.func=1:=by simpa using d
  have j:aR a=aP a.gZ++a.body.flatMap bb:=by unfold aR;rw[be d]
  refine gA D (zq [1] (Lq a.gZ (by omega)) ?_);refine gA D ?_;refine aD 0 a.body.length (QN _) (fun i=>⟨[(3,.mp 1),(15,.iv (lits a.body)),(16,pI a.body.length),(17,pI i)],[(1,io (bI (aq (aP a.gZ++(a.body.take i).flatMap bb))))],2⟩) (fun _=>True) [] ac
   (zW (hM D (by simp) D trivial)) fun i B _=>?_
  refine zJ D D (fun b=>?_) fun b=>?_
  .have b:=bv b;have x:=bn (f:=bb) b;have F:=Lit.b4 a.body i b;have G:=kn (a.body.take i);refine gA D (bc [1] (d89 (a.body.getD i co) _ (by rw[Qv];omega)) D D D D D D D D ?_);refine gA D ⟨b,ac,[],zW (hM D (by rw[x,QU]) D ac)⟩
  .have b:=ci b;have u:a.body.take i=a.body:=QM b;refine gA D (zD [1] D (zW (hM D (by rw[u,j]) D ac)))
 .have d:a.func=1:=by simpa using d
  have j:aR a=a.body.flatMap bb:=by unfold aR;rw[am d];rfl
  refine gA D ?_;refine aD 0 a.body.length (QN _) (fun i=>⟨[(3,.mp 1),(15,.iv (lits a.body)),(16,pI a.body.length),(17,pI i)],[(1,io (bI (aq ((a.body.take i).flatMap bb))))],2⟩) (fun _=>True) [] ac
   (zW (DV D fk D trivial)) fun i B _=>?_
  refine zJ D D (fun b=>?_) fun b=>?_
  .have b:=bv b;have x:=bn (f:=bb) b;have F:=Lit.b4 a.body i b;have G:=kn (a.body.take i);refine gA D (bc [1] (d89 (a.body.getD i co) _ (by omega)) D D D D D D D D ?_);refine gA D ⟨b,ac,[],zW (hM D (by rw[x]) D ac)⟩
  .have b:=ci b;have u:a.body.take i=a.body:=QM b;refine gA D (zD [1] D (zW (hM D (by rw[u,j]) D ac)))
def ins:List ae->ae->List ae
 | [],s=> [s]
 |x::r,s=>if x=s then x::r else if Op.bytesLess x.toList s.toList=kw then x::ins r s else s::x::r
theorem jO(s:ae): ∀(l a:List ae),l.foldl (ck s) (a,kw)=(a++l,kw)
 | [],a=>by simp
 |x::r,a=>by
  have:ck s (a,kw) x=(a++ [x],kw):=by simp[ck]
  rw[Rc,this,jO s r];simp
theorem wh(s:ae): ∀(l a:List ae),(if(l.foldl (ck s) (a,lc)).2 then(l.foldl (ck s) (a,lc)).1 else(l.foldl (ck s) (a,lc)).1++ [s])=a++ins l s
 | [],a=>by simp[ins]
 |x::r,a=>by
  by_cases b:x=s
  .have:ck s (a,lc) x=(a++ [x],kw):=by simp[ck,b]
   rw[Rc,this,jO];simp[ins,b]
  .cases h2:Op.bytesLess x.toList s.toList with
   |true=>
    have:ck s (a,lc) x=(a++ [x],lc):=by simp[ck,b,h2]
    rw[Rc,this,wh s r];simp[ins,b,h2]
   |false=>
    have:ck s (a,lc) x=(a++ [s]++ [x],kw):=by simp[ck,b,h2]
    rw[Rc,this,jO];simp[ins,b,h2]
theorem vk(l:List ae)(s:ae):dt l s=ins l s:=by
 have:=wh s l [];simpa[dt]using this
theorem xu{x:ae}: ∀{l:List ae} {s:ae},x∈ins l s↔x∈l∨x=s
 | [],s=>by simp[ins]
 |y::r,s=>by
  simp only[ins];split
  .rename_i h;subst h;simp;exact fun h=> .inl h
  .split
   .simp[xu (l:=r),or_assoc]
   .simp;constructor
    .rintro(h|h|h)
     .exact .inr h
     .exact .inl (.inl h)
     .exact .inl (.inr h)
    .rintro((h|h)|h)
     .exact .inr (.inl h)
     .exact .inr (.inr h)
     .exact .inl h
theorem cT{x s:ae}{l:List ae}:x∈dt l s↔x∈l∨x=s:=by rw[vk];exact xu
theorem ff{x:ae}: ∀{m l:List ae},x∈bV l m↔x∈l∨x∈m
 | [],l=>by simp[bV]
 |y::r,l=>by
  have h:=ff (x:=x) (m:=r) (l:=dt l y);simp only[bV,Rc]at h ⊢;rw[h,cT,QY,or_assoc]
theorem aI{l:List ae}{s:ae}:aJ l s=kw↔s∈l:=by
 simp[aJ]
theorem bN{l:List ae}{s:ae}:aJ l s=lc↔s∉l:=by
 rw[<-Tc,aI]
def qU(a:List ae)(l:Lit):List ae:=if l.kind=4 then dt (bV a (b6 l)) l.ba else bV a (b6 l)
theorem y2{a:List ae}{l:Lit}(h:l.kind=4):qU a l=dt (bV a (b6 l)) l.ba:=am h
theorem y3{a:List ae}{l:Lit}(h: ¬l.kind=4):qU a l=bV a (b6 l):=be h
def outer(r:ai):List ae:=r.body.foldl qU (aU r.head)
theorem Fj(a:List ae)(l:Lit):(qU a l).length+1<=a.length+l.size:=by
 have b:=gf (b6 l) a;have d:=ow l;have j:=nO (bV a (b6 l)) l.ba;unfold qU;split<;>omega
theorem kK: ∀(l:List Lit) (a:List ae),(l.foldl qU a).length<=a.length+Lit.az l
 | [],a=>by simp[Lit.az]
 |e::r,a=>by
  have b:=kK r (qU a e);have d:=Fj a e;simp only[Rc,Lit.az];omega
theorem vI(r:ai):(outer r).length<=r.size:=by
 have b:=kK r.body (aU r.head);have d:=gH r.head;unfold outer ai.size;omega
theorem c30(r:ai)(hb:r.size<=1000000000000):Pure prog 87 [ag r.c] (.iv (strs (outer r))):=by
 have y:=gH r.head;have x:=Lit.aA r.body;unfold ai.size at hb;refine ar ab func87 D (by decide) ntmps87 D (by simp) D ?_;refine gA D (zp (PX r.head (by omega)) ?_);refine gA D ?_;refine aD 0 r.body.length (QN _) (fun i=>⟨[(1,.ptr 0 0),(3,.iv (strs ((r.body.take i).foldl qU (aU r.head)))),(4,pI i)],[(0,io (au r.c))],1⟩) (fun _=>True) [] ac
  (zW (zK trivial)) fun i G F=>?_
 refine zJ D D (fun d=>?_) fun d=>?_
 .have d:=bv d;have u:=dz (g:=qU) (b:=aU r.head) d;have I:=Lit.b4 r.body i d;have J:=kK (r.body.take i) (aU r.head);have A:=ow (r.body.getD i co);have B:=gf (b6 (r.body.getD i co)) ((r.body.take i).foldl qU (aU r.head));refine gA D (zp (c70 (r.body.getD i co) (by omega)) ?_);refine gA D (dr (PW _ _ (by omega)) D D D D D D ?_);refine zJ D D (fun j=>?_) fun j=>?_
  .have j:(r.body.getD i co).kind=4:=zT j;rw[y2 j]at u;refine gA D (dr (Po _ _ (by omega)) D D D D D D ?_);refine gA D ⟨d,ac,[],zM (bi ⟨.of_eq (by rw[u];rfl),rfl,bi ac⟩) (zK ac)⟩
  .have j: ¬(r.body.getD i co).kind=4:=zF j;rw[y3 j]at u;refine gA D ⟨d,ac,[],zM (bi ⟨.of_eq (by rw[u];rfl),rfl,bi ac⟩) (zK ac)⟩
 .have d:=ci d;refine gA D (zL (.of_eq ?_));rw[QM d];rfl
def cM(l:Lit):List ae:=bb l++if l.kind=4 then[l.ba] else[]
def ax(r:ai):List ae:=bA r.head++r.body.flatMap cM
theorem A9(l:Lit):(cM l).length+1<=l.size:=by
 have:=lP l;unfold cM;rw[Qv];split<;>simp<;>omega
theorem mW: ∀l:List Lit,(l.flatMap cM).length<=Lit.az l
 | []=>by simp
 |e::r=>by
  have b:=A9 e;have d:=mW r;rw[Rl,Qv];simp only[Lit.az];omega
theorem pX(r:ai):(ax r).length<=r.size:=by
 have b:=mW r.body;have d:=fu r.head;unfold ax ai.size;rw[Qv];omega
def Lt(r:ai):List IV:=[iS r.head.rel,de 5 r.head.ad Term.c,lits r.body,iI r.at_.line,iI r.at_.yg,yf (aq (ax r))]
abbrev cv(r:ai):IV:= .j6 (Lt r)
theorem c48(r:ai)(hb:r.size<=1000000000000):Pure prog 113 [ag r.c] (.iv (cv r)):=by
 unfold ai.size at hb;have B:=fu r.head;have A:=Lit.aA r.body;refine ar ab func113 D (by decide) ntmps113 D (by simp) D ?_;refine gA D (zd [1] (PL r.head (by omega)) ?_);refine gA D ?_
 refine aD 0 r.body.length (QN _) (fun i=>⟨[(3,.ptr 2 0),(18,.iv (lits r.body)),(19,pI r.body.length),(20,pI i)],
   [(1,io (bI (aq (bA r.head++(r.body.take i).flatMap cM)))),(2,io (.cells [pS r.head.rel,.iv (de 5 r.head.ad Term.c),.iv (lits r.body),pI r.at_.line,pI r.at_.yg,.mp 1]))],3⟩) (fun _=>True) [] ac
  (zW (hM D (by simp) D (zO trivial))) fun i I _=>?_
 refine zJ D D (fun d=>?_) fun d=>?_
 .have d:=bv d;have u:=bn (f:=cM) d;have J:=Lit.b4 r.body i d;have S:=mW (r.body.take i);have G:=lP (r.body.getD i co);refine gA D (xI ab [1] (d89 (r.body.getD i co) _ (by rw[Qv];omega)) D D D D D D D D D D D D (by(repeat' (first|exact ac|exact rfl|exact aC.refl _|exact aC.bk (by assumption)|apply Rm))<;>first|omega|(simp only[QW];omega)|(simp;done)|(simp;omega)) D (by(repeat' (first|exact ac|exact rfl|exact aC.refl _|exact aC.bk (by assumption)|apply Rm))<;>first|omega|(simp only[QW];omega)|(simp;done)|(simp;omega)) ?_);refine zJ D D (fun j=>?_) fun j=>?_
  .have j:(r.body.getD i co).kind=4:=zT j;have b:cM (r.body.getD i co)=bb (r.body.getD i co)++ [(r.body.getD i co).ba]:=by unfold cM;rw[am j]
   rw[b]at u;have F:=bf (bA r.head++(r.body.take i).flatMap cM++bb (r.body.getD i co)) (r.body.getD i co).ba;have x:=dE (bA r.head++(r.body.take i).flatMap cM++bb (r.body.getD i co)) (r.body.getD i co).ba;rw[Qv,Qv]at x;refine gA D ⟨d,ac,[],zW (hM D (by rw[u,<-QU,<-QU,bZ];rfl) D (zO ac))⟩
  .have j: ¬(r.body.getD i co).kind=4:=zF j;have b:cM (r.body.getD i co)=bb (r.body.getD i co):=by unfold cM;rw[be j,Ro]
   rw[b]at u;refine gA D ⟨d,ac,[],zW (hM D (by rw[u,<-QU]) D (zO ac))⟩
 .have d:=ci d;have y:r.body.take i=r.body:=QM d;refine mu D ac (sV (.inr D) D (.map 1 D (.cells 2 _ D (show _=List.map PV.iv (Lt r) by rw[y];rfl) (.done (.of_eq D)))))
def aQ(occ:List ae)(e:Expr):Bool:=(aP e).all fun x=>aJ occ x
theorem qh{l:List ae}{j:Nat}{x:(KC.str).K×Int}(h:(aq l)[j]? =io x):x.1∈l:=
 ((cS l).2 x.1).1 (RH.2 ⟨x,Rk h,rfl⟩)
theorem all_keys{l:List ae}{vs:List Nat}(h: ∀j,j<(aq l).length->j∈vs){p:ae->Prop}(hp: ∀j∈vs,∀x,(aq l)[j]? =io x->p x.1): ∀t∈l,p t:=by
 intro t d;obtain⟨x,u,rfl⟩:=RH.1 (((cS l).2 t).2 d);obtain⟨j,b⟩:=RE u;exact hp j (h j (Qw.1 b).1) x b
theorem d125(occ:List ae)(e:Expr)(hb:e.size<=1000000000000):bL prog 227 [.mp 0,ag e.c] [bI (aq occ)] (pB (aQ occ e)) [(0,io (bI (aq occ)))] 1:=by
 refine aw ab func227 D (by decide) ntmps227 D (by simp) ?_;refine gA D (zq [2] (Lq e hb) ?_);refine gA D ?_;refine fZ (aq (aP e)) (fun A=>⟨[(0,.mp 0),(12,.ptr 3 0)],[(0,io (bI (aq occ))),(3,io (.bQ .str wo (aq (aP e)) A jp))],4⟩) (fun A=> ∀j∈A,∀x,(aq (aP e))[j]? =io x->x.1∈occ) [] (by simp)
  (zW (zC (hI D D (.inl D) D trivial))) fun A I=>?_
 refine mu D ac (ei D D D D D (by decide) (fun d=>?_) fun j x F J=>?_)
 .refine gA D (zD [] D (zM ⟨.of_eq (by rw[show aQ occ e=kw from Q7.2 fun t S=>aI.2 (all_keys d I t S)];rfl),rfl,ac⟩ (zC ac)))
 .have u:=bf occ x.1;refine zJ D D (fun b=>?_) fun b=>?_
  .have b:bG .str (aq occ) x.1 0=0:=zT b;have B:x.1∉occ:=ry.1 (by rw[u]at b;omega);refine gA D (zD [] D (zM ⟨.of_eq (by rw[show aQ occ e=lc from S9.2 ⟨x.1,qh F,by rw[bN.2 B];simp⟩];rfl),rfl,ac⟩ (zC ac)))
  .have b: ¬bG .str (aq occ) x.1 0=0:=zF b;have B:x.1∈occ:=uz.1 (by rw[u]at b;omega);refine gA D ?_
   exact⟨j,x,F,J,fun i hi y G=>by
    rcases QY.1 hi with rfl|hi
    .rw[F]at G;cases G;exact B
    .exact I i hi y G,[],zW (zC (hI D D (.inr D) D ac))⟩
def aj(r:ai)(lit:Int):Lit:=r.body.getD lit.toNat co
theorem Lit.j1(l:Lit):l.agg.size+2<=l.size:=by
 rw[l.size_eq];unfold eM.size Lit.agg;dsimp only;omega
theorem oN{a b:ae×Bool}(h:a=b):PV.bB [pS a.1,pB a.2]= .bB [pS b.1,pB b.2]:=by rw[h]
def kA(l:Lit)(b:List ae):ae×Bool:=
 if¬l.kind=3∨ ¬l.op=1 then(Qz,lc)
 else if l.left.kind=1∧aJ b l.left.var=lc∧(l.right.kind=2∨l.right.kind=1∧aJ b l.right.var=kw) then(l.left.var,kw)
 else if l.right.kind=1∧(if l.left.kind=1 then aJ b l.left.var else li (l.left.kind=2))=kw then(l.right.var,!aJ b l.right.var)
 else(Qz,lc)
def bH(body:List Lit):List ae:=body.flatMap fun l=> [l.left.var,l.right.var,l.ba]
def cA(c k:List ae):Nat:=(c.filter fun x=>!aJ k x).length
theorem jr: ∀body:List Lit,(bH body).length=3*body.length
 | []=>rfl
 |l::r=>by have:=jr r;simp only[bH,Rl,Qv,Rf,R0]at this ⊢;omega
theorem p6(c k:List ae):cA c k<=c.length:=RP _ _
theorem p5{v:ae}{k:List ae}: ∀{c:List ae},v∈c->v∉k->cA c (dt k v)<cA c k:=by
 have mono: ∀c:List ae,cA c (dt k v)<=cA c k:=by
  intro c
  induction c with
  |nil=>exact QH _
  |cons x r d=>
   simp only[cA]at d ⊢;simp only[Sl];by_cases b:x∈k
   .have:aJ (dt k v) x=kw:=aI.2 (cT.2 (.inl b));rw[this,aI.2 b];exact d
   .simp only[bN.2 b,Tu,if_true,Rf];split<;>(try simp only[Rf])<;>omega
 intro c u y
 induction c with
 |nil=>cases u
 |cons x r d=>
  have A:=mono r;simp only[cA]at d A ⊢;simp only[Sl];by_cases j:x=v
  .subst j;have:aJ (dt k x) x=kw:=aI.2 (cT.2 (.inr D));simp[this,bN.2 y];omega
  .have B:v∈r:=by
    rcases QY.1 u with h|h
    .exact absurd h.symm j
    .exact h
   have d:=d B;by_cases b:x∈k
   .have:aJ (dt k v) x=kw:=aI.2 (cT.2 (.inl b));simp[this,aI.2 b];exact d
   .have:aJ (dt k v) x=lc:=bN.2 fun h=>by rcases cT.1 h with h|h;exact b h;exact j h
    simp[this,bN.2 b];omega
def Dy(k:List ae)(l:Lit):List ae:=if l.kind=1 then bV k (aU l.atom) else k
theorem wz{body:List Lit}{l:Lit}(h:l∈body){v:ae}(b:v∈ [l.left.var,l.right.var,l.ba]):v∈bH body:=SI.2 ⟨l,h,b⟩
end Go.Proofs.YtflegjieadkonaaGreatDoor
