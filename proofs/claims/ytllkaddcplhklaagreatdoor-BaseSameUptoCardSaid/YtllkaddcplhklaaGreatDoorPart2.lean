/-
  What the proofs of the claims need: part 2 of 5.
-/
import Derived.Test.YtllkaddcplhklaaGreatDoorPart1
import Derived.Deep.Slices
import Derived.ReadAgain
import Derived.ChangeStays
import Derived.ChangeSame
import Derived.WideShapes
import Derived.RowKit
import Derived.Lib.AppendStr
import Derived.Laws.IdiomStrings
import Derived.Laws.BytesArg
import Derived.Laws.MakeOwn
import Derived.Laws.Slices
import Derived.Lib.SliceRun
import Derived.Shelf.GgSortFunc.RowK
import Derived.StillTail
import Derived.KernelRfl
import Derived.Test.YtllkaddcplhklaaGreatDoorProg
open And renaming intro→Pm
open Array renaming eq_empty_of_size_eq_zero→Qw,extract_size→SM,getD_eq_getD_getElem?→Pg,getElem?_append_left→P1,getElem?_append_right→RS,getElem?_eq_getElem→PR,getElem?_eq_none→RK,getElem?_eq_some_iff→Qr,getElem?_map→RI,getElem?_modify→PZ,getElem?_push→RE,getElem?_setIfInBounds→PM,getElem?_toList→PN,length_toList→Rt,mem_filter→Sa,range→Sk,size_append→RA
open Bool renaming and_eq_true→Qc,eq_false_iff→RR,false_eq_true→Q7,not_eq_true'→Qp,not_true→RO,or_eq_false_iff→RB,or_eq_true→Ry
open ByteArray renaming empty→Pq
open Classical renaming choose→RY,choose_spec→Rh
open Int renaming toNat_natCast→Po
open List.Nodup renaming length_le_of_subset→Qx
open List.Pairwise renaming filter→RD
open List renaming all_eq_true→P4,any_eq_false→Qk,any_eq_true→Qz,append_assoc→PH,append_nil→Qm,cons_append→QN,eq_nil_of_length_eq_zero→Qe,ext_getElem?→RC,filter_congr→Rp,filter_cons→Ra,filter_eq_self→R2,flatMap_append→R3,flatMap_cons→Qs,foldl_cons→Qd,getD_cons_succ→QI,getD_cons_zero→Rs,getD_eq_getElem?_getD→Pk,getElem?_append_left→PD,getElem?_append_right→PB,getElem?_drop→Qj,getElem?_eq_getElem→Pl,getElem?_eq_some_iff→Pj,getElem?_map→Pp,getElem?_of_mem→P9,getElem?_range→R1,getElem?_set→Rb,getElem?_take→P8,getElem?_toArray→Qg,getElem_map→Q3,getElem_mem→P3,length_append→Pn,length_cons→PX,length_eq_zero_iff→QU,length_filter_le→QH,length_map→PS,length_nil→Q6,length_pos_iff→Qv,length_singleton→Qn,length_take→Qy,map_append→PF,map_congr_left→PK,map_cons→Py,map_map→PQ,mem_append→PG,mem_append_left→P2,mem_append_right→Q4,mem_cons→Px,mem_cons_of_mem→Pu,mem_cons_self→Pv,mem_filter→PU,mem_map→PW,mem_of_getElem?→PY,mem_range→QM,mem_singleton→Pw,nil_append→Rc,nodup_append→QS,nodup_cons→P0,nodup_nil→P6,not_mem_nil→Sc,pairwise_cons→P5,pairwise_iff_getElem→Qu,pairwise_map→RT,perm_ext_iff_of_nodup→QX,range→PT,replicate→RU,take_append_drop→RQ,take_of_length_le→Pz,take_succ_cons→QQ,take_succ_eq_append_getElem→R8
open Nat renaming add_assoc→QY,add_mul→Qo,add_zero→Rl,beq→PJ,ble→Rw,ble_eq_true_of_le→Qh,blt→PI,eq_of_beq_eq_true→PC,le_add_right→Sb,le_of_ble_eq_true→Pf,le_of_not_lt→Rj,le_refl→Ps,le_succ→QO,le_trans→Qa,lt_irrefl→SI,lt_of_le_of_lt→SK,lt_of_lt_of_le→Ri,lt_or_ge→Ql,lt_succ_of_lt→QR,lt_succ_self→Q9,lt_trichotomy→Rz,mul_comm→SN,mul_le_mul_right→PL,mul_one→Sm,ne_of_lt→Su,sub_zero→RX,succ_mul→QZ,zero_add→PO,zero_le→PA,zero_mul→Ru
open Option renaming getD_some→Qf,map_eq_some_iff→Pr,map_none→RN,map_some→Qt
open Option.some renaming inj→P7,injEq→Ph
open Prod renaming fst→Qi
open Prod.mk renaming injEq→Pt
set_option maxRecDepth 100000
open Bool renaming false→kw,true→jp
open Decidable renaming decide→lc
open Inhabited renaming default→co
open Option renaming none→is,some→io
namespace Go.Al
section
def xO:Op->Bool
  | .binOp .add _ _ _ _=>jp
  | .binOp .sub _ _ _ _=>jp
  | .binOp .mul _ _ _ _=>jp
  | .binOp .rem _ _ _ _=>jp
  | .binOp .quo _ _ _ _=>jp
  | .indexAddr ..=>jp
  | .index ..=>jp
  | .slice ..=>jp
  |_=>kw
theorem v8{ty:Ty}{s:AS}{o:Op}{p:PV}{C:Prop}(h:gz ty s o=io (p,C))(ho:xO o=kw):C:=by
  cases o with
  | binOp op t x y t'=>
    simp only[gz]at h;split at h
    · unfold BF at h
      split at h
      · split at h<;>first|(cases h;done)|(simp only[Ph,Pt]at h;rw[<-h.2];trivial)
      · split at h<;>first|(cases h;done)|(simp only[Ph,Pt]at h;rw[<-h.2];trivial)
      · cases h
    unfold wO at h;split at h
    · split at h
      · unfold zs at h
        split at h
        · unfold qq at h
          split at h<;>first
            |(cases h;done)
            |(split at h<;>first|(cases h;done)|(simp only[Ph,Pt]at h;rw[<-h.2];trivial))
        · unfold qq at h
          split at h<;>first
            |(cases h;done)
            |(split at h<;>first|(cases h;done)|(simp only[Ph,Pt]at h;rw[<-h.2];trivial))
        unfold A7 at h;split at h<;>first|(cases h;done)|(simp[xO]at ho;done)|(simp only[Ph,Pt]at h;rw[<-h.2];trivial)
      · unfold qq at h
        split at h<;>first
          |(cases h;done)
          |(split at h<;>first|(cases h;done)|(simp only[Ph,Pt]at h;rw[<-h.2];trivial))
    · unfold An at h
      split at h<;>first|(cases h;done)|(simp[xO]at ho;done)|(simp only[Ph,Pt]at h;rw[<-h.2];trivial)
    · split at h
      all_goals first
        |(cases h;done)
        | (unfold my at h
           split at h
           · split at h<;>first|(cases h;done)|(simp only[Ph,Pt]at h;rw[<-h.2];trivial)
           · cases h)
    · split at h
      all_goals first
        |(cases h;done)
        | (unfold my at h
           split at h
           · split at h<;>first|(cases h;done)|(simp only[Ph,Pt]at h;rw[<-h.2];trivial)
           · cases h)
    all_goals first
      |(cases h;done)
      | (unfold sH at h
         split at h
         · split at h<;>first|(cases h;done)|(simp only[Ph,Pt]at h;rw[<-h.2];trivial)
         · cases h)
  |indexAddr t x i=>simp[xO]at ho
  |index t x i=>simp[xO]at ho
  |slice t x lo hi mx=>simp[xO]at ho
  | call c=>
    obtain⟨callee,args,j⟩:=c;cases callee with
    | builtin b=>
      cases b with
      | len=>
        simp only[gz]at h;split at h
        · split at h
          · split at h<;>first|(cases h;done)|(simp only[ub,Ph,Pt]at h;rw[<-h.2];trivial)
          · split at h<;>first|(cases h;done)|(simp only[ub,Ph,Pt]at h;rw[<-h.2];trivial)
          · split at h
            · simp only[Ph,Pt]at h;rw[<-h.2];trivial
            · split at h<;>first|(cases h;done)|(simp only[Ph,Pt]at h;rw[<-h.2];trivial)
            · cases h
          · cases h
        · cases h
      | max=>
        simp only[gz]at h;split at h
        · split at h<;>first|(cases h;done)|(simp only[Ph,Pt]at h;rw[<-h.2];trivial)
        · cases h
      | min=>
        simp only[gz]at h;split at h
        · split at h<;>first|(cases h;done)|(simp only[Ph,Pt]at h;rw[<-h.2];trivial)
        · cases h
      |_=>simp[gz]at h
    |_=>simp[gz]at h
  | unOp op t x=>
    cases op with
    |not=>simp only[gz]at h;split at h<;>first|(cases h;done)|(simp only[Ph,Pt]at h;rw[<-h.2];trivial)
    |_=>simp[gz]at h
  | lookup t x i ok=>
    have key: ∀{kc:KC} {V:Type} {e:V->IV} {z:V} {u:Value} {m:List (kc.K×V)},sN ty t ok kc e z u m (ev s.f i)=io (p,C)->C:=by
      intro kc V e z u m h;unfold sN at h;split at h
      · split at h
        · split at h
          · split at h<;>(simp only[Ph,Pt]at h;rw[<-h.2];trivial)
          · cases h
        · cases h
      · cases h
    simp only[gz]at h;split at h
    · exact key h
    · split at h
      · exact key h
      · cases h
    · cases h
  | _=>
    simp only[gz]at h
    repeat' (first|(cases h;done)|(simp only[force_eq,Ph,Pt]at h;rw[<-h.2];trivial)|split at h)
inductive FN where
  |read (i:Nat) (o:Oper) (p:PV) (C:Prop)
  |skip (i:Nat) (o:Oper)
  |split (d:Nat) (t:Bool)
def kg(ty:Ty)(nt:Nat)(s:AS)(all:List Oper)(todo pend:List (Nat×Oper)):List (Nat×Oper)->Option FN
  | []=>is
  | (i,o)::r=>match todo.any (fun y=>waits o y.1)||aO o with
    |true=>kg ty nt s all todo pend r
    | false=>match bX nt all s.f o with
      | some jp=>match gz ty s o.op with
        | some (p,C)=>match uk all pend o with
          |true=>io (.read i o p C)
          |false=>kg ty nt s all todo pend r
        |none=>kg ty nt s all todo pend r
      | some kw=>match uk all pend o with
        |true=>io (.skip i o)
        |false=>kg ty nt s all todo pend r
      | none=>match o.guard with
        | some (g,_)=>match guardOf all s.f g with
          |some (d,.iv (.v (.bool t)))=>io (.split d t)
          |_=>kg ty nt s all todo pend r
        |none=>kg ty nt s all todo pend r
def dD(ty:Ty)(nt:Nat)(all:List Oper)(s:AS):List (Nat×Oper)->Option Prop
  | []=>io True
  | (_,o)::r=>match dD ty nt all s r with
    |none=>is
    | some R=>match bX nt all s.f o with
      | some jp=>match gz ty s o.op with
        | some (p,C)=>match o.dst with
          |some d=>bif PI d nt then io ((ah p (s.f.get d)∧C)∧R) else is
          |none=>io (C∧R)
        |none=>is
      | some kw=>match o.dst with
        |some d=>io (s.f.get d= .iv (.v (.tuple #[]))∧R)
        |none=>io R
      |none=>is
def eL(todo:List (Nat×Oper)):List (Nat×Oper):=todo.filter fun x=>!(aO x.2||todo.any fun y=>waits x.2 y.1)
def mX(ty:Ty)(nt:Nat)(all:List Oper)(s:AS)(todo pend:List (Nat×Oper)):Option Prop:=
  match todo.any fun y=>aO y.2 with
  |true=>dD ty nt all s pend
  |false=>io True
def mE(all:List Oper)(i:Nat)(o:Oper):Nat->List Oper->Bool
  |_,[]=>jp
  |k,q::r=>(PJ k i||((waits q i||!looks all q o)&&(match o.dst,q.dst with|some d,io e=>!PJ d e|_,_=>jp)))&&mE all i o (k+1) r
def jn(ty:Ty)(nt:Nat)(all:List Oper):Nat->List Oper->Bool
  |_,[]=>jp
  | i,o::r=>(match o.op with
    | .alloc t=>match o.guard,o.dst,ty t with
      |none,io d,io _=>PI d nt&&((o.after.toList.all fun e=>!Region.binds .any e)&&mE all i o 0 all)
      |_,_,_=>kw
    |_=>jp)&&jn ty nt all (i+1) r
def xM(todo:List (Nat×Oper)):List (Nat×Oper)->Option (Nat×Oper)
  | []=>is
  | (i,o)::r=>match aO o,wT todo i with
    |true,jp=>io (i,o)
    |_,_=>xM todo r
inductive Stop where
  |fin (e:Exit) (s:AS)
  |cond (c:Operand) (t:Bool) (x y:Code) (k:List KI) (s:AS)
  |guard (all rest:List Oper) (o:Oper) (d:Nat) (want t:Bool) (k:List KI) (s:AS)
  |op (all rest:List Oper) (o:Oper) (k:List KI) (s:AS)
  |loop (b:Code) (k:List KI) (s:AS)
  |draw (id:Nat) (ops:Array Oper) (k:List KI) (s:AS)
  |again (R:AS->Prop) (s:AS)
  |K6 (all rest:List Oper) (o:Oper) (d:Nat) (want t:Bool) (k:List KI) (s:AS)
  |E7 (all:List Oper) (todo pend:List (Nat×Oper)) (d:Nat) (t:Bool) (k:List KI) (s:AS)
  |Fa (all:List Oper) (todo pend:List (Nat×Oper)) (k:List KI) (s:AS)
  |bad (why:Nat) (k:List KI) (s:AS)
  |out (k:List KI) (s:AS)
def lV(id:Nat):List KI->Option (List KI)
  | []=>is
  | .az j::k=>bif PJ id j then io k else lV id k
  | .code _::k=>lV id k
  | .ops _ _::k=>lV id k
  | .lp _::k=>lV id k
  | .qW _ _::k=>lV id k
  | .bW _ _ _::k=>lV id k
  | .BI _ _::k=>lV id k
  | .CU::k=>lV id k
  | .Ih ..::_=>is
  | .Ii ..::_=>is
def fm:List KI->Option (List KI)
  | []=>is
  | .az _::k=>fm k
  | .code _::k=>fm k
  | .ops _ _::k=>fm k
  | .lp _::k=>fm k
  | .qW _ _::k=>fm k
  | .bW _ _ _::k=>fm k
  | .BI _ _::k=>fm k
  | .CU::k=>fm k
  |k=>io k
structure Pe where
  nt:Nat
  res:List ResultVar
  body:Code
abbrev Om:=Nat->Option Pe
def FL(P:Program)(b:Om):Prop:= ∀g e,b g=io e-> ∃fn,P.funcs[g]? =io fn∧fn.body=io e.body∧(fn.name== "runtime.NumGoroutine")=kw∧fn.ntmps=e.nt∧fn.results.toList=e.res
def yF{α:Type _}:Nat->List PV->(AF->α)->α
  |_,[],k=>k []
  |n,p::r,k=>ta p fun b=>yF (n+1) r fun f=>k ((n,b)::f)
theorem tA{α:Type _}: ∀(l:List PV) (n:Nat) (k:AF->α),yF n l k=k (mB n l)
  | [],_,_=>rfl
  |p::r,n,k=>by simp only[yF,dc,tA r,mB]
def callee(b:Om)(s:AS):Op->Option (Pe×List PV)
  | .call c=>match bM s.f c with
    | some (g,asv)=>match b g with
      | some e=>match Rw asv.length e.nt with
        |true=>io (e,asv)
        |false=>is
      |none=>is
    |none=>is
  |_=>is
structure Way where
  fns:Om
  un:Nat
  cl:Bool
def bw(ty:Ty)(y:Way):Nat->Nat->List KI->AS->Prop->Option (Prop×Nat×Stop)
  |0,nt,k,s,C=>io (C,nt,.out k s)
  |_+1,nt,[],s,C=>io (C,nt,.fin .normal s)
  |n+1,nt,.az _::k,s,C=>bw ty y n nt k s C
  |_+1,nt,.lp R::_,s,C=>io (C,nt,.again R s)
  |n+1,nt,.CU::k,s,C=>bw ty y n nt k s C
  |n+1,nt,.code (.scope b)::k,s,C=>bw ty y n nt (.code b:: .CU::k) s C
  | n+1,nt,.BI b m::k,s,C=>match m with
    |0=>io (C,nt,.bad 2 k s)
    |m+1=>bw ty y n nt (.code b:: .BI b m::k) s C
  | n+1,_,.Ih nt f res o all rest::k,s,C=>match res s with
    |none=>io (C,nt,.bad 3 k s)
    | some r=>match putDst nt o r ⟨f,s.h,s.nx⟩ with
      |none=>io (C,nt,.bad 4 k s)
      |some s'=>bw ty y n nt (.ops all rest::k) s' C
  | n+1,_,.Ii nt f res j o all todo pend::k,s,C=>match res s with
    |none=>io (C,nt,.bad 5 k s)
    | some r=>match putDst nt o r ⟨f,s.h,s.nx⟩ with
      |none=>io (C,nt,.bad 6 k s)
      | some s'=>match dD ty nt all s' (aZ pend o) with
        |none=>io (C,nt,.bad 7 k s)
        |some C''=>bw ty y n nt (.bW all (todo.filter fun x=>!PJ x.1 j) (aZ pend o)::k) s' (C∧C'')
  |n+1,nt,.code .skip::k,s,C=>bw ty y n nt k s C
  |n+1,nt,.code (.label _)::k,s,C=>bw ty y n nt k s C
  |n+1,nt,.code (.seq a b)::k,s,C=>bw ty y n nt (.code a:: .code b::k) s C
  |n+1,nt,.code (.block id b)::k,s,C=>bw ty y n nt (.code b:: .az id::k) s C
  | n+1,nt,.code (.region id ops d)::k,s,C=>match d with
    |false=>bw ty y n nt (.ops ops.toList ops.toList::k) s C
    | true=>match sG ops.toList,gr 0 ops.toList,jn ty nt ops.toList 0 ops.toList with
      |true,jp,jp=>bw ty y n nt (.bW ops.toList (hP 0 ops.toList) []::k) s C
      |_,_,_=>io (C,nt,.draw id ops k s)
  |n+1,nt,.bW _ [] _::k,s,C=>bw ty y n nt k s C
  | n+1,nt,.bW all (x::todo) pend::k,s,C=>match kg ty nt s all (x::todo) pend (x::todo) with
    | some (.read i o p C')=>match putDst nt o p s with
      |none=>io (C,nt,.bad 8 k s)
      | some s'=>match xO o.op with
        |true=>bw ty y n nt (.bW all ((x::todo).filter fun x=>!PJ x.1 i) ((i,o)::pend)::k) s' (C∧C')
        |false=>bw ty y n nt (.bW all ((x::todo).filter fun x=>!PJ x.1 i) ((i,o)::pend)::k) s' C
    |some (.skip i o)=>bw ty y n nt (.bW all ((x::todo).filter fun x=>!PJ x.1 i) ((i,o)::pend)::k) (fG o s) C
    | some (.split d _)=>match s.f.get d with
      | .iv (.v (.bool t'))=>match y.cl with
        |false=>io (C,nt,.E7 all (x::todo) pend d t' k s)
        | true=>match t' with
          |true=>bw ty y n nt (.bW all (x::todo) pend::k) (setBool s (.tmp d) jp) C
          |false=>bw ty y n nt (.bW all (x::todo) pend::k) (setBool s (.tmp d) kw) C
      |_=>io (C,nt,.bad 9 k s)
    | none=>match eL (x::todo) with
      | [(j,o)]=>match bX nt all s.f o,gZ all pend o,mW (x::todo) [j] with
        | some jp,jp,jp=>match mX ty nt all s (x::todo) pend with
          |none=>io (C,nt,.bad 101 k s)
          | some CA=>match gz ty s o.op with
            | some (p,C')=>match putDst nt o p s with
              |none=>io (C,nt,.bad 102 k s)
              | some s'=>match dD ty nt all s' (aZ pend o) with
                |none=>io (C,nt,.bad 103 k s)
                |some C''=>bw ty y n nt (.bW all ((x::todo).filter fun x=>!PJ x.1 j) (aZ pend o)::k) s' (C∧(CA∧C'∧C''))
            | none=>match Em ty s o.op with
              | none=>match callee y.fns s o.op with
                | none=>match Ob ty s o.op with
                  |none=>io (C,nt,.Fa all (x::todo) pend k s)
                  | some (C',p,s1)=>match putDst nt o p s1 with
                    |none=>io (C,nt,.bad 109 k s)
                    | some s'=>match dD ty nt all s' (aZ pend o) with
                      |none=>io (C,nt,.bad 110 k s)
                      |some C''=>bw ty y n nt (.bW all ((x::todo).filter fun x=>!PJ x.1 j) (aZ pend o)::k) s' (C∧(CA∧C'∧C''))
                |some (e,asv)=>yF 0 asv fun f=>bw ty y n e.nt (.code e.body:: .Ii nt s.f (iU ty · e.res) j o all (x::todo) pend::k) ⟨f,s.h,s.nx⟩ (C∧CA)
              | some (p,s1)=>match putDst nt o p s1 with
                |none=>io (C,nt,.bad 104 k s)
                | some s'=>match dD ty nt all s' (aZ pend o) with
                  |none=>io (C,nt,.bad 105 k s)
                  |some C''=>bw ty y n nt (.bW all ((x::todo).filter fun x=>!PJ x.1 j) (aZ pend o)::k) s' (C∧(CA∧C''))
        |_,_,_=>io (C,nt,.Fa all (x::todo) pend k s)
      | []=>match xM (x::todo) (x::todo) with
        |none=>io (C,nt,.Fa all (x::todo) pend k s)
        | some (i,o)=>match o.op,o.dst with
          | .alloc t,io d=>match ty t with
            |none=>io (C,nt,.bad 106 k s)
            | some e=>force (aK e.zero) fun A=>match dD ty nt all s pend,dD ty nt all (jo s d A) pend with
              |some C1,io C2=>bw ty y n nt (.bW all ((x::todo).filter fun x=>!PJ x.1 i) pend::k) (jo s d A) (C∧(C1∧C2))
              |_,_=>io (C,nt,.bad 107 k s)
          |_,_=>io (C,nt,.bad 108 k s)
      |_=>io (C,nt,.Fa all (x::todo) pend k s)
  | n+1,nt,.code (.cond c u v)::k,s,C=>match ev s.f c with
    | .iv (.v (.bool t))=>match y.cl with
      |false=>io (C,nt,.cond c t u v k s)
      | true=>match t with
        |true=>bw ty y n nt (.code u::k) s C
        |false=>bw ty y n nt (.code v::k) s C
    | .kb jp=>bw ty y n nt (.code u::k) s C
    | .kb kw=>bw ty y n nt (.code v::k) s C
    |_=>io (C,nt,.bad 14 k s)
  | n+1,nt,.code .ret::k,s,C=>match fm k with
    |some k'=>bw ty y n nt k' s C
    |none=>io (C,nt,.fin .ret s)
  | n+1,nt,.code (.exit id)::k,s,C=>match lV id k with
    |some k'=>bw ty y n nt k' s C
    |none=>io (C,nt,.bad 15 k s)
  | n+1,nt,.code (.loop b)::k,s,C=>match y.un with
    |0=>io (C,nt,.loop b k s)
    |u+1=>bw ty y n nt (.code b:: .BI b u::k) s C
  |_+1,nt,.code _::k,s,C=>io (C,nt,.bad 16 k s)
  |_+1,nt,.qW _ _::k,s,C=>io (C,nt,.bad 17 k s)
  |n+1,nt,.ops _ []::k,s,C=>bw ty y n nt k s C
  | n+1,nt,.ops all (o::r)::k,s,C=>match o.guard with
    | some (j,want)=>match guardOf all s.f j with
      | some (d,.iv (.v (.bool t)))=>bif PI d nt then(match y.cl with
        |false=>io (C,nt,.guard all r o d want t k s)
        | true=>match t with
          |true=>bw ty y n nt (.ops all (o::r)::k) (setBool s (.tmp d) jp) C
          |false=>bw ty y n nt (.ops all (o::r)::k) (setBool s (.tmp d) kw) C) else io (C,nt,.bad 18 k s)
      | some (d,.kb t)=>bif PI d nt then(match t,want,o with
        |true,jp,⟨a1,a2,a3,a4,a5,_⟩=>bw ty y n nt (.ops all (⟨a1,a2,a3,a4,a5,is⟩::r)::k) s C
        |false,kw,⟨a1,a2,a3,a4,a5,_⟩=>bw ty y n nt (.ops all (⟨a1,a2,a3,a4,a5,is⟩::r)::k) s C
        |_,_,o=>bw ty y n nt (.ops all r::k) (fG o s) C) else io (C,nt,.bad 19 k s)
      |some (_,.iv (.v (.tuple _)))=>bw ty y n nt (.ops all r::k) (fG o s) C
      |_=>io (C,nt,.bad 20 k s)
    | none=>match gz ty s o.op with
      | none=>match Em ty s o.op with
        | none=>match callee y.fns s o.op with
          | none=>match Ob ty s o.op with
            |none=>io (C,nt,.op all r o k s)
            | some (C',p,s1)=>match putDst nt o p s1 with
              |none=>io (C,nt,.bad 111 k s)
              |some s'=>bw ty y n nt (.ops all r::k) s' (C∧C')
          |some (e,asv)=>yF 0 asv fun f=>bw ty y n e.nt (.code e.body:: .Ih nt s.f (iU ty · e.res) o all r::k) ⟨f,s.h,s.nx⟩ C
        | some (p,s1)=>match putDst nt o p s1 with
          |none=>io (C,nt,.bad 21 k s)
          |some s'=>bw ty y n nt (.ops all r::k) s' C
      | some (p,C')=>match putDst nt o p s with
        |none=>io (C,nt,.bad 22 k s)
        | some s'=>match xO o.op with
          |true=>bw ty y n nt (.ops all r::k) s' (C∧C')
          |false=>bw ty y n nt (.ops all r::k) s' C
def ep(P:Program)(nt:Nat)(Q:AQ):Stop->Prop
  | .fin e s=>Q e s
  | .cond c t x y k s=>(t=jp->GO P nt (.code x::k) Q (setBool s c jp))∧(t=kw->GO P nt (.code y::k) Q (setBool s c kw))
  | .guard all r o d want t k s=>(t=want->GO P nt (.ops all ({o with guard:=is}::r)::k) Q (setBool s (.tmp d) want))∧(t=!want->GO P nt (.ops all r::k) Q (fG o (setBool s (.tmp d) (!want))))
  | .op all r o k s=>GO P nt (.ops all (o::r)::k) Q s
  | .loop b k s=>GO P nt (.code (.loop b)::k) Q s
  | .draw id ops k s=>GO P nt (.code (.region id ops jp)::k) Q s
  | .again R s=>R s
  | .K6 all r o d want t k s=>(t=want->GO P nt (.qW all ({o with guard:=is}::r)::k) Q (setBool s (.tmp d) want))∧(t=!want->GO P nt (.qW all r::k) Q (fG o (setBool s (.tmp d) (!want))))
  | .E7 all todo pend d t k s=>(t=jp->GO P nt (.bW all todo pend::k) Q (setBool s (.tmp d) jp))∧(t=kw->GO P nt (.bW all todo pend::k) Q (setBool s (.tmp d) kw))
  | .Fa all todo pend k s=>GO P nt (.bW all todo pend::k) Q s
  | .bad _ _ _=>False
  | .out k s=>GO P nt k Q s
section
variable {P:Program} {ty:Ty} {nt:Nat} {Q:AQ}
theorem k9: ∀(k:List KI) {nt:Nat} {s:AS},fm k=is->Q .ret s->kp P nt k Q .ret s
  | [],_,_,_,h=>h
  | .code _::k,_,_,g,h=>k9 k g h
  | .az _::k,_,_,g,h=>k9 k g h
  | .ops _ _::k,_,_,g,h=>k9 k g h
  | .lp _::k,_,_,g,h=>k9 k g h
  | .qW _ _::k,_,_,g,h=>k9 k g h
  | .bW _ _ _::k,_,_,g,h=>k9 k g h
  | .BI _ _::k,_,_,g,h=>k9 k g h
  | .CU::k,_,_,g,h=>k9 k g h
  | .Ih ..::_,_,_,g,_=>by simp[fm]at g
  | .Ii ..::_,_,_,g,_=>by simp[fm]at g
theorem dh: ∀(k:List KI) {nt:Nat} {s:AS} {b:List KI},fm k=io b->GO P nt b Q s->kp P nt k Q .ret s
  | [],_,_,_,g,_=>by simp[fm]at g
  | .code _::k,_,_,_,g,h=>dh k g h
  | .az _::k,_,_,_,g,h=>dh k g h
  | .ops _ _::k,_,_,_,g,h=>dh k g h
  | .lp _::k,_,_,_,g,h=>dh k g h
  | .qW _ _::k,_,_,_,g,h=>dh k g h
  | .bW _ _ _::k,_,_,_,g,h=>dh k g h
  | .BI _ _::k,_,_,_,g,h=>dh k g h
  | .CU::k,_,_,_,g,h=>dh k g h
  | .Ih ..::_,_,_,_,g,h=>by
    simp only[fm,Ph]at g;subst g;exact⟨.inr Z,h.2⟩
  | .Ii ..::_,_,_,_,g,h=>by
    simp only[fm,Ph]at g;subst g;exact⟨.inr Z,h.2⟩
theorem cT{id:Nat}: ∀(k:List KI) {nt:Nat} {b:List KI} {s:AS},lV id k=io b->GO P nt b Q s->kp P nt k Q (.exit id) s
  | [],_,_,_,h,_=>by cases h
  | .code _::k,_,_,_,h,g=>cT k h g
  | .ops _ _::k,_,_,_,h,g=>cT k h g
  | .lp _::k,_,_,_,h,g=>cT k h g
  | .qW _ _::k,_,_,_,h,g=>cT k h g
  | .bW _ _ _::k,_,_,_,h,g=>cT k h g
  | .BI _ _::k,_,_,_,h,g=>cT k h g
  | .CU::k,_,_,_,h,g=>cT k h g
  | .Ih ..::_,_,_,_,h,_=>by cases h
  | .Ii ..::_,_,_,_,h,_=>by cases h
  | .az j::k,nt,b,s,h,g=>by
    simp only[lV]at h;show if id=j then _ else _;cases hb:PJ id j with
    | true=>
      simp only[hb,cond_true,Ph]at h;subst h;rw[am (PC hb)];exact g
    | false=>
      simp only[hb,cond_false]at h;rw[be (fun e=>by subst e;simp at hb)];exact cT k h g
theorem sr(j:bx P ty){s s':AS}{o:Oper}{p:PV}{C:Prop}(h:gz ty s o.op=io (p,C))(hC:C)(hp:putDst nt o p s=io s'):OT P nt o s (fun t=>t=s'):=by
  intro M N a w b K Z hk;obtain⟨x,y,u⟩:=pE j b h hC;unfold Oper.wp;rw[y];simp only[Oper.upon];cases hd:o.dst with
  | none=>
    have:=eQ hp hd;subst this;exact hk M N s' _ w (.refl _ _ _ _ _) b rfl
  | some d=>
    obtain⟨h1,rfl⟩:=eP hp hd;exact hk M N {s with f:=(d,p)::s.f} _ w (.refl _ _ _ _ _) (b.put d p x h1 u) rfl
theorem mK(j:bx P ty){s s':AS}{o:Oper}{p:PV}{C:Prop}(h:gz ty s o.op=io (p,C))(hC:C)(hp:putDst nt o p s=io s'):
    (s'.h=s.h∧s'.nx=s.nx)∧ ∀M N a w,Fits M N s nt a w-> ∃x,(execOp a.eval o).run P w= .ok (.value x) w∧Fits M N s' nt (a.put o.dst x) w:=by
  cases hd:o.dst with
  | none=>
    have:=eQ hp hd;subst this;exact⟨⟨rfl,rfl⟩,fun M N a w b=>let ⟨x,hx,_⟩:=pE j b h hC;⟨x,hx,b⟩⟩
  | some d=>
    obtain⟨h1,rfl⟩:=eP hp hd;exact⟨⟨rfl,rfl⟩,fun M N a w b=>let ⟨x,hx,hv⟩:=pE j b h hC;⟨x,hx,b.put d p x h1 hv⟩⟩
theorem sx{s:AS}{all:List Oper}{todo pend:List (Nat×Oper)}: ∀{l:List (Nat×Oper)} {i:Nat} {o:Oper},(∀x∈l,x∈todo)->
    ((∀{p C},kg ty nt s all todo pend l=io (.read i o p C)->(i,o)∈todo∧aO o=kw∧(∀x∈todo,waits o x.1=kw)∧bX nt all s.f o=io jp∧uk all pend o=jp∧gz ty s o.op=io (p,C))∧
     (kg ty nt s all todo pend l=io (.skip i o)->(i,o)∈todo∧aO o=kw∧(∀x∈todo,waits o x.1=kw)∧bX nt all s.f o=io kw∧uk all pend o=jp))
  | [],i,o,_=>⟨fun h=>by simp[kg]at h,fun h=>by simp[kg]at h⟩
  | (j,q)::r,i,o,hl=>by
    have b:=sx (s:=s) (all:=all) (todo:=todo) (pend:=pend) (l:=r) (i:=i) (o:=o) (fun x G=>hl x (Pu _ G));have u:(todo.any (fun y=>waits q y.1)||aO q)=kw->aO q=kw∧ ∀x∈todo,waits q x.1=kw:=fun h=>by
      simp only[RB,Qk]at h;exact⟨h.2,fun x G=>by simpa using h.1 x G⟩
    constructor
    · intro p C h
      simp only[kg]at h;split at h
      · exact b.1 h
      · rename_i A
        split at h
        · rename_i D
          split at h
          · rename_i I
            split at h
            · rename_i B
              simp only[Ph,FN.read.injEq]at h;obtain⟨rfl,rfl,rfl,rfl⟩:=h;exact⟨hl _ (by simp),(u A).1,(u A).2,D,B,I⟩
            · exact b.1 h
          · exact b.1 h
        · split at h
          · cases h
          · exact b.1 h
        · split at h
          · split at h
            · cases h
            · exact b.1 h
          · exact b.1 h
    · intro h
      simp only[kg]at h;split at h
      · exact b.2 h
      · rename_i A
        split at h
        · split at h
          · split at h
            · cases h
            · exact b.2 h
          · exact b.2 h
        · rename_i D
          split at h
          · rename_i B
            simp only[Ph,FN.skip.injEq]at h;obtain⟨rfl,rfl⟩:=h;exact⟨hl _ (by simp),(u A).1,(u A).2,D,B⟩
          · exact b.2 h
        · split at h
          · split at h
            · cases h
            · exact b.2 h
          · exact b.2 h
theorem tE{s s1:AS}{o:Oper}{d:Nat}{p:PV}(hd:o.dst=io d)(hs:s1={s with f:=(d,p)::s.f})(hp:ah p (s.f.get d)){M:Mem}{N:Nm}{a:Act}{w:World}(hf:Fits M N s1 nt a w):Fits M N s nt a w:=by
  subst hs;refine⟨hf.1,fun k=>?_,hf.2.2⟩;have:=hf.2.1 k;rw[AF.ay]at this;split at this
  · rename_i hk;subst hk;exact hp _ _ _ _ this
  · exact this
theorem dd(u:bx P ty){all:List Oper}{s:AS}: ∀{l:List (Nat×Oper)} {C:Prop},dD ty nt all s l=io C->C-> ∀x∈l,eE P nt all s x.2
  | [],_,_,_,x,hx=>(nomatch hx)
  | (i,o)::r,C,h,hC,x,hx=>by
    simp only[dD]at h;split at h
    · cases h
    · rename_i R hR
      have key:R->(∀M N b w,Fits M N s nt b w-> ∃v,YieldsAt P all.toArray w o v b∧Fits M N s nt (b.put o.dst v) w)->eE P nt all s x.2:=by
        intro B hh;rcases Px.1 hx with rfl|hx
        · exact hh
        · exact dd u hR B x hx
      split at h
      · rename_i y
        split at h
        · rename_i p Y B
          split at h
          · rename_i d hd
            cases hb:PI d nt with
            |false=>simp[hb]at h
            | true=>
              simp only[hb,cond_true,Ph]at h;subst h;obtain⟨⟨h1,I⟩,J⟩:=hC;refine key J fun M N b w j=>?_;obtain⟨v,G,A⟩:=pE u j B I;refine⟨v,.inl ⟨eT y j,.inl G⟩,?_⟩;rw[hd];exact tE hd Z h1 (j.put d p v (Pf hb) A)
          · rename_i hd
            simp only[Ph]at h;subst h;refine key hC.2 fun M N b w j=>?_;obtain⟨v,G,A⟩:=pE u j B hC.1;exact⟨v,.inl ⟨eT y j,.inl G⟩,by rw[hd];exact j⟩
        · cases h
      · rename_i y
        have D: ∀d,o.dst=io d->s.f.get d= .iv (.v (.tuple #[]))-> ∀M N b w,Fits M N s nt b w-> ∃v,YieldsAt P all.toArray w o v b∧Fits M N s nt (b.put o.dst v) w:=fun d hd h1 M N b w j=>by
          refine⟨undef,.inr ⟨eT y j,rfl⟩,?_⟩;have:=j.skip o;unfold fG at this;rw[hd]at this ⊢;exact tE hd Z (h1▸ah.refl _) this
        split at h
        · rename_i d hd
          simp only[Ph]at h;subst h;exact key hC.2 (D d hd hC.1)
        · rename_i hd
          simp only[Ph]at h;subst h;exact key hC fun M N b w j=>⟨undef,.inr ⟨eT y j,rfl⟩,by rw[hd];exact j⟩
      · cases h
theorem Bg{all:List Oper}{o:Oper}{r:List Oper}{d:Nat}{t:Bool}{k:List KI}{s:AS}{c:Bool}(hc:c=t)(u:s.f.get d= .iv (.v (.bool t)))(h:GO P nt (.ops all (o::r)::k) Q (setBool s (.tmp d) c)):GO P nt (.ops all (o::r)::k) Q s:=by
  subst hc;intro M N a w j;have b:=j.setBool (c:= .tmp d) u;exact AL.same (s:=s) h (iG _ _ _) b
theorem s7{c:Operand}{u v:Code}{t:Bool}{k:List KI}{s:AS}(hc:ev s.f c= .iv (.v (.bool t)))(h:GO P nt (.code (bif t then u else v)::k) Q s):GO P nt (.code (.cond c u v)::k) Q s:=by
  intro M N a w b;refine wp_cond (b.bool hc) ?_;cases t
  · exact h M N a w b
  · exact h M N a w b
theorem qI{all:List Oper}{f:AF}{j d:Nat}{p:PV}(h:guardOf all f j=io (d,p)):f.get d=p:=by
  unfold guardOf at h;split at h
  · split at h
    · simp only[Ph,Pt]at h;rw[<-h.1];exact h.2
    · cases h
  · cases h
theorem xL{todo:List (Nat×Oper)}: ∀{l:List (Nat×Oper)} {i:Nat} {o:Oper},(∀x∈l,x∈todo)->xM todo l=io (i,o)->(i,o)∈todo∧wT todo i=jp
  | [],_,_,_,h=>by simp[xM]at h
  | (j,q)::r,i,o,hl,h=>by
    simp only[xM]at h;split at h
    · rename_i b
      simp only[Ph,Pt]at h;obtain⟨rfl,rfl⟩:=h;exact⟨hl _ (by simp),b⟩
    · exact xL (fun x u=>hl x (Pu _ u)) h
theorem qS{all:List Oper}{i:Nat}{o:Oper}: ∀{l:List Oper} {n:Nat},mE all i o n l=jp-> ∀k q,l[k]? =io q->n+k≠i->(waits q i=jp∨looks all q o=kw)∧ ∀d,o.dst=io d->q.dst≠io d
  | [],_,_,k,q,hk,_=>by simp at hk
  | c::l,n,h,k,q,hk,hne=>by
    simp only[mE,Qc,Ry,Qp]at h;cases k with
    | zero=>
      simp at hk;subst hk;rcases h.1 with h1|⟨h1,u⟩
      · exact absurd (PC h1) (by simpa using hne)
      · refine⟨h1,fun d b j=>?_⟩
        rw[b,j]at u;simp at u
    |succ k=>exact qS h.2 k q (by simpa using hk) (by omega)
theorem uj(y:bx P ty){all:List Oper}(h:jn ty nt all 0 all=jp):im P nt all:=by
  have key: ∀(l:List Oper) (n:Nat),jn ty nt all n l=jp-> ∀k o,l[k]? =io o->aO o=jp->
      o.guard=is∧(∃d,o.dst=io d∧d<nt)∧(∃t v,o.op= .alloc t∧ ∀w,(zeroValue t).run P w= .ok v w)∧(∀k,waits o k=kw)∧mE all (n+k) o 0 all=jp:=by
    intro l
    induction l with
    |nil=>intro n _ k o hk;simp at hk
    | cons c l ih=>
      intro n h k o hk b;simp only[jn,Qc]at h;cases k with
      | zero=>
        simp at hk;subst hk;have h1:=h.1;split at h1
        · rename_i t x
          split at h1
          · rename_i d e G hd j
            simp only[Qc]at h1;refine⟨G,⟨d,hd,Pf h1.1⟩,⟨t,_,x,fun w=>c5 (y _ _ j)⟩,fun k=>?_,h1.2.2⟩;unfold waits;refine Qk.2 fun e j=>?_;have:=P4.1 h1.2.1 e j;simp only[Qp]at this;simp[this]
          · cases h1
        · rename_i u
          unfold aO at b;split at b
          · rename_i t x;exact absurd x (u t)
          · cases b
      | succ k=>
        have:=ih (n+1) h.2 k o (by simpa using hk) b;rw[show n+(k+1)=n+1+k by omega];exact this
  intro i o J b;obtain⟨h1,B,C,D,A⟩:=key all 0 h i o J b;refine⟨h1,B,C,D,fun k q hk I=>?_⟩;rw[PO]at A;exact qS A k q hk (by omega)
theorem vu{j:Om}(u:FL P j){s:AS}{o:Op}{e:Pe}{b:List PV}(h:callee j s o=io (e,b)):
    ∃g c fn,o= .call c∧bM s.f c=io (g,b)∧b.length<=e.nt∧P.funcs[g]? =io fn∧fn.body=io e.body∧(fn.name== "runtime.NumGoroutine")=kw∧fn.ntmps=e.nt∧fn.results.toList=e.res:=by
  unfold callee at h;split at h
  · rename_i c
    split at h
    · rename_i g x D
      split at h
      · rename_i I G
        split at h
        · rename_i hb
          simp only[Ph,Pt]at h;obtain⟨rfl,rfl⟩:=h;obtain⟨fn,h1,y,A,B,C⟩:=u _ _ G;exact⟨g,c,fn,rfl,D,Pf hb,h1,y,A,B,C⟩
        · cases h
      · cases h
    · cases h
  · cases h
theorem Lk(hm:P.follows .mixedOrders=jp)(B:bx P ty){y:Way}(x0:FL P y.fns): ∀(n nt:Nat) (k:List KI) (s:AS) (C0 C:Prop) (J:Nat) (st:Stop),bw ty y n nt k s C0=io (C,J,st)->(C->C0)∧(C->ep P J Q st->GO P nt k Q s):=by
  intro n
  induction n with
  | zero=>
    intro nt k s C0 C J st h;simp only[bw,Ph,Pt]at h;obtain⟨rfl,rfl,rfl⟩:=h;exact⟨fun h=>h,fun _ g=>g⟩
  | succ n ih=>
    intro nt k s C0 C J st h;have A: ∀{Y:Nat} {k2:List KI} {s2:AS},bw ty y n Y k2 s2 C0=io (C,J,st)->(GO P Y k2 Q s2->GO P nt k Q s)->(C->C0)∧(C->ep P J Q st->GO P nt k Q s):=
      fun h f=>have:=ih _ _ _ _ _ _ _ h;⟨this.1,fun hC g=>f (this.2 hC g)⟩
    have G: ∀{Y:Nat} {k2:List KI} {s2:AS} {C1:Prop},bw ty y n Y k2 s2 (C0∧C1)=io (C,J,st)->(C1->GO P Y k2 Q s2->GO P nt k Q s)->(C->C0)∧(C->ep P J Q st->GO P nt k Q s):=
      fun h f=>have:=ih _ _ _ _ _ _ _ h;⟨fun hC=>(this.1 hC).1,fun hC g=>f (this.1 hC).2 (this.2 hC g)⟩
    have D: ∀{v0:Stop},io (C0,nt,v0)=io (C,J,st)->(ep P nt Q v0->GO P nt k Q s)->(C->C0)∧(C->ep P J Q st->GO P nt k Q s):=by
      intro v0 h f;simp only[Ph,Pt]at h;obtain⟨rfl,rfl,rfl⟩:=h;exact⟨fun h=>h,fun _ g=>f g⟩
    have a0: ∀{Y:Nat} {z0:Nat} {k2:List KI} {s2:AS},io (C0,Y,Stop.bad z0 k2 s2)=io (C,J,st)->(C->C0)∧(C->ep P J Q st->GO P nt k Q s):=by
      intro Y z0 k2 s2 h;simp only[Ph,Pt]at h;obtain⟨rfl,rfl,rfl⟩:=h;exact⟨fun h=>h,fun _ g=>g.elim⟩
    cases k with
    |nil=>simp only[bw]at h;exact D h fun g=>g
    | cons i k=>
      cases i with
      |lp R=>simp only[bw]at h;exact D h fun g=>g
      |az id=>simp only[bw]at h;exact A h LP
      |CU=>simp only[bw]at h;exact A h fun g=>g
      | BI b m=>
        simp only[bw]at h;split at h
        · exact a0 h
        · exact A h go_round
      | Ih Y f res o all rest=>
        simp only[bw]at h;split at h
        · exact a0 h
        · rename_i r hr
          split at h
          · exact a0 h
          · rename_i s' I
            exact A h fun g=>⟨.inl Z,r,s',hr,I,g⟩
      | Ii Y f res j o all todo pend=>
        simp only[bw]at h;split at h
        · exact a0 h
        · rename_i r hr
          split at h
          · exact a0 h
          · rename_i s' I
            split at h
            · exact a0 h
            · rename_i n0 d0
              exact G h fun hC g=>⟨.inl Z,r,s',hr,I,dd B d0 hC,g⟩
      | code c=>
        cases c with
        |skip=>simp only[bw]at h;exact A h go_skip
        |scope b=>simp only[bw]at h;exact A h EH
        |label l=>simp only[bw]at h;exact A h EJ
        |seq a b=>simp only[bw]at h;exact A h LM
        |block id b=>simp only[bw]at h;exact A h EN
        | region id ops d=>
          cases d with
          |false=>simp only[bw]at h;exact A h go_region
          | true=>
            simp only[bw]at h;split at h
            · rename_i h1 h2 h3
              exact A h (EM hm (Ch h1) h2 (uj B h3))
            · exact D h fun g=>g
        | cond c u v=>
          simp only[bw]at h;split at h
          · rename_i t he
            split at h
            · exact D h fun g=>Ib he g.1 g.2
            · split at h
              · exact A h (s7 he)
              · exact A h (s7 he)
          · rename_i he
            exact A h (s6 he)
          · rename_i he
            exact A h (s6 he)
          · exact a0 h
        | ret=>
          simp only[bw]at h;split at h
          · rename_i k' I
            exact A h fun g=>go_ret (dh k I g)
          · rename_i I
            exact D h fun g=>go_ret (k9 k I g)
        | exit id=>
          simp only[bw]at h;split at h
          · rename_i k' I
            exact A h fun g=>H8 (cT k I g)
          · exact a0 h
        | loop b=>
          simp only[bw]at h;split at h
          · exact D h fun g=>g
          · exact A h ob
        |_=>simp only[bw]at h;exact a0 h
      |qW all rest=>simp only[bw]at h;exact a0 h
      | bW all todo pend=>
        cases todo with
        |nil=>simp only[bw]at h;exact A h yo
        | cons x todo=>
          have g0: ∀{j:Nat} {o:Oper},eL (x::todo)=[(j,o)]->(j,o)∈(x::todo)∧aO o=kw∧ ∀y∈(x::todo),waits o y.1=kw:=by
            intro j o h1;have h2:(j,o)∈eL (x::todo):=by rw[h1];simp
            obtain⟨h3,h4⟩:=PU.1 h2;simp only[Qp,RB,Qk]at h4;exact⟨h3,h4.1,fun y hy=>by simpa using h4.2 y hy⟩
          have b0: ∀{CA:Prop},mX ty nt all s (x::todo) pend=io CA->CA-> ∀y∈(x::todo),aO y.2=jp-> ∀y∈pend,eE P nt all s y.2:=by
            intro CA h1 f0 y hy k1;unfold mX at h1;split at h1
            · exact dd B h1 f0
            · rename_i h2
              have:=Qk.1 h2 y hy;rw[k1]at this;exact absurd Z this
          have e0: ∀{j:Nat} {o:Oper} {s':AS},eL (x::todo)=[(j,o)]->bX nt all s.f o=io jp->gZ all pend o=jp->mW (x::todo) [j]=jp->(∀y∈(x::todo),aO y.2=jp-> ∀y∈pend,eE P nt all s y.2)->OT P nt o s (fun t=>t=s')->
              (∀y∈aZ pend o,eE P nt all s' y.2)->GO P nt (.bW all ((x::todo).filter fun x=>!PJ x.1 j) (aZ pend o)::k) Q s'->GO P nt (.bW all (x::todo) pend::k) Q s:=by
            intro j o s' h1 h2 h3 h4 ha h5 h6 h7;obtain⟨c0,r0,t0⟩:=g0 h1;refine rF h4 ⟨_,c0,r0⟩ ha fun j' o' hj _ hu=>?_;simp only[Pw]at hj;subst hj;have:=hu o c0;subst this;exact⟨r0,fun y hy _=>t0 y hy,h3,h2,_,h5,fun t ht=>by subst ht;exact⟨h6,h7⟩⟩
          simp only[bw]at h;split at h
          · rename_i i o p C' s0
            obtain⟨g1,ga,gb,g2,g3,g4⟩:=(sx (fun _ h=>h)).1 s0;split at h
            · exact a0 h
            · rename_i s' I
              split at h
              · exact G h fun hC g=>s4 g1 ga gb g2 g3 (mK B g4 hC I).1 (mK B g4 hC I).2 g
              · rename_i ho
                exact A h fun g=>s4 g1 ga gb g2 g3 (mK B g4 (v8 g4 ho) I).1 (mK B g4 (v8 g4 ho) I).2 g
          · rename_i i o s0
            obtain⟨g1,ga,gb,g2,g3⟩:=(sx (fun _ h=>h)).2 s0;exact A h (EL g1 ga gb g2 g3)
          · split at h
            · rename_i t' hy
              split at h
              · exact D h fun g=>pV hy g.1 g.2
              · split at h
                · exact A h fun g=>pV hy (fun _=>g) (fun h=>by cases h)
                · exact A h fun g=>pV hy (fun h=>by cases h) (fun _=>g)
            · exact a0 h
          · split at h
            · rename_i j o m0
              split at h
              · rename_i i0 j0 k0
                split at h
                · exact a0 h
                · rename_i CA f0
                  split at h
                  · rename_i p C' hr
                    split at h
                    · exact a0 h
                    · rename_i s' I
                      split at h
                      · exact a0 h
                      · rename_i n0 d0
                        exact G h fun hC g=>e0 m0 i0 j0 k0 (b0 f0 hC.1) (sr B hr hC.2.1 I) (dd B d0 hC.2.2) g
                  · split at h
                    · split at h
                      · split at h
                        · exact D h fun g=>g
                        · rename_i C' p s1 o0
                          split at h
                          · exact a0 h
                          · rename_i s' I
                            split at h
                            · exact a0 h
                            · rename_i n0 d0
                              exact G h fun hC g=>e0 m0 i0 j0 k0 (b0 f0 hC.1) (CY B o0 hC.2.1 I) (dd B d0 hC.2.2) g
                      · rename_i e b1 p0
                        rw[tA]at h;obtain⟨g,c,fn,ho,ha,he,h1,h2,h3,h4,h5⟩:=vu x0 p0;obtain⟨c0,r0,t0⟩:=g0 m0;exact G h fun hC gg=>Ia B c0 k0 t0 (b0 f0 hC) j0 i0 ho ha h1 h2 h3 h4 h5 he gg
                    · rename_i p s1 q0
                      split at h
                      · exact a0 h
                      · rename_i s' I
                        split at h
                        · exact a0 h
                        · rename_i n0 d0
                          exact G h fun hC g=>e0 m0 i0 j0 k0 (b0 f0 hC.1) (El B q0 I) (dd B d0 hC.2) g
              · exact D h fun g=>g
            · split at h
              · exact D h fun g=>g
              · rename_i i o j1
                split at h
                · rename_i t d i1 f1
                  split at h
                  · exact a0 h
                  · rename_i e he
                    rw[force_eq]at h;split at h
                    · rename_i C1 C2 d1 e1
                      obtain⟨m1,m2⟩:=xL (fun _ h=>h) j1;exact G h fun hC g=>CB m1 i1 (fun w=>c5 (B _ _ he)) f1 m2 (dd B d1 hC.1) (dd B e1 hC.2) g
                    · exact a0 h
                · exact a0 h
            · exact D h fun g=>g
      | ops all rest=>
        cases rest with
        |nil=>simp only[bw]at h;exact A h zx
        | cons o r=>
          simp only[bw]at h;split at h
          · rename_i j w0 hg
            split at h
            · rename_i d t hy
              cases hb:PI d nt with
              |false=>simp only[hb,cond_false]at h;exact a0 h
              | true=>
                simp only[hb,cond_true]at h;split at h
                · exact D h fun g=>EK hg hy (Pf hb) g.1 g.2
                · split at h
                  · exact A h (Bg Z (qI hy))
                  · exact A h (Bg Z (qI hy))
            · rename_i d t hy
              cases hb:PI d nt with
              |false=>simp only[hb,cond_false]at h;exact a0 h
              | true=>
                simp only[hb,cond_true]at h;obtain⟨a1,a2,a3,a4,a5,a6⟩:=o;cases t<;>cases w0<;>simp only at h
                all_goals exact A h fun g=>yn hg hy (Pf hb) g
            · rename_i d vs hy
              exact A h fun g=>ym hg hy g
            · exact a0 h
          · rename_i hg
            split at h
            · split at h
              · split at h
                · split at h
                  · exact D h fun g=>g
                  · rename_i C' p s1 o0
                    split at h
                    · exact a0 h
                    · rename_i s' I
                      exact G h fun hC g=>cz hg (CY B o0 hC I) fun t ht=>by subst ht;exact g
                · rename_i e b1 p0
                  rw[tA]at h;obtain⟨g,c,fn,ho,ha,he,h1,h2,h3,h4,h5⟩:=vu x0 p0;exact A h fun gg=>LN B hg ho ha h1 h2 h3 h4 h5 he gg
              · rename_i p s1 q0
                split at h
                · exact a0 h
                · rename_i s' I
                  exact A h fun g=>cz hg (El B q0 I) fun t ht=>by subst ht;exact g
            · rename_i p C' hr
              split at h
              · exact a0 h
              · rename_i s' I
                split at h
                · exact G h fun hC g=>cz hg (sr B hr hC I) fun t ht=>by subst ht;exact g
                · rename_i ho
                  exact A h fun g=>cz hg (sr B hr (v8 hr ho) I) fun t ht=>by subst ht;exact g
theorem Ly:FL P (fun _=>is):=fun _ _ h=>nomatch h
theorem zw(hm:P.follows .mixedOrders=jp)(j:bx P ty)(n:Nat){k:List KI}{s:AS}{C:Prop}{b:Nat}{st:Stop}(h:bw ty ⟨fun _=>is,0,kw⟩ n nt k s True=io (C,b,st))(hC:C)(hg:ep P b Q st):GO P nt k Q s:=
  (Lk hm j Ly n nt k s True C b st h).2 hC hg
end
mutual
def PV.low(n:Nat):PV->Bool
 | .iv _=>jp
 | .agg cs=>bm n cs
 | .bq cs=>bm n cs
 | .ptr i _=>PI i n
 | .cL i _ _ _=>PI i n
 | .ej _ i=>PI i n
 | .mP i _ _=>PI i n
 | .sl i _ _ _=>PI i n
 | .mp i=>PI i n
 | .b5 _ first caps=>match bm n first with
  |true=>bm n caps
  |false=>kw
 | .kb _=>jp
 | .any=>jp
def bm(n:Nat):List PV->Bool
 | []=>jp
 |p::r=>match PV.low n p with
  |true=>bm n r
  |false=>kw
end
theorem fP{n:Nat}: ∀{l:List PV},bm n l=jp-> ∀(j:Nat) (p:PV),l[j]? =io p->p.low n=jp
 | [],_,j,p,h=>by simp at h
 |c::l,hb,j,p,h=>by
  simp only[bm]at hb;split at hb
  .rename_i b;cases j with
   |zero=>simp at h;subst h;exact b
   |succ j=>exact fP hb j p (by simpa using h)
  .cases hb
def AO.low(n:Nat):AO->Prop
 | .cells cs _=>bm n cs=jp
 | .row _ es=> ∀(k:Nat) (e:List PV),es[k]? =io e->bm n e=jp
 | .bp _ _=>True
 | .ff=>True
 | .map ..=>True
 | .bI ..=>True
 | .dJ _ _=>True
 | .gI ..=>True
 | .dO q _ _=>q.low n=jp
section
variable {M:Mem} {N:Nm} {U:Nat->Prop} {n:Nat}
theorem VR.down{p:PV}{x:Value}(h:VR M N U p x):p.low n=jp->VR M N (· <n) p x:=by
 induction h with
 |iv x y h=>exact fun _=> .iv x y h
 |agg cs ys hl hr ih=>exact fun hb=> .agg _ _ hl fun j p u=>ih j p u (fP hb j p u)
 |bq cs ys hl hr ih=>exact fun hb=> .bq _ _ hl fun j p u=>ih j p u (fP hb j p u)
 |ptr i off h=>exact fun hb=> .ptr i off (Pf hb)
 |cL i sz k off h=>exact fun hb=> .cL i sz k off (Pf hb)
 |ej z i h=>exact fun hb=> .ej z i (Pf hb)
 |mP i o m h=>exact fun hb=> .mP i o m (Pf hb)
 |sl i off len sz cap h A hl hc he=>exact fun hb=> .sl i off len sz cap (Pf hb) A hl hc he
 |lR i sz h=>exact fun hb=> .lR i sz (Pf hb)
 |sle i sz cap h hc he=>exact fun hb=> .sle i sz cap (Pf hb) hc he
 |mp i h=>exact fun hb=> .mp i (Pf hb)
 |b5 fn first caps f' c' h1 h2 hr1 hr2 ih1 ih2=>
  intro hb;simp only[PV.low]at hb;split at hb
  .rename_i A;exact .b5 _ _ _ _ _ h1 h2 (fun j p u=>ih1 j p u (fP A j p u)) (fun j p u=>ih2 j p u (fP hb j p u))
  .cases hb
 |kb b=>exact fun _=> .kb b
 |any x=>exact fun _=> .any x
theorem OR.down{w:World}{i:Nat}{o:AO}(h:OR M N U w i o)(hb:o.low n):OR M N (· <n) w i o:=by
 cases o with
 |cells cs T0=>obtain⟨c,T,h1,u,x,y,A⟩:=h;exact⟨c,T,h1,u,x,fun j p C=>(y j p C).down (fP hb j p C),A⟩
 |row sz es=>
  rcases h with h|⟨G,c,T,h1,u,x,y,A⟩
  .exact .inl h
  exact .inr ⟨G,c,T,h1,u,x,y,fun k e j p B D=>(A k e j p B D).down (fP (hb k e B) j p D)⟩
 |bp l T=>exact h
 |ff=>exact h
 |map kc ev z zv dv m=>exact h
 |bI kc ev m l cu=>exact h
 |dJ s p=>exact h
 |gI kc ev z zv dv m bs c=>exact h
 |dO q c l=>obtain⟨b,h1,u⟩:=h;exact⟨b,h1.down hb,u⟩
end
def IT(n:Nat)(f:AF):AF->Prop
 | []=>True
 |(d,p)::r=>f.get d=p∧p.low n=jp∧IT n f r
def Ag(n:Nat)(h:AH):AH->Prop
 | []=>True
 |(_,is)::r=>Ag n h r
 |(i,io o)::r=>h.get i=io o∧i<n∧o.low n∧Ag n h r
structure N7 (s t:AS):Prop where
 nx:t.nx<=s.nx
 f:IT t.nx s.f t.f
 h:Ag t.nx s.h t.h
theorem po{n:Nat}{h:AH}: ∀{g:AH},Ag n h g-> ∀i o,g.get i=io o->h.get i=io o∧i<n∧o.low n
 | [],_,i,o,hi=>by simp[AH.get]at hi
 |(k,is)::r,hw,i,o,hi=>by
  rw[AH.ay]at hi;split at hi
  .cases hi
  .exact po (g:=r) hw i o hi
 |(k,io p)::r,hw,i,o,hi=>by
  obtain⟨h1,b,j,u⟩:=hw;rw[AH.ay]at hi;split at hi
  .rename_i e;subst e;simp only[Ph]at hi;subst hi;exact⟨h1,b,j⟩
  .exact po u i o hi
theorem N7.ext{s t:AS}(hw:N7 s t){M x:Mem}{N y:Nm}{n:Nat}{h:AH}{w A:World}(b:Ext M N (· <n) h w x y (· <s.nx) s.h A)(hn:n<=t.nx):Ext M N (· <n) h w x y (· <t.nx) t.h A:=
 ⟨b.os,b.tape,b.output,b.size,b.fN,b.ov,b.gx,b.nm,fun _ j=>Ri j hn,fun i o j u=>b.fK i o (po hw.h i o j).1 u⟩
theorem cQ{p:Nat->Prop}(h: ∃n,p n): ∃n,p n∧ ∀m,p m->n<=m:=by
 obtain⟨n,u⟩:=h
 induction n using Nat.strongRecOn with
 |_ n ih=>
  by_cases j: ∃m,m<n∧p m
  .obtain⟨m,h1,b⟩:=j;exact ih m h1 b
  .exact⟨n,u,fun m b=>Rj fun h1=>j ⟨m,h1,b⟩⟩
section
variable {P:Program} {nt:Nat} {Q:AQ} {k:List KI} {s:AS}
end
section
variable {P:Program}
def Pure(P:Program)(k:FuncId)(args:List PV)(r:PV):Prop:=Fn P k args [] fun q h n=>q=r∧h=[]∧n=0
end
mutual
theorem PV.jC(σ:Nat->Nat): ∀p:PV,p.low 0=jp->p.cv σ=p
 | .iv _,_=>rfl
 | .agg cs,h=>by simp only[PV.cv];rw[gf σ cs (by simpa[PV.low]using h)]
 | .bq cs,h=>by simp only[PV.cv];rw[gf σ cs (by simpa[PV.low]using h)]
 | .ptr i o,h=>by simp[PV.low,PI]at h
 | .cL i _ _ o,h=>by simp[PV.low,PI]at h
 | .ej _ i,h=>by simp[PV.low,PI]at h
 | .mP i _ _,h=>by simp[PV.low,PI]at h
 | .sl i _ _ _,h=>by simp[PV.low,PI]at h
 | .mp i,h=>by simp[PV.low,PI]at h
 | .b5 fn a b,h=>by
  simp only[PV.low]at h;simp only[PV.cv];split at h
  .rename_i j;rw[gf σ a j,gf σ b h]
  .cases h
 | .kb _,_=>rfl
 | .any,_=>rfl
theorem gf(σ:Nat->Nat): ∀l:List PV,bm 0 l=jp->dy σ l=l
 | [],_=>rfl
 |p::r,h=>by
  simp only[bm]at h;split at h
  .rename_i b;simp only[dy];rw[PV.jC σ p b,gf σ r h]
  .cases h
end
section
variable {P:Program} {nt:Nat} {Q:AQ} {k:List KI} {s:AS}
theorem aE{all rest:List Oper}{o:Oper}{c:Call}{g:FuncId}{args:List PV}{r:PV}{s':AS}(hc:Pure P g args r)(ho:o.op= .call c)(hg:o.guard=is)(ha:bM s.f c=io (g,args))(hl:bm 0 args=jp)
  (hr:r.low 0=jp) (hp:putDst nt o r s=io s') (h:GO P nt (.ops all rest::k) Q s'):GO P nt (.ops all (o::rest)::k) Q s:=by
 refine cz (R:=fun t=>t=s') hg ?_ (fun t b=>by subst b;exact h);refine lv ho ha hc (L:=[]) (by simp) (by simp) Z (gf _ _ hl).symm ?_;rintro q j u ⟨rfl,rfl,rfl⟩;exact⟨s',by rw[PV.jC _ _ hr];exact hp,rfl⟩
end
def dT(o q:AO):Prop:=(q.real=jp->o.real=jp)∧ ∀(M:Mem) (N:Nm) (U:Nat->Prop) (w:World) (i:Nat),OR M N U w i o->OR M N U w i q
theorem ah.of_eq{p q:PV}(h:p=q):ah p q:=h▸ .refl p
theorem jy.refl(p:IV):jy p p:=fun _ _ h=>h
theorem jy.of_eq{p q:IV}(h:p=q):jy p q:=h▸ .refl p
theorem dT.refl(o:AO):dT o o:=⟨id,fun _ _ _ _ _ h=>h⟩
theorem dT.of_eq{o q:AO}(h:o=q):dT o q:=h▸ .refl o
theorem dT.trans{o q r:AO}(a:dT o q)(b:dT q r):dT o r:=⟨fun h=>a.1 (b.1 h),fun M N U w i h=>b.2 M N U w i (a.2 M N U w i h)⟩
theorem ah.iv{p q:IV}(h:jy p q):ah (.iv p) (.iv q):=fun M N U x b=>by
 cases b with
 |iv _ _ hi=>exact .iv _ _ (h M x hi)
theorem jy.nil(sz:Nat)(el:Nat->List IV):jy (.v (.slice is 0 0)) (.ct sz 0 el):=fun M x h=>by
 cases h;exact .fp _ _ _ _
theorem ah.nil(sz:Nat)(el:Nat->List IV):ah (.iv (.v (.slice is 0 0))) (.iv (.ct sz 0 el)):= .iv (.nil sz el)
theorem ah.kb(b:Bool):ah (.kb b) (.iv (.v (.bool b))):=fun M N U x h=>by
 cases h;exact .iv _ _ (.v _)
theorem jy.ct{sz n y:Nat}{el u:Nat->List IV}(hn:n=y)(h: ∀k,k<n->el k=u k):jy (.ct sz n el) (.ct sz y u):=by
 subst hn;intro M x B;cases B with
 |fp=>exact .fp _ _ _ _
 |ct _ _ _ b off cap hn hc hl hm hr=>
  exact .ct _ _ _ _ _ _ hn hc (fun k hk=>by rw[<-h k hk];exact hl k hk) hm (fun k j p hk A=>hr k j p hk (by rw[h k hk];exact A))
theorem ah.ct{sz n j:Nat}{el b:Nat->List IV}(hn:n=j)(h: ∀k,k<n->el k=b k):ah (.iv (.ct sz n el)) (.iv (.ct sz j b)):= .iv (.ct hn h)
def fY:List PV->List PV->Prop
 | [],[]=>True
 |p::r,q::s=>ah p q∧fY r s
 |_,_=>False
theorem fY.length: ∀{a b:List PV},fY a b->a.length=b.length
 | [],[],_=>rfl
 |_::_,_::_,h=>congrArg (· +1) (fY.length h.2)
 | [],_::_,h=>h.elim
 |_::_,[],h=>h.elim
theorem fY.get: ∀{a b:List PV},fY a b-> ∀(j:Nat) (q:PV),b[j]? =io q-> ∃p,a[j]? =io p∧ah p q
 | [],[],_,j,q,h=>by simp at h
 |p::r,q0::s,hh,j,q,h=>by
  cases j with
  |zero=>simp at h;subst h;exact⟨p,rfl,hh.1⟩
  |succ j=>simpa using fY.get hh.2 j q (by simpa using h)
 | [],_::_,hh,_,_,_=>hh.elim
 |_::_,[],hh,_,_,_=>hh.elim
theorem ah.agg{a b:List PV}(h:fY a b):ah (.agg a) (.agg b):=fun M N U x y=>by
 cases y with
 |agg _ ys hl hr=>exact .agg _ _ (h.length▸hl) fun j q u=>let ⟨p,hp,hle⟩:=h.get j q u;hle M N U _ (hr j p hp)
theorem ah.bq{a b:List PV}(h:fY a b):ah (.bq a) (.bq b):=fun M N U x y=>by
 cases y with
 |bq _ ys hl hr=>exact .bq _ _ (h.length▸hl) fun j q u=>let ⟨p,hp,hle⟩:=h.get j q u;hle M N U _ (hr j p hp)
theorem dT.cells{a b:List PV}{u:Option TypeId}(h:fY a b):dT (.cells a u) (.cells b u):=⟨fun h=>h,fun M N U w i ⟨c,T,h1,h2,h3,h4,h5⟩=>
 ⟨c,T,h1,h2,h.length▸h3,fun j q x=>let ⟨p,hp,hle⟩:=h.get j q x;hle M N U _ (h4 j p hp),h5⟩⟩
theorem dT.Mn(a:List PV)(b:Option TypeId):dT (.cells a b) (.cells a):=⟨fun h=>h,fun M N U w i ⟨c,T,h1,h2,h3,h4,_⟩=>⟨c,T,h1,h2,h3,h4,.none _⟩⟩
theorem Fn.le{P:Program}{k:FuncId}{aa args:List PV}{os:List AO}{R:PV->AH->Nat->Prop}(h:Fn P k args os R)(b:fY aa args):Fn P k aa os R:=
 ⟨h.1,fun M N w vs x hl y=>h.2 M N w vs x (by rw[<-b.length];exact hl) fun j q u=>let ⟨p,hp,hpq⟩:=b.get j q u;hpq M N _ _ (y j p hp)⟩
theorem Pure.le{P:Program}{k:FuncId}{aa args:List PV}{r:PV}(h:Pure P k args r)(b:fY aa args):Pure P k aa r:=Fn.le h b
def sg(n0:Nat)(L:List Nat)(i:Nat):Nat:=bif PI i n0 then i else L.getD (i-n0) 0
theorem fi{n0:Nat}{L:List Nat}{i:Nat}(h:i<n0):sg n0 L i=i:=by
 have:PI i n0=jp:=Qh h;simp[sg,this]
def C3(n:Nat)(σ:Nat->Nat)(f:AF):AF->Prop
 | []=>True
 |(d,p)::r=>ah (f.get d) (p.cv σ)∧p.low n=jp∧C3 n σ f r
def mG(n:Nat)(σ:Nat->Nat)(h:AH):AH->Prop
 | []=>True
 |(_,is)::r=>mG n σ h r
 |(i,io o)::r=>(∃b,h.get (σ i)=io b∧dT b (o.cv σ))∧i<n∧o.low n∧mG n σ h r
def ei(σ:Nat->Nat):AH->List Nat
 | []=> []
 |(_,is)::r=>ei σ r
 |(i,io _)::r=>σ i::ei σ r
structure Wk (n0:Nat) (L:List Nat) (s t:AS):Prop where
 nx:t.nx=n0+L.length
 ns:n0<=s.nx
 lt: ∀j∈L,j<s.nx
 f:C3 t.nx (sg n0 L) s.f t.f
 h:mG t.nx (sg n0 L) s.h t.h
 inj:(ei (sg n0 L) t.h).Nodup
theorem Af{n:Nat}{σ:Nat->Nat}{f:AF}: ∀{g:AF},C3 n σ f g-> ∀d,g.get d= .any∨(ah (f.get d) ((g.get d).cv σ)∧(g.get d).low n=jp)
 | [],_,_=> .inl Z
 |(k,p)::r,h,d=>by
  obtain⟨h1,b,j⟩:=h;rw[AF.ay];by_cases hd:d=k
  .subst hd;rw[am Z];exact .inr ⟨h1,b⟩
  .rw[be hd];exact Af j d
theorem gL{n:Nat}{σ:Nat->Nat}{h:AH}: ∀{g:AH},mG n σ h g-> ∀i o,g.get i=io o->(∃b,h.get (σ i)=io b∧dT b (o.cv σ))∧i<n∧o.low n
 | [],_,i,o,hi=>by simp[AH.get]at hi
 |(k,is)::r,hw,i,o,hi=>by
  rw[AH.ay]at hi;split at hi
  .cases hi
  .exact gL (g:=r) hw i o hi
 |(k,io p)::r,hw,i,o,hi=>by
  obtain⟨h1,j,u,x⟩:=hw;rw[AH.ay]at hi;split at hi
  .rename_i e;subst e;simp only[Ph]at hi;subst hi;exact⟨h1,j,u⟩
  .exact gL x i o hi
theorem iK{σ:Nat->Nat}: ∀{g:AH} {i:Nat} {o:AO},g.get i=io o->σ i∈ei σ g
 | [],i,o,h=>by simp[AH.get]at h
 |(k,is)::r,i,o,h=>by
  rw[AH.ay]at h;split at h
  .cases h
  .exact iK (g:=r) h
 |(k,io p)::r,i,o,h=>by
  rw[AH.ay]at h;split at h
  .rename_i e;subst e;simp[ei]
  .exact Pu _ (iK h)
theorem kO{σ:Nat->Nat}: ∀{g:AH},(ei σ g).Nodup-> ∀i j o p,g.get i=io o->g.get j=io p->σ i=σ j->i=j
 | [],_,i,j,o,p,h,_,_=>by simp[AH.get]at h
 |(k,is)::r,hn,i,j,o,p,hi,hj,he=>by
  rw[AH.ay]at hi hj;split at hi
  .cases hi
  .split at hj
   .cases hj
   .exact kO (g:=r) hn i j o p hi hj he
 |(k,io q)::r,hn,i,j,o,p,hi,hj,he=>by
  rw[AH.ay]at hi hj;simp only[ei,P0]at hn;split at hi
  .rename_i u;split at hj
   .rename_i b;rw[u,b]
   .subst u;exact absurd (he▸iK hj) hn.1
  .split at hj
   .rename_i b;subst b;exact absurd (he▸iK hi) hn.1
   .exact kO hn.2 i j o p hi hj he
section
variable {n0:Nat} {L:List Nat} {s t:AS} {M:Mem} {N:Nm} {w:World}
theorem dT.real{o q:AO}(h:dT o q)(b:q.real=jp):o.real=jp:=h.1 b
theorem Wk.fits(hw:Wk n0 L s t){nt:Nat}{a:Act}(hf:Fits M N s nt a w):Fits M (N.comp (sg n0 L)) t nt a w:=by
 refine⟨⟨hf.1.dZ,fun i o b=>(gL hw.h i o b).2.1,fun i o b A=>?_,fun i o b=>?_,fun i j o p b C G I D=>?_⟩,fun d=>?_,hf.2.2⟩
 .obtain⟨⟨B,h1,u⟩,y,x⟩:=gL hw.h i o b;exact hf.1.dM _ B h1 (u.real ((AO.bV _ o).trans A))
 .obtain⟨⟨B,h1,u⟩,y,x⟩:=gL hw.h i o b;exact(OR.ql (u.2 M N _ w _ (hf.1.obj _ _ h1))).down x
 .obtain⟨⟨B,h1,u⟩,_⟩:=gL hw.h i o b;obtain⟨⟨J,y,x⟩,_⟩:=gL hw.h j p C;have:=hf.1.inj _ _ _ _ h1 y (u.real ((AO.bV _ o).trans G)) (x.real ((AO.bV _ p).trans I)) D;exact kO hw.inj i j o p b C this
 .rcases Af hw.f d with h|⟨h1,u⟩
  .rw[h];exact .any _
  .exact((h1 M N _ _ (hf.2.1 d)).ql Z).down u
theorem Wk.ext(hw:Wk n0 L s t){x:Mem}{y:Nm}{h0:AH}{A:World}(b:Ext x y (· <n0) h0 A M N (· <s.nx) s.h w):Ext x y (· <n0) h0 A M (N.comp (sg n0 L)) (· <t.nx) t.h w:=by
 refine⟨b.os,b.tape,b.output,b.size,b.fN,b.ov,b.gx,⟨fun i j=>?_,fun i j=>?_⟩,fun i j=>by have:=hw.nx;omega,fun i o j u=>?_⟩
 .simp only[Nm.comp,fi j];exact b.nm.az i j
 .simp only[Nm.comp,fi j];exact b.nm.ext i j
 .obtain⟨⟨C,h1,B⟩,_⟩:=gL hw.h i o j;exact b.fK _ C h1 (B.real ((AO.bV _ o).trans u))
end
theorem lf{P:Program}{nt:Nat}{Q:AQ}{k:List KI}{s:AS}{c:Code}{R j:AS->Prop}(h: ∀t,R t->j t)(hg:GO P nt (.code c:: .lp R::k) Q s):GO P nt (.code c:: .lp j::k) Q s:=by
 intro M N a w A;refine AW.then hg A fun e C D x y s' B b u=>⟨x,y,s',B,b,?_⟩
 cases e with
 |normal=>exact h _ u
 |_=>exact u
section
variable {P:Program} {nt:Nat} {Q:AQ} {k:List KI} {s:AS}
theorem ae{L:List Nat}{t:AS}{c:Code}(hw:Wk s.nx L s t)(h:GO P nt (.code c::k) Q t):GO P nt (.code c::k) Q s:=by
 intro M N a w A;exact AW.then h (hw.fits A) fun e a2 C x y B u b j=>⟨x,y,B,(hw.ext (.refl _ _ _ _ _)).trans u,b,j⟩
theorem gn{body:Code}{σ:Type}(I:σ->AS)(μ:σ->Nat)(i0:σ)(G:List Nat)(h0:Wk s.nx G s (I i0))
  (b: ∀i,GO P nt (.code body:: .lp (fun t=> ∃j L,μ j<μ i∧Wk s.nx L t (I j))::k) Q (I i)):GO P nt (.code (.loop body)::k) Q s:=by
 intro Y N0 a0 w0 C
 let J:Act->World->Nat->Prop:=fun a w n=> ∃i M N,μ i=n∧Ext Y N0 (· <s.nx) s.h w0 M N (· <(I i).nx) (I i).h w∧Fits M N (I i) nt a w
 have B:J a0 w0 (μ i0):=⟨i0,Y,N0.comp (sg s.nx G),rfl,h0.ext (.refl _ _ _ _ _),h0.fits C⟩
 refine wp_loop (fun a w=> ∃n,J a w n) (fun a w=>by classical exact if h: ∃n,J a w n then RY (cQ h) else 0) ⟨_,B⟩ fun a w b0=>?_;obtain⟨⟨i,M,N,hi,hx,hf⟩,c0⟩:=Rh (cQ b0);refine AW.then (b i) hf fun e A D R N' s' x u hr=>?_
 cases e with
 |normal=>
  obtain⟨j,L,hj,hw⟩:=hr;have y:J A D (μ j):=⟨j,R,N'.comp (sg s.nx L),rfl,hw.ext (hx.trans x),hw.fits u⟩
  refine⟨⟨_,y⟩,?_⟩;simp only[dif_pos b0,dif_pos (⟨_,y⟩: ∃n,J A D n)];rw[<-hi];exact SK ((Rh (cQ (⟨_,y⟩: ∃n,J A D n))).2 _ y) hj
 |_=>exact⟨R,N',s',hx.trans x,u,hr⟩
end
section
variable {P:Program} {nt:Nat} {Q:AQ} {k:List KI} {s:AS}
theorem aJ{body:Code}(i0 n:Nat)(j:i0<=n)(I:Nat->AS)(J:Nat->Prop)(u:List Nat)(y:J i0)(h0:Wk s.nx u s (I i0))
  (b: ∀i,i<=n->J i->GO P nt (.code body:: .lp (fun t=>i<n∧J (i+1)∧ ∃L,Wk s.nx L t (I (i+1)))::k) Q (I i)):GO P nt (.code (.loop body)::k) Q s:=by
 refine gn (σ:={i:Nat//i<=n∧J i}) (fun i=>I i.1) (fun i=>n-i.1) ⟨i0,j,y⟩ u h0 fun i=>?_;obtain⟨i,h1,x⟩:=i;have:=b i h1 x;refine lf ?_ this
 rintro t ⟨h3,h4,L,h5⟩;exact⟨⟨i+1,h3,h4⟩,L,by show n-(i+1)<n-i;omega,h5⟩
end
theorem lh{P:Program}{nt:Nat}{Q:AQ}{k:List KI}{s:AS}{c:Code}(t sz:Nat)(B:s.f.get t= .iv (.v (.slice is 0 0)))(h:GO P nt (.code c::k) Q (rV s t sz)):GO P nt (.code c::k) Q s:=by
 intro M N a w b;obtain⟨R,Y,sn⟩:=s;obtain⟨h1,G⟩:=b.1.FU sz;have j:Fits M N (rV ⟨R,Y,sn⟩ t sz) nt a w:=by
  refine⟨G,fun k=>?_,b.2.2⟩;simp only[rV];rw[AF.ay];split
  .rename_i x;subst x;have:=b.2.1 k;simp only at B this;rw[B]at this;generalize a.tmps.getD k undef=v at this;cases this with
   |iv _ _ h=>cases h with
    |v=>exact .lR _ _ (Q9 _)
  .exact(b.2.1 k).mono (.refl _) (.refl _ _) (fun i I=>QR I)
 exact AW.then h j fun e a2 w2 C D J A u y=>⟨C,D,J,h1.trans A,u,y⟩
mutual
def PV.dZ(i sz:Nat)(el:Nat->List IV):PV->PV
 | .iv x=> .iv x
 | .agg cs=> .agg (p4 i sz el cs)
 | .bq cs=> .bq (p4 i sz el cs)
 | .sl j off len sz'=>bif PJ j i then .iv (.ct sz len (fun k=>el (off+k))) else .sl j off len sz'
 | .ptr j o=> .ptr j o
 | .cL j a b c=> .cL j a b c
 | .ej z j=> .ej z j
 | .mP j o n=> .mP j o n
 | .mp j=> .mp j
 | .b5 fn a b=> .b5 fn a b
 | .kb b=> .kb b
 | .any=> .any
def p4(i sz:Nat)(el:Nat->List IV):List PV->List PV
 | []=> []
 |p::r=>PV.dZ i sz el p::p4 i sz el r
end
theorem gq(i sz:Nat)(el:Nat->List IV): ∀l:List PV,p4 i sz el l=l.map (PV.dZ i sz el)
 | []=>rfl
 |p::r=>by simp[p4,gq i sz el r]
mutual
def PV.c6(i sz n:Nat):PV->Prop
 | .agg cs=>dP i sz n cs
 | .bq cs=>dP i sz n cs
 | .sl j off len sz'=>if j=i then sz'=sz∧off+len<=n else True
 |_=>True
def dP(i sz n:Nat):List PV->Prop
 | []=>True
 |p::r=>PV.c6 i sz n p∧dP i sz n r
end
theorem gH{i sz n:Nat}: ∀{l:List PV},dP i sz n l-> ∀(j:Nat) (p:PV),l[j]? =io p->p.c6 i sz n
 | [],_,j,p,h=>by simp at h
 |c::l,hh,j,p,h=>by
  cases j with
  |zero=>simp at h;subst h;exact hh.1
  |succ j=>exact gH hh.2 j p (by simpa using h)
theorem wE{M:Mem}{N:Nm}{n:Nat}{h:AH}{w:World}(hr:Rel M N (· <n) h w){i sz:Nat}{es:List (List PV)}(hi:h.get i=io (.row sz es)){el:Nat->List IV}
  (g0: ∀k e,es[k]? =io e->e=(el k).map .iv): ∃A,Ext M N (· <n) h w A N (· <n) ((i,is)::h) w∧Rel A N (· <n) ((i,is)::h) w∧
   ∀p x,VR M N (· <n) p x->p.c6 i sz es.length->VR A N (· <n) (p.dZ i sz el) x:=by
 have key: ∀A:Mem,M.le A->(∀a0 len b0 b,a0+len<=es.length->0<len->len<=b0->b0<=maxLen->b=N.az i->IR A (.ct sz len (fun k=>el (a0+k))) (.slice (io ⟨b,a0*sz,is⟩) len b0))->
   ∀p x,VR M N (· <n) p x->p.c6 i sz es.length->VR A N (· <n) (p.dZ i sz el) x:=by
  intro A hM hs p x hx
  induction hx with
  |iv x y h=>exact fun _=> .iv _ _ (h.mono hM)
  |agg cs ys hl hr ih=>
   intro C;refine .agg _ _ (by simpa[gq]using hl) fun j q hq=>?_;rw[gq,Pp,Pr]at hq;obtain⟨q0,G,rfl⟩:=hq
   exact ih j q0 G (gH (by simpa[PV.c6]using C) j q0 G)
  |bq cs ys hl hr ih=>
   intro C;refine .bq _ _ (by simpa[gq]using hl) fun j q hq=>?_;rw[gq,Pp,Pr]at hq;obtain⟨q0,G,rfl⟩:=hq
   exact ih j q0 G (gH (by simpa[PV.c6]using C) j q0 G)
  |ptr i a0 h=>exact fun _=> .ptr _ _ h
  |cL i sz k a0 h=>exact fun _=> .cL _ _ _ _ h
  |ej z i h=>exact fun _=> .ej _ _ h
  |mP i o n h=>exact fun _=> .mP _ _ _ h
  |sl j a0 len sz' b0 h h0 hl hc R=>
   intro C;simp only[PV.c6]at C;simp only[PV.dZ];by_cases u:j=i
   .subst u;rw[am Z]at C;obtain⟨rfl,C⟩:=C;have:PJ j j=jp:=by simp
    rw[this,cond_true];exact .iv _ _ (hs a0 len b0 _ C h0 hl hc Z)
   .have:PJ j i=kw:=RR.2 (fun e=>u (PC e));rw[this,cond_false];exact .sl _ _ _ _ _ h h0 hl hc R
  |lR j sz' h=>
   intro C;simp only[PV.dZ];cases hb:PJ j i with
   |true=>exact .iv _ _ (.fp _ _ _ _)
   |false=>exact .lR _ _ h
  |sle j sz' b0 h hc R=>
   intro C;simp only[PV.dZ];cases hb:PJ j i with
   |true=>exact .iv _ _ (.fp _ _ _ _)
   |false=>exact .sle _ _ _ h hc R
  |mp i h=>exact fun _=> .mp _ h
  |b5 fn first caps f' c' h1 J hr1 hr2 ih1 ih2=>exact fun _=> .b5 _ _ _ _ _ h1 J (fun j p u=>(hr1 j p u).mono hM (.refl _ _) (fun _ h=>h)) (fun j p u=>(hr2 j p u).mono hM (.refl _ _) (fun _ h=>h))
  |kb b=>exact fun _=> .kb _
  |any x=>exact fun _=> .any _
 rcases hr.obj i _ hi with h0|⟨h0,c,T,h1,J,h3,h4,h5⟩
 .subst h0;exact⟨M,(Ext.refl _ _ _ _ _).del i,hr.del i,key M (.refl _) fun a0 len b0 b h1 J=>by simp at h1;omega⟩
 .have c0:es≠ []∨es=[]:=by cases es<;>simp
  rcases c0 with c0|rfl;rotate_left
  .exact⟨M,(Ext.refl _ _ _ _ _).del i,hr.del i,key M (.refl _) fun a0 len b0 b h1 J=>by simp at h1;omega⟩
  have I:(AO.row sz es).real=jp:=by cases es with
   |nil=>exact absurd Z c0
   |cons=>rfl
  have e0:=hr.dM i _ hi I
  let A:Mem:=M.set (N.az i) (.cells c) e0
  have hM:M.le A:=fun b d hb=>by
   simp only[A,Mem.set];by_cases B:b=N.az i
   .rw[B,e0]at hb;cases hb
   .rw[be B];exact hb
  have hnew: ∀b d,M b=is->A b=io d->b=N.az i:=fun b d h1 J=>by
   simp only[A,Mem.set]at J;by_cases B:b=N.az i
   .exact B
   .rw[be B,h1]at J;cases J
  refine⟨A,?_,?_,key A hM fun a0 len b0 b hb h6 h7 h8 i0=>?_⟩
  .exact⟨rfl,rfl,⟨rfl,Ps _⟩,Ps _,fun _ _ _=>rfl,hM,fun b d h1 J=> .inr ⟨i,_,hi,I,(hnew b d h1 J).symm⟩,.refl _ _,fun _ h=>h,fun j o u I=> .inr ⟨j,o,(a8 j o u).2,I,rfl⟩⟩
  .refine⟨fun b d hb=>?_,fun j o u=>hr.used j o (a8 j o u).2,fun j o u Y=>?_,fun j o u=>?_,fun j k o p u hk=>hr.inj j k o p (a8 j o u).2 (a8 k p hk).2⟩
   .simp only[A,Mem.set]at hb;by_cases B:b=N.az i
    .rw[am B]at hb;cases hb;exact⟨T,(0,0),by rw[B,h1]⟩
    .rw[be B]at hb;exact hr.dZ b d hb
   .obtain⟨g1,g2⟩:=a8 j o u;simp only[A,Mem.set];rw[be fun e=>g1 (hr.inj j i o _ g2 hi Y I e)];exact hr.dM j o g2 Y
   .obtain⟨g1,g2⟩:=a8 j o u;exact(hr.obj j o g2).mono hM (.refl _ _) (fun _ h=>h) (hr.used j o g2) Z
  .subst i0;have D: ∀o,A.cell (N.az i) o=c[o]? :=fun o=>by simp[Mem.cell,A,Mem.set]
   have j0: ∀k j,k<len->j<sz->a0*sz+k*sz+j<c.size:=by
    intro k j hk u;have:(a0+k+1)*sz<=es.length*sz:=PL _ (by omega);rw[Qo,Qo]at this;omega
   have f0: ∀k,k<len-> ∃e,es[a0+k]? =io e:=fun k hk=>⟨_,Pl (by omega)⟩
   refine .ct _ _ _ _ _ _ h7 h8 (fun k hk=>?_) (fun k j hk u=>?_) (fun k j p hk C=>?_)
   .obtain⟨e,R⟩:=f0 k hk;have:=h4 _ e R;rw[g0 _ e R]at this;simpa using this
   .rw[D];simp[j0 k j hk u]
   .obtain⟨e,R⟩:=f0 k hk;have h9:=h4 _ e R;have d0:=g0 _ e R;have u:j<sz:=by rw[<-h9,d0,PS];exact(Pj.1 C).1
    have:=h5 _ e j (.iv p) R (by rw[d0,Pp,C];rfl);rw[D];have e2:a0*sz+k*sz+j=(a0+k)*sz+j:=by rw[Qo]
    rw[e2];rw[Pg]at this;cases this with
    |iv _ _ h=>exact h.mono hM
def iC(h:AH)(n:Nat)(r:PV)(K:AH->PV->Prop):Prop:= ∀M N w,Rel M N (· <n) h w-> ∃b j u,Ext M N (· <n) h w b N (· <n) j w∧Rel b N (· <n) j w∧(∀x,VR M N (· <n) r x->VR b N (· <n) u x)∧K j u
theorem iC.done{h:AH}{n:Nat}{r:PV}{K:AH->PV->Prop}(hk:K h r):iC h n r K:=fun M N w b=>⟨M,h,r,.refl _ _ _ _ _,b,fun _ h=>h,hk⟩
theorem iC.row{h:AH}{n:Nat}{r:PV}{K:AH->PV->Prop}(i:Nat){sz:Nat}{es:List (List PV)}(el:Nat->List IV)(hi:h.get i=io (.row sz es))(b: ∀k e,es[k]? =io e->e=(el k).map .iv)
  (j:r.c6 i sz es.length) (hk:iC ((i,is)::h) n (r.dZ i sz el) K):iC h n r K:=by
 intro M N w D;obtain⟨u,h1,B,C⟩:=wE D hi b;obtain⟨y,A,I,g1,g2,g3,g4⟩:=hk u N w B;exact⟨y,A,I,h1.trans g1,g2,fun x G=>g3 x (C _ _ G j),g4⟩
def IQ(ty:Ty)(l:List ResultVar)(m:Nat)(R:PV->AH->Nat->Prop):AQ:=fun e s=>
 (e= .normal∨e= .ret)∧ ∃u,iU ty s l=io u∧iC s.h s.nx u fun x y=> ∃r b j L,R r b j∧Wk m L ⟨[(0,y)],x,s.nx⟩ ⟨[(0,r)],b,j⟩
section
variable {P:Program}
theorem oe {ty:Ty} (Y:bx P ty) {k:FuncId} {fn:Func} {c:Code} (hf:P.funcs[k]? =io fn) (hb:fn.body=io c) (hn:(fn.name== "runtime.NumGoroutine")=kw) {nt:Nat} (J:fn.ntmps=nt)
  {l:List ResultVar} (hl:fn.results.toList=l) {args:List PV} (I:args.length<=nt) {os:List AO} {R:PV->AH->Nat->Prop}
  (h:GO P nt [.code c] (IQ ty l os.length R) ⟨mB 0 args,c8 0 os,os.length⟩):Fn P k args os R:=by
 have key:Fn P k args os (fun r0 h0 n0=>iC h0 n0 r0 fun b r2=> ∃r B C L,R r B C∧Wk os.length L ⟨[(0,r2)],b,n0⟩ ⟨[(0,r)],B,C⟩):=by
  refine zB Y hf hb hn J hl I ?_;intro M N a w u;refine wp_mono (h M N a w u) fun e a' w' hp=>?_;obtain⟨D,A,s',h1,b,h3⟩:=hp;refine⟨D,A,s',h1,b,?_⟩;simp only[kp]at h3 ⊢;obtain⟨he,r,g1,g2⟩:=h3;exact⟨he,r,g1,g2⟩
 refine⟨key.1,fun M N w vs hr y hv=>(key.2 M N w vs hr y hv).mono ?_⟩;rintro e w' ⟨x,D,A,r0,h0,n0,rfl,hF,hx,hr',hvr⟩;obtain⟨M2,b,r2,g1,g2,g3,r,B,C,L,hR,hw⟩:=hF D A w' hr'
 have G:Fits M2 A ⟨[(0,r2)],b,n0⟩ 1 ⟨#[x],[]⟩ w':=⟨g2,fun d=>by
  rw[AF.ay];by_cases hd:d=0
  .subst hd;rw[am Z];exact g3 x hvr
  .rw[be hd];exact .any _,rfl,rfl⟩
 have j:=hw.fits G;refine⟨x,M2,_,r,B,C,rfl,hR,hw.ext (hx.trans g1),j.1,?_⟩;have:=j.2.1 0;exact this
def CS(ty:Ty)(l:List ResultVar)(r:PV):AQ:=fun e s=>
 (e= .normal∨e= .ret)∧ ∃b,iU ty s l=io b∧iC s.h s.nx b fun _ j=>ah j r
theorem ai {ty:Ty} (y:bx P ty) {k:FuncId} {fn:Func} {c:Code} (hf:P.funcs[k]? =io fn) (hb:fn.body=io c) (hn:(fn.name== "runtime.NumGoroutine")=kw) {nt:Nat} (x:fn.ntmps=nt)
  {l:List ResultVar} (hl:fn.results.toList=l) {args:List PV} (u:args.length<=nt) {r:PV} (hlow:r.low 0=jp)
  (h:GO P nt [.code c] (CS ty l r) ⟨mB 0 args,[],0⟩):Pure P k args r:=by
 refine oe y hf hb hn x hl u ?_;intro M N a w b;refine wp_mono (h M N a w b) fun e a' w' I=>?_;obtain⟨B,D,s',h1,j,A⟩:=I;refine⟨B,D,s',h1,j,?_⟩;simp only[kp]at A ⊢;obtain⟨G,r0,g1,g2⟩:=A;refine⟨G,r0,g1,fun M N w J=>?_⟩;obtain⟨C,j,r2,R,Y,q3,q4⟩:=g2 M N w J;refine⟨C,j,r2,R,Y,q3,r,[],0,[],⟨rfl,rfl,rfl⟩,rfl,PA _,by simp,⟨?_,hlow,ac⟩,ac,P6⟩;rw[PV.jC _ _ hlow];exact q4
theorem aQ{ty:Ty}{l:List ResultVar}{r r0:PV}{e:Exit}{s:AS}(he:e= .normal∨e= .ret)(h:iU ty s l=io r0)(b:ah r0 r):CS ty l r e s:=⟨he,r0,h,.done b⟩
end
section
variable {P:Program}
theorem EV{k:FuncId}{args:List PV}{os:List AO}{R:PV->AH->Nat->Prop}(hc:il P k){n:Nat}(hn: ∃sz u,PV.iv (.ct sz n u)∈args)(h:n<=maxLen->Fn P k args os R):Fn P k args os R:=by
 refine⟨hc,fun M N w vs A hl x=>?_⟩;obtain⟨sz,u,hn⟩:=hn;obtain⟨j,y⟩:=P9 hn;have:=x j _ y;have b:n<=maxLen:=by
  generalize vs.getD j undef=v at this;cases this with
  |iv _ _ hi=>cases hi with
   |fp=>exact PA _
   |ct=>omega
 exact(h b).2 M N w vs A hl x
theorem D4{k:FuncId}{args:List PV}{r:PV}(hc:il P k){n:Nat}(hn: ∃sz b,PV.iv (.ct sz n b)∈args)(h:n<=maxLen->Pure P k args r):Pure P k args r:=EV hc hn h
end
abbrev iI(n:Int):IV:= .v (.int .i64 n)
abbrev iS(s:ByteArray):IV:= .v (.string s)
abbrev pI(n:Int):PV:= .iv (iI n)
abbrev pS(s:ByteArray):PV:= .iv (iS s)
abbrev pB(b:Bool):PV:= .iv (.v (.bool b))
abbrev ag(l:List IV):PV:= .agg (l.map .iv)
abbrev bN{α:Type}[Inhabited α](sz:Nat)(l:List α)(f:α->List IV):IV:= .ct sz l.length (fun k=>f (l.getD k co))
def aF{α:Type}(sz:Nat)(l:List α)(f:α->List IV):AO:= .row sz (l.map fun x=>(f x).map .iv)
theorem bd(σ:Nat->Nat): ∀l:List IV,dy σ (l.map .iv)=l.map .iv
 | []=>rfl
 |x::r=>by simp only[Py,dy,PV.cv,bd σ r]
theorem qi(n:Nat): ∀l:List IV,bm n (l.map .iv)=jp
 | []=>rfl
 |x::r=>by simp only[Py,bm,PV.low,qi n r]
section
variable {α:Type} {sz:Nat} {l:List α} {f:α->List IV}
theorem b3(σ:Nat->Nat):(aF sz l f).cv σ=aF sz l f:=by
 simp only[aF,AO.cv,PQ];congr 1;exact PK fun x _=>bd σ _
theorem dK(n:Nat):(aF sz l f).low n:=by
 intro k e b;rw[Pp,Pr]at b;obtain⟨x,_,rfl⟩:=b;exact qi n _
theorem AB{es:List (List PV)}(σ:Nat->Nat)(h:es=l.map fun x=>(f x).map .iv):dT (.row sz es) ((aF sz l f).cv σ):=by
 rw[b3];exact .of_eq (by rw[h];rfl)
theorem fD[Inhabited α]{es:List (List PV)}(h:es=l.map fun x=>(f x).map .iv): ∀k e,es[k]? =io e->e=(f (l.getD k co)).map .iv:=by
 subst h;intro k e b;rw[Pp,Pr]at b;obtain⟨x,j,rfl⟩:=b;rw[Pk,j];rfl
theorem vP[Inhabited α](l:List α)(f:α->List IV):(PT l.length).map (fun k=>(f (l.getD k co)).map PV.iv)=l.map fun x=>(f x).map .iv:=by
 apply RC;intro k;rw[Pp,Pp];rcases Ql k l.length with h|h
 .rw[R1 h,Pl h];simp[Pk,h]
 .simp[h]
theorem qT(h: ∀x,eB ((f x).map .iv)=jp)(l:List α):allOnes (l.map fun x=>(f x).map .iv)=jp:=by
 induction l with
 |nil=>rfl
 |cons x r ih=>simp only[Py,allOnes,h x,ih]
theorem fX[Inhabited α](h: ∀x,eB ((f x).map .iv)=jp)(l:List α):allOnes ((PT l.length).map (fun k=>(f (l.getD k co)).map PV.iv))=jp:=by
 rw[vP];exact qT h l
end
def aw(l:List IV):AO:= .cells (l.map .iv)
theorem z7(σ:Nat->Nat)(l:List IV):(aw l).cv σ=aw l:=by
 simp only[aw,AO.cv,bd]
theorem CL{cs:List PV}{b:Option TypeId}{l:List IV}(σ:Nat->Nat)(h:cs=l.map .iv):dT (.cells cs b) ((aw l).cv σ):=by
 rw[z7];exact .trans (.Mn cs b) (.of_eq (by rw[h];rfl))
def cC:List Nat->Bool
 | []=>jp
 |x::r=>!r.elem x&&cC r
theorem fe: ∀{l:List Nat},cC l=jp->l.Nodup
 | [],_=>P6
 |x::r,h=>by
  simp only[cC,Qc,Qp,List.elem_eq_mem,decide_eq_false_iff_not]at h;exact P0.2 ⟨h.1,fe h.2⟩
theorem wk{n0:Nat}{L:List Nat}{s t:AS}(h1:PJ t.nx (n0+L.length)=jp)(b:Rw n0 s.nx=jp)(u:L.all (fun j=>PI j s.nx)=jp)(hf:C3 t.nx (sg n0 L) s.f t.f)(hh:mG t.nx (sg n0 L) s.h t.h)
  (x:cC (ei (sg n0 L) t.h)=jp):Wk n0 L s t:=
 ⟨PC h1,Pf b,fun j y=>Pf (P4.1 u j y),hf,hh,fe x⟩
theorem wk0{n0:Nat}{s t:AS}(h1:t.nx=n0)(b:Rw n0 s.nx=jp)(hf:C3 t.nx (sg n0 []) s.f t.f)(hh:t.h=[]):Wk n0 [] s t:=
 ⟨by simpa using h1,Pf b,by simp,hf,by rw[hh];trivial,by rw[hh];exact P6⟩
section
variable {n i:Nat} {σ:Nat->Nat} {h r:AH}
theorem hC{cs:List PV}{b:Option TypeId}{c:List IV}(ho:h.get (σ i)=io (.cells cs b))(he:cs=c.map .iv)(hi:PI i n=jp)(hr:mG n σ h r):mG n σ h ((i,io (aw c))::r):=
 ⟨⟨_,ho,CL σ he⟩,Pf hi,qi n c,hr⟩
theorem hR{α:Type}{sz:Nat}{es:List (List PV)}{l:List α}{f:α->List IV}(ho:h.get (σ i)=io (.row sz es))(he:es=l.map fun x=>(f x).map .iv)(hi:PI i n=jp)(hr:mG n σ h r):mG n σ h ((i,io (aF sz l f))::r):=
 ⟨⟨_,ho,AB σ he⟩,Pf hi,dK n,hr⟩
theorem hM{V:Type}{kc:KC}{ev:V->IV}{z:V}{u:Value}{b:PV->V}{m j:List (kc.K×V)}(ho:h.get (σ i)=io (.map kc ev z u b m))(he:m=j)(hi:PI i n=jp)(hr:mG n σ h r):mG n σ h ((i,io (.map kc ev z u b j))::r):=
 ⟨⟨_,ho,.of_eq (by rw[he];rfl)⟩,Pf hi,ac,hr⟩
theorem LK{V:Type}{kc:KC}{ev:V->IV}{z:V}{b:Value}{u:PV->V}(ho:h.get (σ i)=io .ff)(y: ∀M,IR M (ev z) b)(hi:PI i n=jp)(hr:mG n σ h r):mG n σ h ((i,io (.map kc ev z b u []))::r):=
 ⟨⟨_,ho,id,fun M N U w j x=>⟨#[],0,x,⟨rfl,by simp,by simp,by simp,by simp⟩,y M⟩⟩,Pf hi,ac,hr⟩
theorem hI{V:Type}{kc:KC}{ev:V->IV}{m:List (kc.K×V)}{vs y:List Nat}{C u:Option (kc.K×V)}(ho:h.get (σ i)=io (.bI kc ev m vs C))(he:vs=y)(hc:u=C∨u=is)(hi:PI i n=jp)(hr:mG n σ h r):mG n σ h ((i,io (.bI kc ev m y u))::r):=by
 refine⟨⟨_,ho,id,fun M N U w j D=>?_⟩,Pf hi,ac,hr⟩;subst he;rcases hc with rfl|rfl
 .exact D
 .rcases D with⟨h1,A,_,B⟩|⟨b,ents,clock,x,h1,A,G,B,I,J,R⟩
  .exact .inl ⟨h1,A,rfl,B⟩
  .exact .inr ⟨b,ents,clock,x,h1,A,G,B,I,J,by simp⟩
end
theorem dq{ty:Ty}{b:List ResultVar}{e:Exit}{s:AS}{α:Type}[Inhabited α]{i n sz:Nat}{es:List (List PV)}{L:List α}{f:α->List IV}(he:e= .normal∨e= .ret)(h:iU ty s b=io (.sl i 0 n sz))(hi:s.h.get i=io (.row sz es))
  (hes:es=L.map fun x=>(f x).map .iv) (hn:n=L.length):CS ty b (.iv (bN sz L f)) e s:=by
 refine⟨he,_,h,.row i (fun k=>f (L.getD k co)) hi (fD hes) ?_ (.done ?_)⟩
 .subst hes;subst hn;simp[PV.c6]
 .have:PJ i i=jp:=by simp
  simp only[PV.dZ,this,cond_true,PO];subst hn;exact .refl _
theorem ah.bk{b c:Bool}(h:b=c):ah (pB b) (.kb c):=fun _ _ _ _ j=>by
 subst h;cases j with
 |iv _ _ h=>cases h;exact .kb _
theorem ah.row{i n m sz:Nat}(h:n=m):ah (.sl i 0 n sz) (.sl i 0 m sz):= .of_eq (by rw[h])
section
variable {α:Type} [Inhabited α] {l:List α} {f:α->Bool} {i:Nat}
theorem cK(h:(l.take i).any f=kw)(hi:i<l.length):((l.take (i+1)).any f=kw↔f (l.getD i co)=kw):=by
 rw[R8 hi,List.any_append,h,Pk,Pl hi];simp
theorem BE(hi:i<l.length)(h:f (l.getD i co)=jp):l.any f=jp:=by
 rw[Pk,Pl hi]at h;exact Qz.2 ⟨_,P3 hi,h⟩
omit [Inhabited α] in
theorem any_none(h:(l.take i).any f=kw)(hi:l.length<=i):l.any f=kw:=by
 rwa[Pz hi]at h
theorem cm(hi:i<l.length):l.take (i+1)=l.take i++ [l.getD i co]:=by
 rw[R8 hi,Pk,Pl hi];rfl
theorem fU{β:Type}{g:β->α->β}{b:β}(hi:i<l.length):(l.take (i+1)).foldl g b=g ((l.take i).foldl g b) (l.getD i co):=by
 rw[cm hi,List.foldl_append];rfl
end
theorem eU{P:Program}{nt:Nat}{Q:AQ}{k:List KI}{s:AS}{body:Code}{K:Type}(m:List K)(I:List Nat->AS)(J:List Nat->Prop)(B:List Nat)(R:J [])(h0:Wk s.nx B s (I []))
  (u: ∀vs:List Nat,J vs->GO P nt (.code body:: .lp (fun t=> ∃j x,m[j]? =io x∧j∉vs∧J (j::vs)∧ ∃L,Wk s.nx L t (I (j::vs)))::k) Q (I vs)):GO P nt (.code (.loop body)::k) Q s:=by
 refine gn (σ:={vs:List Nat//vs.Nodup∧(∀j∈vs,j<m.length)∧J vs}) (fun v=>I v.1) (fun v=>m.length-v.1.length) ⟨[],P6,by simp,R⟩ B h0 fun v=>?_;obtain⟨vs,h1,C,D⟩:=v;refine lf ?_ (u vs D)
 rintro t ⟨j,x,g1,g2,g3,L,g4⟩;have G:j<m.length:=(Pj.1 g1).1;have b: ∀i∈j::vs,i<m.length:=by
  intro i hi;rcases Px.1 hi with rfl|hi
  .exact G
  .exact C i hi
 have A:(j::vs).Nodup:=P0.2 ⟨g2,h1⟩;have y:(j::vs).length<=m.length:=by
  have:=Qx A (l₂:=PT m.length) (fun i hi=>QM.2 (b i hi));simpa using this
 refine⟨⟨j::vs,A,b,g3⟩,L,?_,g4⟩;show m.length-(j::vs).length<m.length-vs.length;simp only[PX]at y ⊢;omega
def bD(P:Program)(k:FuncId)(args:List PV)(os:List AO)(r:PV)(h:AH)(n:Nat):Prop:=Fn P k args os fun q b j=>q=r∧b=h∧j=n
def pg:List AO->List AO->Prop
 | [],[]=>True
 |p::r,q::s=>dT p q∧pg r s
 |_,_=>False
theorem pg.length: ∀{a b:List AO},pg a b->a.length=b.length
 | [],[],_=>rfl
 |_::_,_::_,h=>congrArg (· +1) (pg.length h.2)
 | [],_::_,h=>h.elim
 |_::_,[],h=>h.elim
theorem pg.get: ∀{a b:List AO},pg a b-> ∀(j:Nat) (q:AO),b[j]? =io q-> ∃p,a[j]? =io p∧dT p q
 | [],[],_,j,q,h=>by simp at h
 |p::r,q0::s,hh,j,q,h=>by
  cases j with
  |zero=>simp at h;subst h;exact⟨p,rfl,hh.1⟩
  |succ j=>simpa using pg.get hh.2 j q (by simpa using h)
 | [],_::_,hh,_,_,_=>hh.elim
 |_::_,[],hh,_,_,_=>hh.elim
theorem Fn.JY{P:Program}{k:FuncId}{args:List PV}{os ps:List AO}{R:PV->AH->Nat->Prop}(h:Fn P k args os R)(G:pg ps os):Fn P k args ps R:=by
 have I:=G.length;have u: ∀i o,(c8 0 os).get i=io o-> ∃p,(c8 0 ps).get i=io p∧dT p o:=by
  intro i o y;rw[pU,am (PA _)]at y ⊢;exact G.get _ _ y
 refine⟨h.1,fun M N w vs C hl hv=>?_⟩;rw[I]at C hv ⊢;have a0:Rel M N (· <os.length) (c8 0 os) w:=by
  refine⟨C.dZ,fun i o y=>?_,fun i o y b0=>?_,fun i o y=>?_,fun i j o p y hj J hp he=>?_⟩
  .obtain⟨p,h1,A⟩:=u i o y;exact C.used i p h1
  .obtain⟨p,h1,A⟩:=u i o y;exact C.dM i p h1 (A.1 b0)
  .obtain⟨p,h1,A⟩:=u i o y;exact A.2 _ _ _ _ _ (C.obj i p h1)
  .obtain⟨o',h1,A⟩:=u i o y;obtain⟨p',B,D⟩:=u j p hj;exact C.inj i j o' p' h1 B (A.1 J) (D.1 hp) he
 refine(h.2 M N w vs a0 hl hv).mono ?_;rintro e w' ⟨x,M',N',r,h',n',rfl,hR,hx,hrr,hvr⟩;refine⟨x,M',N',r,h',n',rfl,hR,⟨hx.os,hx.tape,hx.output,hx.size,fun b hb hn=>hx.fN b hb fun i o y J=>?_,hx.ov,fun b c h1 A=>?_,hx.nm,hx.ule,fun i o y J=>?_⟩,hrr,hvr⟩
 .obtain⟨p,h1,A⟩:=u i o y;exact hn i p h1 (A.1 J)
 .rcases hx.gx b c h1 A with B|⟨i,o,B,D,Y⟩
  .exact .inl B
  .obtain⟨p,g1,g2⟩:=u i o B;exact .inr ⟨i,p,g1,g2.1 D,Y⟩
 .rcases hx.fK i o y J with B|⟨j,q,B,D,Y⟩
  .exact .inl B
  .obtain⟨p,g1,g2⟩:=u j q B;exact .inr ⟨j,p,g1,g2.1 D,Y⟩
theorem bD.JY{P:Program}{k:FuncId}{args:List PV}{os j:List AO}{r:PV}{h:AH}{n:Nat}(hc:bD P k args os r h n)(b:pg j os):bD P k args j r h n:=Fn.JY hc b
theorem bD.le{P:Program}{k:FuncId}{aa args:List PV}{os:List AO}{r:PV}{h:AH}{n:Nat}(hc:bD P k args os r h n)(b:fY aa args):bD P k aa os r h n:=Fn.le hc b
theorem Pure.rK{P:Program}{k:FuncId}{args:List PV}{r:PV}(h:Pure P k args r):bD P k args [] r [] 0:=h
section
variable {P:Program} {ty:Ty} {nt:Nat} {Q:AQ} {k:List KI} {s:AS}
theorem zX{o:Oper}{c:Call}{g:FuncId}{u args:List PV}{os:List AO}{r:PV}{y:AH}{A:Nat}{s':AS}(L:List Nat)(hc:bD P g args os r y A)(ho:o.op= .call c)(ha:bM s.f c=io (g,u))
  (hn:cC L=jp) (hl:L.all (fun j=>PI j s.nx)=jp) (x:L.map s.h.get=os.map fun o=>io (o.cv (sig L s.nx))) (b:u=dy (sig L s.nx) args) (hp:putDst nt o (r.cv (sig L s.nx)) (aX s L y A)=io s'):
  OT P nt o s (fun t=>t=s'):=
 lv ho ha hc (fe hn) (fun j B=>Pf (P4.1 hl j B)) x b (by rintro q C n0 ⟨rfl,rfl,rfl⟩;exact⟨s',hp,rfl⟩)
theorem bQ{all rest:List Oper}{o:Oper}{c:Call}{g:FuncId}{u args:List PV}{os:List AO}{r:PV}{y:AH}{A:Nat}{s':AS}(L:List Nat)(hc:bD P g args os r y A)(ho:o.op= .call c)(hg:o.guard=is)(ha:bM s.f c=io (g,u))
  (hn:cC L=jp) (hl:L.all (fun j=>PI j s.nx)=jp) (x:L.map s.h.get=os.map fun o=>io (o.cv (sig L s.nx))) (b:u=dy (sig L s.nx) args) (hp:putDst nt o (r.cv (sig L s.nx)) (aX s L y A)=io s')
  (h:GO P nt (.ops all rest::k) Q s'):GO P nt (.ops all (o::rest)::k) Q s:=
 cz hg (zX L hc ho ha hn hl x b hp) fun t B=>by subst B;exact h
theorem lj(A:bx P ty){all:List Oper}{todo pend:List (Nat×Oper)}{j:Nat}{o:Oper}{s':AS}{J I:Prop}(hrd:eL todo=[(j,o)])(hg:bX nt all s.f o=io jp)(hpb:gZ all pend o=jp)(hE:mW todo [j]=jp)
  (hag:mX ty nt all s todo pend=io J) (hCA:J) (C:OT P nt o s (fun t=>t=s')) (hag2:dD ty nt all s' (aZ pend o)=io I) (hC2:I)
  (h:GO P nt (.bW all (todo.filter fun x=>!PJ x.1 j) (aZ pend o)::k) Q s'):GO P nt (.bW all todo pend::k) Q s:=by
 have u:(j,o)∈eL todo:=by rw[hrd];simp
 obtain⟨R,B⟩:=PU.1 u;simp only[Qp,RB,Qk]at B;have b: ∀y∈todo,aO y.2=jp-> ∀y∈pend,eE P nt all s y.2:=by
  intro y D G;unfold mX at hag;split at hag
  .exact dd A hag hCA
  .rename_i h2;have:=Qk.1 h2 y D;rw[G]at this;exact absurd Z this
 refine rF hE ⟨_,R,B.1⟩ b fun j' o' Y _ hu=>?_;simp only[Pw]at Y;subst Y;have:=hu o R;subst this;exact⟨B.1,fun y D _=>by simpa using B.2 y D,hpb,hg,_,C,fun t ht=>by subst ht;exact⟨dd A hag2 hC2,h⟩⟩
theorem bh(A:bx P ty){all:List Oper}{todo pend:List (Nat×Oper)}{j:Nat}{o:Oper}{c:Call}{g:FuncId}{u args:List PV}{os:List AO}{r:PV}{D:AH}{G:Nat}{s':AS}{C B:Prop}(L:List Nat)(hc:bD P g args os r D G)
  (hrd:eL todo=[(j,o)]) (ho:o.op= .call c) (ha:bM s.f c=io (g,u))
  (hn:cC L=jp) (hl:L.all (fun j=>PI j s.nx)=jp) (y:L.map s.h.get=os.map fun o=>io (o.cv (sig L s.nx))) (b:u=dy (sig L s.nx) args) (hp:putDst nt o (r.cv (sig L s.nx)) (aX s L D G)=io s')
  (hg:bX nt all s.f o=io jp) (hpb:gZ all pend o=jp) (hE:mW todo [j]=jp)
  (hag:mX ty nt all s todo pend=io C) (hCA:C) (hag2:dD ty nt all s' (aZ pend o)=io B) (hC2:B)
  (h:GO P nt (.bW all (todo.filter fun x=>!PJ x.1 j) (aZ pend o)::k) Q s'):GO P nt (.bW all todo pend::k) Q s:=
 lj A hrd hg hpb hE hag hCA (zX L hc ho ha hn hl y b hp) hag2 hC2 h
def Ac(ty:Ty)(l:List ResultVar)(m:Nat)(r:PV)(h:AH)(n:Nat):AQ:=IQ ty l m fun q b j=>q=r∧b=h∧j=n
theorem au (x:bx P ty) {g:FuncId} {fn:Func} {c:Code} (hf:P.funcs[g]? =io fn) (hb:fn.body=io c) (hn:(fn.name== "runtime.NumGoroutine")=kw) (u:fn.ntmps=nt)
  {l:List ResultVar} (hl:fn.results.toList=l) {args:List PV} (j:args.length<=nt) {os:List AO} {r:PV} {h:AH} {n:Nat}
  (b:GO P nt [.code c] (Ac ty l os.length r h n) ⟨mB 0 args,c8 0 os,os.length⟩):bD P g args os r h n:=oe x hf hb hn u hl j b
theorem aY{l:List ResultVar}{m:Nat}{r r0:PV}{h:AH}{n:Nat}{e:Exit}(L:List Nat)(he:e= .normal∨e= .ret)(hr:iU ty s l=io r0)(hw:Wk m L ⟨[(0,r0)],s.h,s.nx⟩ ⟨[(0,r)],h,n⟩):Ac ty l m r h n e s:=
 ⟨he,r0,hr,.done ⟨r,h,n,L,⟨rfl,rfl,rfl⟩,hw⟩⟩
end
theorem iC.map{h:AH}{n:Nat}{r:PV}{K:AH->PV->Prop}(i:Nat){kc:KC}{V:Type}{e:V->IV}{z:V}{b:Value}{y:PV->V}{m:List (kc.K×V)}(hi:h.get i=io (.map kc e z b y m))
  (hk:iC ((i,is)::h.eV i (.dQ kc e z b m)) n (r.eV i (.dQ kc e z b m)) K):iC h n r K:=by
 intro M N w D;obtain⟨j,h1,B,_,C⟩:=o6 D hi;obtain⟨u,A,I,g1,g2,g3,g4⟩:=hk j N w B;exact⟨u,A,I,h1.trans g1,g2,fun x G=>g3 x (C _ _ G),g4⟩
mutual
def PV.EU(i:Nat)(l:List IV):PV->PV
 | .iv x=> .iv x
 | .agg cs=> .agg (yt i l cs)
 | .bq cs=> .bq (yt i l cs)
 | .ptr j o=>bif PJ j i then .iv (.jv (l.drop o)) else .ptr j o
 | .sl j off len sz'=> .sl j off len sz'
 | .cL j a b c=> .cL j a b c
 | .ej z j=> .ej z j
 | .mP j o n=> .mP j o n
 | .mp j=> .mp j
 | .b5 fn a b=> .b5 fn a b
 | .kb b=> .kb b
 | .any=> .any
def yt(i:Nat)(l:List IV):List PV->List PV
 | []=> []
 |p::r=>PV.EU i l p::yt i l r
end
theorem me(i:Nat)(x:List IV): ∀l:List PV,yt i x l=l.map (PV.EU i x)
 | []=>rfl
 |p::r=>by simp[yt,me i x r]
theorem CC{M:Mem}{N:Nm}{n:Nat}{h:AH}{w:World}(hr:Rel M N (· <n) h w){i:Nat}{l:List IV}{cs:List PV}{T0:Option TypeId}(hi:h.get i=io (.cells cs T0))(a0:cs=l.map .iv):
  ∃B,Ext M N (· <n) h w B N (· <n) ((i,is)::h) w∧Rel B N (· <n) ((i,is)::h) w∧ ∀p x,VR M N (· <n) p x->VR B N (· <n) (p.EU i l) x:=by
 subst a0;have R:=hr.dM i _ hi Z;obtain⟨c,T,h1,G,h3,h4,h5⟩:=hr.obj i _ hi
 let B:Mem:=M.set (N.az i) (.cells c) R
 have hM:M.le B:=fun b d hb=>by
  simp only[B,Mem.set];by_cases u:b=N.az i
  .rw[u,R]at hb;cases hb
  .rw[be u];exact hb
 have hnew: ∀b d,M b=is->B b=io d->b=N.az i:=fun b d h1 G=>by
  simp only[B,Mem.set]at G;by_cases u:b=N.az i
  .exact u
  .rw[be u,h1]at G;cases G
 have C: ∀o,B.cell (N.az i) o=c[o]? :=fun o=>by simp[Mem.cell,B,Mem.set]
 refine⟨B,?_,?_,fun p x hx=>?_⟩
 .exact⟨rfl,rfl,⟨rfl,Ps _⟩,Ps _,fun _ _ _=>rfl,hM,fun b d h1 G=> .inr ⟨i,_,hi,rfl,(hnew b d h1 G).symm⟩,.refl _ _,fun _ h=>h,fun j o A b0=> .inr ⟨j,o,(a8 j o A).2,b0,rfl⟩⟩
 .refine⟨fun b d hb=>?_,fun j o A=>hr.used j o (a8 j o A).2,fun j o A I=>?_,fun j o A=>?_,fun j k o p A hk=>hr.inj j k o p (a8 j o A).2 (a8 k p hk).2⟩
  .simp only[B,Mem.set]at hb;by_cases u:b=N.az i
   .rw[am u]at hb;cases hb;exact⟨T,(0,0),by rw[u];exact h1⟩
   .rw[be u]at hb;exact hr.dZ b d hb
  .obtain⟨g1,g2⟩:=a8 j o A;simp only[B,Mem.set];rw[be fun e=>g1 (hr.inj j i o _ g2 hi I Z e)];exact hr.dM j o g2 I
  .obtain⟨g1,g2⟩:=a8 j o A;exact(hr.obj j o g2).mono hM (.refl _ _) (fun _ h=>h) (hr.used j o g2) Z
 .induction hx with
  |iv x y h=>exact .iv _ _ (h.mono hM)
  |agg cs ys hl _ ih=>
   refine .agg _ _ (by simpa[me]using hl) fun j q D=>?_;rw[me,Pp,Pr]at D;obtain⟨q0,J,rfl⟩:=D
   exact ih j q0 J
  |bq cs ys hl _ ih=>
   refine .bq _ _ (by simpa[me]using hl) fun j q D=>?_;rw[me,Pp,Pr]at D;obtain⟨q0,J,rfl⟩:=D
   exact ih j q0 J
  |ptr j off h=>
   simp only[PV.EU];cases hb:PJ j i with
   |true=>
    have A:=PC hb;subst A;have Y:l.length=c.size:=by simpa using h3
    refine .iv _ _ (.jv _ _ _ (fun k hk=>?_) fun k q D=>?_)
    .rw[List.length_drop]at hk;rw[C];simp[show off+k<c.size by omega]
    .rw[Qj]at D;have c0:off+k<c.size:=by rw[<-Y];exact(Pj.1 D).1
     have:=h4 (off+k) (.iv q) (by rw[Pp,D];rfl);rw[C];rw[Pg]at this;cases this with
     |iv _ _ h=>exact h.mono hM
   |false=>exact .ptr _ _ h
  |cL i sz k off h=>exact .cL _ _ _ _ h
  |ej z i h=>exact .ej _ _ h
  |mP i o n h=>exact .mP _ _ _ h
  |sl j off len sz' cap h h0 hl hc he=>exact .sl _ _ _ _ _ h h0 hl hc he
  |lR j sz' h=>exact .lR _ _ h
  |sle j sz' cap h hc he=>exact .sle _ _ _ h hc he
  |mp j h=>exact .mp _ h
  |b5 fn first caps f' c' h1 G hr1 hr2 _ _=>exact .b5 _ _ _ _ _ h1 G (fun j p A=>(hr1 j p A).mono hM (.refl _ _) (fun _ h=>h)) (fun j p A=>(hr2 j p A).mono hM (.refl _ _) (fun _ h=>h))
  |kb b=>exact .kb _
  |any x=>exact .any _
theorem iC.cells{h:AH}{n:Nat}{r:PV}{K:AH->PV->Prop}(i:Nat)(l:List IV){cs:List PV}{y:Option TypeId}(hi:h.get i=io (.cells cs y))(b:cs=l.map .iv)(hk:iC ((i,is)::h) n (r.EU i l) K):iC h n r K:=by
 intro M N w D;obtain⟨j,h1,B,C⟩:=CC D hi b;obtain⟨u,A,I,g1,g2,g3,g4⟩:=hk j N w B;exact⟨u,A,I,h1.trans g1,g2,fun x G=>g3 x (C _ _ G),g4⟩
theorem ln{ty:Ty}{l:List ResultVar}{r r0:PV}{e:Exit}{s:AS}(he:e= .normal∨e= .ret)(h:iU ty s l=io r0)(hk:iC s.h s.nx r0 fun _ b=>ah b r):CS ty l r e s:=⟨he,r0,h,hk⟩
section
variable {P:Program} {ty:Ty} {nt:Nat} {Q:AQ} {k:List KI} {s:AS}
theorem sZ{all rest:List Oper}{o:Oper}{c:Call}{g:FuncId}{u args:List PV}{os:List AO}{R:PV->AH->Nat->Prop}(L:List Nat)(hc:Fn P g args os R)(ho:o.op= .call c)(hg:o.guard=is)(ha:bM s.f c=io (g,u))
  (hn:cC L=jp) (hl:L.all (fun j=>PI j s.nx)=jp) (x:L.map s.h.get=os.map fun o=>io (o.cv (sig L s.nx))) (b:u=dy (sig L s.nx) args)
  (h: ∀r y A,R r y A-> ∃s',putDst nt o (r.cv (sig L s.nx)) (aX s L y A)=io s'∧GO P nt (.ops all rest::k) Q s'):GO P nt (.ops all (o::rest)::k) Q s:=
 cz (R:=fun t=>GO P nt (.ops all rest::k) Q t) hg (lv ho ha hc (fe hn) (fun j B=>Pf (P4.1 hl j B)) x b h) fun t C=>C
theorem rG{R:PV->AH->Nat->Prop}{l:List ResultVar}{m:Nat}{r r0:PV}{h:AH}{n:Nat}{e:Exit}(L:List Nat)(he:e= .normal∨e= .ret)(hr:iU ty s l=io r0)(hR:R r h n)(hw:Wk m L ⟨[(0,r0)],s.h,s.nx⟩ ⟨[(0,r)],h,n⟩):IQ ty l m R e s:=
 ⟨he,r0,hr,.done ⟨r,h,n,L,hR,hw⟩⟩
end
theorem oZ{P:Program}{nt:Nat}{Q:AQ}{k:List KI}{s:AS}{c:Code}(i j sz:Nat){cs:List PV}{u:Option TypeId}(hi:s.h.get i=io (.cells cs u))(hj:cs[j]? =io (.iv (.v (.slice is 0 0))))
  (h:GO P nt (.code c::k) Q ⟨s.f,(i,io (.cells (cs.set j (.sl s.nx 0 0 sz)) u))::(s.nx,io (.row sz []))::s.h,s.nx+1⟩):GO P nt (.code c::k) Q s:=by
 intro M N a w A;obtain⟨sf,sh,y⟩:=s;obtain⟨h1,Y⟩:=A.1.FU sz;have D:i≠y:=fun e=>by have:=A.1.used i _ hi;simp only at this;omega
 have b:AH.get ((y,io (AO.row sz []))::sh) i=io (.cells cs u):=by
  rw[AH.ay,be D];exact hi
 obtain⟨J,T,e1,e2,e3,R,e5⟩:=Y.obj i _ b
 obtain⟨g1,g2⟩:=Y.write (i:=i) (o0:= .cells cs u) b Z w (.cells (cs.set j (.sl y 0 0 sz)) u) Z Z Z Z (fun _ _=>rfl) ⟨J,T,e1,e2,by rw[List.length_set];exact e3,fun k p x=>by
  rw[Rb]at x;split at x
  .rename_i hk;subst hk;split at x
   .cases x;have:=R j _ hj;generalize J.getD j undef=v at this ⊢;cases this with
    |iv _ _ h=>cases h with
     |v=>exact .lR _ _ (Q9 _)
   .cases x
  .exact R k p x,e5⟩
 have B:Fits M N ⟨sf,(i,io (.cells (cs.set j (.sl y 0 0 sz)) u))::(y,io (.row sz []))::sh,y+1⟩ nt a w:=
  ⟨g2,fun k=>(A.2.1 k).mono (.refl _) (.refl _ _) (fun i hi=>QR hi),A.2.2⟩
 exact AW.then h B fun e a2 w2 M2 N2 s2 I C G=>⟨M2,N2,s2,(h1.trans g1).trans I,C,G⟩
theorem iC.DS{h:AH}{n:Nat}{r:PV}{K:AH->PV->Prop}{α:Type}[Inhabited α](i:Nat){sz:Nat}{es:List (List PV)}(L:List α)(f:α->List IV)(hi:h.get i=io (.row sz es))(hes:es=L.map fun x=>(f x).map .iv)
  (b:r.c6 i sz L.length) (hk:iC ((i,is)::h) n (r.dZ i sz fun k=>f (L.getD k co)) K):iC h n r K:=
 .row i (fun k=>f (L.getD k co)) hi (fD hes) (by subst hes;simpa using b) hk
def AO.je(i sz:Nat)(el:Nat->List IV):AO->AO
 | .cells cs T=> .cells (p4 i sz el cs) T
 |o=>o
def AO.qy(i sz n:Nat):AO->Prop
 | .cells cs _=>dP i sz n cs
 | .row _ es=> ∀(k:Nat) (e:List PV) (j:Nat) (p:PV),es[k]? =io e->e[j]? =io p-> ∃y,p= .iv y
 |_=>True
def AH.je(i sz:Nat)(el:Nat->List IV):AH->AH
 | []=> []
 |(k,is)::r=>(k,is)::AH.je i sz el r
 |(k,io o)::r=>(k,io (o.je i sz el))::AH.je i sz el r
def AH.qy(i sz n:Nat):AH->Prop
 | []=>True
 |(_,is)::r=>AH.qy i sz n r
 |(_,io o)::r=>o.qy i sz n∧AH.qy i sz n r
def AF.je(i sz:Nat)(el:Nat->List IV):AF->AF
 | []=> []
 |(d,p)::r=>(d,p.dZ i sz el)::AF.je i sz el r
def AF.qy(i sz n:Nat):AF->Prop
 | []=>True
 |(_,p)::r=>p.c6 i sz n∧AF.qy i sz n r
theorem AH.jc(i sz:Nat)(el:Nat->List IV): ∀(h:AH) (j:Nat),(AH.je i sz el h).get j=(h.get j).map (AO.je i sz el)
 | [],_=>rfl
 |(k,is)::r,j=>by
  simp only[AH.je,AH.ay,AH.jc i sz el r j];split<;>rfl
 |(k,io o)::r,j=>by
  simp only[AH.je,AH.ay,AH.jc i sz el r j];split<;>rfl
theorem AH.kP{i sz n:Nat}: ∀{h:AH} (_:h.qy i sz n) (j:Nat) (o:AO),h.get j=io o->o.qy i sz n
 | [],_,j,o,ho=>nomatch ho
 |(k,is)::r,hh,j,o,ho=>by
  rw[AH.ay]at ho;split at ho
  .cases ho
  .exact AH.kP (h:=r) hh j o ho
 |(k,io q)::r,hh,j,o,ho=>by
  rw[AH.ay]at ho;split at ho
  .cases ho;exact hh.1
  .exact AH.kP (h:=r) hh.2 j o ho
theorem AF.jc(i sz:Nat)(el:Nat->List IV): ∀(f:AF) (d:Nat),(AF.je i sz el f).get d=(f.get d).dZ i sz el
 | [],_=>rfl
 |(k,p)::r,d=>by
  simp only[AF.je,AF.ay,AF.jc i sz el r d];split<;>rfl
theorem AF.kP{i sz n:Nat}: ∀{f:AF} (_:f.qy i sz n) (d:Nat),(f.get d).c6 i sz n
 | [],_,d=>trivial
 |(k,p)::r,h,d=>by
  rw[AF.ay];split
  .exact h.1
  .exact AF.kP (f:=r) h.2 d
theorem AO.pY(i sz:Nat)(el:Nat->List IV)(o:AO):(o.je i sz el).real=o.real:=by
 cases o<;>rfl
theorem rD{P:Program}{nt:Nat}{Q:AQ}{k:List KI}{s:AS}{c:Code}(i:Nat){sz:Nat}{es:List (List PV)}(el:Nat->List IV)(hi:s.h.get i=io (.row sz es))(D: ∀k e,es[k]? =io e->e=(el k).map .iv)
  (hf:s.f.qy i sz es.length) (hh:s.h.qy i sz es.length) (h:GO P nt (.code c::k) Q ⟨s.f.je i sz el,(i,is)::s.h.je i sz el,s.nx⟩):GO P nt (.code c::k) Q s:=by
 intro M N a w b;obtain⟨C,h1,u,Y⟩:=wE b.1 hi D;have hM:M.le C:=h1.ov;have A: ∀j o,AH.get ((i,is)::s.h.je i sz el) j=io o-> ∃p,AH.get ((i,is)::s.h) j=io p∧s.h.get j=io p∧o=p.je i sz el:=by
  intro j o x;obtain⟨g1,g2⟩:=a8 j o x;rw[AH.jc,Pr]at g2;obtain⟨p,g3,g4⟩:=g2;exact⟨p,by rw[AH.ay,be g1];exact g3,g3,g4.symm⟩
 have hE:Ext M N (· <s.nx) s.h w C N (· <s.nx) ((i,is)::s.h.je i sz el) w:=⟨h1.os,h1.tape,h1.output,h1.size,h1.fN,h1.ov,h1.gx,h1.nm,h1.ule,fun j o x y=>by
  obtain⟨p,g1,_,rfl⟩:=A j o x;rw[AO.pY]at y
  exact h1.fK j p g1 y⟩
 have hR:Rel C N (· <s.nx) ((i,is)::s.h.je i sz el) w:=by
  refine⟨u.dZ,fun j o x=>?_,fun j o x y=>?_,fun j o x=>?_,fun j k o p x hk ho hp=>?_⟩
  .obtain⟨p,g1,_,rfl⟩:=A j o x;exact u.used j p g1
  .obtain⟨p,g1,_,rfl⟩:=A j o x;rw[AO.pY]at y;exact u.dM j p g1 y
  .obtain⟨p,g1,g2,rfl⟩:=A j o x;cases p with
   |cells cs T0=>
    obtain⟨c,T,q1,q2,q3,q4,q5⟩:=b.1.obj j _ g2;have hok:=AH.kP hh j _ g2;refine⟨c,T,q1,q2,by simpa[gq]using q3,fun k q hq=>?_,q5⟩;rw[gq,Pp,Pr]at hq;obtain⟨q0,B,rfl⟩:=hq;exact Y _ _ (q4 k q0 B) (gH hok k q0 B)
   |row=>exact u.obj j _ g1
   |bp=>exact u.obj j _ g1
   |ff=>exact u.obj j _ g1
   |map=>exact u.obj j _ g1
   |bI=>exact u.obj j _ g1
   |dJ=>exact u.obj j _ g1
   |gI=>exact u.obj j _ g1
   |dO=>exact u.obj j _ g1
  .obtain⟨o',g1,_,rfl⟩:=A j o x;obtain⟨p',g2,_,rfl⟩:=A k p hk;rw[AO.pY]at ho hp;exact u.inj j k o' p' g1 g2 ho hp
 have G:Fits C N ⟨s.f.je i sz el,(i,is)::s.h.je i sz el,s.nx⟩ nt a w:=⟨hR,fun d=>by
  rw[AF.jc];exact Y _ _ (b.2.1 d) (AF.kP hf d),b.2.2⟩
 exact AW.then h G fun e a2 w2 M2 N2 s2 R I J=>⟨M2,N2,s2,hE.trans R,I,J⟩
def AO.jd(i sz:Nat)(el:Nat->List IV):AO->AO
 | .cells cs T=> .cells (p4 i sz el cs) T
 | .row s es=> .row s (es.map (p4 i sz el))
 |o=>o
def AO.tZ(i sz n:Nat):AO->Prop
 | .cells cs _=>dP i sz n cs
 | .row _ es=> ∀e∈es,dP i sz n e
 |_=>True
def AH.jd(i sz:Nat)(el:Nat->List IV):AH->AH
 | []=> []
 |(k,is)::r=>(k,is)::AH.jd i sz el r
 |(k,io o)::r=>(k,io (o.jd i sz el))::AH.jd i sz el r
def AH.tZ(i sz n:Nat):AH->Prop
 | []=>True
 |(_,is)::r=>AH.tZ i sz n r
 |(_,io o)::r=>o.tZ i sz n∧AH.tZ i sz n r
theorem AH.pZ(i sz:Nat)(el:Nat->List IV): ∀(h:AH) (j:Nat),(AH.jd i sz el h).get j=(h.get j).map (AO.jd i sz el)
 | [],_=>rfl
 |(k,is)::r,j=>by
  simp only[AH.jd,AH.ay,AH.pZ i sz el r j];split<;>rfl
 |(k,io o)::r,j=>by
  simp only[AH.jd,AH.ay,AH.pZ i sz el r j];split<;>rfl
theorem AH.oN{i sz n:Nat}: ∀{h:AH} (_:h.tZ i sz n) (j:Nat) (o:AO),h.get j=io o->o.tZ i sz n
 | [],_,j,o,ho=>nomatch ho
 |(k,is)::r,hh,j,o,ho=>by
  rw[AH.ay]at ho;split at ho
  .cases ho
  .exact AH.oN (h:=r) hh j o ho
 |(k,io q)::r,hh,j,o,ho=>by
  rw[AH.ay]at ho;split at ho
  .cases ho;exact hh.1
  .exact AH.oN (h:=r) hh.2 j o ho
theorem AO.od(i sz:Nat)(el:Nat->List IV)(o:AO):(o.jd i sz el).real=o.real:=by
 cases o with
 |row s es=>cases es<;>rfl
 |_=>rfl
def K7:List Code->Code->Code
 | [],r=>r
 |c::l,r=> .seq c (K7 l r)
def vL:Nat->Code->List Code
 |n+1,.seq a b=>a::vL n b
 |_,_=> []
def rJ:Nat->Code->Code
 |n+1,.seq _ b=>rJ n b
 |_,c=>c
theorem A3{P:Program}{nt:Nat}{R:AQ}: ∀{l:List Code} {e:Exit} {s:AS},e≠ .normal->kp P nt (l.map KI.code) R e s->R e s
 | [],_,_,_,h=>h
 |c::l,e,s,he,h=>by
  cases e with
  |normal=>exact absurd Z he
  |_=>exact A3 (l:=l) he h
end
end Go.Al
namespace Go.Al
open Go.ChangeShapes Go.WideShapes Go.RowKit
section
def vg(W:World)(b:Nat):Option MB:=match W.heap[b]? with
 |some (.cells c _ _)=>io (.cells c)
 |some (.map es cl)=>io (.map es cl)
 |_=>is
def kJ(W:World):Prop:= ∀b c,LL b=io c-> ∃T j,W.heap[b]? =io (.cells c T j)
def Mem.nW(W:World)(h:kJ W):Mem:=⟨vg W,fun b c hb=>by obtain⟨T,j,e⟩:=h b c hb;simp[vg,e]⟩
def Md:Nm:=⟨fun _=>0,fun _=>0⟩
theorem Ho(W:World)(h:kJ W):Rel (Mem.nW W h) Md (· <0) [] W:=by
 refine⟨fun b c hb=>?_,fun i o x=>by simp[AH.get]at x,fun i o x=>by simp[AH.get]at x,fun i o x=>by simp[AH.get]at x,fun i j o p x=>by simp[AH.get]at x⟩;have u:vg W b=io c:=hb;unfold vg at u;split at u
 .rename_i A T y e;obtain rfl:=P7 u;exact⟨T,y,e⟩
 .rename_i es cl e;obtain rfl:=P7 u;exact e
 .cases u
theorem yB{W:World}{h:kJ W}{b o:Nat}{v:Value}(hc:W.cell? ⟨b,o,is⟩=io v):(Mem.nW W h).cell b o=io v:=by
 show(match vg W b with|some (.cells c)=>c[o]? |_=>is)=io v;unfold World.cell? at hc;unfold vg;split at hc
 .rename_i c T j e;simp only at e;rw[e];simpa using hc
 .cases hc
def CR(M:Mem)(l:List IV)(cs:List Value):Prop:=l.length=cs.length∧ ∀j p,l[j]? =io p->IR M p (cs.getD j undef)
theorem CR.nil(M:Mem):CR M [] []:=⟨rfl,fun j p h=>by simp at h⟩
theorem CR.one{M:Mem}{p:IV}{v:Value}(h:IR M p v):CR M [p] [v]:=⟨rfl,fun j q b=>by
 cases j with
 |zero=>simp at b;subst b;simpa using h
 |succ j=>simp at b⟩
theorem CR.append{M:Mem}{l x:List IV}{cs b:List Value}(h:CR M l cs)(k:CR M x b):CR M (l++x) (cs++b):=by
 refine⟨by simp[h.1,k.1],fun j p u=>?_⟩;rcases Ql j l.length with hj|hj
 .rw[PD hj]at u;have:=h.2 j p u;rw[Pk]at this ⊢;rwa[PD (by rw[<-h.1];exact hj)]
 .rw[PB hj]at u;have:=k.2 _ p u;rw[Pk]at this ⊢;rw[PB (by rw[<-h.1];exact hj),<-h.1];exact this
theorem CR.ef{M:Mem}{l r:List IV}{cs:List Value}{o n o':Nat}(h:CR M l ((cs.drop o).take n))(e:o'=o+n)(k:CR M r (cs.drop o')):CR M (l++r) (cs.drop o):=by
 subst e;have:=h.append k;rwa[<-List.drop_drop,RQ]at this
theorem CR.end_{M:Mem}{cs:List Value}{o:Nat}(h:cs.length=o):CR M [] (cs.drop o):=by
 rw[List.drop_eq_nil_of_le (by omega)];exact .nil M
theorem CR.agg{M:Mem}{N:Nm}{U:Nat->Prop}{l:List IV}{ys:Array Value}(h:CR M l ys.toList):VR M N U (ag l) (.agg ys):=by
 refine .agg _ _ (by simpa using h.1) fun j p b=>?_;rw[Pp,Pr]at b;obtain⟨q,u,rfl⟩:=b;have:=h.2 j q u;exact .iv _ _ (by simpa[Pg,Pk]using this)
theorem CR.le{M:Mem}{l u:List IV}{cs:List Value}(h:CR M l cs)(hl:l.length=u.length)(b: ∀(j:Nat) (p q:IV),l[j]? =io p->u[j]? =io q->jy p q):CR M u cs:=by
 refine⟨hl▸h.1,fun j q y=>?_⟩;have x:j<l.length:=by rw[hl];exact(Pj.1 y).1
 exact b j _ q (Pl x) y M _ (h.2 j _ (Pl x))
theorem CR.AZ{M:Mem}{p q:IV}{cs:List Value}(h:CR M [p] cs)(b:jy p q):CR M [q] cs:=
 h.le Z fun j y A u x=>by
  cases j with
  |zero=>simp at u x;subst u;subst x;exact b
  |succ j=>simp at u
section
variable {H:Type} {enc:TypeId×Value->H} {P:Program} {W:World} {hT:kJ W} {sp:Nat->Bool} {held:Bool}
def Rd(enc:TypeId×Value->H)(P:Program)(W:World)(hT:kJ W)(sp:Nat->Bool)(held:Bool)(t:TypeId){α:Type}(c:α->List IV)(Q:α->DataW H->Prop)(n:Nat):Prop:=
 ∀m,m<=n-> ∀b y,DataW.trod enc P W 0 sp held m t b=io y-> ∃x,CR (Mem.nW W hT) (c x) b∧Q x y.1
theorem Rd.mono{t:TypeId}{α:Type}{c:α->List IV}{Q:α->DataW H->Prop}{n m:Nat}(h:Rd enc P W hT sp held t c Q n)(hm:m<=n):Rd enc P W hT sp held t c Q m:=fun k hk=>h k (Qa hk hm)
theorem iV{t:TypeId}{k:IntKind}(b:P.underlying t=io (.int k))(n:Nat):Rd enc P W hT sp held t (fun z=> [.v (.int k z)]) (fun z d=>d= .lit (.int k z)∧(Lit.int k z).wf=jp) n:=by
 intro m _ u y h;cases m with
 |zero=>simp[DataW.trod]at h
 |succ m=>
  unfold DataW.trod at h;rw[b]at h;split at h<;>simp_all;obtain⟨⟨rfl,j⟩,rfl⟩:=h;exact⟨_,.one (.v _),rfl,j⟩
theorem gE{t:TypeId}(b:P.underlying t=io .string)(n:Nat):Rd enc P W hT sp held t (fun s=> [.v (.string s)]) (fun s d=>d= .lit (.string s.data.toList)∧s.size<=maxLen) n:=by
 intro m _ u y h;cases m with
 |zero=>simp[DataW.trod]at h
 |succ m=>
  unfold DataW.trod at h;rw[b]at h;split at h<;>simp_all;rename_i s;obtain⟨j,rfl⟩:=h;exact⟨s,.one (.v _),rfl,j⟩
def QL{α:Type}(Q:α->DataW H->Prop)(l:List α)(d:DataW H):Prop:=
 ∃b:List (DataW H),(d= .nil∧b=[]∨ ∃sp,d= .slice b sp)∧l.length=b.length∧ ∀(i:Nat) (x:α) (e:DataW H),l[i]? =io x->b[i]? =io e->Q x e
theorem fy{α:Type}[Inhabited α]{t e:TypeId}{sz:Nat}{c:α->List IV}{Q:α->DataW H->Prop}{n:Nat}(ht:P.underlying t=io (.slice e))(hc:P.cellsOf e=sz)(C:0<sz)(hl: ∀x,(c x).length=sz)
  (he:Rd enc P W hT sp held e c Q n):Rd enc P W hT sp held t (fun l:List α=> [bN sz l c]) (QL Q) (n+1):=by
 intro m hm cs y h;rcases DataW.trod_slice ht h with⟨rfl,rfl⟩|⟨a,len,f0,A,rest,k,rfl,rfl,rfl,_,h1,h2,h3,h4,_⟩
 .exact⟨[],.one (.fp ..),[],.inl ⟨rfl,rfl⟩,rfl,fun i x e h=>by simp at h⟩
 have key: ∀i,i<len-> ∃x,(∃u,W.cells? 0 (a.add (i*sz)) sz=io u∧CR (Mem.nW W hT) (c x) u)∧ ∃y,A[i]? =io y∧Q x y.1:=by
  intro i D;have h5:=h4 i D;rw[hc,Pl (by omega)]at h5;obtain⟨u,h6,h7⟩:=Option.bind_eq_some_iff.1 h5;obtain⟨x,h8,h9⟩:=he k (by omega) _ _ h7;exact⟨x,⟨u,h6,h8⟩,_,Pl (by omega),h9⟩
 obtain⟨f,hf⟩:=Deep.choose_lt key;refine⟨(PT len).map f,.one ?_,A.map (·.1),.inr ⟨_,rfl⟩,by simp[h3],fun i x e hx a0=>?_⟩
 .cases len with
  |zero=>exact .fp ..
  |succ len=>
   have i0: ∀i,i<len+1-> ∀j,j<sz->W.cell? ((a.add (i*sz)).add j)=((c (f i))[j]?).bind fun _=>(W.cell? ((a.add (i*sz)).add j)):=by
    intro i D j B;rw[Pl (by rw[hl];exact B)];rfl
   have b: ∀i,i<len+1-> ∀j,j<sz-> ∃v,W.cell? ⟨a.block,a.off+i*sz+j,is⟩=io v∧(∀p,(c (f i))[j]? =io p->IR (Mem.nW W hT) p v)∧a.spot=is:=by
    intro i D j B;obtain⟨⟨u,h6,h8⟩,_⟩:=hf i D;obtain⟨_,h9,G⟩:=World.cells?_some h6;have I:=G j B;rw[Pl (by omega)]at I;have hs: ∀j,j<sz->(a.add (i*sz+j)).spot=is:=fun j B=>by
     have J:=G j B;rw[Pl (by omega),Deep.add_add]at J;exact World.cell?_spot J
    have R:a.add (i*sz+j)=⟨a.block,a.off+i*sz+j,is⟩:=by
     have:=hs j B;unfold Addr.add at this ⊢;split
     .rename_i h0;rw[am h0]at this;cases a;simp_all
     .rw[QY]
    refine⟨u[j]'(by omega),?_,fun p hp=>?_,?_⟩
    .rw[<-R,<-Deep.add_add];exact I
    .have:=h8.2 j p hp;rwa[Pk,Pl (by omega)]at this
    .obtain⟨⟨g0,g6,_⟩,_⟩:=hf 0 (by omega);obtain⟨_,g9,d0⟩:=World.cells?_some g6;have c0:=d0 0 C;rw[Pl (by omega),Deep.add_add]at c0;have:=World.cell?_spot c0;simpa[Addr.add]using this
   have ha:io a=io (⟨a.block,a.off,is⟩:Addr):=by
    obtain⟨_,_,_,hs⟩:=b 0 (by omega) 0 C;cases a;simp_all
   rw[ha];have b0:((PT (len+1)).map f).length=len+1:=by simp
   have Y: ∀k,k<len+1->((PT (len+1)).map f).getD k co=f k:=fun k hk=>by
    simp[Pk,R1 hk]
   unfold bN;rw[b0];refine .ct _ _ _ _ _ _ h1 h2 (fun k _=>hl _) (fun k j hk B=>?_) (fun k j p hk hp=>?_)
   .obtain⟨v,hv,_⟩:=b k hk j B;rw[yB hv];rfl
   .rw[Y k hk]at hp;have B:j<sz:=by rw[<-hl (f k)];exact(Pj.1 hp).1
    obtain⟨v,hv,e0,_⟩:=b k hk j B;rw[yB hv];exact e0 p hp
 .have D:i<len:=by simpa using(Pj.1 hx).1
  obtain⟨_,y,hy,hq⟩:=hf i D;rw[Pp,hy]at a0;rw[Pp,R1 D]at hx;simp at a0 hx;subst a0;subst hx;exact hq
theorem lJ{n:Nat}{b:Array Field}{cs:List Value}{xs:List (DataW H×List MemPlace)}(hf: ∀(i:Nat) (f:Field),b[i]? =io f->DataW.trod enc P W 0 sp held n f.type ((cs.drop f.offset).take (P.cellsOf f.type))=xs[i]?)
  (i:Nat) {f:Field} (h1:b[i]? =io f) {t o sz:Nat} (j:f.type=t) (u:f.offset=o) (y:P.cellsOf t=sz) {x:DataW H×List MemPlace} (A:xs[i]? =io x):DataW.trod enc P W 0 sp held n t ((cs.drop o).take sz)=io x:=by
 subst j;subst u;subst y;rw[hf i f h1,A]
end
section
variable {H:Type} {enc:TypeId×Value->H} {P:Program} {W W':World} {T:TypeId->Prop}
theorem BY{W W':World}(hk: ∀b,b<W.heap.size->W'.heap[b]? =W.heap[b]?){p:MemPlace}(hp:p.block<W.heap.size):W.sameAt W' p:=by
 cases p with
 |cell b o=>exact World.cell?_of_block (a:=⟨b,o,is⟩) (hk b hp)
 |map b=>exact hk b hp
theorem mZ(K:Kids P T)(A: ∀{t e},T t->P.underlying t=io (.slice e)->0<P.cellsOf e)(hk: ∀b,b<W.heap.size->W'.heap[b]? =W.heap[b]?){sp:Nat->Bool}:
  ∀{ts:List TypeId} {vs:List Value} {y:List (DataW H)} {u:List MemPlace},(∀t∈ts,T t)->DataW.TrodAll enc P W 0 (fun _=>jp) jp ts vs y u->(∀p∈u,p.block<W.heap.size)->(∀p∈u,sp p.block=jp)->
   DataW.TrodAll enc P W' 0 sp jp ts vs y u
 | [],vs,y,u,_,h,_,_=>by
  obtain⟨rfl,rfl,rfl⟩:=trodAll_nil h;exact trodAll_mk0
 |t::ts,vs,y,u,hT,h,hlt,hsp=>by
  obtain⟨v,G,d,B,p,q,rfl,rfl,rfl,⟨n,h1⟩,C⟩:=trodAll_cons h;refine⟨p,q,⟨n,DataW.trod_stays K A (fun h=>by cases h) (hT t (by simp)) h1 (fun x j=>BY hk (hlt x (P2 _ j))) (fun x j=>hsp x (P2 _ j))⟩,?_,rfl⟩;exact mZ K A hk (fun t D=>hT t (Pu _ D)) C (fun x j=>hlt x (Q4 _ j)) (fun x j=>hsp x (Q4 _ j))
theorem HZ{W W':World}(u:W'.os=W.os)(j:W'.output=W.output)(hk: ∀b,b<W.heap.size->W'.heap[b]? =W.heap[b]?)(may:MemPlace->Prop):W.keptBut W' may:=by
 refine World.keptBut_mono (fun p x=>(x:False).elim) (World.keptBut_none_iff.2 ⟨u,j,hk⟩)
theorem vY{f:Func}{s:ChangeSpec}{y I A again:Bool}{args:Array Value}{v:Value}{C gs:List (DataW H)}{u:List MemPlace}
  (K:Kids P T) (hz: ∀{t e},T t->P.underlying t=io (.slice e)->0<P.cellsOf e) (e0: ∀t∈f.params.toList,T t) (B:s.vars=[])
  (hW:DataW.Whole enc P f.params.toList s.vars y W args.toList C gs u) (i0:W'.os=W.os) (a0:W'.output=W.output) (hk: ∀b,b<W.heap.size->W'.heap[b]? =W.heap[b]?)
  (G: ∀(b:Nat) (sp:Nat->Bool) (hd:Bool),DataW.TrodAll enc P W' b sp hd f.resultTypes.toList (v.resultList f.resultTypes.size) (s.fn H (C++gs)).results [])
  (J:(s.fn H (C++gs)).args=C) (k0:(s.fn H (C++gs)).vars=[])
  (hok: ∀(j:Nat) (t:TypeId) (r:Value),f.resultTypes[j]? =io t->(v.resultList f.resultTypes.size)[j]? =io r->Value.okWide P W' .any 0 t r):
  s.post enc P f y I A again W args v W':=by
 have R: ∀p∈u,p.block<W.heap.size:=fun p Y=>by simpa using hW.lt p Y
 have D: ∀p∈u,(fun b=>lc (b<W.heap.size)) p.block=jp:=fun p Y=>by simpa using hW.lt p Y
 obtain⟨pa,pv,hA,hV,rfl,f0,g0⟩:=id hW;rw[B]at hV;obtain⟨rfl,rfl⟩:gs=[]∧pv=[]:=by
  cases gs with
  |nil=>exact⟨rfl,hV⟩
  |cons _ _=>exact hV.elim
 rw[Qm]at R D;have x: ∀sp:Nat->Bool,(∀p∈pa,sp p.block=jp)->DataW.TrodAll enc P W' 0 sp jp f.params.toList args.toList (s.fn H (C++ [])).args pa:=fun sp j0=>by
  rw[J];exact mZ K hz hk e0 hA R j0
 have c0: ∀sp:Nat->Bool,DataW.TrodVars enc P W' sp s.vars (s.fn H (C++ [])).vars []:=fun sp=>by
  rw[k0,B];rfl
 refine⟨C,[],pa++ [],[],pa,[],hW,G _ _ _,x _ D,c0 _,?_,fun _=>⟨hok,_,_,([]++pa)++ [],⟨[]++pa,[],trodAll_append (x _ (fun _ _=>rfl)) (G _ _ _),c0 _,rfl,?_,?_⟩,?_⟩⟩
 .exact HZ i0 a0 hk _
 .intro b d0 Y;have b0:MemPlace.cell b d0∈pa:=by simpa using Y
  have hb:=R _ b0;have:=f0 b d0 (by simpa using b0);rw[<-this];simp only[World.frozen?];rw[hk b hb]
 .intro ha;have:=g0 ha;simpa using this
 .intro p Y _;simpa using Y
end
section
variable {P:Program} {ty:Ty} {nt:Nat} {s:AS} {Q:AQ} {k:List KI}
def tp(c:UInt8):List IV:=[.v (.int .u8 (c.toNat:Int))]
theorem pC(w:World)(t u D e:TypeId)(i:TypeInfo)(I:P.underlying t=io (.slice e))(hu:P.underlying u=io .string)(hi:P.info? e=io i)(C:i.size=1)(T:TypeId)
  (g iw x:Nat) (j:Array Value) (hg:w.heap[g]? =io (.cells j T (0,0))) (b:ByteArray)
  (y:iw+b.size<=x) (A:iw+b.size<=j.size):
  (Builtin.append_ #[t,u] D #[.slice (io ⟨g,0,is⟩) iw x,.string b]).run P w=
   .ok (.slice (io ⟨g,0,is⟩) (iw+b.size) x) (w.setRow g (j.toList.take iw++Lib.strCells b++j.toList.drop (iw+b.size)).toArray):=by
 have G:=Lib.run_firstCells_string (P:=P) w 1 b;have B:=run_storeCells_at P g iw T (Lib.strCells b) 0 j w hg (by simpa[Lib.strCells_length]using A) (Lib.strCells_oneCell b);simp only[Rl,Lib.strCells_length]at B;simp[Builtin.append_,run_underlying I,run_underlying hu,sizeOf,typeInfo,hi,C,Builtin.lenOf,y,G,Addr.add_lit,B]
theorem ke(w:World)(t u B e:TypeId)(i:TypeInfo)(C:P.underlying t=io (.slice e))(hu:P.underlying u=io .string)(hi:P.info? e=io i)(y:Option Addr)(iw j:Nat)(x:iw<=j)(b:ByteArray)(hb:b.size=0)(hs:y=is∨ ∃b o,y=io ⟨b,o,is⟩):
  (Builtin.append_ #[t,u] B #[.slice y iw j,.string b]).run P w= .ok (.slice y iw j) w:=by
 have A:=Lib.run_firstCells_string (P:=P) w i.size b;have D:Lib.strCells b=[]:=Qe (by rw[Lib.strCells_length];exact hb);rw[hb,D]at A;rcases hs with rfl|⟨g,o,rfl⟩
 .simp[Builtin.append_,run_underlying C,run_underlying hu,sizeOf,typeInfo,hi,Builtin.lenOf,hb,x,A]
 .simp[Builtin.append_,run_underlying C,run_underlying hu,sizeOf,typeInfo,hi,Builtin.lenOf,hb,x,A,storeCells]
def qX(s:AS)(i:Nat)(l:List UInt8)(u:TypeId):AS:=⟨s.f,(s.nx,io (.bp l u))::(i,is)::s.h,s.nx+1⟩
theorem oG{i:Nat}{l:List UInt8}{u:TypeId}{M b:Mem}{N j:Nm}{a:Act}{w x:World}(hf:Fits M N s nt a w)(y:Ext M N (· <s.nx) s.h w b j (· <s.nx+1) ((s.nx,io (.bp l u))::(i,is)::s.h) x)
  (hr:Rel b j (· <s.nx+1) ((s.nx,io (.bp l u))::(i,is)::s.h) x):
  Ext M N (· <s.nx) s.h w b j (· <(qX s i l u).nx) (qX s i l u).h x∧Fits b j (qX s i l u) nt a x:=
 ⟨y,hr,hf.2.1.ext y,hf.2.2⟩
theorem Rel.IU{M:Mem}{N:Nm}{w:World}{n:Nat}{h:AH}(hr:Rel M N (· <n) h w)(T:TypeId):Ext M N (· <n) h w M N (· <n+1) ((n,io (.bp [] T))::h) w∧Rel M N (· <n+1) ((n,io (.bp [] T))::h) w:=by
 have u: ∀i p,AH.get ((n,io (.bp [] T))::h) i=io p->(i=n∧p= .bp [] T)∨(i<n∧h.get i=io p):=by
  intro i p x;rw[AH.ay]at x;split at x
  .rename_i C;exact .inl ⟨C,by simpa using x.symm⟩
  .exact .inr ⟨hr.used i p x,x⟩
 refine⟨⟨rfl,rfl,⟨rfl,Ps _⟩,Ps _,fun _ _ _=>rfl,.refl _,fun b c h1 A=>by simp[h1]at A,.refl _ _,fun i x=>by omega,fun i p x y=>?_⟩,⟨hr.dZ,fun i p x=>?_,fun i p x y=>?_,fun i p x=>?_,fun i j p q x J D G B=>?_⟩⟩
 .rcases u i p x with⟨rfl,rfl⟩|⟨h1,A⟩
  .cases y
  .exact .inr ⟨i,p,A,y,rfl⟩
 .rcases u i p x with⟨rfl,rfl⟩|⟨h1,A⟩<;>omega
 .rcases u i p x with⟨rfl,rfl⟩|⟨h1,A⟩
  .cases y
  .exact hr.dM i p A y
 .rcases u i p x with⟨rfl,rfl⟩|⟨h1,A⟩
  .exact .inl Z
  .exact(hr.obj i p A).mono (.refl _) (.refl _ _) (fun i x=>by omega) h1 Z
 .rcases u i p x with⟨rfl,rfl⟩|⟨h1,A⟩<;>rcases u j q J with⟨rfl,rfl⟩|⟨R,I⟩
  .rfl
  .cases D
  .cases G
  .exact hr.inj i j p q A I D G B
theorem G9(x0:bx P ty){o:Oper}{x y:Operand}{t tu u:TypeId}(ho:o.op= .call ⟨.builtin .append, #[x,y], #[t,tu]⟩){e et eu:bE}(ht:ty t=io e)(hk:e.k= .aM (.slice u))(s1:ty tu=io et)(m1:et.k= .aM .string)(hu:ty u=io eu)
  {i len:Nat} {l:List UInt8} {b:ByteArray} (hx:ev s.f x= .sl i 0 len 1) (hi:s.h.get i=io (.bp l u)) (C:l.length=len) (r1:eu.size=1) (k1:eu.bytes=1) (hz:eu.zero= .int .u8 0)
  (o1:ev s.f y= .iv (.v (.string b))) (z1:len+b.size<=140737488355328)
  {s':AS} (hp:putDst nt o (.sl s.nx 0 (len+b.size) 1) (qX s i (l++b.data.toList) u)=io s'):OT P nt o s (fun t=>t=s'):=by
 refine OT.value hp fun M N a w J=>?_;obtain⟨⟨ii,g0,r0,q0,s0⟩,_⟩:=x0 u _ hu;rw[r1]at r0;rw[k1]at q0;rw[hz]at s0
 have k0:P.underlying t=io (.slice u):=by
  have:=(x0 t _ ht).2.1;rw[hk]at this;exact this.1
 have j0:P.underlying tu=io .string:=by
  have:=(x0 tu _ s1).2.1;rw[m1]at this;exact this.1
 have z0:=aH J.2.1 x;rw[hx]at z0;have a1:=aH J.2.1 y;rw[o1]at a1;have w1:a.eval y= .string b:=by
  generalize a.eval y=v at a1;cases a1 with
  |iv _ _ h=>cases h;rfl
 have A: ∀v w',(Builtin.append_ #[t,tu] o.type #[a.eval x,a.eval y]).run P w= .ok v w'->(execOp a.eval o).run P w= .ok (.value v) w':=by
  intro v w' h;simp only[execOp,ho,resolve];simp[invoke,builtin,h]
 rw[w1]at A;have a2:i<s.nx:=J.1.used i _ hi;have m0:s.nx≠i:=by omega
 have n1:=J.1.obj i _ hi;have f0:b.data.toList.length=b.size:=by simp
 have e0: ∀(j:Nat) (x:UInt8),b.data.toList[j]? =io x->(Lib.strCells b).getD j undef= .int .u8 (x.toNat:Int):=by
  intro j x hx;simp only[Lib.strCells,Pk,Pp,hx,Qt,Qf]
 have b0: ∀z:Array Value,(∀(j:Nat) (x:UInt8),l[j]? =io x->z.getD j undef= .int .u8 (x.toNat:Int))->(∀j,j<b.size->z.getD (len+j) undef=(Lib.strCells b).getD j undef)->
   ∀(j:Nat) (x:UInt8),(l++b.data.toList)[j]? =io x->z.getD j undef= .int .u8 (x.toNat:Int):=by
  intro z h1 h2 j x D;rcases Ql j l.length with hk|hk
  .rw[PD hk]at D;exact h1 j x D
  .rw[PB hk]at D;have t0:j-l.length<b.size:=by rw[<-f0];exact(Pj.1 D).1
   have:=h2 _ t0;rw[e0 _ _ D,show len+(j-l.length)=j by omega]at this;exact this
 have Y: ∀(G:List Value) (a0:Nat),G.length=len->(∀(j:Nat) (x:UInt8),l[j]? =io x->G.getD j undef= .int .u8 (x.toNat:Int))->len+b.size<=a0->a0<=maxLen->0<len+b.size->
   ∀z:Array Value,z=G.toArray++(Lib.strCells b).toArray++Builtin.zeroCells (Value.int .u8 0).cells (a0-(len+b.size))->
   ∃M' R,Ext M N (· <s.nx) s.h w M' R (· <(qX s i (l++b.data.toList) u).nx) (qX s i (l++b.data.toList) u).h (w.drew.alloc (.cells z u))∧Fits M' R (qX s i (l++b.data.toList) u) nt a (w.drew.alloc (.cells z u))∧
    VR M' R (· <(qX s i (l++b.data.toList) u).nx) (.sl s.nx 0 (len+b.size) 1) (.slice (io ⟨w.heap.size,0,is⟩) (len+b.size) a0):=by
  intro G a0 f1 t1 o0 l1 v0 z b1;have x1:(Value.int IntKind.u8 0).cells.size=1:=rfl;have I:z.size=a0:=by
   rw[b1,RA,RA,size_zeroCells,x1];simp only[List.size_toArray,f1,Lib.strCells_length];omega
  obtain⟨R,h1,h2,h3,h4,h5⟩:=J.1.drew.alloc (.cells z u) (.bp (l++b.data.toList) u) z.size (fun R g1 g2 g3=>by
   refine .inr ⟨z,by rw[g1];exact heap_alloc_new _ _,g2.symm,by rw[I,Pn,C,f0];omega,b0 z (fun j x D=>?_) (fun j D=>?_)⟩
   .have b2:=(Pj.1 D).1;have e1:z.getD j undef=G.getD j undef:=by
     rw[b1,Pg,Array.append_assoc,P1 (by simp;omega),Pk];simp
    rw[e1];exact t1 j x D
   .rw[b1,Pg,P1 (by simp[Lib.strCells_length];omega),RS (by simp;omega),Pk]
    simp[f1])
  have p1:=(h5.del i).swap (Ne.symm m0);have v1:=(((Ext.drew (M:=M) (N:=N) (U:=(· <s.nx)) (h:=s.h) (w:=w)).trans h4).del i).swap (Ne.symm m0);obtain⟨g1,g2⟩:=oG J v1 p1;refine⟨M,R,g1,g2,?_⟩;have:=VR.sl (M:=M) (N:=R) (U:=(· <s.nx+1)) s.nx 0 (len+b.size) 1 a0 (by omega) v0 o0 l1 (by rw[h2,I];simp);rw[h1,Ru]at this;exact this
 generalize a.eval x=vx at z0 A;cases z0 with
 |lR _ _ hU=>
  have he:l=[]:=Qe C;subst he;by_cases hm:b.size=0
  .have n0:b.data.toList=[]:=Qe (by rw[f0];exact hm);have B:=ke (P:=P) w t tu o.type u ii k0 j0 g0 is 0 0 (Ps _) b hm (.inl Z);obtain⟨h1,h2⟩:=J.1.IU u;obtain⟨g1,g2⟩:=oG (i:=i) (l:=[]) (u:=u) J ((h1.del i).swap (Ne.symm m0)) ((h2.del i).swap (Ne.symm m0));rw[n0,hm];exact⟨_,w,M,N,A _ _ B,g1,g2,.lR _ _ (by simp only[qX];omega)⟩
  .have B:=run_append_nil_string (P:=P) w t tu o.type u ii (.int .u8 0) k0 j0 g0 s0 b (by omega) (by omega) (by rw[q0];omega);have e1:(b.data.map fun b=>Value.int .u8 b.toNat)=(Lib.strCells b).toArray:=by
    apply Array.ext';simp[Lib.strCells]
   rw[e1]at B;obtain⟨M',R,g1,g2,g3⟩:=Y [] (grownCap w b.size 0 u) Z (by simp) (by simpa using grownCap_ge w b.size 0 u) (grownCap_le_maxLen w _ _ _ (by simp only[maxLen];omega)) (by omega) _ Z;simp only[PO,Rc,Array.empty_append] at*
   exact⟨_,_,M',R,A _ _ B,by simpa using g1,by simpa using g2,by simpa using g3⟩
 |sl _ _ _ _ a0 hU h0 hl hc hext=>
  rcases n1 with rfl|⟨cur,q1,q2,q3,q4⟩
  .simp at C;omega
  have c0:(AO.bp l u).real=jp:=by cases l with
   |nil=>simp at C;omega
   |cons=>rfl
  rw[Ru]at A;have p0:cur.size=a0:=by rw[q2,<-hext];omega
  by_cases hm:b.size=0
  .have n0:b.data.toList=[]:=Qe (by rw[f0];exact hm);have B:=ke (P:=P) w t tu o.type u ii k0 j0 g0 (io ⟨N.az i,0,is⟩) len a0 hl b hm (.inr ⟨_,_,rfl⟩)
   obtain⟨h1,h2⟩:=J.1.move hi c0 w (.bp (l++ []) u) Z Z Z Z (fun _ _=>rfl) (by
    rw[Qm]
    exact .inr ⟨cur,by simpa using q1,by simpa using q2,q3,q4⟩)
   obtain⟨g1,g2⟩:=oG (i:=i) J h1 h2;rw[n0,hm];refine⟨_,w,M,_,A _ _ B,g1,g2,?_⟩;have:=VR.sl (M:=M) (N:=N.with s.nx (N.az i) (N.ext i)) (U:=(· <s.nx+1)) s.nx 0 len 1 a0 (by omega) h0 hl hc (by simpa using hext);simpa[qX]using this
  .by_cases d0:len+b.size<=a0
   .have B:=pC (P:=P) w t tu o.type u ii k0 j0 g0 r0 u (N.az i) len a0 cur q1 b d0 (by omega);generalize hL:(cur.toList.take len++Lib.strCells b++cur.toList.drop (len+b.size)).toArray=L at B;have d1:L.size=cur.size:=by rw[<-hL];simp[Lib.strCells_length];omega
    have w0:=setRow_heap w (N.az i) cur L u (0,0) q1;have j1: ∀j,j<len->L.getD j undef=cur.getD j undef:=by
     intro j D;rw[<-hL,Pg,Pg];simp only[Qg];rw[PH,PD (by simp;omega),P8,am D,PN]
    have i1: ∀j,j<b.size->L.getD (len+j) undef=(Lib.strCells b).getD j undef:=by
     intro j D;rw[<-hL,Pg,Pk];simp only[Qg];rw[PD (by simp[Lib.strCells_length];omega),PB (by simp;omega)];congr 2;simp;omega
    obtain⟨h1,h2⟩:=J.1.move hi c0 (w.setRow (N.az i) L) (.bp (l++b.data.toList) u) Z Z Z (by simp) (fun b hb=>by
      simp only[World.setRow,PZ]
      rw[be (fun e=>hb e.symm)]) (by
     refine .inr ⟨L,by simpa using w0,by rw[d1];simpa using q2,by rw[d1,p0,Pn,C,f0];omega,b0 L (fun j x D=>?_) i1⟩;rw[j1 j (by rw[<-C];exact(Pj.1 D).1)]
     exact q4 j x D)
    obtain⟨g1,g2⟩:=oG (i:=i) J h1 h2;refine⟨_,_,M,_,A _ _ B,g1,g2,?_⟩;have:=VR.sl (M:=M) (N:=N.with s.nx (N.az i) (N.ext i)) (U:=(· <s.nx+1)) s.nx 0 (len+b.size) 1 a0 (by omega) (by omega) d0 hc (by simpa using hext);simpa[qX]using this
   .have i0: ∀(j:Nat) (v:Value),(cur.toList.take len)[j]? =io v->w.cell? ((⟨N.az i,0,is⟩:Addr).add j)=io v:=by
     intro j v hv;rw[P8]at hv;split at hv
     .rw[dr,PO];simp only[World.cell?,q1];simpa using hv
     .cases hv
    have B:=Lib.run_append_grow_string (P:=P) w t tu o.type u ii (.int .u8 0) k0 j0 g0 s0 ⟨N.az i,0,is⟩ len a0 (cur.toList.take len) (by rw[r0];simp;omega) i0 b (by omega) (by omega)
     (by rw[q0];exact growslice_fits (by omega) (by omega))
    obtain⟨M',R,g1,g2,g3⟩:=Y (cur.toList.take len) (grownCap w (len+b.size) a0 u) (by simp;omega) (fun j x D=>by
      have:=q4 j x D;have t0:j<len:=by rw[<-C];exact(Pj.1 D).1
      rw[Pk,P8,am t0,PN]
      rw[Pg]at this;exact this) (grownCap_ge w _ _ _) (grownCap_le_maxLen w _ _ _ (by simp only[maxLen];omega)) (by omega) _ Z
    exact⟨_,_,M',R,A _ _ B,g1,g2,g3⟩
theorem H4(Y:bx P ty){all rest:List Oper}{o:Oper}{x y:Operand}{t tu u d:Nat}{e et A:bE}{i len:Nat}{l:List UInt8}{b:ByteArray}(ho:o.op= .call ⟨.builtin .append, #[x,y], #[t,tu]⟩)(hg:o.guard=is)(J:ty t=io e)(hk:e.k= .aM (.slice u))(R:ty tu=io et)(D:et.k= .aM .string)(hu:ty u=io A)
  (hx:ev s.f x= .sl i 0 len 1) (hi:s.h.get i=io (.bp l u)) (I:A.size=1) (C:A.bytes=1) (hz:A.zero= .int .u8 0)
  (G:ev s.f y= .iv (.v (.string b))) (hd:o.dst=io d) (hlt:PI d nt=jp) (j:l.length=len) (B:len+b.size<=140737488355328)
  (h:GO P nt (.ops all rest::k) Q ⟨(d,.sl s.nx 0 (l++b.data.toList).length 1)::s.f,(s.nx,io (.bp (l++b.data.toList) u))::(i,is)::s.h,s.nx+1⟩):GO P nt (.ops all (o::rest)::k) Q s:=by
 have e:(l++b.data.toList).length=len+b.size:=by rw[Pn,j];simp
 rw[e]at h
 exact cz hg (G9 Y ho J hk R D hu hx hi j I C hz G B (s':=⟨(d,.sl s.nx 0 (len+b.size) 1)::s.f,(s.nx,io (.bp (l++b.data.toList) u))::(i,is)::s.h,s.nx+1⟩) (by
  simp only[putDst,qX,hd,hlt,cond_true,dc])) fun t J=>by subst J;exact h
theorem Du{o:Oper}{I:Operand}(ho:o.op= .next I jp){i:Nat}(J:ev s.f I= .ptr i 0){b:ByteArray}{a0:Nat}(hi:s.h.get i=io (.dJ b a0)){d:Nat}(hd:o.dst=io d)(hlt:PI d nt=jp):
  OT P nt o s (fun t=>(b.size<=a0∧t=⟨(d,.bq [.kb kw])::s.f,s.h,s.nx⟩)∨
   (a0<b.size∧t=⟨(d,.bq [.kb jp,.iv (.v (.int .i64 (a0:Nat))),.iv (.v (.int .i32 (Utf8.decode b a0).1))])::s.f,(i,io (.dJ b (a0+(Utf8.decode b a0).2)))::s.h,s.nx⟩)):=by
 intro M N a w G K Z hk;have R:=aH G.2.1 I;rw[J]at R;have A:w.heap[N.az i]? =io (.stringIter b a0):=G.1.obj i _ hi;have B:N.az i<w.heap.size:=(Qr.1 A).1;have C:d<nt:=Pf hlt;have D:a.eval I= .pointer (io ⟨N.az i,0,is⟩):=by
  generalize a.eval I=y at R;cases R;rfl
 unfold Oper.wp;by_cases u:a0<b.size
 .have x:(execOp a.eval o).run P w= .ok (.value (.tuple #[.bool jp,.int .i64 (a0:Nat),.int .i32 (Utf8.decode b a0).1])) {w with heap:=w.heap.setIfInBounds (N.az i) (.stringIter b (a0+(Utf8.decode b a0).2))}:=by
   simp only[execOp,ho,D];simp[Instr.next,getObj,setObj,Sem.run,A,u,Result.andThen,goInt]
  rw[x];simp only[Oper.upon]
  obtain⟨q1,q2⟩:=G.1.write hi rfl {w with heap:=w.heap.setIfInBounds (N.az i) (.stringIter b (a0+(Utf8.decode b a0).2))} (.dJ b (a0+(Utf8.decode b a0).2)) rfl rfl rfl (by simp) (fun c Y=>by
   show(w.heap.setIfInBounds _ _)[c]? =_
   rw[PM,be (fun e=>Y e.symm)]) (by
   show(w.heap.setIfInBounds _ _)[_]? =_
   rw[PM,am rfl,am B])
  refine hk M N _ _ _ q1 ?_ (.inr ⟨u,rfl⟩);rw[hd];refine Fits.put (s:=⟨s.f,(i,io (.dJ b (a0+(Utf8.decode b a0).2)))::s.h,s.nx⟩) ⟨q2,G.2⟩ d _ _ C (.bq _ _ rfl fun q p u=>?_)
  match q with
  |0=>simp at u;subst u;exact .kb _
  |1=>simp at u;subst u;exact .iv _ _ (.v _)
  |2=>simp at u;subst u;exact .iv _ _ (.v _)
  |q+3=>simp at u
 .have x:(execOp a.eval o).run P w= .ok (.value (.tuple #[.bool kw])) w:=by
   simp only[execOp,ho,D];simp[Instr.next,getObj,Sem.run,A,u,Result.andThen]
  rw[x];simp only[Oper.upon];refine hk M N ⟨(d,.bq [.kb kw])::s.f,s.h,s.nx⟩ _ w (.refl _ _ _ _ _) ?_ (.inl ⟨by omega,rfl⟩);rw[hd]
  exact G.put d _ _ C (.bq _ _ rfl fun j p u=>by
    match j with
    |0=>simp at u;subst u;exact .kb _
    |j+1=>simp at u)
theorem kz{all rest:List Oper}{o:Oper}{u:Operand}{i:Nat}{b:ByteArray}{a0 d:Nat}(ho:o.op= .next u jp)(hg:o.guard=is)(j:ev s.f u= .ptr i 0)(hi:s.h.get i=io (.dJ b a0))(hd:o.dst=io d)(hlt:PI d nt=jp)
  (h1:b.size<=a0->GO P nt (.ops all rest::k) Q ⟨(d,.bq [.kb kw])::s.f,s.h,s.nx⟩)
  (x:a0<b.size->GO P nt (.ops all rest::k) Q ⟨(d,.bq [.kb jp,.iv (.v (.int .i64 (a0:Nat))),.iv (.v (.int .i32 (Utf8.decode b a0).1))])::s.f,(i,io (.dJ b (a0+(Utf8.decode b a0).2)))::s.h,s.nx⟩):
  GO P nt (.ops all (o::rest)::k) Q s:=by
 refine cz hg (Du ho j hi hd hlt) fun t y=>?_;rcases y with⟨g1,rfl⟩|⟨g1,rfl⟩
 .exact h1 g1
 .exact x g1
theorem vc(B:bx P ty){all rest:List Oper}{o:Oper}{x:Operand}{t d:Nat}{b:ByteArray}{e:bE}(ho:o.op= .range t x)(hg:o.guard=is)(A:ty t=io e)(hk:e.k= .aM .string)(J:ev s.f x= .iv (.v (.string b)))(hd:o.dst=io d)(hlt:PI d nt=jp)
  (h:GO P nt (.ops all rest::k) Q ⟨(d,.ptr s.nx 0)::s.f,(s.nx,io (.dJ b 0))::s.h,s.nx+1⟩):GO P nt (.ops all (o::rest)::k) Q s:=by
 have C:P.underlying t=io .string:=by
  have:=(B t _ A).2.1;rw[hk]at this;exact this.1
 refine cz (R:=fun t=>t=⟨(d,.ptr s.nx 0)::s.f,(s.nx,io (.dJ b 0))::s.h,s.nx+1⟩) hg (OT.value (s1:=newObj s (.dJ b 0)) (p:= .ptr s.nx 0) (by cases s;simp only[putDst,newObj,hd,hlt,cond_true,dc]) fun M N a w y=>?_) fun t A=>by subst A;exact h
 have j:=aH y.2.1 x;rw[J]at j;have D:a.eval x= .string b:=by
  generalize a.eval x=v at j;cases j with
  |iv _ _ h=>cases h;rfl
 obtain⟨u,h1,Y,h3,G,I⟩:=y.1.alloc (.stringIter b 0) (.dJ b 0) 0 (fun u g1 g2 g3=>by
  show(w.alloc _).heap[u.az s.nx]? =_
  rw[g1];exact heap_alloc_new w _)
 refine⟨.pointer (io ⟨w.heap.size,0,is⟩),_,M,u,?_,G,dB y G I,?_⟩
 .simp only[execOp,ho,D];simp[Instr.range,run_underlying C]
 .have:=VR.ptr (M:=M) (N:=u) (U:=(· <s.nx+1)) s.nx 0 (by omega);rw[h1]at this;exact this
end
section
variable {P:Program} {ty:Ty} {nt:Nat} {s:AS} {Q:AQ} {k:List KI}
theorem Cz(c0:bx P ty){all rest:List Oper}{o:Oper}{x:Operand}{t t' u d:Nat}{b:ByteArray}{et e0 eu:bE}(ho:o.op= .convert t t' x)(hg:o.guard=is)(ht:ty t=io et)(hk:et.k= .aM .string)(n0:ty t'=io e0)(j0:e0.k= .aM (.slice u))(hu:ty u=io eu)(k0:eu.k= .aM (.int .u8))
  (hx:ev s.f x= .iv (.v (.string b))) (hd:o.dst=io d) (hlt:PI d nt=jp) (hb:b.size<=1000000)
  (h:GO P nt (.ops all rest::k) Q ⟨(d,.iv (.ct 1 b.data.toList.length fun k=>tp (b.data.toList.getD k co)))::s.f,s.h,s.nx⟩):GO P nt (.ops all (o::rest)::k) Q s:=by
 have hs:P.underlying t=io .string:=by have:=(c0 t _ ht).2.1;rw[hk]at this;exact this.1
 have m0:P.underlying t'=io (.slice u):=by have:=(c0 t' _ n0).2.1;rw[j0]at this;exact this.1
 have o0:P.underlying u=io (.int .u8):=by have:=(c0 u _ hu).2.1;rw[k0]at this;exact this.1
 refine cz (R:=fun t=>t=⟨(d,.iv (.ct 1 b.data.toList.length fun k=>tp (b.data.toList.getD k co)))::s.f,s.h,s.nx⟩) hg (OT.value (s1:=s) (p:= .iv (.ct 1 b.data.toList.length fun k=>tp (b.data.toList.getD k co))) (by cases s;simp only[putDst,hd,hlt,cond_true,dc]) fun M N a w D=>?_) fun t ht=>by subst ht;exact h
 have d0:=aH D.2.1 x;rw[hx]at d0;have p0:a.eval x= .string b:=by
  generalize a.eval x=v at d0;cases d0 with
  |iv _ _ h=>cases h;rfl
 have Y:=Go.run_bytes_of_string (P:=P) w t t' u b hs m0 o0;generalize hC:bytesRow b (grownCap w b.size 0 u)=C at Y;have B:M w.heap.size=is:=by
  cases hm:M w.heap.size with
  |none=>rfl
  |some c=>exact absurd (D.1.dZ _ _ hm).lt (SI _)
 have G: ∀c,c<w.heap.size->(w.drew.alloc (.cells C u (C.size,C.size+1))).heap[c]? =w.heap[c]? :=fun c A=>by
  show(w.heap.push _)[c]? =_;rw[RE,be (by omega)]
 have hnew:(w.drew.alloc (.cells C u (C.size,C.size+1))).heap[w.heap.size]? =io (.cells C u (C.size,C.size+1)):=by
  show(w.heap.push _)[w.heap.size]? =_;simp
 have f0: ∀j,j<b.data.toList.length->C[j]? =io (.int .u8 ((b.data.toList.getD j co).toNat:Int)):=by
  intro j hj;have a0:j<b.data.size:=by simpa using hj
  rw[<-hC];simp only[bytesRow];rw[P1 (by simpa using a0)];simp[Pk];exact⟨b.data[j],PR a0,by rw[PR a0];rfl⟩
 have I:=grownCap_ge w b.size 0 u;refine⟨.slice (io ⟨w.heap.size,0,is⟩) b.size (grownCap w b.size 0 u),w.drew.alloc (.cells C u (C.size,C.size+1)),M.set w.heap.size (.cells C) B,N,?_,?_,?_,?_⟩
 .simp only[execOp,ho,p0];rw[Sem.run_bind,Y];rfl
 .have q1:M.le (M.set w.heap.size (.cells C) B):=fun c e A=>by
   simp only[Mem.set];rw[be fun e2=>by rw[e2,B]at A;cases A];exact A
  have q2: ∀c e,M c=is->(M.set w.heap.size (.cells C) B) c=io e->w.heap.size<=c∨ ∃i o,s.h.get i=io o∧o.real=jp∧N.az i=c:=fun c e h1 h2=>by
   simp only[Mem.set]at h2;by_cases he:c=w.heap.size
   .exact .inl (by omega)
   .rw[be he,h1]at h2;cases h2
  exact⟨rfl,rfl,⟨rfl,QO _⟩,(by show w.heap.size<=(w.heap.push _).size;simp),fun c A _=>G c A,q1,q2,.refl _ _,fun _ h=>h,fun i o J y=> .inr ⟨i,o,J,y,rfl⟩⟩
 .have g0:M.le (M.set w.heap.size (.cells C) B):=fun c e A=>by
   simp only[Mem.set];rw[be fun e2=>by rw[e2,B]at A;cases A];exact A
  refine⟨⟨fun c e A=>?_,D.1.used,fun i o J y=>?_,fun i o J=>?_,D.1.inj⟩,fun i=>(D.2.1 i).mono g0 (.refl _ _) fun _ h=>h,D.2.2⟩
  .simp only[Mem.set]at A;by_cases he:c=w.heap.size
   .rw[am he]at A;cases A;exact⟨u,(C.size,C.size+1),by rw[he];exact hnew⟩
   .rw[be he]at A;exact(D.1.dZ c e A).mono (G c (D.1.dZ c e A).lt)
  .simp only[Mem.set];have:=D.1.lt J y;rw[be (by omega)];exact D.1.dM i o J y
  .cases y:o.real with
   |true=>exact(D.1.obj i o J).mono g0 (.refl _ _) (fun _ h=>h) (D.1.used i o J) (G _ (D.1.lt J y))
   |false=>
    cases o with
    |row sz es=>cases es with
     |nil=>exact .inl Z
     |cons=>cases y
    |bp l T=>cases l with
     |nil=>exact .inl Z
     |cons=>cases y
    |_=>cases y
 .have i0:b.data.toList.length=b.size:=by simp
  rw[<-i0]at I ⊢;by_cases h0:b.data.toList.length=0
  .rw[h0];exact .iv _ _ (.fp _ _ _ _)
  .refine .iv _ _ (.ct _ _ _ _ _ _ (by omega) (grownCap_le_maxLen w _ _ _ (by simp only[maxLen];omega)) (fun _ _=>rfl) (fun k j hk hj=>?_) (fun k j p hk hp=>?_))
   .have b0:j=0:=by omega
    subst b0;have:=f0 k hk;simp only[Mem.cell,Mem.set,if_true,PO,Sm,Rl,this,Option.isSome_some]
   .have b0:j=0:=by
     have:=(Pj.1 hp).1;simp[tp]at this;exact this
    subst b0;cases hp;have:=f0 k hk;simp only[Mem.cell,Mem.set,if_true,PO,Sm,Rl,this,Qf];exact .v _
theorem Ic(B:bx P ty)(l:List UInt8){all rest:List Oper}{o:Oper}{x:Operand}{t C u d i n:Nat}{es:List (List PV)}{et G eu:bE}(ho:o.op= .convert t C x)(hg:o.guard=is)(ht:ty t=io et)(hk:et.k= .aM (.slice u))(g0:ty C=io G)(d0:G.k= .aM .string)(hu:ty u=io eu)(e0:eu.k= .aM (.int .u8))
  (hx:ev s.f x= .sl i 0 n 1) (hi:s.h.get i=io (.row 1 es)) (hd:o.dst=io d) (hlt:PI d nt=jp) (hes:es=l.map fun x=>(tp x).map .iv) (hn:n=l.length)
  (h:GO P nt (.ops all rest::k) Q ⟨(d,.iv (.v (.string ⟨l.toArray⟩)))::s.f,s.h,s.nx⟩):GO P nt (.ops all (o::rest)::k) Q s:=by
 have hs:P.underlying C=io .string:=by have:=(B C _ g0).2.1;rw[d0]at this;exact this.1
 have a0:P.underlying t=io (.slice u):=by have:=(B t _ ht).2.1;rw[hk]at this;exact this.1
 have b0:P.underlying u=io (.int .u8):=by have:=(B u _ hu).2.1;rw[e0]at this;exact this.1
 subst hn;subst hes;refine cz (R:=fun t=>t=⟨(d,.iv (.v (.string ⟨l.toArray⟩)))::s.f,s.h,s.nx⟩) hg (OT.value (s1:=s) (p:= .iv (.v (.string ⟨l.toArray⟩))) (by cases s;simp only[putDst,hd,hlt,cond_true,dc]) fun M N a w hf=>?_) fun t ht=>by subst ht;exact h
 have b:=aH hf.2.1 x;rw[hx]at b;have Y:(convert t C (a.eval x)).run P w= .ok (.string ⟨l.toArray⟩) w:=by
  generalize a.eval x=v at b;cases hor:l with
  |nil=>
   rw[hor]at b;generalize D:PV.sl i 0 ([]:List UInt8).length 1=q at b;cases b with
   |sl _ _ _ _ _ _ h0=>cases D;simp at h0
   |lR _ _ _=>
    have:=run_convert_bytes_nil (P:=P) w t u a0 b0 0 0 C hs;exact this
   |_=>cases D
  |cons x0 r0=>
   rw[<-hor];have J:0<l.length:=by rw[hor];simp
   generalize f0:l.length=n at b J;generalize D:PV.sl i 0 n 1=q at b;cases b with
   |sl _ _ _ _ cap hU h0 hl hc he=>
    cases D;rcases hf.1.obj i _ hi with A|⟨_,c,T,q1,q2,q3,q4,q5⟩
    .rw[hor]at A;cases A
    rw[Ru,<-f0];refine run_convert_bytes_back (P:=P) w t C u ⟨N.az i,0,is⟩ cap l a0 b0 hs fun j hj=>?_;rw[dr,PO];have I:j<c.size:=by rw[PS]at q3;omega
    have:=q5 j [.iv (.v (.int .u8 (l[j].toNat:Int)))] 0 _ (by rw[Pp,Pl hj];rfl) Z;rw[Sm,Rl,Pg,PR I,Qf]at this;simp only[World.cell?,q1];generalize c0:c[j]=y at this;cases this with
    |iv _ _ h=>cases h;simp[I,c0]
   |lR _ _ _=>cases D;omega
   |_=>cases D
 exact⟨_,w,M,N,by simp only[execOp,ho];exact aW Y,.refl _ _ _ _ _,hf,.iv _ _ (.v _)⟩
theorem rC(u:bx P ty){all rest:List Oper}{o:Oper}{x:Operand}{t y d:Nat}{q J:IntKind}{n:Int}{G j:bE}(ho:o.op= .convert t y x)(hg:o.guard=is)(B:ty t=io G)(hk:G.k= .aM (.int q))(C:ty y=io j)(A:j.k= .aM .string)
  (hx:ev s.f x= .iv (.v (.int J n))) (hd:o.dst=io d) (hlt:PI d nt=jp)
  (h:GO P nt (.ops all rest::k) Q ⟨(d,.iv (.v (.string (Utf8.encode n))))::s.f,s.h,s.nx⟩):GO P nt (.ops all (o::rest)::k) Q s:=by
 have hs:P.underlying y=io .string:=by have:=(u y _ C).2.1;rw[A]at this;exact this.1
 have Y:P.underlying t=io (.int q):=by have:=(u t _ B).2.1;rw[hk]at this;exact this.1
 refine cz (R:=fun t=>t=⟨(d,.iv (.v (.string (Utf8.encode n))))::s.f,s.h,s.nx⟩) hg (OT.value (s1:=s) (p:= .iv (.v (.string (Utf8.encode n)))) (by cases s;simp only[putDst,hd,hlt,cond_true,dc]) fun M N a w I=>?_) fun t B=>by subst B;exact h
 have b:=aH I.2.1 x;rw[hx]at b;have D:a.eval x= .int J n:=by
  generalize a.eval x=v at b;cases b with
  |iv _ _ h=>cases h;rfl
 refine⟨_,w,M,N,?_,.refl _ _ _ _ _,I,.iv _ _ (.v _)⟩;simp only[execOp,ho,D];refine aW ?_;simp[convert,run_underlying Y,run_underlying hs,Conv.intToString]
end
def cE{kc:KC}{V:Type}(key:V->kc.K)(m:List (kc.K×V))(S:List V):Prop:= ∃T:List V,T.Perm S∧m=T.map fun v=>(key v,v)
section
variable {kc:KC} {V:Type} {key:V->kc.K}
theorem ED(T:List V)(f:V)(b: ∀u∈T,key u=key f->u=f):cU kc (T.map fun v=>(key v,v)) (key f)=jp↔f∈T:=by
 induction T with
 |nil=>simp[cU]
 |cons v r ih=>
  simp only[Py,cU];have j:=ih fun u hu=>b u (Pu _ hu);by_cases e:key v=key f
  .have:=b v (Pv ..) e;subst this;simp
  .rw[be e,j,Px];exact⟨.inr,fun q=>q.resolve_left fun q=>e (by rw[q])⟩
theorem vW(T:List V)(f:V)(hn: ∀u∈T,key u≠key f):cA kc (T.map fun v=>(key v,v)) (key f) f=(T++ [f]).map fun v=>(key v,v):=by
 induction T with
 |nil=>rfl
 |cons v r ih=>
  simp only[Py,cA,QN];rw[be (hn v (Pv ..)),ih fun u hu=>hn u (Pu _ hu)]
theorem E9[DecidableEq V](T:List V)(f:V)(b: ∀u∈T,key u=key f->u=f):jw kc (T.map fun v=>(key v,v)) (key f)=(T.erase f).map fun v=>(key v,v):=by
 induction T with
 |nil=>rfl
 |cons v r ih=>
  simp only[Py,jw];by_cases e:key v=key f
  .have:=b v (Pv ..) e;subst this;rw[am Z,List.erase_cons_head]
  .have j: ¬v=f:=fun q=>e (by rw[q])
   rw[be e,ih fun u hu=>b u (Pu _ hu),List.erase_cons_tail (by simpa using j),Py]
theorem cE.perm{m:List (kc.K×V)}{S b:List V}(h:cE key m S)(p:S.Perm b):cE key m b:=by
 obtain⟨T,h1,j⟩:=h;exact⟨T,h1.trans p,j⟩
theorem cE.nil:cE key ([]:List (kc.K×V)) []:=⟨[],.nil,rfl⟩
theorem cE.len{m:List (kc.K×V)}{S:List V}(h:cE key m S):m.length=S.length:=by
 obtain⟨T,h1,rfl⟩:=h;rw[PS,h1.length_eq]
theorem cE.has{m:List (kc.K×V)}{S:List V}(h:cE key m S){f:V}(b: ∀u∈S,key u=key f->u=f):cU kc m (key f)=jp↔f∈S:=by
 obtain⟨T,h1,rfl⟩:=h;rw[ED T f fun u hu=>b u (h1.mem_iff.1 hu),h1.mem_iff]
theorem cE.put{m:List (kc.K×V)}{S:List V}(h:cE key m S){f:V}(b: ∀u∈S,key u=key f->u=f)(hf:f∉S):cE key (cA kc m (key f) f) (f::S):=by
 obtain⟨T,h1,rfl⟩:=h;refine⟨T++ [f],?_,vW T f fun u hu e=>hf (b u (h1.mem_iff.1 hu) e▸h1.mem_iff.1 hu)⟩;exact(List.perm_append_comm).trans ((List.Perm.cons f h1))
theorem cE.del[DecidableEq V]{m:List (kc.K×V)}{S:List V}(h:cE key m S){f:V}(b: ∀u∈S,key u=key f->u=f):cE key (jw kc m (key f)) (S.erase f):=by
 obtain⟨T,h1,rfl⟩:=h;exact⟨T.erase f,h1.erase f,E9 T f fun u hu=>b u (h1.mem_iff.1 hu)⟩
theorem cE.w5{m:List (kc.K×V)}{S:List V}(h:cE key m S):(m.map (·.2)).Perm S:=by
 obtain⟨T,h1,rfl⟩:=h;rw[PQ];show(T.map id).Perm S;rw[List.map_id];exact h1
end
section
variable {P:Program} {ty:Ty} {nt:Nat} {Q:AQ} {k:List KI} {s:AS}
theorem Ik{o:Oper}{g:FuncId}{x y:Operand}{ts:Array TypeId}{b j v:Value}(ho:o.op= .call ⟨.value (.func g), #[x,y],ts⟩)(D:ev s.f x= .iv (.v b))(G:ev s.f y= .iv (.v j))
  (hc: ∀w,(callFunc g #[b,j]).run P w= .ok (.value v) w) {s':AS} (hp:putDst nt o (.iv (.v v)) s=io s'):OT P nt o s fun t=>t=s':=by
 refine OT.value hp fun M N a w A=>⟨v,w,M,N,?_,.refl _ _ _ _ _,A,.iv _ _ (.v _)⟩
 have h1:=aH A.2.1 x;have u:=aH A.2.1 y;rw[D]at h1;rw[G]at u;have B:a.eval x=b:=by
  generalize a.eval x=z at h1;cases h1 with
  |iv _ _ h=>cases h;rfl
 have C:a.eval y=j:=by
  generalize a.eval y=z at u;cases u with
  |iv _ _ h=>cases h;rfl
 simp only[execOp,ho,resolve,Act.eval,Deferred.ofValue,pure_bind,invoke];have: #[]++Array.map a.eval #[x,y]++ #[]= #[b,j]:=by simp[B,C]
 first
  |(rw[this];exact hc w)
  |(simp only[Act.eval] at*;simpa[B,C]using hc w)
theorem H7{all rest:List Oper}{o:Oper}{g:FuncId}{x y:Operand}{ts:Array TypeId}{b j:Value}(v:Value)(ho:o.op= .call ⟨.value (.func g), #[x,y],ts⟩)(hg:o.guard=is)(A:ev s.f x= .iv (.v b))(B:ev s.f y= .iv (.v j))
  (hc: ∀w,(callFunc g #[b,j]).run P w= .ok (.value v) w) {s':AS} (hp:putDst nt o (.iv (.v v)) s=io s') (h:GO P nt (.ops all rest::k) Q s'):GO P nt (.ops all (o::rest)::k) Q s:=
 cz hg (Ik ho A B hc hp) fun t u=>by subst u;exact h
end
theorem y9(i sz n:Nat): ∀l:List IV,dP i sz n (l.map .iv)
 | []=>trivial
 |_::r=>⟨ac,y9 i sz n r⟩
theorem AM{α:Type}(i sz n b:Nat)(l:List α)(f:α->List IV):(aF b l f).qy i sz n:=by
 intro k e j p u A;rw[Pp,Pr]at u;obtain⟨x,_,rfl⟩:=u;rw[Pp,Pr]at A;obtain⟨y,_,rfl⟩:=A;exact⟨y,rfl⟩
section
variable {P:Program} {ty:Ty} {nt:Nat} {s:AS}
theorem sT{M:Mem}{N:Nm}{a:Act}{w:World}(hf:Fits M N s nt a w){x:Operand}{k:IntKind}{n:Int}(h:ev s.f x= .iv (.v (.int k n))):a.eval x= .int k n:=by
 have b:=aH hf.2.1 x;rw[h]at b;generalize a.eval x=v at b;cases b with
 |iv _ _ b=>cases b with
  |v=>rfl
theorem Nz(D:bx P ty){o:Oper}{t u:TypeId}{l c:Operand}(ho:o.op= .makeSlice t l c){e b:bE}(ht:ty t=io e)(hk:e.k= .aM (.slice u))(hu:ty u=io b)
  {n m sz:Nat} {kl kc:IntKind} {ml nc:Int} (hl:ev s.f l= .iv (.v (.int kl ml))) (hc:ev s.f c= .iv (.v (.int kc nc))) (i0:ml=(m:Int)) (j0:nc=(n:Int)) (hn:0<n) (q0:n<=100000000000) (hb:b.bytes*n<=281474976710656) (n0:b.size=sz) (G:b.zero.cells.size=sz) (m0:0<sz)
  {z:List PV} (hz:z=aK b.zero) {p:PV} (C:(m=0∧p= .sl s.nx 1 0 sz)∨(m=n∧p= .sl s.nx 0 n sz))
  {s':AS} (hp:putDst nt o p (newObj s (.row sz (RU n z)))=io s'):OT P nt o s (fun t=>t=s'):=by
 refine OT.value hp fun M N a w R=>?_;subst hz n0 i0 j0;obtain⟨⟨ii,b0,c0,a0,d0⟩,_⟩:=D u _ hu
 have o0:P.underlying t=io (.slice u):=by
  have:=(D t _ ht).2.1;rw[hk]at this;exact this.1
 have p0:m<=n:=by rcases C with⟨h,_⟩|⟨h,_⟩<;>omega
 have B:=run_make w t u ii b.zero o0 b0 d0 kl kc (m:Int) (n:Int) (by omega) (by omega) (by rw[a0];omega) (by omega);rw[Po,Po,c0]at B;have I:(aK b.zero).length=b.size:=by rw[(ew (M:=M) (N:=N) (U:=(· <s.nx)) b.zero).1,G]
 have A: ∀(k:Nat) (e:List PV),(RU n (aK b.zero))[k]? =io e->k<n∧e=aK b.zero:=by
  intro k e x;rw[List.getElem?_replicate]at x;split at x
  .exact⟨by assumption,by simpa using x.symm⟩
  .cases x
 obtain⟨J,h1,h2,h8,h9,Y⟩:=R.1.alloc (.cells (madeCells b.zero.cells (n*b.size)) u) (.row b.size (RU n (aK b.zero))) (n*b.size) (fun J g1 g2 g3=>
  .inr ⟨m0,_,u,by rw[g1];exact heap_alloc_new w _,by rw[size_madeCells,g2],by rw[size_madeCells,List.length_replicate];exact Ps _,fun k e x=>by rw[(A k e x).2,I],fun k e j p x hj=>by
   obtain⟨f0,rfl⟩:=A k e x;have e0:j<b.size:=by rw[<-I];exact(Pj.1 hj).1
   have g0:k*b.size+j<n*b.size:=by
    have:(k+1)*b.size<=n*b.size:=PL _ f0;rw[Qo]at this;omega
   have h7:(madeCells b.zero.cells (n*b.size)).getD (k*b.size+j) undef=b.zero.cells.getD j undef:=by
    have hx:(Sk (n*b.size))[k*b.size+j]? =io (k*b.size+j):=by simp[g0]
    have hm:(k*b.size+j) % b.zero.cells.size=j:=by rw[G,Nat.add_comm,Nat.add_mul_mod_self_right,Nat.mod_eq_of_lt e0]
    rw[madeCells,Pg,RI,hx];simp only[Qt,Qf,hm];rw[Pg,getElem!_pos b.zero.cells j (by omega),PR (by omega)];rfl
   rw[h7];exact(ew b.zero).2 j p hj⟩)
 refine⟨.slice (io ⟨w.heap.size,0,is⟩) m n,_,M,J,?_,h9,dB R h9 Y,?_⟩
 .simp only[execOp,ho,sT R hl,sT R hc];rw[Sem.run_bind,B];rfl
 .have k0:(newObj s (.row b.size (RU n (aK b.zero)))).nx=s.nx+1:=by cases s;rfl
  rw[k0];have y:n<=maxLen:=by simp only[maxLen];omega
  rcases C with⟨rfl,rfl⟩|⟨rfl,rfl⟩
  .have:=VR.sle (M:=M) (N:=J) (U:=(· <s.nx+1)) s.nx b.size n (by omega) y (by rw[h2]);rw[h1]at this;exact this
  .have:=VR.sl (M:=M) (N:=J) (U:=(· <s.nx+1)) s.nx 0 m b.size m (by omega) hn (Ps _) y (by rw[h2,PO]);rw[h1,Ru]at this;exact this
theorem LB(j:bx P ty){o:Oper}{t u:TypeId}{l c:Operand}(ho:o.op= .makeSlice t l c){e y:bE}(ht:ty t=io e)(hk:e.k= .aM (.slice u))(hu:ty u=io y)
  {sz:Nat} (el:Nat->List IV) {kl kc:IntKind} {ml nc:Int} (hl:ev s.f l= .iv (.v (.int kl ml))) (hc:ev s.f c= .iv (.v (.int kc nc))) (D:ml=0) (G:nc=0)
  {s':AS} (hp:putDst nt o (.iv (.ct sz 0 el)) (newObj s (.row sz []))=io s'):OT P nt o s (fun t=>t=s'):=by
 refine OT.value hp fun M N a w x=>?_;subst D G;obtain⟨⟨Y,B,b0,a0,C⟩,_⟩:=j u _ hu
 have I:P.underlying t=io (.slice u):=by
  have:=(j t _ ht).2.1;rw[hk]at this;exact this.1
 have b:=run_make w t u Y y.zero I B C kl kc 0 0 (by omega) (by omega) (by omega) (by omega);obtain⟨J,h1,h2,h8,R,A⟩:=x.1.alloc (.cells (madeCells y.zero.cells ((0:Int).toNat*Y.size)) u) (.row sz []) 0 (fun J g1 g2 g3=> .inl Z);refine⟨.slice (io ⟨w.heap.size,0,is⟩) 0 0,_,M,J,?_,R,dB x R A,.iv _ _ (.fp _ _ _ _)⟩;simp only[execOp,ho,sT x hl,sT x hc];rw[Sem.run_bind,b];rfl
theorem LZ(B:bx P ty){o:Oper}{t u:TypeId}{x hi:Operand}(ho:o.op= .slice t x is (io hi) is){e I:bE}(ht:ty t=io e)(hk:e.k= .aM (.slice u))(hu:ty u=io I)
  {i n m sz:Nat} {kc:IntKind} {J:Int} (hx:ev s.f x= .sl i 0 n sz) (hh:ev s.f hi= .iv (.v (.int kc J))) (D:J=(m:Int)) (Y:m<=n) (hn:0<n)
  {p:PV} (G:(m=0∧p= .sl i 1 0 sz)∨(0<m∧p= .sl i 0 m sz)) {s':AS} (hp:putDst nt o p s=io s'):OT P nt o s (fun t=>t=s'):=by
 refine OT.value hp fun M N a w C=>?_;subst D
 have y:P.underlying t=io (.slice u):=by
  have:=(B t _ ht).2.1;rw[hk]at this;exact this.1
 have j:P.elem t=u:=by simp[Program.elem,y]
 have A:=aH C.2.1 x;rw[hx]at A;generalize hv:a.eval x=vx at A;cases A with
 |lR=>omega
 |sl _ _ _ _ cap hU h0 hl hc hext=>
  have b:=run_slice_h (P:=P) (w:=w) t (io ⟨N.az i,0*sz,is⟩) n cap (by rw[j];exact y) kc (m:Int) (by omega) (by omega);rw[j,aL (B u _ hu)]at b;refine⟨sliced (io ⟨N.az i,0*sz,is⟩) 0 m cap I.size,w,M,N,?_,.refl _ _ _ _ _,C,?_⟩
  .simp only[execOp,ho,hv,Qt,RN,sT C hh];refine aW ?_;rw[run_sliceAt_slice w t _ _ _ _ (by rw[j];exact y),b];rfl
  .rcases G with⟨rfl,rfl⟩|⟨R,rfl⟩
   .have:=VR.sle (M:=M) (N:=N) (U:=(· <s.nx)) i sz cap hU hc (by rw[<-hext,PO]);simpa[sliced,Addr.add]using this
   .have:=VR.sl (M:=M) (N:=N) (U:=(· <s.nx)) i 0 m sz cap hU R (by omega) hc hext;simpa[sliced,Addr.add]using this
theorem II(j0:bx P ty){o:Oper}{x y:Operand}{t u:TypeId}(ho:o.op= .call ⟨.builtin .append, #[x,y], #[t,t]⟩){e B:bE}(ht:ty t=io e)(hk:e.k= .aM (.slice u))(hu:ty u=io B)
  {i sz:Nat} {es news:List (List PV)} {py:PV} (hx:ev s.f x= .sl i 1 0 sz) (hi:s.h.get i=io (.row sz es)) (x0:B.size=sz) (b0:news.length<=es.length) (hm:0<news.length)
  (w0:ev s.f y=py) (hy:Src s.h sz py news) (e0: ∀e∈news,eB e=jp)
  {s':AS} (hp:putDst nt o (.sl s.nx 0 news.length sz) (pf s i sz [] news)=io s'):OT P nt o s (fun t=>t=s'):=by
 refine OT.value hp fun M N a w hf=>?_;subst x0;obtain⟨⟨ii,r0,d0,e1,f1⟩,_⟩:=j0 u _ hu
 have z0:P.underlying t=io (.slice u):=by
  have:=(j0 t _ ht).2.1;rw[hk]at this;exact this.1
 have g0:=aH hf.2.1 x;rw[hx]at g0;have n0:=aH hf.2.1 y;rw[w0]at n0;obtain⟨I,ao,c,b1,Y⟩:=hy.ok hf n0;have C: ∀v w',(Builtin.append_ #[t,t] o.type #[a.eval x,a.eval y]).run P w= .ok v w'->(execOp a.eval o).run P w= .ok (.value v) w':=by
  intro v w' h;simp only[execOp,ho,resolve];simp[invoke,builtin,h]
 rw[b1]at C;have J:(AO.row B.size es).real=jp:=by cases es with
  |nil=>exact absurd b0 (by simp only[Q6];omega)
  |cons=>rfl
 rcases hf.1.obj i _ hi with rfl|⟨hsz0,cur,T,q1,q2,q3,q4,q5⟩
 .cases J
 generalize a.eval x=vx at g0 C;cases g0 with
 |sl _ _ _ _ _ _ h0=>exact absurd h0 (SI _)
 |sle _ _ cap hU hc hext=>
  have G:cur.size=cap*B.size:=by rw[q2,<-hext]
  have A:news.length<=cap:=by
   have:es.length*B.size<=cap*B.size:=by rw[<-G];exact q3
   have:=Nat.le_of_mul_le_mul_right this hsz0;omega
  obtain⟨b2,d1,p0,a0⟩:=Y (List.ne_nil_of_length_pos hm);subst p0;obtain⟨vs,k0,a1,m0⟩:=oz (s:=s) a0;have R:vs.length=news.length*B.size:=by rw[k0,ig I]
  have q0:vs.length<=cur.size:=by rw[R,G];exact PL _ A
  have c0: ∀v∈vs,v.oneCell'=jp:=by
   intro v hv;obtain⟨j,hj⟩:=P9 hv;have s0:j<news.flatten.length:=by rw[<-k0];exact(Pj.1 hj).1
   have hp:=Pl s0;obtain⟨k,e,i',h1,h2,_⟩:=kC I j _ hp;have:=(m0 j _ hp).one (gJ (e0 e (PY h1)) i' _ h2);rw[Pk,hj]at this;exact this
  have D:=kf (P:=P) (w:=w) t o.type u ii z0 r0 T (N.az i) 0 cap cur q1 ⟨b2,d1,is⟩ news.length c vs (by rw[R,d0]) a1 c0 (by omega) (by rw[d0];omega);rw[d0]at D;generalize hL:(cur.toList.take (0*B.size)++vs++cur.toList.drop (0*B.size+vs.length)).toArray=L at D;rw[PO]at D;have i0:L.size=cur.size:=by rw[<-hL];simp;omega
  have f0:=setRow_heap w (N.az i) cur L T (0,0) q1;have o0: ∀j,j<vs.length->L.getD j undef=vs.getD j undef:=by
   intro j hj;rw[<-hL,Pg,Pk];simp only[Qg];rw[PD (by simp;omega),PB (by simp)];simp
  obtain⟨h1,h2⟩:=hf.1.move hi J (w.setRow (N.az i) L) (.row B.size ([]++news)) Z Z Z (by simp) (fun b hb=>by
    simp only[World.setRow,PZ]
    rw[be (fun e=>hb e.symm)]) (by
   refine .inr ⟨hsz0,L,T,by simpa using f0,by rw[i0];simpa using q2,by rw[i0,G];exact PL _ A,fun k e he=>I _ e he,fun k e j p he hj=>?_⟩;have i1:j<B.size:=by rw[<-I _ e he];exact(Pj.1 hj).1
   have t0:k<news.length:=(Pj.1 he).1;have v0:k*B.size+j<vs.length:=by
    rw[R];have:(k+1)*B.size<=news.length*B.size:=PL _ t0;rw[Qo]at this;omega
   rw[o0 _ v0]
   exact(m0 _ p (mf I _ e j p he hj)).mono (.refl _) (N.eH _ _ _) (fun i hi=>by omega))
  obtain⟨g1,g2⟩:=mD (es:=[]) (news:=news) (i:=i) hf h1 h2;refine⟨_,_,M,_,C _ _ D,g1,g2,?_⟩;have:=VR.sl (M:=M) (N:=N.with s.nx (N.az i) (N.ext i)) (U:=(· <s.nx+1)) s.nx 0 news.length B.size cap (by omega) hm A hc (by simpa using hext);rw[jM];simpa using this
section
variable {Q:AQ} {k:List KI} {all rest:List Oper} {o:Oper} {s':AS}
theorem J0(D:bx P ty){t u:TypeId}{l c:Operand}(n m:Nat)(hg:o.guard=is)(ho:o.op= .makeSlice t l c){e b:bE}(C:ty t=io e)(hk:e.k= .aM (.slice u))(hu:ty u=io b)
  {R kc:IntKind} {I nc:Int} (hl:ev s.f l= .iv (.v (.int R I))) (hc:ev s.f c= .iv (.v (.int kc nc))) (j:I=(m:Int)) (y:nc=(n:Int)) (hn:0<n) (x:n<=100000000000) (hb:b.bytes*n<=281474976710656) (G:b.zero.cells.size=b.size) (B:0<b.size)
  {z:List PV} (J:z=aK b.zero) {p:PV} (A:(m=0∧p= .sl s.nx 1 0 b.size)∨(m=n∧p= .sl s.nx 0 n b.size))
  (hp:putDst nt o p (newObj s (.row b.size (RU n z)))=io s') (h:GO P nt (.ops all rest::k) Q s'):GO P nt (.ops all (o::rest)::k) Q s:=
 cz hg (Nz D ho C hk hu hl hc j y hn x hb Z G B J A hp) fun t C=>by subst C;exact h
theorem EI(y:bx P ty){t u:TypeId}{l c:Operand}(sz:Nat)(el:Nat->List IV)(hg:o.guard=is)(ho:o.op= .makeSlice t l c){e B:bE}(x:ty t=io e)(hk:e.k= .aM (.slice u))(hu:ty u=io B)
  {C kc:IntKind} {A nc:Int} (hl:ev s.f l= .iv (.v (.int C A))) (hc:ev s.f c= .iv (.v (.int kc nc))) (b:A=0) (j:nc=0)
  (hp:putDst nt o (.iv (.ct sz 0 el)) (newObj s (.row sz []))=io s') (h:GO P nt (.ops all rest::k) Q s'):GO P nt (.ops all (o::rest)::k) Q s:=
 cz hg (LB y ho x hk hu el hl hc b j hp) fun t x=>by subst x;exact h
theorem Bh(B:bx P ty){t u:TypeId}{x hi:Operand}{i n sz:Nat}(m:Nat)(hg:o.guard=is)(ho:o.op= .slice t x is (io hi) is){e D:bE}(A:ty t=io e)(hk:e.k= .aM (.slice u))(hu:ty u=io D)
  {kc:IntKind} {C:Int} (G:ev s.f x= .sl i 0 n sz) (hh:ev s.f hi= .iv (.v (.int kc C))) (b:C=(m:Int)) (j:m<=n) (hn:0<n)
  {p:PV} (y:(m=0∧p= .sl i 1 0 sz)∨(0<m∧p= .sl i 0 m sz)) (hp:putDst nt o p s=io s') (h:GO P nt (.ops all rest::k) Q s'):GO P nt (.ops all (o::rest)::k) Q s:=
 cz hg (LZ B ho A hk hu G hh b j hn y hp) fun t A=>by subst A;exact h
theorem wD(D:bx P ty){x y:Operand}{t u:TypeId}(hg:o.guard=is)(ho:o.op= .call ⟨.builtin .append, #[x,y], #[t,t]⟩){e j:bE}(C:ty t=io e)(hk:e.k= .aM (.slice u))(hu:ty u=io j)
  {i:Nat} {es news:List (List PV)} {G:PV} (I:ev s.f x= .sl i 1 0 j.size) (hi:s.h.get i=io (.row j.size es))
  (B:ev s.f y=G) (J:K5 s.h j.size G=io news) (b:news.length<=es.length) (hm:0<news.length) (A: ∀e∈news,eB e=jp)
  (hp:putDst nt o (.sl s.nx 0 news.length j.size) (pf s i j.size [] news)=io s') (h:GO P nt (.ops all rest::k) Q s'):GO P nt (.ops all (o::rest)::k) Q s:=
 cz hg (II D ho C hk hu I hi Z b hm B (gQ J) A hp) fun t C=>by subst C;exact h
end
section
variable {Q:AQ} {k:List KI} {all rest:List Oper} {o:Oper} {s':AS}
end
end
theorem dT.take{sz n:Nat}{es:List (List PV)}:dT (.row sz es) (.row sz (es.take n)):=by
 refine⟨fun h=>?_,fun M N U w i h=>?_⟩
 .cases es with
  |nil=>rw[List.take_nil]at h;exact h
  |cons=>rfl
 .rcases h with h|⟨u,c,T,h1,x,y,A,B⟩
  .exact .inl (by rw[h,List.take_nil])
  .refine .inr ⟨u,c,T,h1,x,Qa (PL _ (by rw[Qy];omega)) y,fun k e b=>?_,fun k e j p b C=>?_⟩
   .rw[P8]at b;split at b
    .exact A k e b
    .cases b
   .rw[P8]at b;split at b
    .exact B k e j p b C
    .cases b
theorem rE{P:Program}{nt:Nat}{Q:AQ}{k:List KI}{s:AS}{body:Code}{σ:Type}(i0 n:Nat)(u:i0<=n)(I:Nat->σ->AS)(J:Nat->σ->Prop)(y:σ)(A:List Nat)(C:J i0 y)(h0:Wk s.nx A s (I i0 y))
  (b: ∀i x,i<=n->J i x->GO P nt (.code body:: .lp (fun t=>i<n∧ ∃j L,J (i+1) j∧Wk s.nx L t (I (i+1) j))::k) Q (I i x)):GO P nt (.code (.loop body)::k) Q s:=by
 refine gn (σ:={p:Nat×σ//p.1<=n∧J p.1 p.2}) (fun p=>I p.1.1 p.1.2) (fun p=>n-p.1.1) ⟨(i0,y),u,C⟩ A h0 fun p=>?_;obtain⟨⟨i,x⟩,h1,B⟩:=p;refine lf ?_ (b i x h1 B)
 rintro t ⟨h3,j,L,h4,h5⟩;exact⟨⟨(i+1,j),h3,h4⟩,L,by show n-(i+1)<n-i;omega,h5⟩
theorem H5{P:Program}{ty:Ty}{nt:Nat}{Q:AQ}{k:List KI}{s:AS}(j:bx P ty){all rest:List Oper}{o:Oper}{t:TypeId}{x i:Operand}(p:PV)(ho:o.op= .lookup t x i kw)(hg:o.guard=is)
  {kc:KC} {V:Type} {e:V->IV} {z:V} {y:Value} {m:List (kc.K×V)} (B:ev s.f x= .iv (.dQ kc e z y m)) {q:PV} (hl:sN ty t kw kc e z y m (ev s.f i)=io (q,True)) (A:q=p)
  {s':AS} (hp:putDst nt o p s=io s') (h:GO P nt (.ops all rest::k) Q s'):GO P nt (.ops all (o::rest)::k) Q s:=by
 have b:gz ty s o.op=io (p,True):=by
  rw[ho,<-A];simp only[gz,B];exact hl
 exact cz hg (sr j b ac hp) fun u hu=>by subst hu;exact h
section
variable {P:Program} {ty:Ty} {nt:Nat} {s:AS}
theorem Dp{o:Oper}{p:PV}{s':AS}(hp:putDst nt o p s=io s')(h: ∀M N a w,Fits M N s nt a w-> ∃x,(execOp a.eval o).run P w= .ok (.value x) w∧VR M N (· <s.nx) p x):
  (s'.h=s.h∧s'.nx=s.nx)∧ ∀M N a w,Fits M N s nt a w-> ∃x,(execOp a.eval o).run P w= .ok (.value x) w∧Fits M N s' nt (a.put o.dst x) w:=by
 cases hd:o.dst with
 |none=>
  have:=eQ hp hd;subst this;exact⟨⟨rfl,rfl⟩,fun M N a w b=>let ⟨x,hx,_⟩:=h M N a w b;⟨x,hx,b⟩⟩
 |some d=>
  obtain⟨h1,rfl⟩:=eP hp hd;exact⟨⟨rfl,rfl⟩,fun M N a w b=>let ⟨x,hx,hv⟩:=h M N a w b;⟨x,hx,b.put d p x h1 hv⟩⟩
theorem s5{Q:AQ}{k:List KI}{all:List Oper}{todo pend:List (Nat×Oper)}{o:Oper}{s':AS}{p:PV}(i:Nat)(j:todo.find? (fun x=>PJ x.1 i)=io (i,o))(u:aO o=kw)(y:todo.all (fun x=>!waits o x.1)=jp)(hg:bX nt all s.f o=io jp)(b:uk all pend o=jp)
  (hp:putDst nt o p s=io s') (A: ∀M N a w,Fits M N s nt a w-> ∃x,(execOp a.eval o).run P w= .ok (.value x) w∧VR M N (· <s.nx) p x)
  (h:GO P nt (.bW all (todo.filter fun x=>!PJ x.1 i) ((i,o)::pend)::k) Q s'):GO P nt (.bW all todo pend::k) Q s:=
 have g:=Dp hp A
 s4 (List.mem_of_find?_eq_some j) u (fun x B=>by simpa using P4.1 y x B) hg b g.1 g.2 h
end
section
variable {P:Program} {ty:Ty} {nt:Nat} {Q:AQ} {k:List KI} {s:AS}
theorem ie{all rest:List Oper}{o:Oper}{t e:TypeId}{x:Operand}{d sz n:Nat}{el:Nat->List IV}(hg:o.guard=is)(ho:o.op= .binOp .eql t x (.const (.slice is 0 0)) t)(hd:o.dst=io d)(A:PI d nt=jp)(G:P.underlying t=io (.slice e))(I:ev s.f x= .iv (.ct sz n el))
  (h: ∀b:Bool,(b=jp->n=0)->GO P nt (.ops all rest::k) Q ⟨(d,pB b)::s.f,s.h,s.nx⟩):GO P nt (.ops all (o::rest)::k) Q s:=by
 refine cz (R:=fun u=> ∃b:Bool,(b=jp->n=0)∧u=⟨(d,pB b)::s.f,s.h,s.nx⟩) hg (fun M N a w C K Z hk=>?_) fun u ⟨b,hb,hu⟩=>by subst hu;exact h b hb
 have y:=aH C.2.1 x;rw[I]at y;generalize B:a.eval x=v at y;have j: ∀(a0:Option Addr) (l c:Nat),v= .slice a0 l c->(execOp a.eval o).run P w= .ok (.value (.bool a0.isNone)) w:=fun a0 l c y=>by
  unfold execOp;rw[ho];simp only[B,y];exact aW (Lib.run_eql_slice_nil w t e a0 l c 0 0 G)
 have b0: ∀(b:Bool),(b=jp->n=0)->(execOp a.eval o).run P w= .ok (.value (.bool b)) w->o.wp P a w K Z:=fun b hb D=>by
  unfold Oper.wp;rw[D];simp only[Oper.upon];rw[hd];exact hk M N ⟨(d,pB b)::s.f,s.h,s.nx⟩ _ w (.refl _ _ _ _ _) (C.put d (pB b) (.bool b) (Pf A) (.iv _ _ (.v _))) ⟨b,hb,rfl⟩
 cases y with
 |iv _ _ hi=>cases hi with
  |fp _ _ a0 cap=>exact b0 _ (fun _=>rfl) (j a0 0 cap rfl)
  |ct _ _ _ b off cap hn hc hl hm D=>exact b0 kw (fun h=>by cases h) (j _ n cap rfl)
theorem jI(j:bx P ty){all rest:List Oper}{o:Oper}{t u:TypeId}{d:Nat}(hg:o.guard=is)(ho:o.op= .buildSlice t 0 #[])(hd:o.dst=io d)(y:PI d nt=jp){e I:bE}(ht:ty t=io e)(hk:e.k= .aM (.slice u))(hu:ty u=io I)
  (h: ∀b:Nat,GO P nt (.ops all rest::k) Q ⟨(d,.iv (.v (.slice (io ⟨b,0,is⟩) 0 0)))::s.f,(s.nx,io (.row 1 []))::s.h,s.nx+1⟩):GO P nt (.ops all (o::rest)::k) Q s:=by
 refine cz (R:=fun v=> ∃b:Nat,v=⟨(d,.iv (.v (.slice (io ⟨b,0,is⟩) 0 0)))::s.f,(s.nx,io (.row 1 []))::s.h,s.nx+1⟩) hg (fun M N a w Y K Z B=>?_) fun v ⟨b,hv⟩=>by subst hv;exact h b
 have D:P.underlying t=io (.slice u):=by
  have:=(j t _ ht).2.1;rw[hk]at this;exact this.1
 obtain⟨G,h1,h2,h8,J,x⟩:=Y.1.alloc (.cells #[] u) (.row 1 []) 0 (fun G g1 g2 g3=> .inl rfl);have hr:(execOp a.eval o).run P w= .ok (.value (.slice (io ⟨w.heap.size,0,is⟩) 0 0)) (w.alloc (.cells #[] u)):=by
  have C:=aL (w:=w) (j u I hu);simp[execOp,ho,Instr.buildSlice,Sem.run_bind,run_underlying D,Result.andThen_ok,C,newRow,Instr.fill,show Sk 0= #[] from rfl]
 have A:=dB Y J x;unfold Oper.wp;rw[hr];simp only[Oper.upon];rw[hd];exact B M G ⟨(d,.iv (.v (.slice (io ⟨w.heap.size,0,is⟩) 0 0)))::s.f,(s.nx,io (.row 1 []))::s.h,s.nx+1⟩ _ _ J (Fits.put (s:=⟨s.f,(s.nx,io (.row 1 []))::s.h,s.nx+1⟩) A d _ _ (Pf y) (.iv _ _ (.v _))) ⟨_,rfl⟩
theorem jJ(d0:bx P ty){all rest:List Oper}{o:Oper}{x y:Operand}{t u:TypeId}(hg:o.guard=is)(ho:o.op= .call ⟨.builtin .append, #[x,y], #[t,t]⟩){e A:bE}(ht:ty t=io e)(hk:e.k= .aM (.slice u))(hu:ty u=io A)
  {b0 sz:Nat} {news:List (List PV)} {py:PV} (hx:ev s.f x= .iv (.v (.slice (io ⟨b0,0,is⟩) 0 0))) (v0:A.size=sz) (hz:A.zero.cells.size=sz) (t0:0<sz)
  (s0:ev s.f y=py) (hy:Src s.h sz py news) (hm:news≠ []) (hb:news.length*A.bytes<=140737488355328) (d1:news.length<=140737488355328)
  {s':AS} (hp:putDst nt o (.sl s.nx 0 news.length sz) (newObj s (.row sz news))=io s') (h:GO P nt (.ops all rest::k) Q s'):GO P nt (.ops all (o::rest)::k) Q s:=by
 refine cz hg (OT.value hp fun M N a w hf=>?_) fun v hv=>by subst hv;exact h
 subst v0;obtain⟨⟨ii,o0,p0,n0,q0⟩,_⟩:=d0 u _ hu;have w0:P.underlying t=io (.slice u):=by
  have:=(d0 t _ ht).2.1;rw[hk]at this;exact this.1
 have Y:=aH hf.2.1 x;rw[hx]at Y;have f0:=aH hf.2.1 y;rw[s0]at f0;obtain⟨D,ao,c,a1,G⟩:=hy.ok hf f0;have B: ∀v w',(Builtin.append_ #[t,t] o.type #[a.eval x,a.eval y]).run P w= .ok v w'->(execOp a.eval o).run P w= .ok (.value v) w':=by
  intro v w' h;simp only[execOp,ho,resolve];simp[invoke,builtin,h]
 rw[a1]at B;have a0: ∀vs:List Value,vs.length=news.flatten.length->vs.length=news.length*ii.size:=fun vs h=>by rw[h,ig D,p0]
 generalize a.eval x=vx at Y B;cases Y with
 |iv _ _ hi=>cases hi with
  |v=>
   obtain⟨b,b1,j0,I⟩:=G hm;subst j0;obtain⟨vs,e0,x0,z0⟩:=oz (s:=s) I;have j1:0<news.length:=Qv.2 hm;have J:=run_append_grow (P:=P) w t o.type u ii A.zero w0 o0 q0 ⟨b0,0,is⟩ 0 0 [] (by simp) (fun j v hj=>by simp at hj) ⟨b,b1,is⟩ news.length c vs (a0 vs e0) x0 (by omega) (by omega) (growslice_fits (by omega) (by rw[n0,PO];exact hb));have R:vs.length=news.length*A.size:=by rw[e0,ig D]
   have c0:=grownCap_ge w (0+news.length) 0 u;have k0:=grownCap_le_maxLen w (0+news.length) 0 u (by simp only[maxLen];omega);generalize grownCap w (0+news.length) 0 u=cap at*
   generalize i0:([]:List Value).toArray++vs.toArray++Builtin.zeroCells A.zero.cells (cap-(0+news.length))=z at J;have C:z.size=cap*A.size:=by
    rw[<-i0,RA,RA,size_zeroCells,hz];simp only[List.size_toArray,R,Q6,PO] at*
    rw[<-Qo,Nat.add_sub_cancel' c0]
   obtain⟨N',h1,h2,h3,h4,h5⟩:=hf.1.drew.alloc (.cells z u) (.row A.size news) z.size (fun N' g1 g2 g3=>by
    refine .inr ⟨t0,z,u,by rw[g1];exact heap_alloc_new _ _,g2.symm,?_,fun k e he=>D _ e he,fun k e j p he hj=>?_⟩
    .rw[C];exact PL _ (by omega)
    .have f1:j<A.size:=by rw[<-D _ e he];exact(Pj.1 hj).1
     have r0:k<news.length:=(Pj.1 he).1;have m0:=mf D _ e j p he hj;have i1:k*A.size+j<vs.length:=by
      rw[R];have:(k+1)*A.size<=news.length*A.size:=PL _ r0;rw[Qo]at this;omega
     have:=z0 _ p m0;have e1:z.getD (k*A.size+j) undef=vs.getD (k*A.size+j) undef:=by
      rw[<-i0,Pg,P1 (by simp;omega),Pk];simp
     rw[e1];exact this.mono (.refl _) g3 (fun i hi=>by omega))
   have g0:=(Ext.drew (M:=M) (N:=N) (U:=(· <s.nx)) (h:=s.h) (w:=w)).trans h4;refine⟨_,_,M,N',B _ _ J,g0,⟨h5,hf.2.1.ext g0,hf.2.2⟩,?_⟩;have:=VR.sl (M:=M) (N:=N') (U:=(· <s.nx+1)) s.nx 0 (0+news.length) A.size cap (by omega) (by omega) c0 k0 (by rw[h2,C];simp);rw[h1,Ru,show PV.sl s.nx 0 (0+news.length) A.size=PV.sl s.nx 0 news.length A.size by rw[PO]]at this;exact(show(newObj s (.row A.size news)).nx=s.nx+1 from rfl)▸this
theorem kA(I:bx P ty){all rest:List Oper}{o:Oper}{x y:Operand}{t u:TypeId}(hg:o.guard=is)(ho:o.op= .call ⟨.builtin .append, #[x,y], #[t,t]⟩){e eu:bE}(ht:ty t=io e)(hk:e.k= .aM (.slice u))(hu:ty u=io eu)
  {Y sz:Nat} (hx:ev s.f x= .iv (.v (.slice (io ⟨Y,0,is⟩) 0 0))) (d0:eu.size=sz)
  {el:Nat->List IV} (c0:ev s.f y= .iv (.ct sz 0 el)) {el2:Nat->List IV}
  {s':AS} (hp:putDst nt o (.iv (.ct sz 0 el2)) s=io s') (h:GO P nt (.ops all rest::k) Q s'):GO P nt (.ops all (o::rest)::k) Q s:=by
 refine cz hg (OT.value hp fun M N a w hf=>?_) fun v hv=>by subst hv;exact h
 subst d0;obtain⟨⟨ii,a0,g0,f0,i0⟩,_⟩:=I u _ hu;have e0:P.underlying t=io (.slice u):=by
  have:=(I t _ ht).2.1;rw[hk]at this;exact this.1
 have B:=aH hf.2.1 x;rw[hx]at B;have C:=aH hf.2.1 y;rw[c0]at C;have j: ∀v D,(Builtin.append_ #[t,t] o.type #[a.eval x,a.eval y]).run P w= .ok v D->(execOp a.eval o).run P w= .ok (.value v) D:=by
  intro v D h;simp only[execOp,ho,resolve];simp[invoke,builtin,h]
 generalize a.eval x=vx at B j;generalize a.eval y=vy at C j;have A: ∀(G:Option Addr) (c:Nat),vx= .slice (io ⟨Y,0,is⟩) 0 0->vy= .slice G 0 c-> ∃v D J R,(execOp a.eval o).run P w= .ok (.value v) D∧Ext M N (· <s.nx) s.h w J R (· <s.nx) s.h D∧Fits J R s nt a D∧VR J R (· <s.nx) (.iv (.ct eu.size 0 el2)) v:=fun G c e1 e2=>by
  subst e1 e2;exact⟨_,w,M,N,j _ _ (ix (P:=P) (w:=w) t o.type u ii e0 a0 (io ⟨Y,0,is⟩) 0 0 (Ps _) G c (.inr ⟨_,_,rfl⟩)),.refl _ _ _ _ _,hf,.iv _ _ (.fp _ _ _ _)⟩
 cases B with
 |iv _ _ hi=>cases hi with
  |v=>cases C with
   |iv _ _ hi=>cases hi with
    |fp _ _ G c=>exact A G c Z Z
    |ct _ _ _ b off cap=>exact A _ _ Z Z
end
section
variable {P:Program} {ty:Ty} {nt:Nat} {Q:AQ} {k:List KI} {s:AS}
theorem yO(r0:bx P ty){o:Oper}{t:TypeId}{a x:Operand}(ho:o.op= .store t a x)(hd:o.dst=is){i sz q:Nat}{e:bE}(he:ty t=io e)(z0:e.size=sz){es:List (List PV)}{xs:List PV}
  (ha:ev s.f a= .cL i sz q 0) (hi:s.h.get i=io (.row sz es)) (hq:q<es.length) (v0:(ev s.f x).cells=io xs) (f0:xs.length=sz) (b0:eB xs=jp):
  OT P nt o s (fun u=>u=⟨s.f,(i,io (.row sz (es.set q xs)))::s.h,s.nx⟩):=by
 have hp:putDst nt o .any ⟨s.f,(i,io (.row sz (es.set q xs)))::s.h,s.nx⟩=io ⟨s.f,(i,io (.row sz (es.set q xs)))::s.h,s.nx⟩:=by simp only[putDst,hd]
 refine OT.skip hp fun M N b w J=>?_;have hu:=aH J.2.1 a;have hy:=aH J.2.1 x;rw[ha]at hu;generalize s0:b.eval a=u at hu;generalize w0:b.eval x=y at hy
 have key: ∃w',(Instr.storeAt t u y).run P w= .ok () w'∧Ext M N (· <s.nx) s.h w M N (· <s.nx) ((i,io (.row sz (es.set q xs)))::s.h) w'∧Fits M N ⟨s.f,(i,io (.row sz (es.set q xs)))::s.h,s.nx⟩ nt b w':=by
  cases hu with
  |cL _ _ _ _ hU=>
   obtain⟨hl,hv⟩:=mv hy v0;have a1:y.cells.size=sz:=by omega
   rcases J.1.obj i _ hi with h0|⟨h0,c,T,g1,g2,g3,g4,g5⟩
   .rw[h0]at hq;simp at hq
   have a0:(q+1)*sz<=es.length*sz:=PL _ hq;have x0:q*sz+sz<=c.size:=by rw[QZ]at a0;omega
   have C: ∀z∈y.cells.toList,z.oneCell'=jp:=by
    intro v t0;obtain⟨j,hj⟩:=P9 t0;have k0:j<y.cells.toList.length:=(Pj.1 hj).1;have e0:xs[j]? =io (xs[j]'(by simp at k0;omega)):=Pl _;have:=(hv j _ e0).one (gJ b0 j _ e0);rw[Pg]at this;have i0:y.cells[j]? =io v:=by simpa using hj
    rw[i0]at this;exact this
   have d0:=run_storeCells_at P (N.az i) (q*sz) T y.cells.toList 0 c w g1 (by simp;omega) C;refine⟨w.setRow (N.az i) (c.toList.take (q*sz+0)++y.cells.toList++c.toList.drop (q*sz+0+y.cells.toList.length)).toArray,?_,?_⟩
   .have D:=aL (w:=w) (r0 t e he);have q0:y.cells.size=e.size:=by omega
    simp only[Instr.storeAt,Instr.sureAddr,pure_bind,storeVar,Sem.run_bind,D,Result.andThen_ok,q0,ne_eq,not_true_eq_false,if_false];exact d0
   .have c0:=setRow_heap w (N.az i) c (c.toList.take (q*sz+0)++y.cells.toList++c.toList.drop (q*sz+0+y.cells.toList.length)).toArray T (0,0) g1;have o0: ∀b,b≠N.az i->(w.setRow (N.az i) (c.toList.take (q*sz+0)++y.cells.toList++c.toList.drop (q*sz+0+y.cells.toList.length)).toArray).heap[b]? =w.heap[b]? :=by
     intro b hb;simp only[World.setRow,PZ];rw[be (fun e=>hb e.symm)]
    have p0:(AO.row sz es).real=jp:=by cases es with
     |nil=>simp at hq
     |cons=>rfl
    have g0: ∀m,(c.toList.take (q*sz+0)++y.cells.toList++c.toList.drop (q*sz+0+y.cells.toList.length)).toArray.getD m undef=if q*sz<=m∧m<q*sz+sz then y.cells.getD (m-q*sz) undef else c.getD m undef:=by
     intro m;rw[Pg,Pg,Pg];have m0:y.cells.toList.length=sz:=by simp;omega
     split
     .rename_i hm;have e1:(c.toList.take (q*sz+0)++y.cells.toList++c.toList.drop (q*sz+0+y.cells.toList.length)).toArray[m]? =y.cells[m-q*sz]? :=by
       simp only[Qg];rw[PD (by simp;omega),PB (by simp;omega)];simp only[Qy,Rt,PN];congr 1;omega
      rw[e1]
     .rename_i hm;have e1:(c.toList.take (q*sz+0)++y.cells.toList++c.toList.drop (q*sz+0+y.cells.toList.length)).toArray[m]? =c[m]? :=by
       simp only[Qg];rcases Ql m (q*sz) with k1|k1
       .rw[PH,PD (by simp;omega),P8,am (by omega),PN]
       .rw[PB (by simp;omega),Qj,PN];congr 1;simp;omega
      rw[e1]
    have:=J.1.write hi p0 (w.setRow (N.az i) (c.toList.take (q*sz+0)++y.cells.toList++c.toList.drop (q*sz+0+y.cells.toList.length)).toArray) (.row sz (es.set q xs)) Z Z Z (by simp) o0
     (.inr ⟨h0,_,T,c0,by simp;omega,by simp;omega,fun G Y A=>?_,fun G Y R p2 A I=>?_⟩)
    .exact⟨this.1,this.2,J.2.1,J.2.2⟩
    .rw[Rb]at A;split at A
     .cases A;exact f0
     .exact g4 G Y A
    .rw[g0];rw[Rb]at A;split at A
     .rename_i B;subst B;cases A;have j0:R<sz:=by rw[<-f0];exact(Pj.1 I).1
      rw[am (by omega),show q*sz+R-q*sz=R by omega];exact hv R p2 I
     .rename_i B;have j0:R<sz:=by rw[<-g4 G Y A];exact(Pj.1 I).1
      rw[be ?_]
      .exact g5 G Y R p2 A I
      .intro⟨e1,Y⟩;rcases Rz q G with n0|heq|hgt
       .have:(q+1)*sz<=G*sz:=PL _ n0;rw[QZ]at this;omega
       .exact B heq
       .have:(G+1)*sz<=q*sz:=PL _ hgt;rw[QZ]at this;omega
 obtain⟨w',h1,A,I⟩:=key;refine⟨w',M,N,?_,A,I⟩;simp only[execOp,ho];simp[s0,w0,h1]
end
def Mb{σ:Type}(P:Program)(nt:Nat)(k:List KI)(Q:AQ)(n0:Nat)(t:σ->AS):AQ:=fun e u=>(e= .normal∧ ∃i L,Wk n0 L u (t i))∨(e≠ .normal∧kp P nt k Q e u)
theorem go_cut{P:Program}{nt:Nat}{Q:AQ}{k:List KI}{s:AS}{c:Code}{σ:Type}(n:Nat)(t:σ->AS)(A:c=K7 (vL n c) (rJ n c))
  (h1:GO P nt ((vL n c).map KI.code) (Mb P nt k Q s.nx t) s) (h2: ∀i,GO P nt (.code (rJ n c)::k) Q (t i)):GO P nt (.code c::k) Q s:=by
 intro M N a w hf;rw[A];have key: ∀(l:List Code) (u:AS) C G J B,Ext M N (· <s.nx) s.h w C G (· <u.nx) u.h B->Fits C G u nt J B->
   kp P nt (l.map KI.code) (Mb P nt k Q s.nx t) .normal u->(K7 l (rJ n c)).wp P (lK nt M N s w (kp P nt k Q)) J B:=by
  intro l
  induction l with
  |nil=>
   intro u C G J B R y hk;rcases hk with⟨_,i,L,hw⟩|⟨he,_⟩
   .exact AW.then (h2 i) (hw.fits y) fun e a2 w2 D I Y x b j=>⟨D,I,Y,(hw.ext R).trans x,b,j⟩
   .exact absurd Z he
  |cons c l ih=>
   intro u C G J B R y hk;refine wp_seq (AW.then hk y fun e a2 w2 D I Y x b j=>?_);cases e with
   |normal=>exact ih Y D I a2 w2 (R.trans x) b j
   |_=>
    rcases A3 (l:=l) (by simp) j with⟨he,_⟩|⟨_,hq⟩
    .cases he
    .exact⟨D,I,Y,R.trans x,b,hq⟩
 exact key _ s M N a w (.refl _ _ _ _ _) hf h1
theorem Fi{P:Program}{nt:Nat}{k:List KI}{Q:AQ}{n0:Nat}{σ:Type}{t:σ->AS}{u:AS}(i:σ)(L:List Nat)(h:Wk n0 L u (t i)):Mb P nt k Q n0 t .normal u:= .inl ⟨rfl,i,L,h⟩
section
variable {P:Program} {ty:Ty} {nt:Nat} {Q:AQ} {k:List KI} {s:AS}
theorem oc(j:bx P ty){all rest:List Oper}{o:Oper}{t:TypeId}{a:Operand}(ho:o.op= .load t a)(hg:o.guard=is){e:bE}(he:ty t=io e){i sz q off:Nat}{es:List (List PV)}{row:List PV}{v:PV}
  (ha:ev s.f a= .cL i sz q off) (hi:s.h.get i=io (.row sz es)) (x:es[q]? =io row) (hr:fI e (row.drop off)=io v)
  {s':AS} (hp:putDst nt o v s=io s') (h:GO P nt (.ops all rest::k) Q s'):GO P nt (.ops all (o::rest)::k) Q s:=by
 have hb:behind s.h (.cL i sz q off)=io (row.drop off):=by
  simp only[behind,hi,x,Nat.beq_refl]
 have b:gz ty s o.op=io (v,True):=by
  rw[ho];simp only[gz,he,ha,hb,hr]
 exact cz hg (sr j b ac hp) fun u hu=>by subst hu;exact h
end
section
variable {P:Program} {ty:Ty} {nt:Nat} {Q:AQ} {k:List KI} {s:AS}
theorem oB(t0:bx P ty){o:Oper}{t:TypeId}{a x:Operand}(ho:o.op= .store t a x)(hd:o.dst=is){i sz q off:Nat}{e:bE}(he:ty t=io e){es:List (List PV)}{row xs:List PV}
  (ha:ev s.f a= .cL i sz q off) (hi:s.h.get i=io (.row sz es)) (Y:es[q]? =io row) (x0:(ev s.f x).cells=io xs) (d1:xs.length=e.size) (g0:off+e.size<=sz) (b0:eB xs=jp):
  OT P nt o s (fun u=>u=⟨s.f,(i,io (.row sz (es.set q (setCells row off xs))))::s.h,s.nx⟩):=by
 have hp:putDst nt o .any ⟨s.f,(i,io (.row sz (es.set q (setCells row off xs))))::s.h,s.nx⟩=io ⟨s.f,(i,io (.row sz (es.set q (setCells row off xs))))::s.h,s.nx⟩:=by simp only[putDst,hd]
 refine OT.skip hp fun M N b w R=>?_;have hu:=aH R.2.1 a;have hy:=aH R.2.1 x;rw[ha]at hu;generalize v0:b.eval a=u at hu;generalize z0:b.eval x=y at hy
 have key: ∃w',(Instr.storeAt t u y).run P w= .ok () w'∧Ext M N (· <s.nx) s.h w M N (· <s.nx) ((i,io (.row sz (es.set q (setCells row off xs))))::s.h) w'∧Fits M N ⟨s.f,(i,io (.row sz (es.set q (setCells row off xs))))::s.h,s.nx⟩ nt b w':=by
  cases hu with
  |cL _ _ _ _ hU=>
   obtain⟨hl,hv⟩:=mv hy x0;have f1:y.cells.size=e.size:=by omega
   have q0:q<es.length:=(Pj.1 Y).1;rcases R.1.obj i _ hi with h0|⟨h0,c,T,g1,g2,g3,g4,g5⟩
   .rw[h0]at Y;simp at Y
   have f0:row.length=sz:=g4 q row Y;have a0:(q+1)*sz<=es.length*sz:=PL _ q0;have b1:q*sz+off+e.size<=c.size:=by rw[QZ]at a0;omega
   have D: ∀z∈y.cells.toList,z.oneCell'=jp:=by
    intro v w0;obtain⟨j,hj⟩:=P9 w0;have m0:j<y.cells.toList.length:=(Pj.1 hj).1;have e0:xs[j]? =io (xs[j]'(by simp at m0;omega)):=Pl _;have:=(hv j _ e0).one (gJ b0 j _ e0);rw[Pg]at this;have j0:y.cells[j]? =io v:=by simpa using hj
    rw[j0]at this;exact this
   have d0:=run_storeCells_at P (N.az i) (q*sz+off) T y.cells.toList 0 c w g1 (by simp;omega) D;refine⟨w.setRow (N.az i) (c.toList.take ((q*sz+off)+0)++y.cells.toList++c.toList.drop ((q*sz+off)+0+y.cells.toList.length)).toArray,?_,?_⟩
   .have G:=aL (w:=w) (t0 t e he);have s0:y.cells.size=e.size:=by omega
    simp only[Instr.storeAt,Instr.sureAddr,pure_bind,storeVar,Sem.run_bind,G,Result.andThen_ok,s0,ne_eq,not_true_eq_false,if_false];exact d0
   .have c0:=setRow_heap w (N.az i) c (c.toList.take ((q*sz+off)+0)++y.cells.toList++c.toList.drop ((q*sz+off)+0+y.cells.toList.length)).toArray T (0,0) g1;have p0: ∀b,b≠N.az i->(w.setRow (N.az i) (c.toList.take ((q*sz+off)+0)++y.cells.toList++c.toList.drop ((q*sz+off)+0+y.cells.toList.length)).toArray).heap[b]? =w.heap[b]? :=by
     intro b hb;simp only[World.setRow,PZ];rw[be (fun e=>hb e.symm)]
    have r0:(AO.row sz es).real=jp:=by cases es with
     |nil=>simp at Y
     |cons=>rfl
    have i0: ∀m,(c.toList.take ((q*sz+off)+0)++y.cells.toList++c.toList.drop ((q*sz+off)+0+y.cells.toList.length)).toArray.getD m undef=if q*sz+off<=m∧m<q*sz+off+e.size then y.cells.getD (m-(q*sz+off)) undef else c.getD m undef:=by
     intro m;rw[Pg,Pg,Pg];have n0:y.cells.toList.length=e.size:=by simp;omega
     split
     .rename_i hm;have e1:(c.toList.take ((q*sz+off)+0)++y.cells.toList++c.toList.drop ((q*sz+off)+0+y.cells.toList.length)).toArray[m]? =y.cells[m-(q*sz+off)]? :=by
       simp only[Qg];rw[PD (by simp;omega),PB (by simp;omega)];simp only[Qy,Rt,PN];congr 1;omega
      rw[e1]
     .rename_i hm;have e1:(c.toList.take ((q*sz+off)+0)++y.cells.toList++c.toList.drop ((q*sz+off)+0+y.cells.toList.length)).toArray[m]? =c[m]? :=by
       simp only[Qg];rcases Ql m (q*sz+off) with k1|k1
       .rw[PH,PD (by simp;omega),P8,am (by omega),PN]
       .rw[PB (by simp;omega),Qj,PN];congr 1;simp;omega
      rw[e1]
    have:=R.1.write hi r0 (w.setRow (N.az i) (c.toList.take ((q*sz+off)+0)++y.cells.toList++c.toList.drop ((q*sz+off)+0+y.cells.toList.length)).toArray) (.row sz (es.set q (setCells row off xs))) Z Z Z (by simp) p0
     (.inr ⟨h0,_,T,c0,by simp;omega,by simp;omega,fun I e2 A=>?_,fun I e2 B p2 A J=>?_⟩)
    .exact⟨this.1,this.2,R.2.1,R.2.2⟩
    .rw[Rb]at A;split at A
     .cases A;rw[cO];exact f0
     .exact g4 I e2 A
    .rw[i0];rw[Rb]at A;split at A
     .rename_i C;subst C;cases A;have k0:B<sz:=by rw[<-f0,<-cO row off xs];exact(Pj.1 J).1
      rcases gd row off xs B p2 J with⟨k1,k3⟩|⟨k1,k3⟩
      .have a1:B-off<xs.length:=(Pj.1 k3).1;rw[am (by omega),show q*sz+B-(q*sz+off)=B-off by omega];exact hv _ p2 k3
      .rw[be (by omega)];exact g5 q row B p2 Y k3
     .rename_i C;have k0:B<sz:=by rw[<-g4 I e2 A];exact(Pj.1 J).1
      rw[be ?_]
      .exact g5 I e2 B p2 A J
      .intro⟨e1,e3⟩;rcases Rz q I with o0|heq|hgt
       .have:(q+1)*sz<=I*sz:=PL _ o0;rw[QZ]at this;omega
       .exact C heq
       .have:(I+1)*sz<=q*sz:=PL _ hgt;rw[QZ]at this;omega
 obtain⟨w',h1,A,J⟩:=key;refine⟨w',M,N,?_,A,J⟩;simp only[execOp,ho];simp[v0,z0,h1]
theorem uP{es:List (List PV)}{q off:Nat}{row xs:List PV}(b:es[q]? =io row)(h:setCells row off xs=row):es.set q (setCells row off xs)=es:=by
 rw[h];refine RC fun i=>?_;rw[Rb];split
 .rename_i e;subst e;split
  .exact b.symm
  .rename_i g;rw[List.getElem?_eq_none (by omega)]
 .rfl
theorem o5(A:bx P ty){all rest:List Oper}{o:Oper}{t:TypeId}{a x:Operand}(ho:o.op= .store t a x)(hd:o.dst=is)(hg:o.guard=is){i sz q off:Nat}{e:bE}(he:ty t=io e){es:List (List PV)}{row xs:List PV}
  (ha:ev s.f a= .cL i sz q off) (hi:s.h.get i=io (.row sz es)) (D:es[q]? =io row) (C:(ev s.f x).cells=io xs) (B:xs.length=e.size) (j:off+e.size<=sz) (y:eB xs=jp) (b:setCells row off xs=row)
  (h:GO P nt (.ops all rest::k) Q ⟨s.f,(i,io (.row sz es))::s.h,s.nx⟩):GO P nt (.ops all (o::rest)::k) Q s:=
 cz hg (oB A ho hd he ha hi D C B j y) fun u hu=>by subst hu;rw[uP D b];exact h
theorem kL(A:bx P ty){o:Oper}{t:TypeId}{a x:Operand}(ho:o.op= .store t a x)(hd:o.dst=is){i sz q off:Nat}{e:bE}(he:ty t=io e){es:List (List PV)}{row xs:List PV}
  (ha:ev s.f a= .cL i sz q off) (hi:s.h.get i=io (.row sz es)) (D:es[q]? =io row) (C:(ev s.f x).cells=io xs) (B:xs.length=e.size) (j:off+e.size<=sz) (y:eB xs=jp) (b:setCells row off xs=row):
  OT P nt o s fun u=>u=⟨s.f,(i,io (.row sz es))::s.h,s.nx⟩:=by
 have:=oB (P:=P) (nt:=nt) A ho hd he ha hi D C B j y;rwa[uP D b]at this
theorem ia(u:bx P ty){o:Oper}{t:TypeId}{a:Operand}(ho:o.op= .load t a){e:bE}(he:ty t=io e){i sz q off:Nat}{es:List (List PV)}{row:List PV}{v:PV}
  (ha:ev s.f a= .cL i sz q off) (hi:s.h.get i=io (.row sz es)) (A:es[q]? =io row) (hr:fI e (row.drop off)=io v):
  ∀M N b w,Fits M N s nt b w-> ∃x,(execOp b.eval o).run P w= .ok (.value x) w∧VR M N (· <s.nx) v x:=by
 have hb:behind s.h (.cL i sz q off)=io (row.drop off):=by
  simp only[behind,hi,A,Nat.beq_refl]
 have j:gz ty s o.op=io (v,True):=by
  rw[ho];simp only[gz,he,ha,hb,hr]
 intro M N b w y;exact pE u y j ac
def HL(P:Program)(nt:Nat)(all:List Oper)(s:AS):List (Nat×Oper)->Prop
 | []=>True
 |x::r=>eE P nt all s x.2∧HL P nt all s r
theorem HL.mem{all:List Oper}{l:List (Nat×Oper)}(h:HL P nt all s l): ∀x∈l,eE P nt all s x.2:=by
 induction l with
 |nil=>intro x b;cases b
 |cons y r ih=>
  intro x b;rcases Px.1 b with e|m
  .rw[e];exact h.1
  .exact ih h.2 x m
theorem tF(y:bx P ty){all:List Oper}{o:Oper}{t:TypeId}{a:Operand}(ho:o.op= .load t a)(hg:bX nt all s.f o=io jp){d:Nat}(hd:o.dst=io d)(j:PI d nt=jp){e:bE}(he:ty t=io e){i sz q off:Nat}{es:List (List PV)}{row:List PV}{v:PV}
  (ha:ev s.f a= .cL i sz q off) (hi:s.h.get i=io (.row sz es)) (A:es[q]? =io row) (hr:fI e (row.drop off)=io v) (hs:ah v (s.f.get d)):eE P nt all s o:=fun M N b w u=>by
 obtain⟨x,C,B⟩:=ia y ho he ha hi A hr M N b w u;refine⟨x,.inl ⟨eT hg u,.inl C⟩,?_⟩;rw[hd];exact tE hd Z hs (u.put d v x (Pf j) B)
theorem H9(A:bx P ty)(H:List Nat){all:List Oper}{todo pend:List (Nat×Oper)}{j:Nat}{o:Oper}{s':AS}{J I:Prop}(hrd:eL todo=[(j,o)])(hg:bX nt all s.f o=io jp)(hpb:gZ all pend o=jp)(hE:mW todo [j]=jp)
  (hag:mX ty nt all s todo pend=io J) (hCA:J) (C:OT P nt o s (fun t=>t=s')) (hag2:dD ty nt all s' ((aZ pend o).filter fun x=>!H.any (PJ x.1))=io I) (hC2:I) (hH:HL P nt all s' ((aZ pend o).filter fun x=>H.any (PJ x.1)))
  (h:GO P nt (.bW all (todo.filter fun x=>!PJ x.1 j) (aZ pend o)::k) Q s'):GO P nt (.bW all todo pend::k) Q s:=by
 have u:(j,o)∈eL todo:=by rw[hrd];simp
 obtain⟨R,B⟩:=PU.1 u;simp only[Qp,RB,Qk]at B;have b: ∀y∈todo,aO y.2=jp-> ∀y∈pend,eE P nt all s y.2:=by
  intro y D G;unfold mX at hag;split at hag
  .exact dd A hag hCA
  .rename_i h2;have:=Qk.1 h2 y D;rw[G]at this;exact absurd Z this
 refine rF hE ⟨_,R,B.1⟩ b fun j' o' Y _ hu=>?_;simp only[Pw]at Y;subst Y;have:=hu o R;subst this
 refine⟨B.1,fun y D _=>by simpa using B.2 y D,hpb,hg,_,C,fun t ht=>by
  subst ht;refine⟨fun x hx=>?_,h⟩;cases hb:H.any (PJ x.1) with
  |true=>exact hH.mem x (PU.2 ⟨hx,hb⟩)
  |false=>exact dd A hag2 hC2 x (PU.2 ⟨hx,by simp only[hb];rfl⟩)⟩
theorem yp(A:bx P ty)(H:List Nat){all:List Oper}{todo pend:List (Nat×Oper)}{j:Nat}{o:Oper}{c:Call}{g:FuncId}{u args:List PV}{os:List AO}{r:PV}{D:AH}{G:Nat}{s':AS}{C B:Prop}(L:List Nat)(hc:bD P g args os r D G)
  (hrd:eL todo=[(j,o)]) (ho:o.op= .call c) (ha:bM s.f c=io (g,u))
  (hn:cC L=jp) (hl:L.all (fun j=>PI j s.nx)=jp) (y:L.map s.h.get=os.map fun o=>io (o.cv (sig L s.nx))) (b:u=dy (sig L s.nx) args) (hp:putDst nt o (r.cv (sig L s.nx)) (aX s L D G)=io s')
  (hg:bX nt all s.f o=io jp) (hpb:gZ all pend o=jp) (hE:mW todo [j]=jp)
  (hag:mX ty nt all s todo pend=io C) (hCA:C) (hag2:dD ty nt all s' ((aZ pend o).filter fun x=>!H.any (PJ x.1))=io B) (hC2:B) (hH:HL P nt all s' ((aZ pend o).filter fun x=>H.any (PJ x.1)))
  (h:GO P nt (.bW all (todo.filter fun x=>!PJ x.1 j) (aZ pend o)::k) Q s'):GO P nt (.bW all todo pend::k) Q s:=
 H9 A H hrd hg hpb hE hag hCA (zX L hc ho ha hn hl y b hp) hag2 hC2 hH h
end
theorem dT.Ns{sz:Nat}{es u:List (List PV)}(hl:es.length=u.length)(h: ∀(k:Nat) (e y:List PV),es[k]? =io e->u[k]? =io y->fY e y):dT (.row sz es) (.row sz u):=by
 have x:u=[]↔es=[]:=by rw[<-QU,<-QU,hl]
 refine⟨fun C=>?_,fun M N U w i D=>?_⟩
 .cases es with
  |nil=>rw[x.2 Z]at C;cases C
  |cons=>rfl
 .rcases D with A|⟨A,c,T,g1,g2,g3,g4,g5⟩
  .exact .inl (x.2 A)
  .refine .inr ⟨A,c,T,g1,g2,by rw[<-hl];exact g3,fun k y b=>?_,fun k y j p b G=>?_⟩
   .have hk:k<es.length:=by rw[hl];exact(Pj.1 b).1
    have:=h k _ y (Pl hk) b;rw[<-this.length];exact g4 k _ (Pl hk)
   .have hk:k<es.length:=by rw[hl];exact(Pj.1 b).1
    obtain⟨q,I,B⟩:=(h k _ y (Pl hk) b).get j p G;exact B _ _ _ _ (g5 k _ j q (Pl hk) I)
def c7:List (List PV)->List (List PV)->Prop
 | [],[]=>True
 |p::r,q::s=>fY p q∧c7 r s
 |_,_=>False
theorem c7.length: ∀{a b:List (List PV)},c7 a b->a.length=b.length
 | [],[],_=>rfl
 |_::_,_::_,h=>congrArg (· +1) (c7.length h.2)
 | [],_::_,h=>h.elim
 |_::_,[],h=>h.elim
theorem c7.get: ∀{a b:List (List PV)},c7 a b-> ∀(k:Nat) (e j:List PV),a[k]? =io e->b[k]? =io j->fY e j
 | [],[],_,_,_,_,h,_=>by simp at h
 |p::r,q::s,hh,k,e,j,h,g=>by
  cases k with
  |zero=>simp at h g;subst h;subst g;exact hh.1
  |succ k=>exact c7.get hh.2 k e j (by simpa using h) (by simpa using g)
 | [],_::_,hh,_,_,_,_,_=>hh.elim
 |_::_,[],hh,_,_,_,_,_=>hh.elim
theorem fY.refl: ∀a:List PV,fY a a
 | []=>trivial
 |p::r=>⟨.refl p,fY.refl r⟩
theorem c7.refl: ∀a:List (List PV),c7 a a
 | []=>trivial
 |p::r=>⟨fY.refl p,c7.refl r⟩
theorem c7.app: ∀{a b c d:List (List PV)},c7 a b->c7 c d->c7 (a++c) (b++d)
 | [],[],_,_,_,h=>h
 |_::_,_::_,_,_,h,g=>⟨h.1,c7.app h.2 g⟩
 | [],_::_,_,_,h,_=>h.elim
 |_::_,[],_,_,h,_=>h.elim
theorem LJ{n i:Nat}{σ:Nat->Nat}{h r:AH}{α:Type}{sz:Nat}{es:List (List PV)}{l:List α}{f:α->List IV}(ho:h.get (σ i)=io (.row sz es))(he:c7 es (l.map fun x=>(f x).map .iv))(hi:PI i n=jp)(hr:mG n σ h r):mG n σ h ((i,io (aF sz l f))::r):=
 ⟨⟨_,ho,(dT.Ns he.length he.get).trans (AB σ Z)⟩,Pf hi,dK n,hr⟩
section
variable {P:Program} {ty:Ty} {nt:Nat} {s:AS}
theorem IG(j:bx P ty){o:Oper}{u v:TypeId}{x:Operand}(ho:o.op= .slice u x is is is){C D:bE}(hu:ty u=io C){n:Nat}(A:C.k= .arr n v)(J:ty v=io D)
  {i off:Nat} (R:ev s.f x= .ptr i off): ∀M N a w,Fits M N s nt a w-> ∃x,(execOp a.eval o).run P w= .ok (.value x) w∧VR M N (· <s.nx) (.mP i off n) x:=by
 intro M N a w I;have B:P.underlying u=io (.array n v):=by
  have:=(j u _ hu).2.1;rw[A]at this;exact this
 have b:=aH I.2.1 x;rw[R]at b;generalize Y:a.eval x=y at b;cases b with
 |ptr _ _ hU=>
  refine⟨.slice (io ⟨N.az i,off,is⟩) n n,?_,.mP _ _ _ hU⟩;simp only[execOp,ho,Y,RN];refine aW ?_;have G:(⟨N.az i,off,is⟩:Addr).add 0=⟨N.az i,off,is⟩:=by rw[dr,Rl]
  simp[Instr.sliceAt,run_underlying B,Instr.sliceBounds,aL (j v _ J),Instr.sureAddr,G]
theorem Fk(f0:bx P ty){o:Oper}{x y:Operand}{t t' u:TypeId}(ho:o.op= .call ⟨.builtin .copy, #[x,y], #[t,t']⟩){e C:bE}(ht:ty t=io e)(hk:e.k= .aM (.slice u))(hu:ty u=io C)
  {i off n:Nat} {cs:List PV} {T:Option TypeId} {news:List (List PV)} {py:PV} (hx:ev s.f x= .mP i off n) (hi:s.h.get i=io (.cells cs T)) (x0:ev s.f y=py) (hy:Src s.h C.size py news) (c0: ∀e∈news,eB e=jp)
  (hn:news.length<=n) (v0:off+news.length*C.size<=cs.length)
  {s':AS} (hp:putDst nt o (.iv (.v (.int .i64 news.length))) ⟨s.f,(i,io (.cells (cs.take off++news.flatten++cs.drop (off+news.length*C.size)) T))::s.h,s.nx⟩=io s'):OT P nt o s (fun t=>t=s'):=by
 refine OT.value hp fun M N a w J=>?_
 have o0:P.underlying t=io (.slice u):=by
  have:=(f0 t _ ht).2.1;rw[hk]at this;exact this.1
 have g0:=aH J.2.1 x;rw[hx]at g0;have q0:=aH J.2.1 y;rw[x0]at q0;obtain⟨m0,ao,c,s0,G⟩:=hy.ok J q0;have I:=ig m0;obtain⟨B,CT,g1,g2,g3,g4,g5⟩:=J.1.obj i _ hi;have r0:a.eval x= .slice (io ⟨N.az i,off,is⟩) n n:=by
  generalize a.eval x=z at g0;cases g0;rfl
 have D: ∀v w',(Builtin.copy_ #[t,t'] o.type #[a.eval x,a.eval y]).run P w= .ok v w'->(execOp a.eval o).run P w= .ok (.value v) w':=by
  intro v w' h;simp only[execOp,ho,resolve];simp[invoke,builtin,h]
 have a0:Nat.min news.length n=news.length:=Nat.min_eq_left hn;by_cases k0:news=[]
 .subst k0;have t0:cs.take off++([]:List (List PV)).flatten++cs.drop (off+([]:List (List PV)).length*C.size)=cs:=by simp
  rw[t0];obtain⟨q1,q2⟩:=J.1.write hi Z w (.cells cs T) Z Z Z Z (fun _ _=>rfl) ⟨B,CT,g1,g2,g3,g4,g5⟩;refine⟨.int .i64 0,w,M,N,D _ _ ?_,q1,⟨q2,J.2⟩,.iv _ _ (.v _)⟩;rw[r0,s0];have hl:(Builtin.firstCells C.size 0 (.slice ao 0 c)).run P w= .ok #[] w:=by
   cases ao with
   |none=>simp[Builtin.firstCells]
   |some a=>simp[Builtin.firstCells,loadCells,loadCellsFrom]
  simp[Builtin.copy_,run_underlying o0,Builtin.lenOf,aL (f0 u _ hu),hl,storeCells,goInt]
 .obtain⟨b,i0,rfl,R⟩:=G k0;obtain⟨vs,v1,v2,v3⟩:=oz (s:=s) R;have p0:vs.length=news.length*C.size:=by rw[v1,I]
  have Y: ∀z∈vs,z.oneCell'=jp:=by
   intro z hz;obtain⟨j,A⟩:=P9 hz;have j0:j<news.flatten.length:=by rw[<-v1];exact(Pj.1 A).1
   obtain⟨k,e,i2,h1,h2,_⟩:=kC m0 j _ (Pl j0);have h3:=v3 j _ (Pl j0);have h4:=h3.one (gJ (c0 e (PY h1)) i2 _ h2);rw[Pk,A]at h4;exact h4
  have hl:=run_firstCells_some (P:=P) w C.size news.length ⟨b,i0,is⟩ news.length c vs p0 v2;have n0:=run_storeCells_at P (N.az i) off CT vs 0 B w g1 (by omega) Y;simp only[Rl]at n0;have d0:=setRow_heap w (N.az i) B (B.toList.take off++vs++B.toList.drop (off+vs.length)).toArray CT (0,0) g1;have b0: ∀b,b≠N.az i->(w.setRow (N.az i) (B.toList.take off++vs++B.toList.drop (off+vs.length)).toArray).heap[b]? =w.heap[b]? :=by
   intro b hb;simp only[World.setRow,PZ];rw[be (fun e=>hb e.symm)]
  have w0: ∀(j:Nat) (p:PV),(cs.take off++news.flatten++cs.drop (off+news.length*C.size))[j]? =io p->VR M N (· <s.nx) p ((B.toList.take off++vs++B.toList.drop (off+vs.length)).toArray.getD j undef):=by
   intro j p A;rw[Pg,Qg];have z0:(cs.take off).length=off:=by rw[Qy];omega
   have e0:(B.toList.take off).length=off:=by rw[Qy,Rt];omega
   rw[PH]at A ⊢;rcases Ql j off with h1|h1
   .rw[PD (by omega)]at A ⊢;rw[P8,am h1]at A ⊢;rw[PN,<-Pg];exact g4 j p A
   .rw[PB (by omega),z0]at A;rw[PB (by omega),e0];rcases Ql (j-off) news.flatten.length with h2|h2
    .rw[PD h2]at A;rw[PD (by rw[v1];exact h2),<-Pk];exact v3 _ p A
    .rw[PB h2,Qj,I]at A;rw[PB (by rw[v1];exact h2),Qj,p0,PN,<-Pg];rw[I]at h2;have e1:off+news.length*C.size+(j-off-news.length*C.size)=j:=by omega
     rw[e1]at A;rw[e1];exact g4 j p A
  obtain⟨q1,q2⟩:=J.1.write hi Z (w.setRow (N.az i) (B.toList.take off++vs++B.toList.drop (off+vs.length)).toArray) (.cells (cs.take off++news.flatten++cs.drop (off+news.length*C.size)) T) Z Z Z (by simp) b0
   ⟨_,CT,d0,by simp;omega,by simp[I];omega,w0,g5⟩
  refine⟨.int .i64 news.length,_,M,N,D _ _ ?_,q1,⟨q2,J.2⟩,.iv _ _ (.v _)⟩;rw[r0,s0];simp[Builtin.copy_,run_underlying o0,Builtin.lenOf,aL (f0 u _ hu),a0,hl,n0,goInt]
end
end
end Go.Al
namespace Go.Al
open Go.Sort Go.RowKit
def Ab(P:Program)(D k:Nat):Prop:=
 (∀{α:Type} [Inhabited α] (enc:α->List Value) (_: ∀x,(enc x).length=k) (_: ∀x,∀v∈enc x,v.oneCell'=jp) (u:α->α->Int) (_:SWO fun x y=>lc (u x y<0)) (g:Nat) (C:Array Value) (b a0 b0:Nat) (d:Array α) (w:World)
  (_: ∀args w,(callFunc g args).run P w= .ok (.enter g args) w)
  (_: ∀(m:Nat) (os:Array Obj) (dk:Array α),dk.size=d.size-> ∀x y:α,
   Calls P g (#[.agg (enc x).toArray,.agg (enc y).toArray]++C) (grow (putRowK enc k (Sort.ahead w m) b a0 dk) os) fun e j=>e= .returned (.int .i64 (u x y))∧ ∃q B,j=grow ((grow (putRowK enc k (Sort.ahead w m) b a0 dk) os).drewN q) B)
  (_:HoldsK enc k w b a0 d) (_:b<w.heap.size) (_:d.size<4611686018427387904),
  Calls P D #[.slice (io ⟨b,a0,is⟩) d.size b0,.func (.func g) #[] C] w fun e j=>
   e= .returned (.tuple #[])∧ ∃A n os,PermIn 0 d.size d A∧SortedIn (fun x y=>lc (u x y<0)) 0 d.size A∧j=grow (putRowK enc k (Sort.ahead w n) b a0 A) os)∧
 ∀(p:Option Addr) (b0:Nat) (G:Value) (w:World),Calls P D #[.slice p 0 b0,G] w fun e j=>e= .returned (.tuple #[])∧j=w
def IV.flat:IV->Bool
 | .agg _=>kw
 | .v x=>x.oneCell'
 |_=>jp
theorem IR.one{M:Mem}{c:IV}{v:Value}(h:IR M c v)(hf:c.flat=jp):v.oneCell'=jp:=by
 cases h with
 |v=>exact hf
 |agg=>cases hf
 |_=>rfl
theorem uO{β:Type}{R:β->β->Prop}: ∀{a b:List β},a.Perm b->a.Pairwise R->b.Pairwise R->(∀x∈a,∀y∈a,R x y->R y x->x=y)->a=b
 | [],b,h,_,_,_=>h.nil_eq
 |x::a,[],h,_,_,_=>absurd h.length_eq (by simp)
 |x::a,y::b,h,h1,h2,h3=>by
  rw[P5]at h1 h2;have e:x=y:=by
   have hx:x∈y::b:=h.mem_iff.1 (Pv ..);have j:y∈x::a:=h.mem_iff.2 (Pv ..);rcases Px.1 hx with hx|hx
   .exact hx
   .rcases Px.1 j with hy'|hy'
    .exact hy'.symm
    .exact h3 x (Pv ..) y j (h1.1 y hy') (h2.1 x hx)
  subst e;rw[uO (h.cons_inv) h1.2 h2.2 fun u hu v A=>h3 u (Pu _ hu) v (Pu _ A)]
theorem H3{M x:Mem}{N y:Nm}{A:Nat->Prop}{G:AH}{U:Nat->Prop}{w j:World}(u:Ext M N U [] w x y A G j): ∃q os,j=grow (w.drewN q) os:=by
 refine⟨j.drawn-w.drawn,j.heap.extract w.heap.size j.heap.size,?_⟩;have hh:j.heap=w.heap++j.heap.extract w.heap.size j.heap.size:=by
  refine Array.ext_getElem? fun b=>?_;by_cases hb:b<w.heap.size
  .rw[P1 hb];exact u.fN b hb fun i o I=>nomatch I
  .rw[RS (by omega),Array.getElem?_extract];have:=u.size;split
   .congr 1;omega
   .rw[RK];omega
 have hd:=u.output.drawn;have B:=u.os;have C:=u.tape;have D:=u.output.out;cases j;cases w;simp only[grow,World.drewN] at*
 subst B C D;simp only[World.mk.injEq,and_true,true_and];exact⟨hh,by omega⟩
def yH{β:Type}(M:Mem)(ev:β->List IV)(ok:β->Prop)(k:Nat):Type:=
 {p:β×List Value//ok p.1∧p.2.length=k∧(∀v∈p.2,v.oneCell'=jp)∧ ∀j c,(ev p.1)[j]? =io c->IR M c (p.2.getD j undef)}
theorem uE{β:Type}{l:List β}{f:β->List IV}{i:Nat}{e:List PV}(h:(l.map fun x=>(f x).map PV.iv)[i]? =io e): ∃s,l[i]? =io s∧e=(f s).map PV.iv:=by
 rw[Pp,Pr]at h;obtain⟨s,h1,rfl⟩:=h;exact⟨s,h1,rfl⟩
set_option maxHeartbeats 1000000 in
theorem uA{P:Program}{fs g k:Nat}{β:Type}(hS:Ab P fs k)(k1:il P fs)(j1:il P g)(r0:0<k)(ev:β->List IV)(a0:β->β->Int)(ok:β->Prop)
  (l1: ∀x y,ok x->ok y->Pure P g [ag (ev x),ag (ev y)] (pI (a0 x y))) (e0: ∀x,(ev x).length=k) (n1: ∀x,∀c∈ev x,c.flat=jp)
  (H2: ∀x,ok x-> ¬a0 x x<0) (tr: ∀x y z,ok x->ok y->ok z->a0 x y<0->a0 y z<0->a0 x z<0) (Od: ∀x y z,ok x->ok y->ok z-> ¬a0 x y<0-> ¬a0 y z<0-> ¬a0 x z<0)
  (l l':List β) (hl: ∀x∈l,ok x) (Mc: ∀x∈l,∀y∈l,¬a0 x y<0-> ¬a0 y x<0->x=y) (hp:l.Perm l') (hs:l'.Pairwise fun x y=> ¬a0 y x<0) (r1:l.length<=1000000000000)
  (pv:PV) (x1: ∀M N U v,VR M N U pv v->v= .func (.func g) #[] #[]):
  bD P fs [.sl 0 0 l.length k,pv] [aF k l ev] (.bq []) [(0,io (aF k l' ev))] 1:=by
 refine⟨k1,fun M N w vs hr g0 hv=>?_⟩;obtain⟨v,v1,rfl⟩: ∃v v1,vs=[v,v1]:=by
  match vs,g0 with
  | [v,v1],_=>exact⟨v,v1,rfl⟩
 have J:=hv 0 _ Z;have g1:=x1 _ _ _ _ (hv 1 _ Z);simp only[Rs]at J;simp only[QI,Rs]at g1;subst g1;have t1:=hr.obj 0 _ Z;cases l with
 |nil=>
  have q1:l'=[]:=(hp.nil_eq).symm;subst q1;obtain⟨p,b0,rfl⟩: ∃p b0,v= .slice p 0 b0:=by
   generalize B:PV.sl 0 0 ([]:List β).length k=q at J;cases J with
   |sl i off len sz b0 h h0 h1 hc he=>cases B;simp at h0
   |lR i sz h=>exact⟨_,_,rfl⟩
   |sle i sz b0 h hc he=>cases B
   |_=>cases B
  refine(hS.2 p b0 _ w).mono ?_;rintro e w' ⟨rfl,rfl⟩;exact⟨_,M,N,.bq [],_,1,rfl,⟨rfl,rfl,rfl⟩,.refl _ _ _ _ _,hr,.bq [] #[] Z (by simp)⟩
 |cons s0 r=>
  generalize hL:s0::r=L at*
  have k0:0<L.length:=by rw[<-hL];simp
  obtain⟨b0,z1⟩: ∃b0,v= .slice (io ⟨N.az 0,0,is⟩) L.length b0:=by
   generalize hn:L.length=n at J k0;generalize B:PV.sl 0 0 n k=q at J;cases J with
   |sl i off len sz b0 h h0 h1 hc he=>cases B;exact⟨b0,by simp⟩
   |lR i sz h=>cases B;omega
   |_=>cases B
  subst z1;rcases t1 with h0|⟨_,c,T,h1,h2,h3,h4,h5⟩
  .rw[<-hL]at h0;cases h0
  rw[PS]at h3;have t0:(aF k L ev).real=jp:=by rw[<-hL];rfl
  have s1:=hr.lt (i:=0) Z t0;have m0: ∀(i:Nat) (x:β),L[i]? =io x-> ∀j q,(ev x)[j]? =io q->IR M q (c.getD (i*k+j) undef):=fun i x u j q B=>by
   have:=h5 i ((ev x).map .iv) j (.iv q) (by rw[Pp,u];rfl) (by rw[Pp,B];rfl);cases this with
   |iv _ _ h=>exact h
  let x0:(i:Nat)->(h:i<L.length)->yH M ev ok k:=fun i h=>⟨(L[i],(PT k).map fun j=>c.getD (i*k+j) undef),by
   have hg: ∀j,j<k-> ∃q,(ev L[i])[j]? =io q:=fun j A=>⟨_,Pl (by rw[e0];exact A)⟩
   refine⟨hl _ (P3 h),by simp,fun v hv=>?_,fun j q B=>?_⟩
   .rw[PW]at hv;obtain⟨j,A,rfl⟩:=hv;obtain⟨q,B⟩:=hg j (QM.1 A);exact(m0 i _ (Pl h) j q B).one (n1 _ q (PY B))
   .have A:j<k:=by rw[<-e0 L[i]];exact(Pj.1 B).1
    have:=m0 i _ (Pl h) j q B;rw[Pk,Pp,R1 A]
    exact this⟩
  haveI:Inhabited (yH M ev ok k):=⟨x0 0 k0⟩
  let d:Array (yH M ev ok k):=Array.ofFn (n:=L.length) fun i=>x0 i.1 i.2
  have D:d.size=L.length:=by simp[d]
  let enc:yH M ev ok k->List Value:=fun x=>x.1.2
  have I: ∀x,(enc x).length=k:=fun x=>x.2.2.1
  have z0: ∀i (h:i<L.length),d[i]! =x0 i h:=fun i h=>by
   rw[getElem!_pos d i (by rw[D];exact h)];simp[d]
  have hH:HoldsK enc k w (N.az 0) 0 d:=by
   intro t ht;rw[size_flatK,D]at ht;have B:t/k<L.length:=Nat.div_lt_of_lt_mul (by rw[SN];exact ht);have hm:t % k<k:=Nat.mod_lt _ r0;have hb:t/k*k+t % k=t:=Nat.div_add_mod' t k;have f1:t<c.size:=by omega
   constructor
   .simp only[World.cell?,h1,PO,Option.isSome_none,Q7,if_false];rw[get_flatK _ _ _ _ (by rw[D];exact ht),z0 _ B];show c[t]? =io (((PT k).map fun j=>c.getD (t/k*k+j) undef)[t % k]!);rw[getElem!_pos _ _ (by simpa using hm)];simp only[Q3,List.getElem_range,hb];rw[PR f1,Pg,PR f1];rfl
   .simp[World.frozen?,h1]
  have hO:SWO fun x y:yH M ev ok k=>lc (a0 x.1.1 y.1.1<0):=
   ⟨fun x=>decide_eq_false (H2 _ x.2.1),fun x y z a b=>decide_eq_true (tr _ _ _ x.2.1 y.2.1 z.2.1 (of_decide_eq_true a) (of_decide_eq_true b)),
    fun x y z a b=>decide_eq_false (Od _ _ _ x.2.1 y.2.1 z.2.1 (of_decide_eq_false a) (of_decide_eq_false b))⟩
  have R: ∀x:yH M ev ok k,VR M N (· <0) (ag (ev x.1.1)) (.agg (enc x).toArray):=fun x=>by
   refine .agg _ _ (by simp[I,e0]) fun j p A=>?_;rw[Pp,Pr]at A;obtain⟨q,B,rfl⟩:=A;refine .iv _ _ ?_;have:=x.2.2.2.2 j q B;rw[Pg,Qg,<-Pk];exact this
  have p0: ∀(m:Nat) (os:Array Obj) (dk:Array (yH M ev ok k)),dk.size=d.size-> ∀x y:yH M ev ok k,
    Calls P g (#[.agg (enc x).toArray,.agg (enc y).toArray]++ #[]) (grow (putRowK enc k (Sort.ahead w m) (N.az 0) 0 dk) os) fun e w'=>
     e= .returned (.int .i64 (a0 x.1.1 y.1.1))∧ ∃q a2,w'=grow ((grow (putRowK enc k (Sort.ahead w m) (N.az 0) 0 dk) os).drewN q) a2:=by
   intro m os dk _ x y;generalize hW:grow (putRowK enc k (Sort.ahead w m) (N.az 0) 0 dk) os=W;have f0: ∀b,b<w.heap.size->b≠N.az 0->W.heap[b]? =w.heap[b]? :=fun b hb hn=>by
    rw[<-hW];show((w.heap.modify (N.az 0) _)++os)[b]? =_;rw[P1 (by simpa using hb),PZ,be fun e=>hn e.symm]
   have v0:Rel M N (· <([]:List AO).length) (c8 0 []) W:=
    ⟨fun b c hb=>(hr.dZ b c hb).mono (f0 b (hr.dZ b c hb).lt fun e=>by
      have:=hr.dM 0 _ Z t0
      rw[e]at hb;rw[hb]at this;cases this),
     fun i o u=>(nomatch u),fun i o u=>(nomatch u),fun i o u=>(nomatch u),fun i j o p u=>(nomatch u)⟩
   refine((l1 x.1.1 y.1.1 x.2.1 y.2.1).2 M N W [.agg (enc x).toArray,.agg (enc y).toArray] v0 Z fun j p A=>?_).mono ?_
   .match j with
    |0=>cases A;exact R x
    |1=>cases A;exact R y
    |j+2=>simp at A
   .rintro e w' ⟨v,M',N',r,h',n',rfl,⟨rfl,rfl,rfl⟩,hx,_,hv⟩;cases hv with
    |iv _ _ h=>cases h;exact⟨rfl,H3 hx⟩
  have Y:=hS.1 enc I (fun x=>x.2.2.2.1) (fun x y=>a0 x.1.1 y.1.1) hO g #[] (N.az 0) 0 b0 d w j1 p0 hH s1 (by omega);rw[D]at Y;refine Y.mono ?_;rintro e w' ⟨rfl,d',n,os,hpm,hst,rfl⟩;have c0:d'.size=L.length:=hpm.1.trans D;have i1:(d'.toList.map fun x=>x.1.1)=l':=by
   have a1:(d.toList.map fun x=>x.1.1)=L:=by
    refine List.ext_getElem (by simpa using D) fun i h1 h2=>?_;have h3:i<L.length:=h2;have:=z0 i h3;rw[getElem!_pos d i (by omega)]at this;rw[Q3,Array.getElem_toList,this]
   have j0:d'.toList.Perm d.toList:=by
    have:=hpm.2.2;rw[show d'.extract 0 L.length=d' by rw[<-c0,SM],show d.extract 0 L.length=d by rw[<-D,SM]]at this;exact this
   refine uO ((j0.map _).trans (by rw[a1];exact hp)) ?_ hs fun x hx y hy a b=>?_
   .rw[Qu];intro i j u A p1;simp only[PS,Rt]at u A;have:=of_decide_eq_false (hst i j (PA _) p1 (by omega));rw[getElem!_pos d' i u,getElem!_pos d' j A]at this;simpa using this
   .have hm: ∀z,z∈(d'.toList.map fun x=>x.1.1)->z∈L:=fun z hz=>by
     rw[<-a1];exact((j0.map _).mem_iff).1 hz
    exact Mc x (hm x hx) y (hm y hy) b a
  subst i1;generalize hW:putRowK enc k (Sort.ahead w n) (N.az 0) 0 d'=w1;have q0:w1.heap=w.heap.modify (N.az 0) (onCells (putCells id 0 (flatK enc k d'))):=by rw[<-hW];rfl
  have d1:w1.heap.size=w.heap.size:=by rw[q0];simp
  have w0:OR M N (· <1) w1 0 (aF k (d'.toList.map fun x=>x.1.1) ev):=by
   refine .inr ⟨r0,putCells id 0 (flatK enc k d') c,T,?_,?_,?_,?_,?_⟩
   .rw[q0,PZ,am Z,h1];rfl
   .simp[putCells,h2]
   .simp only[PS,Rt,c0,putCells,Array.size_mapIdx];omega
   .intro i e he;obtain⟨s,_,rfl⟩:=uE he;simp[e0]
   .intro i e j p he A;obtain⟨s,b1,rfl⟩:=uE he;rw[Pp,Pr]at A;obtain⟨q,B,rfl⟩:=A;rw[Pp,Pr]at b1;obtain⟨y,hy,rfl⟩:=b1;have u:i<d'.size:=by
     have:=(Pj.1 hy).1;simpa using this
    have A:j<k:=by rw[<-e0 y.1.1];exact(Pj.1 B).1
    have i0:=PL k (show i+1<=d'.size from u);rw[Qo,Nat.one_mul]at i0;have m1:d'[i]! =y:=by
     rw[getElem!_pos d' i u];rw[PN,PR u]at hy;exact P7 hy
    have d0:(putCells id 0 (flatK enc k d') c).getD (i*k+j) undef=(enc y).getD j undef:=by
     have o1:i*k+j<c.size:=by rw[c0]at i0;omega
     rw[Pg];simp only[putCells,Array.getElem?_mapIdx];rw[PR o1,Qt,Qf,am ⟨PA _,by rw[size_flatK];omega⟩,RX,id,get_flatK _ _ _ _ (by omega)];have e1:(i*k+j)/k=i:=by rw[SN,Nat.mul_add_div r0,Nat.div_eq_of_lt A];rfl
     have e2:(i*k+j) % k=j:=by rw[SN,Nat.mul_add_mod,Nat.mod_eq_of_lt A]
     rw[e1,e2,m1,getElem!_pos _ j (by rw[I];exact A),Pk,Pl (by rw[I];exact A)];rfl
    rw[d0];exact .iv _ _ (y.2.2.2.2 j q B)
  have G:=hr.write (i:=0) (o0:=aF k L ev) Z t0 w1 (aF k (d'.toList.map fun x=>x.1.1) ev) (by rw[<-hW];rfl) (by rw[<-hW];rfl) (by rw[<-hW];rfl) d1 (fun b hb=>by
   rw[q0,PZ,be fun e=>hb e.symm]) w0 (by rw[<-hW];exact Sb _ _)
  have n0:Rel M N (· <1) ((0,io (aF k (d'.toList.map fun x=>x.1.1) ev))::c8 0 [aF k L ev]) (grow w1 os):=G.2.more fun b hb=>by
   show(w1.heap++os)[b]? =_;rw[P1 hb]
  have C: ∀i o,AH.get [(0,io (aF k (d'.toList.map fun x=>x.1.1) ev))] i=io o->AH.get ((0,io (aF k (d'.toList.map fun x=>x.1.1) ev))::c8 0 [aF k L ev]) i=io o:=by
   intro i o h;rw[AH.ay]at h ⊢;split at h
   .rename_i h6;rw[am h6];exact h
   .simp[AH.get]at h
  refine⟨_,M,N,.bq [],_,1,rfl,⟨rfl,rfl,rfl⟩,⟨G.1.os,G.1.tape,⟨G.1.output.out,G.1.output.drawn⟩,?_,?_,.refl _,fun b c h1 h2=>(nomatch (h1.symm.trans h2)),.refl _ _,fun _ h=>h,fun i o u=>G.1.fK i o (C i o u)⟩,?_,.bq [] #[] Z (by simp)⟩
  .show w.heap.size<=(grow w1 os).heap.size;rw[size_grow,d1];omega
  .intro b hb hn;have h7:=G.1.fN b hb hn;show(w1.heap++os)[b]? =_;rw[P1 (by omega)];exact h7
  .exact⟨n0.dZ,fun i o u=>n0.used i o (C i o u),fun i o u=>n0.dM i o (C i o u),fun i o u=>n0.obj i o (C i o u),fun i j o p u A=>n0.inj i j o p (C i o u) (C j p A)⟩
end Go.Al
namespace Go.Al
open Go.MapKept
section
section
variable {P:Program} {ty:Ty} {nt:Nat} {s:AS} {Q:AQ} {k:List KI}
theorem uH(Y:bx P ty){o:Oper}{t:TypeId}{x:Operand}(ho:o.op= .range t x){i:Nat}{kc:KC}{V:Type}{e:V->IV}{z:V}{I:Value}{G:PV->V}{m:List (kc.K×V)}(hx:ev s.f x= .mp i)(hi:s.h.get i=io (.map kc e z I G m))
  {te:bE} (ht:ty t=io te) {kt et:TypeId} (R:te.k= .aM (.map kt et)) {d:Nat} (hd:o.dst=io d) (hlt:d<nt):
  OT P nt o s fun u=> ∃bs clock,bs.length=m.length∧bs.Nodup∧(∀b∈bs,b<clock)∧u=⟨(d,.ptr s.nx 0)::s.f,(s.nx,io (.dO (.mp i) clock []))::(i,io (.gI kc e z I G m bs clock))::s.h,s.nx+1⟩:=by
 have hu:P.underlying t=io (.map kt et):=by
  have:=(Y _ _ ht).2.1;rw[R]at this;exact this.1
 intro M N a w A K Z hk;have B:=aH A.2.1 x;rw[hx]at B;have J:a.eval x= .map (io (N.az i)):=by
  generalize a.eval x=y at B;cases B;rfl
 obtain⟨ents,clock,g1,g2,g3⟩:=A.1.obj i _ hi;obtain⟨q1,q2⟩:=A.1.write hi rfl w (.gI kc e z I G m (ents.toList.map MapEntry.born) clock) rfl rfl rfl rfl (fun _ _=>rfl) ⟨ents,g1,g2,g3,rfl⟩
 obtain⟨D,r1,r2,r3,r4,r5⟩:=q2.alloc (.mapIter (io (N.az i)) clock #[] clock) (.dO (.mp i) clock []) 0 (fun D h1 h2 h3=>
  ⟨N.az i,by have:=VR.mp (M:=M) (N:=D) (U:=(· <s.nx+1)) i (QR (A.1.used i _ hi));rwa[h3.az i (A.1.used i _ hi)]at this,by rw[h1];exact heap_alloc_new w _⟩)
 have C:(execOp a.eval o).run P w= .ok (.value (.pointer (io ⟨w.heap.size,0,is⟩))) (w.alloc (.mapIter (io (N.az i)) clock #[] clock)):=by
  simp only[execOp,ho,J];simp[Instr.range,run_underlying hu,getObj,Sem.run,g1,Result.andThen]
 unfold Oper.wp;rw[C];simp only[Oper.upon];refine hk M D _ _ _ (q1.trans r4) ?_ ⟨_,clock,by simp[g2.size],?_,fun b hb=>?_,rfl⟩
 .rw[hd];refine Fits.put (s:=⟨s.f,(s.nx,io (.dO (.mp i) clock []))::(i,io (.gI kc e z I G m (ents.toList.map MapEntry.born) clock))::s.h,s.nx+1⟩) ⟨r5,fun d=>(A.2.1 d).mono (.refl _) r3 (fun i hi=>QR hi),A.2.2⟩ d _ _ hlt ?_;have:=VR.ptr (M:=M) (N:=D) (U:=(· <s.nx+1)) s.nx 0 (by omega);rw[r1]at this;exact this
 .rw[List.Nodup,RT,Qu];intro p q hp hq b0 he;have:=g2.inj p q _ _ (by rw[<-PN,Pl hp]) (by rw[<-PN,Pl hq]) he;omega
 .obtain⟨x,a0,rfl⟩:=PW.1 hb;obtain⟨j,hj⟩:=P9 a0;exact g2.lt j x (by simpa using hj)
theorem xX{o:Oper}{it:Operand}(ho:o.op= .next it kw){i j:Nat}(n0:ev s.f it= .ptr i 0){kc:KC}{V:Type}{e:V->IV}{z:V}{zv:Value}{dv:PV->V}{m:List (kc.K×V)}{bs A:List Nat}{clock:Nat}
  (hi:s.h.get i=io (.dO (.mp j) clock A)) (hj:s.h.get j=io (.gI kc e z zv dv m bs clock)) {d:Nat} (hd:o.dst=io d) (hlt:d<nt):
  OT P nt o s fun u=>((∀(q b:Nat),bs[q]? =io b->b∈A)∧u=⟨(d,.bq [.kb kw])::s.f,s.h,s.nx⟩)∨
   ∃(q:Nat) (x:kc.K×V) (b:Nat),m[q]? =io x∧bs[q]? =io b∧b∉A∧u=⟨(d,.bq [.kb jp,kc.pk x.1,(e x.2).pv])::s.f,(i,io (.dO (.mp j) clock (A++ [b])))::s.h,s.nx⟩:=by
 intro M N a w hf K Z hk;have hx:=aH hf.2.1 it;rw[n0]at hx;have g0:=hf.1.obj i _ hi;have a0:N.az i<w.heap.size:=OR.lt g0 rfl;have f0:a.eval it= .pointer (io ⟨N.az i,0,is⟩):=by
  generalize a.eval it=y at hx;cases hx;rfl
 obtain⟨b0,d0,h1⟩:=g0;have m0:b0=N.az j:=by cases d0;rfl
 subst m0;obtain⟨ents,hb,h3,h4,h5⟩:=hf.1.obj j _ hj;have c0: ∀x∈ents.toList,x.born<clock:=by
  intro x hx;obtain⟨j,hj⟩:=P9 hx;exact h3.lt j x (by simpa using hj)
 have e0: ∀q (G:q<ents.size),bs[q]? =io ents[q].born:=fun q G=>by
  rw[<-h5,Pp,PN,PR G];rfl
 unfold Oper.wp;rcases run_next_at (P:=P) w o.type (N.az i) (N.az j) clock clock A.toArray ents clock h1 hb c0 (Ps _) with⟨g1,g2⟩|⟨x,k0,I,j0,g2⟩
 .have D:(execOp a.eval o).run P w= .ok (.value (.tuple #[.bool kw])) w:=by
   simp only[execOp,ho,f0];exact aW g2
  rw[D];simp only[Oper.upon]
  refine hk M N ⟨(d,.bq [.kb kw])::s.f,s.h,s.nx⟩ _ w (.refl _ _ _ _ _) (by
   rw[hd]
   exact hf.put d _ _ hlt (.bq _ _ rfl fun j p C=>by
    match j with
    |0=>simp at C;subst C;exact .kb _
    |j+1=>simp at C)) (.inl ⟨fun q b G=>?_,rfl⟩)
  have p0:q<ents.size:=by
   have:=(Pj.1 G).1;rw[<-h5]at this;simpa using this
  rw[e0 q p0]at G;cases G;refine Decidable.byContradiction fun hn=>?_
  have:ents[q]∈leftOf ents A.toArray:=by
   simp only[leftOf,Sa];exact⟨by simp,by simpa using hn⟩
  rw[Qw g1]at this;simp at this
 .have D:(execOp a.eval o).run P w= .ok (.value (.tuple #[.bool jp,x.key,x.val])) (lS I (N.az i) (.mapIter (io (N.az j)) clock (A.toArray.push x.born) clock)):=by
   simp only[execOp,ho,f0];rw[Sem.run_bind,g2];rfl
  rw[D];simp only[Oper.upon];simp only[leftOf,Array.mem_toList_iff,Sa]at k0;obtain⟨r0,s0⟩:=k0;obtain⟨q,G,i0⟩:=Array.getElem_of_mem r0;have q0:q<m.length:=by rw[<-h3.size];exact G
  have Y:m[q]? =io m[q]:=Pl q0;have B:I.heap=w.heap∧I.os=w.os∧I.tape=w.tape∧I.output=w.output:=by
   rcases j0 with rfl|rfl<;>exact⟨rfl,rfl,rfl,rfl⟩
  have o0:OR M N (· <s.nx) (lS I (N.az i) (.mapIter (io (N.az j)) clock (A.toArray.push x.born) clock)) i (.dO (.mp j) clock (A++ [x.born])):=by
   refine⟨N.az j,d0,?_⟩;show(I.heap.setIfInBounds _ _)[_]? =_;rw[PM,am rfl,B.1,am a0];simp
  obtain⟨q1,q2⟩:=hf.1.write hi rfl (lS I (N.az i) (.mapIter (io (N.az j)) clock (A.toArray.push x.born) clock)) _ B.2.1 B.2.2.1 B.2.2.2 (by simp[lS,B.1]) (fun c hc=>by
   show(I.heap.setIfInBounds _ _)[c]? =_
   rw[PM,be (fun e=>hc e.symm),B.1]) o0 (j0.elim (fun e=>e▸Ps _) fun e=>e▸QO _)
  have J:=h3.key q _ Y;have R:=h3.val q _ Y;rw[h3.zy G,i0]at J R
  refine hk M N ⟨(d,.bq [.kb jp,kc.pk m[q].1,(e m[q].2).pv])::s.f,(i,io (.dO (.mp j) clock (A++ [x.born])))::s.h,s.nx⟩ _ _ q1 (by
   rw[hd];refine Fits.put (s:=⟨s.f,(i,io (.dO (.mp j) clock (A++ [x.born])))::s.h,s.nx⟩) ⟨q2,hf.2⟩ d _ _ hlt (.bq _ _ rfl fun q p C=>?_)
   match q with
   |0=>simp at C;subst C;exact .kb _
   |1=>simp at C;subst C;simp only[Pg];simp;rw[J];exact uN kc _
   |2=>simp at C;subst C;exact uI R
   |q+3=>simp at C) (.inr ⟨q,m[q],x.born,Y,by rw[e0 q G,i0],by simpa using s0,rfl⟩)
theorem vm{o:Oper}{Y:Operand}(ho:o.op= .entry Y){i j:Nat}(e0:ev s.f Y= .ptr i 0){kc:KC}{V:Type}{e:V->IV}{z:V}{zv:Value}{dv:PV->V}{m:List (kc.K×V)}{bs A:List Nat}{clock:Nat}
  (hi:s.h.get i=io (.dO (.mp j) clock A)) (hj:s.h.get j=io (.gI kc e z zv dv m bs clock)) {q:Nat} {x:kc.K×V} {b:Nat} (hl:A.getLast? =io b) (hq:bs[q]? =io b) (hm:m[q]? =io x) {s':AS}
  (hp:putDst nt o (.bq [kc.pk x.1,(e x.2).pv]) s=io s'):OT P nt o s fun u=>u=s':=by
 refine OT.value hp fun M N a w hf=>?_;have hx:=aH hf.2.1 Y;rw[e0]at hx
 have d0:a.eval Y= .pointer (io ⟨N.az i,0,is⟩):=by
  generalize a.eval Y=y at hx;cases hx;rfl
 obtain⟨b0,a0,h1⟩:=hf.1.obj i _ hi;have c0:b0=N.az j:=by cases a0;rfl
 subst c0;obtain⟨ents,hb,h3,h4,h5⟩:=hf.1.obj j _ hj;have I:q<ents.size:=by
  have:=(Pj.1 hq).1;rw[<-h5]at this;simpa using this
 have J:ents[q].born=b:=by
  rw[<-h5,Pp,PN,PR I]at hq;simpa using hq
 have B:=h3.key q _ hm;have C:=h3.val q _ hm;rw[h3.zy I]at B C;have G:ents.find? (fun e=>e.born==b)=io ents[q]:=by
  rw[Array.find?_eq_some_iff_getElem];refine⟨by simp[J],q,I,rfl,fun p f0=>?_⟩;simp only[Qp,beq_eq_false_iff_ne];intro he;have:=h3.inj p q ents[p] ents[q] (by simp) (by simp) (he.trans J.symm);omega
 refine⟨.tuple #[ents[q].key,ents[q].val],w,M,N,?_,.refl _ _ _ _ _,hf,?_⟩
 .simp only[execOp,ho,d0];refine aW ?_;have D:A.toArray.back? =io b:=by simpa using hl
  simp[Instr.entry,getObj,Sem.run,h1,hb,D,G,Result.andThen]
 .refine .bq _ _ Z fun p r R=>?_
  match p with
  |0=>simp at R;subst R;simp only[Pg];simp;rw[B];exact uN kc _
  |1=>simp at R;subst R;exact uI C
  |p+2=>simp at R
theorem zY(C:bx P ty){o:Oper}{J ko:Operand}{t t':TypeId}(ho:o.op= .call ⟨.builtin .delete, #[J,ko], #[t,t']⟩){j:Nat}(hm:ev s.f J= .mp j){kc:KC}{V:Type}{e:V->IV}{z:V}{zv:Value}{Y:PV->V}{m:List (kc.K×V)}{bs:List Nat}{clock:Nat}
  (hj:s.h.get j=io (.gI kc e z zv Y m bs clock)) {te:bE} (ht:ty t=io te) {kt et:TypeId} (d0:te.k= .aM (.map kt et)) (I:di ty kt=io kc) {R:kc.K} (b0:kc.dk (ev s.f ko)=io R) {q:Nat} (D:ji kc m R=io q) {s':AS}
  (hp:putDst nt o .any ⟨s.f,(j,io (.gI kc e z zv Y (m.eraseIdx q) (bs.eraseIdx q) clock))::s.h,s.nx⟩=io s'):OT P nt o s fun u=>u=s':=by
 have hu:P.underlying t=io (.map kt et):=by
  have:=(C _ _ ht).2.1;rw[d0]at this;exact this.1
 refine OT.value hp fun M N a w A=>?_;have e0:=Bt b0 (aH A.2.1 ko);have B:=aH A.2.1 J;rw[hm]at B
 have i0:a.eval J= .map (io (N.az j)):=by
  generalize a.eval J=y at B;cases B;rfl
 obtain⟨ents,h1,h2,h3,h4⟩:=A.1.obj j _ hj;have f0:=OR.lt (A.1.obj j _ hj) Z;have a0:=jH (P:=P) (w:=w) C I R ents.isEmpty 9994;have G:=lk (P:=P) (w:=w) C I R h2.keys;rw[D]at G;have hg:(getObj (N.az j)).run P w= .ok (.map ents clock) w:=by simp[getObj,Sem.run,h1]
 obtain⟨v,g0,_⟩:=kE D;have j0:=(Pj.1 g0).1;have c0:=h2.erase j0
 obtain⟨g3,g4⟩:=A.1.write hj Z (lS w (N.az j) (.map (ents.eraseIdxIfInBounds q) clock)) (.gI kc e z zv Y (m.eraseIdx q) (bs.eraseIdx q) clock) Z Z Z (by simp[lS]) (fun b hb=>by
  show(w.heap.setIfInBounds _ _)[b]? =_
  rw[PM,be (fun e=>hb e.symm)]) ⟨ents.eraseIdxIfInBounds q,by
   show(w.heap.setIfInBounds _ _)[_]? =_;rw[PM,am Z,am f0],c0,h3,by
   rw[<-h4];have key: ∀(l:List MapEntry) (n:Nat),(l.eraseIdx n).map MapEntry.born=(l.map MapEntry.born).eraseIdx n:=by
    intro l
    induction l with
    |nil=>intro n;rfl
    |cons x l ih=>intro n;cases n with
     |zero=>rfl
     |succ n=>simp[List.eraseIdx,ih n]
   simp[key]⟩
 refine⟨.tuple #[],_,M,N,?_,g3,⟨g4,A.2.1,A.2.2⟩,.any _⟩;simp only[execOp,ho,resolve];simp[invoke,builtin,i0,e0,Builtin.delete_,run_underlying hu,hg,a0,G,gV (P:=P) _ h1]
theorem ID{kc:KC}{V:Type}{e:V->IV}{z:V}{j:Value}{b:PV->V}{m:List (kc.K×V)}{bs:List Nat}{clock:Nat}:dT (.gI kc e z j b m bs clock) (.map kc e z j b m):=
 ⟨fun _=>rfl,fun _ _ _ _ _ ⟨ents,h1,h2,h3,_⟩=>⟨ents,clock,h1,h2,h3⟩⟩
end
def jP(bs vs:List Nat):List Nat:=vs.map fun j=>bs.getD j 0
theorem sd{bs vs:List Nat}{q b:Nat}(hb:bs[q]? =io b)(h:b∉jP bs vs):q∉vs:=fun m=>h (PW.2 ⟨q,m,by rw[Pk,hb];rfl⟩)
theorem Dx{bs vs:List Nat}(hn:bs.Nodup)(C: ∀j∈vs,j<bs.length)(h: ∀(q b:Nat),bs[q]? =io b->b∈jP bs vs): ∀q,q<bs.length->q∈vs:=by
 intro q y;obtain⟨j,A,x⟩:=PW.1 (h q _ (Pl y));have u:=C j A;rw[Pk,Pl u,Qf]at x;have:j=q:=by
  have B:=Qu.1 hn;rcases Rz j q with g|g|g
  .exact absurd x (B j q u y g)
  .exact g
  .exact absurd x.symm (B q j y u g)
 exact this▸A
theorem vG{n:Nat}{vs:List Nat}(hn:vs.Nodup)(b: ∀j∈vs,j<n)(h: ∀q,q<n->q∈vs):vs.Perm (PT n):=
 (QX hn List.nodup_range).2 fun q=>⟨fun m=>QM.2 (b q m),fun m=>h q (QM.1 m)⟩
theorem yJ{n:Nat}{vs:List Nat}(hn:vs.Nodup)(u: ∀j∈vs,j<n):vs.length<=n:=by
 have:=Qx hn (l₂:=PT n) (fun i b=>QM.2 (u i b));simpa using this
theorem fJ{α:Type}(m:List α)(d:α):(PT m.length).map (fun j=>m.getD j d)=m:=by
 refine List.ext_getElem (by simp) fun i h1 b=>?_;simp[Pl b]
theorem Eo{α:Type}{m:List α}{d:α}{bs vs:List Nat}(hl:bs.length=m.length)(hn:bs.Nodup)(h1:vs.Nodup)(x: ∀j∈vs,j<m.length)(h: ∀(q b:Nat),bs[q]? =io b->b∈jP bs vs):(vs.map fun j=>m.getD j d).Perm m:=by
 have:=(vG h1 (fun j u=>x j u) fun q y=>Dx hn (fun j u=>by rw[hl];exact x j u) h q (by rw[hl];exact y)).map fun j=>m.getD j d;rwa[fJ]at this
theorem uB{bs vs:List Nat}{b:Nat}:(jP bs vs++ [b]).getLast? =io b:=by simp
theorem px{bs vs:List Nat}{q b:Nat}(hb:bs[q]? =io b):jP bs (vs++ [q])=jP bs vs++ [b]:=by
 unfold jP;rw[PF,List.map_singleton,Pk,hb];rfl
section
variable {P:Program} {nt:Nat} {Q:AQ} {k:List KI} {s:AS}
theorem Bf{body:Code}(n:Nat)(I:List Nat->AS)(J:List Nat->Prop)(B:List Nat)(R:J [])(h0:Wk s.nx B s (I []))
  (x: ∀vs:List Nat,vs.Nodup->(∀j∈vs,j<n)->J vs->GO P nt (.code body:: .lp (fun t=> ∃j,j<n∧j∉vs∧J (vs++ [j])∧ ∃L,Wk s.nx L t (I (vs++ [j])))::k) Q (I vs)):GO P nt (.code (.loop body)::k) Q s:=by
 refine gn (σ:={vs:List Nat//vs.Nodup∧(∀j∈vs,j<n)∧J vs}) (fun v=>I v.1) (fun v=>n-v.1.length) ⟨[],P6,by simp,R⟩ B h0 fun v=>?_;obtain⟨vs,h1,C,D⟩:=v;refine lf ?_ (x vs h1 C D)
 rintro t ⟨j,g1,g2,g3,L,g4⟩;have u: ∀i∈vs++ [j],i<n:=by
  intro i hi;rcases PG.1 hi with hi|hi
  .exact C i hi
  .rw[Pw.1 hi];exact g1
 have A:(vs++ [j]).Nodup:=by
  rw[QS];refine⟨h1,by simp,fun a G b hb=>?_⟩;rw[Pw.1 hb];intro e;exact g2 (e▸G)
 have y:(vs++ [j]).length<=n:=by
  have:=Qx A (l₂:=PT n) (fun i hi=>QM.2 (u i hi));simpa using this
 refine⟨⟨vs++ [j],A,u,g3⟩,L,?_,g4⟩;show n-(vs++ [j]).length<n-vs.length;simp only[Pn,Qn]at y ⊢;omega
end
section
variable {n i:Nat} {σ:Nat->Nat} {h r:AH}
theorem ow{V:Type}{kc:KC}{ev:V->IV}{z:V}{u:Value}{b:PV->V}{m j:List (kc.K×V)}{bs:List Nat}{clock:Nat}(ho:h.get (σ i)=io (.gI kc ev z u b m bs clock))(he:m=j)(hi:PI i n=jp)(hr:mG n σ h r):mG n σ h ((i,io (.map kc ev z u b j))::r):=
 ⟨⟨_,ho,by subst he;exact ID⟩,Pf hi,ac,hr⟩
end
theorem q9{l:List Nat}(hn:l.Nodup){q j:Nat}(h:l[q]? =io j):l.eraseIdx q=l.filter fun x=>!(x==j):=by
 induction l generalizing q with
 |nil=>simp at h
 |cons y r ih=>
  rw[P0]at hn;cases q with
  |zero=>
   simp at h;subst h;rw[List.eraseIdx_zero,List.tail_cons,Ra];simp only[beq_self_eq_true,RO,Q7,if_false]
   symm
   rw[R2];intro x A;have: ¬x=y:=fun e=>hn.1 (e▸A)
   simpa using this
  |succ q=>
   have b:r[q]? =io j:=by simpa using h
   have u:j∈r:=PY b;have: ¬y=j:=fun e=>hn.1 (e▸u);rw[List.eraseIdx_cons_succ,ih hn.2 b,Ra,am (by simpa using this)]
theorem jY{α β:Type}(f:α->β): ∀(l:List α) (q:Nat),(l.map f).eraseIdx q=(l.eraseIdx q).map f
 | [],_=>rfl
 |_::_,0=>rfl
 |x::r,q+1=>by simp[List.eraseIdx,jY f r q]
def fT(n:Nat)(dl:Nat->Bool)(vs:List Nat):List Nat:=(PT n).filter fun j=>!(lc (j∈vs)&&dl j)
section
variable {n:Nat} {dl:Nat->Bool} {vs:List Nat}
theorem u5:fT n dl []=PT n:=by
 unfold fT;rw[R2];intro j _;simp
theorem yf:(fT n dl vs).Nodup:=RD _ List.nodup_range
theorem yg: ∀j∈fT n dl vs,j<n:=fun _ b=>QM.1 (PU.1 b).1
theorem zo{j:Nat}(h:dl j=kw):fT n dl (vs++ [j])=fT n dl vs:=by
 unfold fT;refine Rp fun i _=>?_;by_cases e:i=j
 .subst e;simp[h]
 .simp[e]
theorem Cv{j q:Nat}(h:dl j=jp)(b:(fT n dl vs)[q]? =io j):fT n dl (vs++ [j])=(fT n dl vs).eraseIdx q:=by
 rw[q9 yf b];unfold fT;rw[List.filter_filter];refine Rp fun i _=>?_;by_cases e:i=j
 .subst e;simp[h]
 .simp[e]
theorem Cw(h: ∀j∈fT n dl vs,j∈vs):fT n dl vs=(PT n).filter fun j=>!dl j:=by
 unfold fT at*
 refine Rp fun i b=>?_;by_cases e:i∈vs
 .simp[e]
 .have:i∈(PT n).filter fun j=>!(lc (j∈vs)&&dl j):=PU.2 ⟨b,by simp[e]⟩
  exact absurd (h i this) e
end
abbrev ma{α:Type}(m:List α)(d:α)(dl:Nat->Bool)(vs:List Nat):List α:=(fT m.length dl vs).map fun j=>m.getD j d
abbrev nj(n:Nat)(bs:List Nat)(dl:Nat->Bool)(vs:List Nat):List Nat:=(fT n dl vs).map fun j=>bs.getD j 0
section
variable {α:Type} {m:List α} {d:α} {dl:Nat->Bool} {vs:List Nat} {bs:List Nat}
theorem Cr:ma m d dl []=m:=by unfold ma;rw[u5,fJ]
theorem Cq:(ma m d dl vs).Sublist m:=by
 have h:((fT m.length dl vs).map fun j=>m.getD j d).Sublist ((PT m.length).map fun j=>m.getD j d):=List.Sublist.map _ List.filter_sublist;rwa[fJ]at h
theorem Cs(h:bs.length=m.length):nj m.length bs dl []=bs:=by unfold nj;rw[u5,<-h,fJ]
theorem left_at{q b:Nat}{x:α}(hl:bs.length=m.length)(h1:(ma m d dl vs)[q]? =io x)(y:(nj m.length bs dl vs)[q]? =io b): ∃j,(fT m.length dl vs)[q]? =io j∧m[j]? =io x∧bs[j]? =io b∧j<m.length:=by
 rw[Pp,Pr]at h1 y;obtain⟨j,g1,g2⟩:=h1;obtain⟨A,g3,g4⟩:=y;rw[g1]at g3;cases g3;have u:=yg j (PY g1);refine⟨j,g1,?_,?_,u⟩
 .rw[<-g2,Pk,Pl u];rfl
 .rw[<-g4,Pk,Pl (by rw[hl];exact u)];rfl
theorem Eu{q j:Nat}(h:dl j=jp)(b:(fT m.length dl vs)[q]? =io j):ma m d dl (vs++ [j])=(ma m d dl vs).eraseIdx q∧nj m.length bs dl (vs++ [j])=(nj m.length bs dl vs).eraseIdx q:=by
 unfold ma nj;rw[Cv h b,jY,jY];exact⟨rfl,rfl⟩
theorem Ev(hl:bs.length=m.length)(hn:bs.Nodup)(J: ∀j∈vs,j<m.length)(D:α->Bool)(B: ∀j,dl j=D (m.getD j d))(h: ∀(q b:Nat),(nj m.length bs dl vs)[q]? =io b->b∈jP bs vs):ma m d dl vs=m.filter fun e=>!D e:=by
 have key: ∀j∈fT m.length dl vs,j∈vs:=by
  intro j y;obtain⟨q,I⟩:=P9 y;have G:=yg j y;have hb:=h q (bs.getD j 0) (by unfold nj;rw[Pp,I];rfl);obtain⟨i,x,u⟩:=PW.1 hb;have C:=J i x;rw[Pk,Pk,Pl (by omega:i<bs.length),Pl (by omega:j<bs.length),Qf,Qf]at u;have A:=Qu.1 hn;rcases Rz i j with g|g|g
  .exact absurd u (A i j (by omega) (by omega) g)
  .exact g▸x
  .exact absurd u.symm (A j i (by omega) (by omega) g)
 unfold ma;rw[Cw key];have:=congrArg (List.filter fun e=>!D e) (fJ m d);rw[<-this,List.filter_map];congr 1;refine Rp fun i _=>?_;simp[B]
end
theorem Bm{kc:KC}{V:Type}: ∀{m:List (kc.K×V)} {q:Nat} {x:kc.K×V},(m.map (·.1)).Nodup->m[q]? =io x->ji kc m x.1=io q
 | [],q,x,_,h=>by simp at h
 |(a,b)::r,0,x,_,h=>by
  simp at h;subst h;simp[ji]
 |(a,b)::r,q+1,x,hn,h=>by
  rw[Py,P0]at hn;have j:r[q]? =io x:=by simpa using h
  have: ¬a=x.1:=fun e=>hn.1 (PW.2 ⟨x,PY j,e.symm⟩);simp[ji,this,Bm hn.2 j]
def Nm.one(b e:Nat):Nm:=⟨fun _=>b,fun _=>e⟩
inductive SB:Type 1 where
 |obj (o:AO) (e:Nat)
 |out (i e:Nat)
abbrev bn:=Nat->Option SB
def bn.nil:bn:=fun _=>is
def bn.put(X:bn)(b:Nat)(x:SB):bn:=fun c=>if c=b then io x else X c
def bn.still(X:bn):Prop:= ∀b i e,X b≠io (.out i e)
theorem bn.eO(X:bn)(b:Nat)(x:SB):X.put b x b=io x:=by simp[bn.put]
theorem bn.iy(X:bn){b c:Nat}(x:SB)(h:c≠b):X.put b x c=X c:=by simp[bn.put,h]
theorem bn.Hx(X:bn)(b:Nat)(x y:SB):(X.put b x).put b y=X.put b y:=by
 funext c;simp only[bn.put];split<;>rfl
structure dY (M:Mem) (N:Nm) (n:Nat) (h:AH) (X:bn) (w:World):Prop where
 real: ∀b o e,X b=io (.obj o e)->o.real=jp
 obj: ∀b o e,X b=io (.obj o e)->OR M (Nm.one b e) (fun _=>False) w 0 o
 dZ: ∀b o e,X b=io (.obj o e)->M b=is
 apart: ∀b o e,X b=io (.obj o e)-> ∀i p,h.get i=io p->p.real=jp->N.az i≠b
 out: ∀b i e,X b=io (.out i e)->i<n∧N.az i=b∧N.ext i=e
def AO.all(G:PV->Prop):AO->Prop
 | .cells cs _=> ∀p∈cs,G p
 | .row _ es=> ∀e∈es,∀p∈e,G p
 | .dO q _ _=>G q
 |_=>True
theorem AO.all_true(o:AO):o.all fun _=>True:=by cases o<;>simp[AO.all]
theorem OR.move{M J:Mem}{N B:Nm}{U U':Nat->Prop}{w I:World}{i D:Nat}{o:AO}{G:PV->Prop}(hM:M.le J)(Y:o.all G)(hV: ∀p x,G p->VR M N U p x->VR J B U' p x)
  (hb:B.az D=N.az i) (he:B.ext D=N.ext i) (hw:I.heap[N.az i]? =w.heap[N.az i]?) (h:OR M N U w i o):OR J B U' I D o:=by
 cases o with
 |cells cs T0=>
  obtain⟨c,T,h1,u,y,A,R⟩:=h;exact⟨c,T,by rw[hb,hw,h1],by rw[he,u],y,fun j p C=>hV _ _ (Y p (PY C)) (A j p C),R⟩
 |row sz es=>
  rcases h with h|⟨h0,c,T,h1,u,y,A,R⟩
  .exact .inl h
  exact .inr ⟨h0,c,T,by rw[hb,hw,h1],by rw[he,u],y,A,fun k e j p hk C=>hV _ _ (Y e (PY hk) p (PY C)) (R k e j p hk C)⟩
 |bp l T=>
  rcases h with h|⟨c,h1,u,y,A⟩
  .exact .inl h
  exact .inr ⟨c,by rw[hb,hw,h1],by rw[he,u],y,A⟩
 |ff=>show I.heap[B.az D]? =_;rw[hb,hw];exact h
 |map kc ev z zv dv m=>
  obtain⟨e,cl,h1,u,y⟩:=h;exact⟨e,cl,by rw[hb,hw,h1],u.mono hM,y.mono hM⟩
 |bI kc ev m l cu=>
  rcases h with⟨h1,u,y,A⟩|⟨b,e,cl,se,h1,u,y,A⟩
  .exact .inl ⟨h1,u,y,by rw[hb,hw,A]⟩
  .exact .inr ⟨b,e,cl,se,by rw[hb,hw,h1],hM _ _ u,y.mono hM,A⟩
 |dJ s p=>show I.heap[B.az D]? =_;rw[hb,hw];exact h
 |gI kc ev z zv dv m bs c=>
  obtain⟨e,h1,u,y,A⟩:=h;exact⟨e,by rw[hb,hw,h1],u.mono hM,y.mono hM,A⟩
 |dO q c l=>
  obtain⟨b,h1,u⟩:=h;exact⟨b,hV _ _ Y h1,by rw[hb,hw,u]⟩
theorem VR.AN{M b:Mem}{N j:Nm}{u:Nat->Prop}(hM:M.le b){p:PV}{x:Value}(h:VR M N (fun _=>False) p x):VR b j u p x:=
 h.mono hM ⟨fun _ h=>h.elim,fun _ h=>h.elim⟩ (fun _ h=>h.elim)
def PV.flat:PV->Prop
 | .iv _=>True
 | .kb _=>True
 | .any=>True
 |_=>False
theorem VR.GY{M:Mem}{N j:Nm}{U u:Nat->Prop}{p:PV}{x:Value}(hp:p.flat)(h:VR M N U p x):VR M j u p x:=by
 cases h with
 |iv x y h=>exact .iv _ _ h
 |kb b=>exact .kb _
 |any x=>exact .any _
 |_=>exact hp.elim
def Own(N:Nm)(h:AH)(X:bn)(b:Nat):Prop:=(∃i o,h.get i=io o∧o.real=jp∧N.az i=b)∨ ∃o e,X b=io (.obj o e)
structure jt (M:Mem) (N:Nm) (n:Nat) (h:AH) (X:bn) (w:World) (M':Mem) (N':Nm) (n':Nat) (h':AH) (X':bn) (w':World):Prop where
 os:w'.os=w.os
 tape:w'.tape=w.tape
 output:qV w w'
 size:w.heap.size<=w'.heap.size
 fN: ∀b,b<w.heap.size-> ¬Own N h X b->w'.heap[b]? =w.heap[b]?
 ov:M.le M'
 gx: ∀b c,M b=is->M' b=io c->w.heap.size<=b∨Own N h X b
 nm:N.agree N' (· <n)
 ule:n<=n'
 fK: ∀b,Own N' h' X' b->w.heap.size<=b∨Own N h X b
theorem jt.refl(M:Mem)(N:Nm)(n:Nat)(h:AH)(X:bn)(w:World):jt M N n h X w M N n h X w:=
 ⟨rfl,rfl,⟨rfl,Ps _⟩,Ps _,fun _ _ _=>rfl,.refl _,fun b c h1 j=>by simp[h1]at j,.refl _ _,Ps _,fun _ h=> .inr h⟩
theorem jt.trans{M u x:Mem}{N y A:Nm}{n I J:Nat}{h h1 D:AH}{X B C:bn}{w R Y:World}
  (a:jt M N n h X w u y I h1 B R) (b:jt u y I h1 B R x A J D C Y):jt M N n h X w x A J D C Y where
 os:=b.os.trans a.os
 tape:=b.tape.trans a.tape
 output:=b.output.trans a.output
 size:=Qa a.size b.size
 fN:=fun k hk G=>by
  rw[b.fN k (Ri hk a.size) (fun ho=>?_),a.fN k hk G];rcases a.fK k ho with h3|h3
  .omega
  .exact G h3
 ov:=a.ov.trans b.ov
 gx:=fun k c h3 h4=>by
  cases h5:u k with
  |some c'=>exact a.gx k c' h3 h5
  |none=>
   rcases b.gx k c h5 h4 with h6|h6
   .exact .inl (Qa a.size h6)
   .exact a.fK k h6
 nm:=⟨fun i j=>(b.nm.az i (Ri j a.ule)).trans (a.nm.az i j),fun i j=>(b.nm.ext i (Ri j a.ule)).trans (a.nm.ext i j)⟩
 ule:=Qa a.ule b.ule
 fK:=fun k hk=>by
  rcases b.fK k hk with h3|h3
  .exact .inl (Qa a.size h3)
  .exact a.fK k h3
theorem jt.frame{M R:Mem}{N Y:Nm}{n J:Nat}{h h':AH}{X:bn}{w w':World}(x:Ext M N (· <n) h w R Y (· <J) h' w')(hs:dY M N n h X w):
  jt M N n h X w R Y J h' X w'∧dY R Y J h' X w':=by
 have D: ∀b o e,X b=io (.obj o e)->b<w.heap.size:=fun b o e hb=>(hs.obj b o e hb).lt (hs.real b o e hb);have B:n<=J:=Rj fun hh=>absurd (x.ule J hh) (SI _);refine⟨⟨x.os,x.tape,x.output,x.size,fun b hb hn=>x.fN b hb fun i o hi I he=>hn (.inl ⟨i,o,hi,I,he⟩),x.ov,fun b c h1 h2=>?_,x.nm,B,fun b hb=>?_⟩,hs.real,fun b o e hb=>?_,fun b o e hb=>?_,fun b o e hb i p hi I a0=>?_,fun b i e hb=>?_⟩
 .rcases x.gx b c h1 h2 with u|⟨i,o,u,C,A⟩
  .exact .inl u
  .exact .inr (.inl ⟨i,o,u,C,A⟩)
 .rcases hb with⟨i,o,u,C,A⟩|hb
  .rcases x.fK i o u C with h6|⟨j,p,h6,h7,h8⟩
   .exact .inl (A▸h6)
   .exact .inr (.inl ⟨j,p,h6,h7,h8.trans A⟩)
  .exact .inr (.inr hb)
 .refine OR.move (G:=fun _=>True) x.ov (AO.all_true o) (fun p y _ hv=>hv.AN x.ov) Z Z ?_ (hs.obj b o e hb);exact x.fN b (D b o e hb) (hs.apart b o e hb)
 .cases hM:R b with
  |none=>rfl
  |some c=>
   rcases x.gx b c (hs.dZ b o e hb) hM with u|⟨i,p,u,C,A⟩
   .have:=D b o e hb;omega
   .exact absurd A (hs.apart b o e hb i p u C)
 .rcases x.fK i p hi I with u|⟨j,q,u,C,A⟩
  .have:=D b o e hb;omega
  .exact hs.apart b o e hb j q u C (A.trans a0)
 .obtain⟨h1,h2,u⟩:=hs.out b i e hb;exact⟨Ri h1 B,(x.nm.az i h1).trans h2,(x.nm.ext i h1).trans u⟩
theorem jt.KU{M B:Mem}{N C:Nm}{n G:Nat}{h D:AH}{J:bn}{w I:World}(x:jt M N n h bn.nil w B C G D J I):Ext M N (· <n) h w B C (· <G) D I:=by
 have j: ∀b,Own N h bn.nil b-> ∃i o,h.get i=io o∧o.real=jp∧N.az i=b:=fun b hb=>by
  rcases hb with hb|⟨o,e,hb⟩
  .exact hb
  .cases hb
 refine⟨x.os,x.tape,x.output,x.size,fun b hb Y=>x.fN b hb fun ho=>?_,x.ov,fun b c h1 u=>?_,x.nm,fun i y=>Ri y x.ule,fun i o y A=>?_⟩
 .obtain⟨i,o,h1,u,R⟩:=j b ho;exact Y i o h1 u R
 .exact(x.gx b c h1 u).imp id (j b)
 .exact(x.fK _ (.inl ⟨i,o,y,A,rfl⟩)).imp id (j _)
theorem dY.nil(M:Mem)(N:Nm)(n:Nat)(h:AH)(w:World):dY M N n h bn.nil w:=⟨nofun,nofun,nofun,nofun,nofun⟩
abbrev XQ:=Exit->AS->bn->Prop
def mF(nt:Nat)(M:Mem)(N:Nm)(s:AS)(X:bn)(w:World)(R:XQ):Exit->Act->World->Prop:=fun e y x=>
 ∃b j s' u,jt M N s.nx s.h X w b j s'.nx s'.h u x∧Fits b j s' nt y x∧dY b j s'.nx s'.h u x∧R e s' u
theorem mF.later{nt:Nat}{M b:Mem}{N j:Nm}{s s':AS}{X u:bn}{w y:World}{R:XQ}{e:Exit}{a:Act}{A:World}
  (x:jt M N s.nx s.h X w b j s'.nx s'.h u y) (h:mF nt b j s' u y R e a A):mF nt M N s X w R e a A:=by
 obtain⟨B,C,I,D,h1,G⟩:=h;exact⟨B,C,I,D,x.trans h1,G⟩
theorem mF.now{nt:Nat}{M:Mem}{N:Nm}{s:AS}{X:bn}{w:World}{R:XQ}{e:Exit}{a:Act}(hf:Fits M N s nt a w)(hs:dY M N s.nx s.h X w)(h:R e s X):mF nt M N s X w R e a w:=
 ⟨M,N,s,X,.refl _ _ _ _ _ _,hf,hs,h⟩
def AX(P:Program)(nt:Nat)(c:Code)(R:XQ)(s:AS)(X:bn):Prop:= ∀M N a w,Fits M N s nt a w->dY M N s.nx s.h X w->c.wp P (mF nt M N s X w R) a w
def ALX(P:Program)(nt:Nat)(all rest:List Oper)(R:XQ)(s:AS)(X:bn):Prop:= ∀M N a w,Fits M N s nt a w->dY M N s.nx s.h X w->wpList P all.toArray (mF nt M N s X w R) rest a w
def SLX(P:Program)(nt:Nat)(all rest:List Oper)(R:XQ)(s:AS)(X:bn):Prop:= ∀M N a w,Fits M N s nt a w->dY M N s.nx s.h X w->
 wpStill P all.toArray w (fun b=>mF nt M N s X w R .normal b w) rest a
inductive XI where
 |qW (all rest:List Oper)
 |code (c:Code)
 |az (id:Nat)
 |ops (all rest:List Oper)
 |lp (R:AS->bn->Prop)
 |CU
def kx(P:Program)(nt:Nat):List XI->XQ->XQ
 | [],Q=>Q
 | .code c::k,Q=>fun e s X=>match e with| .normal=>AX P nt c (kx P nt k Q) s X|e=>kx P nt k Q e s X
 | .ops all rest::k,Q=>fun e s X=>match e with| .normal=>ALX P nt all rest (kx P nt k Q) s X|e=>kx P nt k Q e s X
 | .qW all rest::k,Q=>fun e s X=>match e with| .normal=>SLX P nt all rest (kx P nt k Q) s X|e=>kx P nt k Q e s X
 | .lp R::k,Q=>fun e s X=>match e with| .normal=>R s X|e=>kx P nt k Q e s X
 | .az id::k,Q=>fun e s X=>match e with| .exit j=>if j=id then kx P nt k Q .normal s X else kx P nt k Q (.exit j) s X|e=>kx P nt k Q e s X
 | .CU::k,Q=>fun e s X=>match e with| .goto _=>False|e=>kx P nt k Q e s X
def GX(P:Program)(nt:Nat)(k:List XI)(Q:XQ)(s:AS)(X:bn):Prop:=kx P nt k Q .normal s X
section
variable {P:Program} {nt:Nat} {Q:XQ} {k:List XI} {s:AS} {X:bn}
theorem AX.then{c:Code}{R:XQ}(h:AX P nt c R s X){M:Mem}{N:Nm}{a:Act}{w:World}(hf:Fits M N s nt a w)(hs:dY M N s.nx s.h X w){Z:Exit->Act->World->Prop}
  (A: ∀e y b j u s' x,jt M N s.nx s.h X w j u s'.nx s'.h x b->Fits j u s' nt y b->dY j u s'.nx s'.h x b->R e s' x->Z e y b):c.wp P Z a w:=
 wp_mono (h M N a w hf hs) fun e y b ⟨j,u,s',x,h1,h2,h3,h4⟩=>A e y b j u s' x h1 h2 h3 h4
theorem NI{j:AQ}{k0:List KI}{c:Code}(h:GX P nt [.code c] (fun e t _=>kp P nt k0 j e t) s bn.nil):GO P nt (.code c::k0) j s:=by
 intro M N a w y;exact AX.then h y (.nil ..) fun e D G u x s' C B b _ A=>⟨u,x,s',B.KU,b,A⟩
theorem jb{c:Code}(h:GO P nt [.code c] (fun e u=>kx P nt k Q e u X) s):GX P nt (.code c::k) Q s X:=by
 intro M N a w A hs;refine AW.then h A fun e D G j x s' C b B=>?_;obtain⟨h1,y⟩:=jt.frame C hs;exact⟨j,x,s',X,h1,b,y,B⟩
theorem cP{x y:Code}(h:GX P nt (.code x:: .code y::k) Q s X):GX P nt (.code (.seq x y)::k) Q s X:=by
 intro M N a w hf hs;refine wp_seq (AX.then h hf hs fun e a' w' I R s' X' G b j D=>?_);cases e with
 |normal=>exact AX.then D b j fun e a2 w2 J Y s2 X2 C u B A=>⟨J,Y,s2,X2,G.trans C,u,B,A⟩
 |_=>exact⟨I,R,s',X',G,b,j,D⟩
theorem ry(h:GX P nt k Q s X):GX P nt (.code .skip::k) Q s X:=fun _ _ _ _ b hs=>wp_skip (.now b hs h)
theorem rA{id:Nat}(h:kx P nt k Q (.exit id) s X):GX P nt (.code (.exit id)::k) Q s X:=fun _ _ _ _ b hs=>wp_exit (.now b hs h)
theorem EE{id:Nat}(h:GX P nt k Q s X):GX P nt (.az id::k) Q s X:=h
theorem ib{id:Nat}{x:Code}(h:GX P nt (.code x:: .az id::k) Q s X):GX P nt (.code (.block id x)::k) Q s X:=by
 intro M N a w I hs;refine wp_block (AX.then h I hs fun e J R A B s' C G b u y=>?_);cases e with
 |exit j=>
  simp only[kx]at y;simp only[Exit.inBlock];split
  .rename_i D;rw[am D]at y;exact⟨A,B,s',C,G,b,u,y⟩
  .rename_i D;rw[be D]at y;exact⟨A,B,s',C,G,b,u,y⟩
 |_=>exact⟨A,B,s',C,G,b,u,y⟩
theorem u7{id:Nat}{ops:Array Oper}(h:GX P nt (.ops ops.toList ops.toList::k) Q s X):GX P nt (.code (.region id ops kw)::k) Q s X:=by
 intro M N a w b hs;refine wp_region_list ?_;have:=h M N a w b hs;simpa using this
theorem sW{all:List Oper}(h:GX P nt k Q s X):GX P nt (.ops all []::k) Q s X:=fun _ _ _ _ b hs=>wpList_nil (mF.now b hs h)
theorem rB{c:Operand}{x y:Code}{t:Bool}(hc:ev s.f c= .iv (.v (.bool t)))(h1:t=jp->GX P nt (.code x::k) Q s X)(u:t=kw->GX P nt (.code y::k) Q s X):
  GX P nt (.code (.cond c x y)::k) Q s X:=by
 intro M N a w b hs;refine wp_cond_split (b.bool hc) (fun j=>?_) (fun j=>?_)
 .exact h1 j M N a w b hs
 .exact u j M N a w b hs
theorem wb{o:Oper}{a:Act}{w:World}{K K':Act->World->Prop}{Q j:Exit->Act->World->Prop}(h: ∀a w,K a w->K' a w)(u: ∀e a w,e≠ .normal->Q e a w->j e a w)(hh:o.wp P a w K Q):o.wp P a w K' j:=by
 have hl:LetsOut Q->LetsOut j:=fun⟨a,w,x⟩=>⟨a,w,u _ _ _ (by simp) x⟩
 unfold Oper.wp at*
 generalize(execOp a.eval o).run P w=r at*
 cases r with
 |ok n w'=>
  cases n<;>simp only[Oper.upon]at hh ⊢ <;>
   first
    |exact h _ _ hh
    |exact Calls.mono hh (fun e y b=>by cases e<;>first|exact h _ _ b|exact hl b|exact u _ _ _ (by simp) b)
    |exact Rows.mono hh (fun _ _ b=>h _ _ b)
 |halt x w'=>cases x<;>simp only[Oper.upon]at hh ⊢ <;>exact u _ _ _ (by simp) hh
theorem nA{ops:Array Oper}{u x:Exit->Act->World->Prop}(j:List Oper)(y: ∀a w,u .normal a w->wpList P ops x j a w)(b: ∀e a w,e≠ .normal->u e a w->x e a w): ∀(l:List Oper) (a:Act) (w:World),wpList P ops u l a w->wpList P ops x (l++j) a w
 | [],a,w,h=>y _ _ h
 |o::r,a,w,h=>by
  rw[QN];rw[wpList]at h ⊢;split
  .rename_i A;rw[am A]at h;exact h.imp (wb (nA j y b r) b) (fun⟨h3,a1,w1,h4⟩=>⟨h3,a1,w1,b _ _ _ (by simp) h4⟩)
  .rename_i A;rw[be A]at h;exact nA j y b r _ _ h
theorem Cy{all I j:List Oper}(h:GO P nt [.ops all I] (fun e u=>kx P nt (.ops all j::k) Q e u X) s):GX P nt (.ops all (I++j)::k) Q s X:=by
 intro M N a w Y hs;refine nA j (fun A J C=>?_) (fun e A J R C=>?_) I a w (h M N a w Y)
 .obtain⟨x,y,s',G,b,D⟩:=C;obtain⟨h1,B⟩:=jt.frame G hs;have:=D x y A J b B;exact eG (fun _ _ _=>mF.later h1) j A J this
 .obtain⟨x,y,s',G,b,D⟩:=C;obtain⟨h1,B⟩:=jt.frame G hs;refine⟨x,y,s',X,h1,b,B,?_⟩;cases e with
  |normal=>exact absurd Z R
  |_=>exact D
theorem rz{all rest:List Oper}(m:Nat)(h:GO P nt [.ops all (rest.take m)] (fun e u=>kx P nt (.ops all (rest.drop m)::k) Q e u X) s):GX P nt (.ops all rest::k) Q s X:=by
 have:=Cy h;rwa[RQ]at this
def SX(nt:Nat)(s:AS)(X:bn)(T:AS->bn->Prop):Prop:= ∀M N a w,Fits M N s nt a w->dY M N s.nx s.h X w->
 ∃b j t Y,jt M N s.nx s.h X w b j t.nx t.h Y w∧Fits b j t nt a w∧dY b j t.nx t.h Y w∧T t Y
theorem JZ{c:Code}{T:AS->bn->Prop}(h:SX nt s X T)(hk: ∀t Y,T t Y->GX P nt (.code c::k) Q t Y):GX P nt (.code c::k) Q s X:=by
 intro M N a w I hs;obtain⟨R,N',t,Y,h1,C,D,G⟩:=h M N a w I hs;exact AX.then (hk t Y G) C D fun e a2 w2 y A J B x b u j=>⟨y,A,J,B,h1.trans x,b,u,j⟩
theorem wz{all rest:List Oper}{T:AS->bn->Prop}(h:SX nt s X T)(hk: ∀t Y,T t Y->GX P nt (.ops all rest::k) Q t Y):GX P nt (.ops all rest::k) Q s X:=by
 intro M N a w A hs;obtain⟨b,j,t,Y,h1,u,x,y⟩:=h M N a w A hs;exact eG (fun _ _ _=>mF.later h1) rest a w (hk t Y y b j a w u x)
theorem NH{body:Code}{σ:Type 1}(I:σ->AS)(J:σ->bn)(μ:σ->Nat)(i0:σ)(L0:List Nat)(h0:Wk s.nx L0 s (I i0))(A:J i0=X)(j0: ∀i,(J i).still)
  (B: ∀i,GX P nt (.code body:: .lp (fun t Y=> ∃j L,μ j<μ i∧Wk s.nx L t (I j)∧Y=J j)::k) Q (I i) (J i)):GX P nt (.code (.loop body)::k) Q s X:=by
 intro R N0 a0 w0 d0 g0
 let K:Act->World->Nat->Prop:=fun a w n=> ∃i M N,μ i=n∧jt R N0 s.nx s.h X w0 M N (I i).nx (I i).h (J i) w∧Fits M N (I i) nt a w∧dY M N (I i).nx (I i).h (J i) w
 have c0:K a0 w0 (μ i0):=by
  obtain⟨h1,h2⟩:=jt.frame (h0.ext (.refl R N0 (· <s.nx) s.h w0)) g0;exact⟨i0,R,N0.comp (sg s.nx L0),rfl,by rw[A];exact h1,h0.fits d0,by rw[A];exact h2⟩
 refine wp_loop (fun a w=> ∃n,K a w n) (fun a w=>by classical exact if h: ∃n,K a w n then RY (cQ h) else 0) ⟨_,c0⟩ fun a w b0=>?_;obtain⟨⟨i,M,N,y,hx,hf,hs⟩,e0⟩:=Rh (cQ b0);refine AX.then (B i) hf hs fun e a' w' M' N' s' X' D C x hr=>?_
 cases e with
 |normal=>
  obtain⟨j,L,hj,G,hY⟩:=hr
  have A:K a' w' (μ j):=⟨j,M',N'.comp (sg s.nx L),rfl,by
   have u:=hx.trans D;rw[hY]at u x;refine⟨u.os,u.tape,u.output,u.size,u.fN,u.ov,u.gx,⟨fun i y=>?_,fun i y=>?_⟩,by have:=G.nx;omega,fun b hb=>u.fK b ?_⟩
   .simp only[Nm.comp,fi y];exact u.nm.az i y
   .simp only[Nm.comp,fi y];exact u.nm.ext i y
   .rcases hb with⟨i,o,h3,h4,h5⟩|hb
    .obtain⟨⟨o',g1,g2⟩,_⟩:=gL G.h i o h3;exact .inl ⟨_,o',g1,g2.real ((AO.bV _ o).trans h4),h5⟩
    .exact .inr hb,G.fits C,by
   rw[hY]at x;refine⟨x.real,x.obj,x.dZ,fun b o e hb i p y f0=>?_,fun b i e hb=>?_⟩
   .obtain⟨⟨o',g1,g2⟩,_⟩:=gL G.h i p y;exact x.apart b o e hb _ o' g1 (g2.real ((AO.bV _ p).trans f0))
   .exact absurd hb (j0 j b i e)⟩
  refine⟨⟨_,A⟩,?_⟩;simp only[dif_pos b0,dif_pos (⟨_,A⟩: ∃n,K a' w' n)];rw[<-y];exact SK ((Rh (cQ (⟨_,A⟩: ∃n,K a' w' n))).2 _ A) hj
 |_=>exact⟨M',N',s',X',hx.trans D,C,x,hr⟩
theorem KZ{b e d:Nat}{o:AO}{p:PV}(hX:X b=io (.obj o e))(hp: ∀(M:Mem) (N:Nm) (U:Nat->Prop) (x:Value),U s.nx->N.az s.nx=b->N.ext s.nx=e->VR M N U (s.f.get d) x->VR M N U p x):
  SX nt s X (fun t Y=>t=⟨(d,p)::s.f,(s.nx,io o)::s.h,s.nx+1⟩∧Y=X.put b (.out s.nx e)):=by
 intro M N a w hf hs;obtain⟨f,h,n⟩:=s
 let N':Nm:=⟨fun j=>if j=n then b else N.az j,fun j=>if j=n then e else N.ext j⟩
 have A:N.agree N' (· <n):=⟨fun i D=>be (Su D),fun i D=>be (Su D)⟩
 have I:N'.az n=b:=am Z;have a0:N'.ext n=e:=am Z;have hU: ∀i,i<n->i<n+1:=fun i D=>QR D;have c0:=hs.real b o e hX
 have C: ∀i q,AH.get ((n,io o)::h) i=io q->(i=n∧q=o)∨(i<n∧h.get i=io q):=by
  intro i q D;rw[AH.ay]at D;split at D
  .rename_i b0;exact .inl ⟨b0,by simpa using D.symm⟩
  .exact .inr ⟨hf.1.used i q D,D⟩
 refine⟨M,N',⟨(d,p)::f,(n,io o)::h,n+1⟩,X.put b (.out n e),⟨rfl,rfl,⟨rfl,Ps _⟩,Ps _,fun _ _ _=>rfl,.refl _,fun c m h1 h2=>by simp[h1]at h2,A,QO _,fun c B=> .inr ?_⟩,⟨⟨hf.1.dZ,fun i q D=>?_,fun i q D hr=>?_,fun i q D=>?_,fun i j q r D hj hq hr he=>?_⟩,fun k=>?_,hf.2.2⟩,⟨fun c q g B=>?_,fun c q g B=>?_,fun c q g B=>?_,fun c q g B i r D hr=>?_,fun c i g B=>?_⟩,rfl,rfl⟩
 .rcases B with⟨i,q,h1,h2,h3⟩|⟨q,g,h1⟩
  .rcases C i q h1 with⟨rfl,rfl⟩|⟨J,R⟩
   .rw[I]at h3;subst h3;exact .inr ⟨_,_,hX⟩
   .exact .inl ⟨i,q,R,h2,by rw[<-h3];exact(A.az i J).symm⟩
  .by_cases u:c=b
   .subst u;rw[bn.eO]at h1;cases h1
   .rw[bn.iy _ _ u]at h1;exact .inr ⟨q,g,h1⟩
 .rcases C i q D with⟨rfl,rfl⟩|⟨J,_⟩
  .exact Q9 _
  .exact hU i J
 .rcases C i q D with⟨rfl,rfl⟩|⟨J,R⟩
  .rw[I];exact hs.dZ _ _ _ hX
  .rw[A.az i J];exact hf.1.dM i q R hr
 .rcases C i q D with⟨rfl,rfl⟩|⟨J,R⟩
  .exact OR.move (G:=fun _=>True) (.refl _) (AO.all_true _) (fun p y _ hv=>hv.AN (.refl _)) I a0 Z (hs.obj b _ e hX)
  .exact(hf.1.obj i q R).mono (.refl _) A hU J Z
 .rcases C i q D with⟨rfl,rfl⟩|⟨J,R⟩<;>rcases C j r hj with⟨h6,rfl⟩|⟨h6,h7⟩
  .exact h6.symm
  .rw[I,A.az j h6]at he;exact absurd he.symm (hs.apart b _ e hX j r h7 hr)
  .subst h6;rw[I,A.az i J]at he;exact absurd he (hs.apart b _ e hX i q R hq)
  .rw[A.az i J,A.az j h6]at he;exact hf.1.inj i j q r R h7 hq hr he
 .rw[AF.ay];split
  .rename_i hk;subst hk;exact hp M N' _ _ (Q9 _) I a0 ((hf.2.1 k).mono (.refl _) A hU)
  .exact(hf.2.1 k).mono (.refl _) A hU
 all_goals by_cases u:c=b
 .subst u;rw[bn.eO]at B;cases B
 .rw[bn.iy _ _ u]at B;exact hs.real c q g B
 .subst u;rw[bn.eO]at B;cases B
 .rw[bn.iy _ _ u]at B;exact hs.obj c q g B
 .subst u;rw[bn.eO]at B;cases B
 .rw[bn.iy _ _ u]at B;exact hs.dZ c q g B
 .subst u;rw[bn.eO]at B;cases B
 .rw[bn.iy _ _ u]at B;rcases C i r D with⟨rfl,rfl⟩|⟨J,R⟩
  .rw[I];exact fun e=>u e.symm
  .rw[A.az i J];exact hs.apart c q g B i r R hr
 .subst u;rw[bn.eO]at B;cases B;exact⟨Q9 _,I,a0⟩
 .rw[bn.iy _ _ u]at B;obtain⟨h1,h2,h3⟩:=hs.out c i g B;exact⟨hU i h1,(A.az i h1).trans h2,(A.ext i h1).trans h3⟩
theorem BM{b e d:Nat}{o:AO}(u:X b=io (.obj o e))(hd:s.f.get d= .iv (.v (.map (io b)))):
  SX nt s X (fun t Y=>t=⟨(d,.mp s.nx)::s.f,(s.nx,io o)::s.h,s.nx+1⟩∧Y=X.put b (.out s.nx e)):=
 KZ u fun M N U x hu hb hE j=>by
  rw[hd]at j;cases j with
  |iv _ _ hi=>cases hi with
   |v=>
    have:=VR.mp (M:=M) (N:=N) s.nx hu;rw[hb]at this;exact this
theorem Rel.drop{M:Mem}{N:Nm}{n:Nat}{h:AH}{w:World}(hr:Rel M N (· <n) h w)(i:Nat):Rel M N (· <n) ((i,is)::h) w:=
 ⟨hr.dZ,fun j o b=>hr.used j o (a8 j o b).2,fun j o b u=>hr.dM j o (a8 j o b).2 u,fun j o b=>hr.obj j o (a8 j o b).2,fun j l o p b hl y A x=>hr.inj j l o p (a8 j o b).2 (a8 l p hl).2 y A x⟩
theorem Ar{M:Mem}{N:Nm}{n:Nat}{h:AH}{w:World}(hr:Rel M N (· <n) h w)(hs:dY M N n h X w){i:Nat}{o:AO}(hi:h.get i=io o)(A:o.real=jp)(D:o.all PV.flat):
  jt M N n h X w M N n ((i,is)::h) (X.put (N.az i) (.obj o (N.ext i))) w∧dY M N n ((i,is)::h) (X.put (N.az i) (.obj o (N.ext i))) w:=by
 refine⟨⟨rfl,rfl,⟨rfl,Ps _⟩,Ps _,fun _ _ _=>rfl,.refl _,fun b c h1 B=>by simp[h1]at B,.refl _ _,Ps _,fun c y=> .inr ?_⟩,fun c q g y=>?_,fun c q g y=>?_,fun c q g y=>?_,fun c q g y j r I C=>?_,fun c j g y=>?_⟩
 .rcases y with⟨j,q,h1,B,J⟩|⟨q,g,h1⟩
  .exact .inl ⟨j,q,(a8 j q h1).2,B,J⟩
  .by_cases u:c=N.az i
   .exact .inl ⟨i,o,hi,A,u.symm⟩
   .rw[bn.iy _ _ u]at h1;exact .inr ⟨q,g,h1⟩
 all_goals by_cases u:c=N.az i
 .subst u;rw[bn.eO]at y;cases y;exact A
 .rw[bn.iy _ _ u]at y;exact hs.real c q g y
 .subst u;rw[bn.eO]at y;cases y;exact OR.move (G:=PV.flat) (N:=N) (i:=i) (.refl _) D (fun p x R Y=>Y.GY R) Z Z Z (hr.obj i o hi)
 .rw[bn.iy _ _ u]at y;exact hs.obj c q g y
 .subst u;exact hr.dM i o hi A
 .rw[bn.iy _ _ u]at y;exact hs.dZ c q g y
 .obtain⟨h1,B⟩:=a8 j r I;subst u;exact fun e=>h1 (hr.inj j i r o B hi C A e)
 .rw[bn.iy _ _ u]at y;exact hs.apart c q g y j r (a8 j r I).2 C
 .subst u;rw[bn.eO]at y;cases y
 .rw[bn.iy _ _ u]at y;exact hs.out c j g y
theorem M7{b e i:Nat}{o:AO}(B:X b=io (.out i e))(hi:s.h.get i=io o)(x:o.real=jp)(u:o.all PV.flat):
  SX nt s X (fun t Y=>t=⟨s.f,(i,is)::s.h,s.nx⟩∧Y=X.put b (.obj o e)):=by
 intro M N a w j hs;obtain⟨h1,rfl,rfl⟩:=hs.out b i e B;obtain⟨y,A⟩:=Ar j.1 hs hi x u;exact⟨M,N,⟨s.f,(i,is)::s.h,s.nx⟩,_,y,⟨j.1.drop i,j.2⟩,A,rfl,rfl⟩
theorem K1{i d:Nat}{o:AO}{G:Nat->Nat->PV->Prop}(C:X.still)(hi:s.h.get i=io o)(A:o.real=jp)(B:o.all PV.flat)
  (hq: ∀(M:Mem) (N:Nm) (U:Nat->Prop) (x:Value),VR M N U (s.f.get d) x-> ∃q,G (N.az i) (N.ext i) q∧VR M N U q x):
  SX nt s X (fun t Y=> ∃b e q,X b=is∧G b e q∧t=⟨(d,q)::s.f,(i,is)::s.h,s.nx⟩∧Y=X.put b (.obj o e)):=by
 intro M N a w u hs;obtain⟨D,I⟩:=Ar u.1 hs hi A B;obtain⟨q,J,R⟩:=hq M N _ _ (u.2.1 d);refine⟨M,N,⟨(d,q)::s.f,(i,is)::s.h,s.nx⟩,_,D,⟨u.1.drop i,fun k=>?_,u.2.2⟩,I,N.az i,N.ext i,q,?_,J,rfl,rfl⟩
 .rw[AF.ay];split
  .rename_i hk;subst hk;exact R
  .exact u.2.1 k
 .cases hx:X (N.az i) with
  |none=>rfl
  |some y=>
   cases y with
   |obj p g=>exact absurd Z (hs.apart _ p g hx i o hi A)
   |out j g=>exact absurd hx (C _ _ _)
theorem BN{i d:Nat}{o:AO}(y:X.still)(hi:s.h.get i=io o)(u:o.real=jp)(j:o.all PV.flat)(hd:s.f.get d= .mp i):
  SX nt s X (fun t Y=> ∃b e,X b=is∧t=⟨(d,.iv (.v (.map (io b))))::s.f,(i,is)::s.h,s.nx⟩∧Y=X.put b (.obj o e)):=by
 intro M N a w hf hs
 obtain⟨B,C,t,Y,h1,D,I,b,e,q,J,rfl,R,h9⟩:=K1 (G:=fun b e q=>q= .iv (.v (.map (io b)))) (d:=d) y hi u j (fun M N U x A=>by
  rw[hd]at A;cases A with
  |mp _ hu=>exact⟨_,rfl,.iv _ _ (.v _)⟩) M N a w hf hs
 exact⟨B,C,t,Y,h1,D,I,b,e,J,R,h9⟩
inductive Up (X:bn):Value->IV->Prop
 | row (b len cap sz e:Nat) (es:List (List PV)) (el:Nat->List IV) (hX:X b=io (.obj (.row sz es) e)) (hn:len=es.length) (hl:len<=cap) (hc:cap<=maxLen) (hel: ∀k e,es[k]? =io e->e=(el k).map .iv):
   Up X (.slice (io ⟨b,0,is⟩) len cap) (.ct sz len el)
 |map {V:Type} (b e:Nat) (kc:KC) (ev:V->IV) (z:V) (zv:Value) (dv:PV->V) (m:List (kc.K×V)) (hX:X b=io (.obj (.map kc ev z zv dv m) e)):Up X (.map (io b)) (.dQ kc ev z zv m)
 |ff {V:Type} (b e:Nat) (kc:KC) (ev:V->IV) (z:V) (zv:Value) (hX:X b=io (.obj .ff e)) (hz: ∀M,IR M (ev z) zv):Up X (.map (io b)) (.dQ kc ev z zv [])
 |Ny (y:Value):Up X y (.v y)
 |nil (sz:Nat) (el:Nat->List IV) (a:Option Addr) (cap:Nat):Up X (.slice a 0 cap) (.ct sz 0 el)
theorem Dw{M:Mem}{N:Nm}{n:Nat}{h:AH}{w:World}(hr:Rel M N (· <n) h w)(hs:dY M N n h X w):
  ∃x:Mem,M.le x∧jt M N n h X w x N n h bn.nil w∧Rel x N (· <n) h w∧ ∀y p,Up X y p->IR x p y:=by
 let x:Mem:=⟨fun b=>match X b with
  |some (.obj _ _)=>(match w.heap[b]? with|some (.cells c _ _)=>io (.cells c)|some (.map es cl)=>io (.map es cl)|_=>is)
  |_=>M.fn b,fun b c hb=>by
   have:=M.Ie b c hb;cases u:X b with
   |none=>simpa using this
   |some y=>cases y with
    |obj o e=>exact absurd (this.symm.trans (hs.dZ b o e u)) (by simp)
    |out i e=>simpa using this⟩
 have A: ∀b,(∀o e,X b≠io (.obj o e))->x b=M b:=fun b hb=>by
  show(match X b with|some (.obj _ _)=>_|_=>M.fn b)=M.fn b;cases u:X b with
  |none=>rfl
  |some y=>cases y with
   |obj o e=>exact absurd u (hb o e)
   |out i e=>rfl
 have D: ∀b o e,X b=io (.obj o e)->x b=(match w.heap[b]? with|some (.cells c _ _)=>io (MB.cells c)|some (.map es cl)=>io (MB.map es cl)|_=>is):=fun b o e hb=>by
  show(match X b with|some (.obj _ _)=>_|_=>M.fn b)=_;rw[hb]
 have B:M.le x:=fun b c hb=>by
  rw[A b fun o e u=>absurd (hb.symm.trans (hs.dZ b o e u)) (by simp)];exact hb
 refine⟨x,B,⟨rfl,rfl,⟨rfl,Ps _⟩,Ps _,fun _ _ _=>rfl,B,fun b c h1 G=>?_,.refl _ _,Ps _,fun c I=> .inr ?_⟩,⟨fun b c hb=>?_,hr.used,fun i o hi b0=>?_,fun i o hi=>(hr.obj i o hi).mono B (.refl _ _) (fun _ h=>h) (hr.used i o hi) Z,hr.inj⟩,fun y p hu=>?_⟩
 .cases u:X b with
  |none=>rw[A b (by simp[u]),h1]at G;cases G
  |some y=>cases y with
   |obj o e=>exact .inr (.inr ⟨o,e,u⟩)
   |out i e=>rw[A b (by simp[u]),h1]at G;cases G
 .rcases I with I|⟨o,e,I⟩
  .exact .inl I
  .cases I
 .cases u:X b with
  |none=>rw[A b (by simp[u])]at hb;exact hr.dZ b c hb
  |some y=>cases y with
   |out i e=>rw[A b (by simp[u])]at hb;exact hr.dZ b c hb
   |obj o e=>
    rw[D b o e u]at hb;split at hb
    .rename_i hh;cases hb;exact⟨_,_,hh⟩
    .rename_i hh;cases hb;exact hh
    .cases hb
 .rw[A _ fun q e u=>hs.apart _ q e u i o hi b0 Z];exact hr.dM i o hi b0
 .cases hu with
  |Ny=>exact .v _
  |nil=>exact .fp _ _ _ _
  |ff b e kc ev z zv hX hz=>
   have h1:=hs.obj b _ e hX;have G:x b=io (.map #[] 0):=by rw[D b _ e hX];rw[show w.heap[b]? =io (.map #[] 0) from h1]
   exact .dQ _ _ _ _ _ b #[] 0 G Z (by simp) (by simp) (hz x) (by simp) (by simp)
  |map b e kc ev z zv dv m hX=>
   obtain⟨ents,cl,h1,G,h3⟩:=hs.obj b _ e hX;have h4:x b=io (.map ents cl):=by rw[D b _ e hX];rw[show w.heap[b]? =io (.map ents cl) from h1]
   have Y:=G.mono B;exact .dQ _ _ _ _ _ b ents cl h4 Y.size Y.key Y.val (h3.mono B) Y.inj Y.lt
  |row b len cap sz e es el hX hn hl I hel=>
   rcases hs.obj b _ e hX with h0|⟨h0,c,T,g1,g2,g3,g4,g5⟩
   .have:=hs.real b _ e hX;rw[h0]at this;cases this
   have h4:x b=io (.cells c):=by rw[D b _ e hX];rw[show w.heap[b]? =io (.cells c T (0,0)) from g1]
   have C: ∀o,x.cell b o=c[o]? :=fun o=>by simp only[Mem.cell,h4]
   have a0: ∀k,k<len-> ∃e,es[k]? =io e:=fun k hk=>⟨_,Pl (by omega)⟩
   have c0: ∀k j,k<len->j<sz->k*sz+j<c.size:=fun k j hk hj=>by
    have:(k+1)*sz<=es.length*sz:=PL _ (by omega);rw[Qo]at this;omega
   refine .ct _ _ _ _ _ _ hl I (fun k hk=>?_) (fun k j hk hj=>?_) (fun k j p hk hp=>?_)
   .obtain⟨e,J⟩:=a0 k hk;have:=g4 _ e J;rw[hel _ e J]at this;simpa using this
   .rw[C,PO];simp[c0 k j hk hj]
   .obtain⟨e,J⟩:=a0 k hk;have h9:=g4 _ e J;have R:=hel _ e J;have hj:j<sz:=by rw[<-h9,R,PS];exact(Pj.1 hp).1
    have:=g5 _ e j (.iv p) J (by rw[R,Pp,hp];rfl);rw[C,PO];rw[Pg]at this;cases this with
    |iv _ _ h=>exact h.mono B
def Up1(X:bn)(p b:PV):Prop:=b=p∨ ∃y q,p= .iv (.v y)∧b= .iv q∧Up X y q
inductive Ka (X:bn):AO->AO->Prop
 | row (sz:Nat) (es es':List (List PV)) (hl:es'.length=es.length) (h: ∀(k:Nat) (e':List PV),es'[k]? =io e'-> ∃e,es[k]? =io e∧e'.length=e.length∧ ∀(j:Nat) (p':PV),e'[j]? =io p'-> ∃p,e[j]? =io p∧Up1 X p p'):
   Ka X (.row sz es) (.row sz es')
 | map {V V':Type} (kc:KC) (ev:V->IV) (z:V) (zv:Value) (dv:PV->V) (m:List (kc.K×V)) (ev':V'->IV) (z':V') (dv':PV->V') (m':List (kc.K×V')) (hl:m'.length=m.length)
   (h: ∀(j:Nat) (x':kc.K×V'),m'[j]? =io x'-> ∃x y,m[j]? =io x∧x'.1=x.1∧ev x.2= .v y∧Up X y (ev' x'.2)) (hz: ∀M,IR M (ev' z') zv):Ka X (.map kc ev z zv dv m) (.map kc ev' z' zv dv' m')
theorem Ka.or{M A:Mem}{N:Nm}{U:Nat->Prop}{w:World}{i:Nat}{o o':AO}(J:M.le A)(hu: ∀y p,Up X y p->IR A p y)(h:Ka X o o')(ho:OR M N U w i o):OR A N U w i o':=by
 have hv: ∀p C x,Up1 X p C->VR M N U p x->VR A N U C x:=by
  rintro p C x (rfl|⟨y,q,rfl,rfl,B⟩) hx
  .exact hx.mono J (.refl _ _) (fun _ h=>h)
  .cases hx with
   |iv _ _ hi=>cases hi with
    |v=>exact .iv _ _ (hu _ _ B)
 cases h with
 |row sz es es' hl h=>
  rcases ho with rfl|⟨h0,c,T,g1,g2,g3,g4,g5⟩
  .left;exact QU.1 hl
  .refine .inr ⟨h0,c,T,g1,g2,by rw[hl];exact g3,fun k D b=>?_,fun k D j C b R=>?_⟩
   .obtain⟨e,h1,G,_⟩:=h k D b;rw[G];exact g4 k e h1
   .obtain⟨e,h1,_,B⟩:=h k D b;obtain⟨p,I,h5⟩:=B j C R;exact hv _ _ _ h5 (g5 k e j p h1 I)
 |map kc ev z zv dv m ev' z' dv' m' hl h hz=>
  obtain⟨ents,cl,g1,g2,g3⟩:=ho;refine⟨ents,cl,g1,⟨g2.size.trans hl.symm,fun j Y u=>?_,fun j Y u=>?_,g2.inj,g2.lt⟩,hz A⟩
  .obtain⟨x,y,h1,G,_⟩:=h j Y u;rw[G];exact g2.key j x h1
  .obtain⟨x,y,h1,_,B,I⟩:=h j Y u;have:=g2.val j x h1;rw[B]at this;generalize(ents.getD j co).val=v at this ⊢;cases this with
   |v=>exact hu _ _ I
theorem Ka.real{o o':AO}(h:Ka X o o'):o'.real=o.real:=by
 cases h with
 |row sz es es' hl h=>cases es<;>cases es'<;>first|rfl|simp at hl
 |map=>rfl
theorem K3{i:Nat}{o o':AO}(hi:s.h.get i=io o)(hu:Ka X o o'):SX nt s X (fun t Y=>t=⟨s.f,(i,io o')::s.h,s.nx⟩∧Y=bn.nil):=by
 intro M N a w B hs;obtain⟨I,h1,A,C,J⟩:=Dw B.1 hs;have u: ∀j q,AH.get ((i,io o')::s.h) j=io q-> ∃y,s.h.get j=io y∧q.real=y.real∧(q=y∨(j=i∧q=o')):=by
  intro j q x;rw[AH.ay]at x;split at x
  .rename_i D;subst D;cases x;exact⟨o,hi,hu.real,.inr ⟨rfl,rfl⟩⟩
  .exact⟨q,x,rfl,.inl Z⟩
 refine⟨I,N,⟨s.f,(i,io o')::s.h,s.nx⟩,bn.nil,?_,⟨⟨C.dZ,fun j q x=>?_,fun j q x G=>?_,fun j q x=>?_,fun j k q r x hk hq G R=>?_⟩,fun k=>(B.2.1 k).mono h1 (.refl _ _) (fun _ h=>h),B.2.2⟩,.nil ..,rfl,rfl⟩
 .exact⟨A.os,A.tape,A.output,A.size,A.fN,A.ov,A.gx,A.nm,A.ule,fun b hb=> .inr<|by
   rcases hb with⟨j,q,g1,g2,g3⟩|⟨q,g,g1⟩
   .obtain⟨y,g4,g5,_⟩:=u j q g1;exact .inl ⟨j,y,g4,g5▸g2,g3⟩
   .cases g1⟩
 .obtain⟨y,g4,_⟩:=u j q x;exact B.1.used j y g4
 .obtain⟨y,g4,g5,_⟩:=u j q x;exact C.dM j y g4 (g5▸G)
 .obtain⟨y,g4,_,rfl|⟨rfl,rfl⟩⟩:=u j q x
  .exact C.obj j _ g4
  .exact hu.or h1 J (B.1.obj j o hi)
 .obtain⟨y,g4,g5,_⟩:=u j q x;obtain⟨r',g6,g7,_⟩:=u k r hk;exact B.1.inj j k y r' g4 g6 (g5▸hq) (g7▸G) R
end
section
variable {P:Program}
section
variable {nt:Nat} {Q:XQ} {k0:List XI} {s:AS} {X:bn}
theorem G1{t:AS}(hh:t.h=s.h)(hn:t.nx=s.nx)(h: ∀M N a w,Fits M N s nt a w->dY M N s.nx s.h X w->FR M N (· <s.nx) t.f a.tmps):SX nt s X (fun j Y=>j=t∧Y=X):=by
 intro M N a w b hs;obtain⟨f,u,n⟩:=t;simp only at hh hn;subst hh;subst hn;exact⟨M,N,⟨f,s.h,s.nx⟩,X,.refl _ _ _ _ _ _,⟨b.1,h M N a w b hs,b.2.2⟩,hs,rfl,rfl⟩
theorem Dk{b j e d:Nat}{p:PV}(B:X b=io (.out j e))(hp: ∀(M:Mem) (N:Nm) (U:Nat->Prop) (x:Value),U j->N.az j=b->N.ext j=e->VR M N U (s.f.get d) x->VR M N U p x):
  SX nt s X (fun t Y=>t=⟨(d,p)::s.f,s.h,s.nx⟩∧Y=X):=
 G1 Z Z fun M N a w u hs k=>by
  obtain⟨h1,y,A⟩:=hs.out b j e B;rw[AF.ay];split
  .rename_i hk;subst hk;exact hp M N _ _ h1 y A (u.2.1 k)
  .exact u.2.1 k
theorem y3{M:Mem}{N:Nm}{n:Nat}{h:AH}{w:World}(hr:Rel M N (· <n) h w){i:Nat}{o o':AO}(hi:h.get i=io o)(B:o'.real=jp->o.real=jp)(ho:OR M N (· <n) w i o'):Rel M N (· <n) ((i,io o')::h) w:=by
 have b: ∀j q,AH.get ((i,io o')::h) j=io q->(j=i∧q=o')∨(j≠i∧h.get j=io q):=by
  intro j q x;rw[AH.ay]at x;split at x
  .rename_i A;exact .inl ⟨A,by simpa using x.symm⟩
  .rename_i A;exact .inr ⟨A,x⟩
 refine⟨hr.dZ,fun j q x=>?_,fun j q x u=>?_,fun j q x=>?_,fun j k q r x hk G u D=>?_⟩
 .rcases b j q x with⟨rfl,rfl⟩|⟨_,y⟩
  .exact hr.used j o hi
  .exact hr.used j q y
 .rcases b j q x with⟨rfl,rfl⟩|⟨_,y⟩
  .exact hr.dM j o hi (B u)
  .exact hr.dM j q y u
 .rcases b j q x with⟨rfl,rfl⟩|⟨_,y⟩
  .exact ho
  .exact hr.obj j q y
 .rcases b j q x with⟨rfl,rfl⟩|⟨g1,y⟩<;>rcases b k r hk with⟨g2,C⟩|⟨g2,C⟩
  .exact g2.symm
  .exact hr.inj j k o r hi C (B G) u D
  .subst g2;subst C;exact hr.inj j k q o y hi G (B u) D
  .exact hr.inj j k q r y C G u D
theorem K0{i:Nat}{o o':AO}(hi:s.h.get i=io o)(A:o'.real=jp->o.real=jp)(ho: ∀M N w,dY M N s.nx s.h X w->OR M N (· <s.nx) w i o->OR M N (· <s.nx) w i o'):
  SX nt s X (fun t Y=>t=⟨s.f,(i,io o')::s.h,s.nx⟩∧Y=X):=by
 intro M N a w D hs;have u: ∀j q,AH.get ((i,io o')::s.h) j=io q->q.real=jp-> ∃y,s.h.get j=io y∧y.real=jp:=by
  intro j q x B;rw[AH.ay]at x;split at x
  .rename_i G;subst G;cases x;exact⟨o,hi,A B⟩
  .exact⟨q,x,B⟩
 refine⟨M,N,⟨s.f,(i,io o')::s.h,s.nx⟩,X,⟨rfl,rfl,⟨rfl,Ps _⟩,Ps _,fun _ _ _=>rfl,.refl _,fun b c h1 C=>by simp[h1]at C,.refl _ _,Ps _,fun b hb=> .inr ?_⟩,
  ⟨y3 D.1 hi A (ho M N w hs (D.1.obj i o hi)),D.2⟩,⟨hs.real,hs.obj,hs.dZ,fun b p e hb j q x B=>?_,hs.out⟩,rfl,rfl⟩
 .rcases hb with⟨j,q,h1,C,I⟩|hb
  .obtain⟨y,g1,g2⟩:=u j q h1 C;exact .inl ⟨j,y,g1,g2,I⟩
  .exact .inr hb
 .obtain⟨y,g1,g2⟩:=u j q x B;exact hs.apart b p e hb j y g1 g2
theorem K2{i:Nat}{o o':AO}(hi:s.h.get i=io o)(b:dT o o'):SX nt s X (fun t Y=>t=⟨s.f,(i,io o')::s.h,s.nx⟩∧Y=X):=
 K0 hi b.1 fun M N w _ h=>b.2 M N _ w i h
end
end
section
variable {P:Program} {nt:Nat} {Q:XQ} {k0:List XI} {s:AS} {X:bn} {ty:Ty}
theorem zn{c:Code}{R u:AS->bn->Prop}(h: ∀t Y,R t Y->u t Y)(hg:GX P nt (.code c:: .lp R::k0) Q s X):GX P nt (.code c:: .lp u::k0) Q s X:=by
 intro M N a w C hs;refine AX.then hg C hs fun e G I y A s' B D b j x=>⟨y,A,s',B,D,b,j,?_⟩
 cases e with
 |normal=>exact h _ _ x
 |_=>exact x
theorem wA{body:Code}{σ:Type 1}(i0 n:Nat)(y:i0<=n)(I:Nat->σ->AS)(J:Nat->σ->bn->Prop)(B:σ)(C:List Nat)(G:J i0 B X)(h0:Wk s.nx C s (I i0 B))(A: ∀i x Y,J i x Y->Y.still)
  (b: ∀i x Y,i<=n->J i x Y->GX P nt (.code body:: .lp (fun t u=>i<n∧ ∃j L,J (i+1) j u∧Wk s.nx L t (I (i+1) j))::k0) Q (I i x) Y):GX P nt (.code (.loop body)::k0) Q s X:=by
 refine NH (σ:={p:Nat×σ×bn//p.1<=n∧J p.1 p.2.1 p.2.2}) (fun p=>I p.1.1 p.1.2.1) (fun p=>p.1.2.2) (fun p=>n-p.1.1) ⟨(i0,B,X),y,G⟩ C h0 Z (fun p=>A _ _ _ p.2.2) fun p=>?_;obtain⟨⟨i,x,Y⟩,h1,D⟩:=p;refine zn ?_ (b i x Y h1 D)
 rintro t u ⟨h3,j,L,h4,h5⟩;exact⟨⟨(i+1,j,u),h3,h4⟩,L,by show n-(i+1)<n-i;omega,h5,rfl⟩
end
section
variable {P:Program} {nt:Nat} {Q:XQ} {k:List XI} {s:AS} {X:bn}
def GoW(P:Program)(nt:Nat)(k:List XI)(Q:XQ)(X:bn)(n0:Nat)(t:AS):AQ:=fun e u=>(e= .normal∧ ∃L,Wk n0 L u t)∨(e≠ .normal∧kx P nt k Q e u X)
theorem u9{n0:Nat}{t u:AS}(L:List Nat)(h:Wk n0 L u t):GoW P nt k Q X n0 t .normal u:= .inl ⟨rfl,L,h⟩
theorem sX{c:Code}(t:AS)(h1:GO P nt [.code c] (GoW P nt k Q X s.nx t) s)(C:GX P nt k Q t X):GX P nt (.code c::k) Q s X:=by
 intro M N a w D hs;refine AW.then h1 D fun e G I x B u A b j=>?_;rcases j with⟨rfl,L,y⟩|⟨_,j⟩
 .obtain⟨g1,g2⟩:=jt.frame (y.ext A) hs;exact⟨x,_,t,X,g1,y.fits b,g2,C⟩
 .obtain⟨g1,g2⟩:=jt.frame A hs;exact⟨x,B,u,X,g1,b,g2,j⟩
end
def To(s t:AS):Prop:= ∀M N (nt:Nat) a w,Fits M N s nt a w-> ∃b j,Ext M N (· <s.nx) s.h w b j (· <t.nx) t.h w∧Fits b j t nt a w
theorem To.refl(s:AS):To s s:=fun M N _ _ _ b=>⟨M,N,.refl _ _ _ _ _,b⟩
theorem To.trans{s t u:AS}(h:To s t)(g:To t u):To s u:=fun M N nt a w A=>by
 obtain⟨b,x,B,f1⟩:=h M N nt a w A;obtain⟨j,y,C,f2⟩:=g b x nt a w f1;exact⟨j,y,B.trans C,f2⟩
theorem To.wk{s t:AS}{L:List Nat}(hw:Wk s.nx L s t):To s t:=fun M N _ _ _ b=>⟨M,_,hw.ext (.refl _ _ _ _ _),hw.fits b⟩
theorem To.row{s:AS}(i:Nat){sz:Nat}{es:List (List PV)}(el:Nat->List IV)(hi:s.h.get i=io (.row sz es))(a0: ∀k e,es[k]? =io e->e=(el k).map .iv)
  (hf:s.f.qy i sz es.length) (hh:s.h.tZ i sz es.length):To s ⟨s.f.je i sz el,(i,is)::s.h.jd i sz el,s.nx⟩:=by
 intro M N nt a w b;obtain⟨J,h1,u,h4⟩:=wE b.1 hi a0;have B: ∀j o,AH.get ((i,is)::s.h.jd i sz el) j=io o-> ∃p,AH.get ((i,is)::s.h) j=io p∧s.h.get j=io p∧o=p.jd i sz el:=by
  intro j o x;obtain⟨g1,g2⟩:=a8 j o x;rw[AH.pZ,Pr]at g2;obtain⟨p,g3,g4⟩:=g2;exact⟨p,by rw[AH.ay,be g1];exact g3,g3,g4.symm⟩
 have hE:Ext M N (· <s.nx) s.h w J N (· <s.nx) ((i,is)::s.h.jd i sz el) w:=⟨h1.os,h1.tape,h1.output,h1.size,h1.fN,h1.ov,h1.gx,h1.nm,h1.ule,fun j o x y=>by
  obtain⟨p,g1,_,rfl⟩:=B j o x;rw[AO.od]at y
  exact h1.fK j p g1 y⟩
 have hR:Rel J N (· <s.nx) ((i,is)::s.h.jd i sz el) w:=by
  refine⟨u.dZ,fun j o x=>?_,fun j o x y=>?_,fun j o x=>?_,fun j k o p x hk ho D=>?_⟩
  .obtain⟨p,g1,_,rfl⟩:=B j o x;exact u.used j p g1
  .obtain⟨p,g1,_,rfl⟩:=B j o x;rw[AO.od]at y;exact u.dM j p g1 y
  .obtain⟨p,g1,g2,rfl⟩:=B j o x;cases p with
   |cells cs T0=>
    obtain⟨c,T,q1,q2,q3,q4,q5⟩:=b.1.obj j _ g2;have hok:=AH.oN hh j _ g2;refine⟨c,T,q1,q2,by simpa[gq]using q3,fun k q hq=>?_,q5⟩;rw[gq,Pp,Pr]at hq;obtain⟨Y,I,rfl⟩:=hq;exact h4 _ _ (q4 k Y I) (gH hok k Y I)
   |row s2 es2=>
    have hok:=AH.oN hh j _ g2;rcases b.1.obj j _ g2 with rfl|⟨Y,c,T,q1,q2,q3,q4,q5⟩
    .exact .inl Z
    .refine .inr ⟨Y,c,T,q1,q2,by simpa using q3,fun k e C=>?_,fun k e j2 p C D=>?_⟩
     .rw[Pp,Pr]at C;obtain⟨R,A,rfl⟩:=C;rw[gq,PS];exact q4 k R A
     .rw[Pp,Pr]at C;obtain⟨R,A,rfl⟩:=C;rw[gq,Pp,Pr]at D;obtain⟨p0,G,rfl⟩:=D;exact h4 _ _ (q5 k R j2 p0 A G) (gH (hok R (PY A)) j2 p0 G)
   |bp=>exact u.obj j _ g1
   |ff=>exact u.obj j _ g1
   |map=>exact u.obj j _ g1
   |bI=>exact u.obj j _ g1
   |dJ=>exact u.obj j _ g1
   |gI=>exact u.obj j _ g1
   |dO=>exact u.obj j _ g1
  .obtain⟨o',g1,_,rfl⟩:=B j o x;obtain⟨p',g2,_,rfl⟩:=B k p hk;rw[AO.od]at ho D;exact u.inj j k o' p' g1 g2 ho D
 have b0:Fits J N ⟨s.f.je i sz el,(i,is)::s.h.jd i sz el,s.nx⟩ nt a w:=⟨hR,fun d=>by
  rw[AF.jc];exact h4 _ _ (b.2.1 d) (AF.kP hf d),b.2.2⟩
 exact⟨J,N,hE,b0⟩
section
variable {P:Program} {nt:Nat} {Q:AQ} {k:List KI} {s t:AS}
theorem wB{all rest:List Oper}(y:To s t)(h:GO P nt (.ops all rest::k) Q t):GO P nt (.ops all rest::k) Q s:=by
 intro M N a w x;obtain⟨j,u,A,b⟩:=y M N nt a w x;exact eG (fun e a2 B ⟨M2,N2,s2,hx2,hf2,hr2⟩=>⟨M2,N2,s2,A.trans hx2,hf2,hr2⟩) _ _ _ (h j u a w b)
end
end
end Go.Al
namespace Go.Proofs.YtllkaddcplhklaaGreatDoor
open Go Go.Al Go.Proofs.Tryz
def ty2:bE:=⟨.aM (.int .i64),1,8,.int .i64 (0),kw⟩
theorem Ms:aj prog 2 ty2:=⟨ad (by kernel_rfl),⟨underlying2,rfl⟩,fun h=>nomatch h⟩
def ty3:bE:=⟨.aM (.int .i64),1,8,.int .i64 (0),kw⟩
theorem Mr:aj prog 3 ty3:=⟨ad (by kernel_rfl),⟨underlying3,rfl⟩,fun h=>nomatch h⟩
def ty4:bE:=⟨.aM (.bool),1,1,.bool kw,kw⟩
theorem Mq:aj prog 4 ty4:=⟨ad (by kernel_rfl),⟨underlying4,rfl⟩,fun h=>nomatch h⟩
def ty5:bE:=⟨.aM (.int .u8),1,1,.int .u8 (0),kw⟩
theorem Mp:aj prog 5 ty5:=⟨ad (by kernel_rfl),⟨underlying5,rfl⟩,fun h=>nomatch h⟩
def ty9:bE:=⟨.aM (.string),1,16,.string Pq,kw⟩
theorem Mo:aj prog 9 ty9:=⟨ad (by kernel_rfl),⟨underlying9,rfl⟩,fun h=>nomatch h⟩
def MZ:bE:=⟨.aM (.int .i32),1,4,.int .i32 (0),kw⟩
theorem KR:aj prog 21 MZ:=⟨ad (by kernel_rfl),⟨underlying21,rfl⟩,fun h=>nomatch h⟩
def MY:bE:=⟨.aM (.pointer 70),1,8,.pointer is,kw⟩
theorem KQ:aj prog 23 MY:=⟨ad (by kernel_rfl),⟨underlying23,rfl⟩,fun h=>nomatch h⟩
def MX:bE:=⟨.aM (.int .i64),1,8,.int .i64 (0),kw⟩
theorem KP:aj prog 24 MX:=⟨ad (by kernel_rfl),⟨underlying24,rfl⟩,fun h=>nomatch h⟩
def MW:bE:=⟨.aM (.slice 3),1,24,.slice is 0 0,kw⟩
theorem KO:aj prog 27 MW:=⟨ad (by kernel_rfl),⟨underlying27,rfl⟩,fun h=>nomatch h⟩
def MV:bE:=⟨.cM [(0,3),(1,3)],2,16,.agg #[.int .i64 (0),.int .i64 (0)],jp⟩
theorem KN:aj prog 29 MV:=⟨ad (by kernel_rfl),⟨_,underlying29,rfl⟩,fun _=>cj underlying29 Tryz.stoodInHeld29 Tryz.eqGuardType29 (by decide)⟩
def MU:bE:=⟨.cM [(0,9),(1,27),(2,29)],4,56,.agg #[.string Pq,.slice is 0 0,.int .i64 (0),.int .i64 (0)],jp⟩
theorem KL:aj prog 31 MU:=⟨ad (by kernel_rfl),⟨_,underlying31,rfl⟩,fun _=>cj underlying31 Tryz.stoodInHeld31 Tryz.eqGuardType31 (by decide)⟩
def MT:bE:=⟨.aM (.slice 31),1,24,.slice is 0 0,kw⟩
theorem KK:aj prog 32 MT:=⟨ad (by kernel_rfl),⟨underlying32,rfl⟩,fun h=>nomatch h⟩
def MS:bE:=⟨.aM (.slice 99),1,24,.slice is 0 0,kw⟩
theorem KJ:aj prog 33 MS:=⟨ad (by kernel_rfl),⟨underlying33,rfl⟩,fun h=>nomatch h⟩
def MR:bE:=⟨.cM [(0,32),(1,33)],2,48,.agg #[.slice is 0 0,.slice is 0 0],jp⟩
theorem KH:aj prog 35 MR:=⟨ad (by kernel_rfl),⟨_,underlying35,rfl⟩,fun _=>cj underlying35 Tryz.stoodInHeld35 Tryz.eqGuardType35 (by decide)⟩
def MQ:bE:=⟨.aM (.slice 42),1,24,.slice is 0 0,kw⟩
theorem KG:aj prog 36 MQ:=⟨ad (by kernel_rfl),⟨underlying36,rfl⟩,fun h=>nomatch h⟩
def MP:bE:=⟨.aM (.slice 72),1,24,.slice is 0 0,kw⟩
theorem KF:aj prog 37 MP:=⟨ad (by kernel_rfl),⟨underlying37,rfl⟩,fun h=>nomatch h⟩
def MO:bE:=⟨.cM [(0,9),(1,37)],2,40,.agg #[.string Pq,.slice is 0 0],jp⟩
theorem KE:aj prog 39 MO:=⟨ad (by kernel_rfl),⟨_,underlying39,rfl⟩,fun _=>cj underlying39 Tryz.stoodInHeld39 Tryz.eqGuardType39 (by decide)⟩
def MN:bE:=⟨.cM [(0,4),(1,39)],3,48,.agg #[.bool kw,.string Pq,.slice is 0 0],jp⟩
theorem KD:aj prog 42 MN:=⟨ad (by kernel_rfl),⟨_,underlying42,rfl⟩,fun _=>cj underlying42 Tryz.stoodInHeld42 Tryz.eqGuardType42 (by decide)⟩
def MM:bE:=⟨.aM (.slice 36),1,24,.slice is 0 0,kw⟩
theorem KB:aj prog 47 MM:=⟨ad (by kernel_rfl),⟨underlying47,rfl⟩,fun h=>nomatch h⟩
def ML:bE:=⟨.aM (.slice 39),1,24,.slice is 0 0,kw⟩
theorem KA:aj prog 48 ML:=⟨ad (by kernel_rfl),⟨underlying48,rfl⟩,fun h=>nomatch h⟩
def MK:bE:=⟨.aM (.func #[39,39] #[4] kw),1,8,.nilFunc,kw⟩
theorem Kz:aj prog 61 MK:=⟨ad (by kernel_rfl),⟨underlying61,rfl⟩,fun h=>nomatch h⟩
def MJ:bE:=⟨.cM [(0,24),(1,29)],3,24,.agg #[.int .i64 (0),.int .i64 (0),.int .i64 (0)],jp⟩
theorem Ky:aj prog 63 MJ:=⟨ad (by kernel_rfl),⟨_,underlying63,rfl⟩,fun _=>cj underlying63 Tryz.stoodInHeld63 Tryz.eqGuardType63 (by decide)⟩
def MI:bE:=⟨.aM (.map 78 39),1,8,.map is,kw⟩
theorem Kx:aj prog 65 MI:=⟨ad (by kernel_rfl),⟨underlying65,rfl⟩,fun h=>nomatch h⟩
def MH:bE:=⟨.cM [(0,65)],1,8,.agg #[.map is],jp⟩
theorem Kw:aj prog 67 MH:=⟨ad (by kernel_rfl),⟨_,underlying67,rfl⟩,fun _=>cj underlying67 Tryz.stoodInHeld67 Tryz.eqGuardType67 (by decide)⟩
def MG:bE:=⟨.cM [(0,67),(1,35),(3,3)],4,64,.agg #[.map is,.slice is 0 0,.slice is 0 0,.int .i64 (0)],jp⟩
theorem Kv:aj prog 70 MG:=⟨ad (by kernel_rfl),⟨_,underlying70,rfl⟩,fun _=>cj underlying70 Tryz.stoodInHeld70 Tryz.eqGuardType70 (by decide)⟩
def MF:bE:=⟨.cM [(0,3),(1,3),(2,9)],3,32,.agg #[.int .i64 (0),.int .i64 (0),.string Pq],jp⟩
theorem Ku:aj prog 72 MF:=⟨ad (by kernel_rfl),⟨_,underlying72,rfl⟩,fun _=>cj underlying72 Tryz.stoodInHeld72 Tryz.eqGuardType72 (by decide)⟩
def ME:bE:=⟨.aM (.map 78 42),1,8,.map is,kw⟩
theorem Kt:aj prog 73 ME:=⟨ad (by kernel_rfl),⟨underlying73,rfl⟩,fun h=>nomatch h⟩
def MD:bE:=⟨.arr 8 72,24,256,.agg #[.int .i64 (0),.int .i64 (0),.string Pq,.int .i64 (0),.int .i64 (0),.string Pq,.int .i64 (0),.int .i64 (0),.string Pq,.int .i64 (0),.int .i64 (0),.string Pq,.int .i64 (0),.int .i64 (0),.string Pq,.int .i64 (0),.int .i64 (0),.string Pq,.int .i64 (0),.int .i64 (0),.string Pq,.int .i64 (0),.int .i64 (0),.string Pq],kw⟩
theorem Ks:aj prog 76 MD:=⟨ad (by kernel_rfl),underlying76,fun h=>nomatch h⟩
def fa:bE:=⟨.cM [(0,9),(1,3),(2,76)],26,280,.agg #[.string Pq,.int .i64 (0),.int .i64 (0),.int .i64 (0),.string Pq,.int .i64 (0),.int .i64 (0),.string Pq,.int .i64 (0),.int .i64 (0),.string Pq,.int .i64 (0),.int .i64 (0),.string Pq,.int .i64 (0),.int .i64 (0),.string Pq,.int .i64 (0),.int .i64 (0),.string Pq,.int .i64 (0),.int .i64 (0),.string Pq,.int .i64 (0),.int .i64 (0),.string Pq],jp⟩
theorem Kr:aj prog 78 fa:=⟨ad (by kernel_rfl),⟨_,underlying78,rfl⟩,fun _=>cj underlying78 Tryz.stoodInHeld78 Tryz.eqGuardType78 (by decide)⟩
def MC:bE:=⟨.aM (.pointer 67),1,8,.pointer is,kw⟩
theorem Kq:aj prog 81 MC:=⟨ad (by kernel_rfl),⟨underlying81,rfl⟩,fun h=>nomatch h⟩
def MA:bE:=⟨.aM (.func #[39,39] #[3] kw),1,8,.nilFunc,kw⟩
theorem Kp:aj prog 85 MA:=⟨ad (by kernel_rfl),⟨underlying85,rfl⟩,fun h=>nomatch h⟩
def Mz:bE:=⟨.aM (.map 9 92),1,8,.map is,kw⟩
theorem Ko:aj prog 88 Mz:=⟨ad (by kernel_rfl),⟨underlying88,rfl⟩,fun h=>nomatch h⟩
def My:bE:=⟨.aM (.map 9 92),1,8,.map is,kw⟩
theorem Kn:aj prog 89 My:=⟨ad (by kernel_rfl),⟨underlying89,rfl⟩,fun h=>nomatch h⟩
def Mx:bE:=⟨.aM (.map 9 3),1,8,.map is,kw⟩
theorem Km:aj prog 92 Mx:=⟨ad (by kernel_rfl),⟨underlying92,rfl⟩,fun h=>nomatch h⟩
def Mw:bE:=⟨.aM (.slice 104),1,24,.slice is 0 0,kw⟩
theorem Kl:aj prog 94 Mw:=⟨ad (by kernel_rfl),⟨underlying94,rfl⟩,fun h=>nomatch h⟩
def Mv:bE:=⟨.cM [(0,9),(1,94)],2,40,.agg #[.string Pq,.slice is 0 0],jp⟩
theorem Kk:aj prog 96 Mv:=⟨ad (by kernel_rfl),⟨_,underlying96,rfl⟩,fun _=>cj underlying96 Tryz.stoodInHeld96 Tryz.eqGuardType96 (by decide)⟩
def Mu:bE:=⟨.aM (.slice 128),1,24,.slice is 0 0,kw⟩
theorem Kj:aj prog 97 Mu:=⟨ad (by kernel_rfl),⟨underlying97,rfl⟩,fun h=>nomatch h⟩
def Mt:bE:=⟨.cM [(0,96),(2,97),(3,29)],5,80,.agg #[.string Pq,.slice is 0 0,.slice is 0 0,.int .i64 (0),.int .i64 (0)],jp⟩
theorem Ki:aj prog 99 Mt:=⟨ad (by kernel_rfl),⟨_,underlying99,rfl⟩,fun _=>cj underlying99 Tryz.stoodInHeld99 Tryz.eqGuardType99 (by decide)⟩
def JO:bE:=⟨.cM [(0,3),(1,9),(2,72)],5,56,.agg #[.int .i64 (0),.string Pq,.int .i64 (0),.int .i64 (0),.string Pq],jp⟩
theorem GV:aj prog 104 JO:=⟨ad (by kernel_rfl),⟨_,underlying104,rfl⟩,fun _=>cj underlying104 Tryz.stoodInHeld104 Tryz.eqGuardType104 (by decide)⟩
def JN:bE:=⟨.aM (.func #[78,42] #[4] kw),1,8,.nilFunc,kw⟩
theorem GU:aj prog 111 JN:=⟨ad (by kernel_rfl),⟨underlying111,rfl⟩,fun h=>nomatch h⟩
def JM:bE:=⟨.aM (.func #[42,42] #[3] kw),1,8,.nilFunc,kw⟩
theorem GS:aj prog 114 JM:=⟨ad (by kernel_rfl),⟨underlying114,rfl⟩,fun h=>nomatch h⟩
def JL:bE:=⟨.aM (.slice 124),1,24,.slice is 0 0,kw⟩
theorem GR:aj prog 122 JL:=⟨ad (by kernel_rfl),⟨underlying122,rfl⟩,fun h=>nomatch h⟩
def JK:bE:=⟨.cM [(0,3),(1,9),(2,72),(5,3),(6,122)],7,88,.agg #[.int .i64 (0),.string Pq,.int .i64 (0),.int .i64 (0),.string Pq,.int .i64 (0),.slice is 0 0],jp⟩
theorem GQ:aj prog 124 JK:=⟨ad (by kernel_rfl),⟨_,underlying124,rfl⟩,fun _=>cj underlying124 Tryz.stoodInHeld124 Tryz.eqGuardType124 (by decide)⟩
def JJ:bE:=⟨.cM [(0,3),(1,9),(2,124),(9,97)],10,136,.agg #[.int .i64 (0),.string Pq,.int .i64 (0),.string Pq,.int .i64 (0),.int .i64 (0),.string Pq,.int .i64 (0),.slice is 0 0,.slice is 0 0],jp⟩
theorem GP:aj prog 126 JJ:=⟨ad (by kernel_rfl),⟨_,underlying126,rfl⟩,fun _=>cj underlying126 Tryz.stoodInHeld126 Tryz.eqGuardType126 (by decide)⟩
def JI:bE:=⟨.cM [(0,3),(1,96),(3,3),(4,124),(11,124),(18,126),(28,29)],30,384,.agg #[.int .i64 (0),.string Pq,.slice is 0 0,.int .i64 (0),.int .i64 (0),.string Pq,.int .i64 (0),.int .i64 (0),.string Pq,.int .i64 (0),.slice is 0 0,.int .i64 (0),.string Pq,.int .i64 (0),.int .i64 (0),.string Pq,.int .i64 (0),.slice is 0 0,.int .i64 (0),.string Pq,.int .i64 (0),.string Pq,.int .i64 (0),.int .i64 (0),.string Pq,.int .i64 (0),.slice is 0 0,.slice is 0 0,.int .i64 (0),.int .i64 (0)],jp⟩
theorem GN:aj prog 128 JI:=⟨ad (by kernel_rfl),⟨_,underlying128,rfl⟩,fun _=>cj underlying128 Tryz.stoodInHeld128 Tryz.eqGuardType128 (by decide)⟩
def JH:bE:=⟨.aM (.slice 9),1,24,.slice is 0 0,kw⟩
theorem GL:aj prog 129 JH:=⟨ad (by kernel_rfl),⟨underlying129,rfl⟩,fun h=>nomatch h⟩
def JG:bE:=⟨.aM (.func #[63] #[4] kw),1,8,.nilFunc,kw⟩
theorem GK:aj prog 132 JG:=⟨ad (by kernel_rfl),⟨underlying132,rfl⟩,fun h=>nomatch h⟩
def JF:bE:=⟨.aM (.func #[9] #[3] kw),1,8,.nilFunc,kw⟩
theorem GJ:aj prog 133 JF:=⟨ad (by kernel_rfl),⟨underlying133,rfl⟩,fun h=>nomatch h⟩
def JE:bE:=⟨.aM (.pointer 128),1,8,.pointer is,kw⟩
theorem GI:aj prog 139 JE:=⟨ad (by kernel_rfl),⟨underlying139,rfl⟩,fun h=>nomatch h⟩
def JD:bE:=⟨.aM (.map 9 31),1,8,.map is,kw⟩
theorem GH:aj prog 142 JD:=⟨ad (by kernel_rfl),⟨underlying142,rfl⟩,fun h=>nomatch h⟩
def JC:bE:=⟨.aM (.int .u64),1,8,.int .u64 (0),kw⟩
theorem GG:aj prog 147 JC:=⟨ad (by kernel_rfl),⟨underlying147,rfl⟩,fun h=>nomatch h⟩
def JB:bE:=⟨.aM (.func #[72,72] #[3] kw),1,8,.nilFunc,kw⟩
theorem GF:aj prog 151 JB:=⟨ad (by kernel_rfl),⟨underlying151,rfl⟩,fun h=>nomatch h⟩
def JA:bE:=⟨.aM (.map 9 3),1,8,.map is,kw⟩
theorem GD:aj prog 155 JA:=⟨ad (by kernel_rfl),⟨underlying155,rfl⟩,fun h=>nomatch h⟩
def Jz:bE:=⟨.aM (.func #[124] #[4] kw),1,8,.nilFunc,kw⟩
theorem GC:aj prog 157 Jz:=⟨ad (by kernel_rfl),⟨underlying157,rfl⟩,fun h=>nomatch h⟩
def Jy:bE:=⟨.aM (.func #[126] #[4] kw),1,8,.nilFunc,kw⟩
theorem GB:aj prog 158 Jy:=⟨ad (by kernel_rfl),⟨underlying158,rfl⟩,fun h=>nomatch h⟩
def Jx:bE:=⟨.aM (.func #[128] #[4] kw),1,8,.nilFunc,kw⟩
theorem GA:aj prog 162 Jx:=⟨ad (by kernel_rfl),⟨underlying162,rfl⟩,fun h=>nomatch h⟩
def Jw:bE:=⟨.aM (.int .i64),1,8,.int .i64 (0),kw⟩
theorem Gz:aj prog 167 Jw:=⟨ad (by kernel_rfl),⟨underlying167,rfl⟩,fun h=>nomatch h⟩
def Jv:bE:=⟨.aM (.int .u32),1,4,.int .u32 (0),kw⟩
theorem Gy:aj prog 175 Jv:=⟨ad (by kernel_rfl),⟨underlying175,rfl⟩,fun h=>nomatch h⟩
def Ju:bE:=⟨.aM (.int .u64),1,8,.int .u64 (0),kw⟩
theorem Gx:aj prog 177 Ju:=⟨ad (by kernel_rfl),⟨underlying177,rfl⟩,fun h=>nomatch h⟩
def Jt:bE:=⟨.aM (.func #[3] #[4] kw),1,8,.nilFunc,kw⟩
theorem Gw:aj prog 185 Jt:=⟨ad (by kernel_rfl),⟨underlying185,rfl⟩,fun h=>nomatch h⟩
def Js:bE:=⟨.aM (.pointer 229),1,8,.pointer is,kw⟩
theorem Gv:aj prog 189 Js:=⟨ad (by kernel_rfl),⟨underlying189,rfl⟩,fun h=>nomatch h⟩
def Jr:bE:=⟨.aM (.slice 96),1,24,.slice is 0 0,kw⟩
theorem Gu:aj prog 192 Jr:=⟨ad (by kernel_rfl),⟨underlying192,rfl⟩,fun h=>nomatch h⟩
def Jq:bE:=⟨.aM (.func #[96] #[4] kw),1,8,.nilFunc,kw⟩
theorem Gt:aj prog 194 Jq:=⟨ad (by kernel_rfl),⟨underlying194,rfl⟩,fun h=>nomatch h⟩
def Jp:bE:=⟨.cM [(0,24),(1,185)],2,16,.agg #[.int .i64 (0),.nilFunc],jp⟩
theorem Gs:aj prog 195 Jp:=⟨ad (by kernel_rfl),⟨_,underlying195,rfl⟩,fun _=>cj underlying195 Tryz.stoodInHeld195 Tryz.eqGuardType195 (by decide)⟩
def Jo:bE:=⟨.aM (.pointer 238),1,8,.pointer is,kw⟩
theorem Gr:aj prog 197 Jo:=⟨ad (by kernel_rfl),⟨underlying197,rfl⟩,fun h=>nomatch h⟩
def Jn:bE:=⟨.aM (.slice 195),1,24,.slice is 0 0,kw⟩
theorem Gq:aj prog 199 Jn:=⟨ad (by kernel_rfl),⟨underlying199,rfl⟩,fun h=>nomatch h⟩
def Jm:bE:=⟨.aM (.func #[72] #[4] kw),1,8,.nilFunc,kw⟩
theorem Gp:aj prog 209 Jm:=⟨ad (by kernel_rfl),⟨underlying209,rfl⟩,fun h=>nomatch h⟩
def Jl:bE:=⟨.aM (.int .u64),1,8,.int .u64 (0),kw⟩
theorem Gn:aj prog 210 Jl:=⟨ad (by kernel_rfl),⟨underlying210,rfl⟩,fun h=>nomatch h⟩
def Jk:bE:=⟨.aM (.pointer 3),1,8,.pointer is,kw⟩
theorem Gm:aj prog 214 Jk:=⟨ad (by kernel_rfl),⟨underlying214,rfl⟩,fun h=>nomatch h⟩
def Jj:bE:=⟨.aM (.pointer 225),1,8,.pointer is,kw⟩
theorem Gl:aj prog 219 Jj:=⟨ad (by kernel_rfl),⟨underlying219,rfl⟩,fun h=>nomatch h⟩
def Ji:bE:=⟨.aM (.pointer 223),1,8,.pointer is,kw⟩
theorem Gk:aj prog 220 Ji:=⟨ad (by kernel_rfl),⟨underlying220,rfl⟩,fun h=>nomatch h⟩
def Jh:bE:=⟨.aM (.slice 5),1,24,.slice is 0 0,kw⟩
theorem Gj:aj prog 221 Jh:=⟨ad (by kernel_rfl),⟨underlying221,rfl⟩,fun h=>nomatch h⟩
def Jg:bE:=⟨.cM [(0,220),(1,221)],2,32,.agg #[.pointer is,.slice is 0 0],jp⟩
theorem Gi:aj prog 223 Jg:=⟨ad (by kernel_rfl),⟨_,underlying223,rfl⟩,fun _=>cj underlying223 Tryz.stoodInHeld223 Tryz.eqGuardType223 (by decide)⟩
def Jf:bE:=⟨.cM [(0,223),(2,4),(3,3)],4,48,.agg #[.pointer is,.slice is 0 0,.bool kw,.int .i64 (0)],jp⟩
theorem Gh:aj prog 225 Jf:=⟨ad (by kernel_rfl),⟨_,underlying225,rfl⟩,fun _=>cj underlying225 Tryz.stoodInHeld225 Tryz.eqGuardType225 (by decide)⟩
def Je:bE:=⟨.cM [(0,99),(5,155)],6,88,.agg #[.string Pq,.slice is 0 0,.slice is 0 0,.int .i64 (0),.int .i64 (0),.map is],jp⟩
theorem Gg:aj prog 229 Je:=⟨ad (by kernel_rfl),⟨_,underlying229,rfl⟩,fun _=>cj underlying229 Tryz.stoodInHeld229 Tryz.eqGuardType229 (by decide)⟩
def Jd:bE:=⟨.aM (.func #[104] #[4] kw),1,8,.nilFunc,kw⟩
theorem Gf:aj prog 233 Jd:=⟨ad (by kernel_rfl),⟨underlying233,rfl⟩,fun h=>nomatch h⟩
def Jc:bE:=⟨.aM (.map 244 244),1,8,.map is,kw⟩
theorem Ge:aj prog 234 Jc:=⟨ad (by kernel_rfl),⟨underlying234,rfl⟩,fun h=>nomatch h⟩
def Jb:bE:=⟨.aM (.map 244 3),1,8,.map is,kw⟩
theorem Gd:aj prog 235 Jb:=⟨ad (by kernel_rfl),⟨underlying235,rfl⟩,fun h=>nomatch h⟩
def Ja:bE:=⟨.aM (.slice 246),1,24,.slice is 0 0,kw⟩
theorem Gc:aj prog 236 Ja:=⟨ad (by kernel_rfl),⟨underlying236,rfl⟩,fun h=>nomatch h⟩
def I9:bE:=⟨.cM [(0,189),(1,234),(2,236),(3,235)],4,48,.agg #[.pointer is,.map is,.slice is 0 0,.map is],jp⟩
theorem Gb:aj prog 238 I9:=⟨ad (by kernel_rfl),⟨_,underlying238,rfl⟩,fun _=>cj underlying238 Tryz.stoodInHeld238 Tryz.eqGuardType238 (by decide)⟩
def I8:bE:=⟨.cM [(0,9),(1,3)],2,24,.agg #[.string Pq,.int .i64 (0)],jp⟩
theorem Ga:aj prog 244 I8:=⟨ad (by kernel_rfl),⟨_,underlying244,rfl⟩,fun _=>cj underlying244 Tryz.stoodInHeld244 Tryz.eqGuardType244 (by decide)⟩
def I7:bE:=⟨.cM [(0,3),(1,244),(3,3),(4,3)],5,48,.agg #[.int .i64 (0),.string Pq,.int .i64 (0),.int .i64 (0),.int .i64 (0)],jp⟩
theorem F9:aj prog 246 I7:=⟨ad (by kernel_rfl),⟨_,underlying246,rfl⟩,fun _=>cj underlying246 Tryz.stoodInHeld246 Tryz.eqGuardType246 (by decide)⟩
def I6:bE:=⟨.aM (.func #[21] #[4] kw),1,8,.nilFunc,kw⟩
theorem F8:aj prog 256 I6:=⟨ad (by kernel_rfl),⟨underlying256,rfl⟩,fun h=>nomatch h⟩
def I5:bE:=⟨.aM (.pointer 210),1,8,.pointer is,kw⟩
theorem F7:aj prog 258 I5:=⟨ad (by kernel_rfl),⟨underlying258,rfl⟩,fun h=>nomatch h⟩
def I4:bE:=⟨.arr 7 9,7,112,.agg #[.string Pq,.string Pq,.string Pq,.string Pq,.string Pq,.string Pq,.string Pq],kw⟩
theorem F6:aj prog 266 I4:=⟨ad (by kernel_rfl),underlying266,fun h=>nomatch h⟩
def I3:bE:=⟨.aM (.pointer 5),1,8,.pointer is,kw⟩
theorem F5:aj prog 281 I3:=⟨ad (by kernel_rfl),⟨underlying281,rfl⟩,fun h=>nomatch h⟩
def I2:bE:=⟨.arr 5 9,5,80,.agg #[.string Pq,.string Pq,.string Pq,.string Pq,.string Pq],kw⟩
theorem F4:aj prog 283 I2:=⟨ad (by kernel_rfl),underlying283,fun h=>nomatch h⟩
def I1:bE:=⟨.aM (.unsafePointer),1,8,.pointer is,kw⟩
theorem F3:aj prog 291 I1:=⟨ad (by kernel_rfl),⟨underlying291,rfl⟩,fun h=>nomatch h⟩
def I0:bE:=⟨.arr 24 5,24,24,.agg (.replicate 24 (.int .u8 (0))),kw⟩
theorem F2:aj prog 295 I0:=⟨ad (by kernel_rfl),underlying295,fun h=>nomatch h⟩
def IZ:bE:=⟨.arr 20 177,20,160,.agg (.replicate 20 (.int .u64 (0))),kw⟩
theorem F1:aj prog 300 IZ:=⟨ad (by kernel_rfl),underlying300,fun h=>nomatch h⟩
def IY:bE:=⟨.arr 65 5,65,65,.agg (.replicate 65 (.int .u8 (0))),kw⟩
theorem F0:aj prog 301 IY:=⟨ad (by kernel_rfl),underlying301,fun h=>nomatch h⟩
def IX:bE:=⟨.arr 32 5,32,32,.agg (.replicate 32 (.int .u8 (0))),kw⟩
theorem FZ:aj prog 302 IX:=⟨ad (by kernel_rfl),underlying302,fun h=>nomatch h⟩
def IW:bE:=⟨.arr 64 5,64,64,.agg (.replicate 64 (.int .u8 (0))),kw⟩
theorem FY:aj prog 303 IW:=⟨ad (by kernel_rfl),underlying303,fun h=>nomatch h⟩
def Dc:TT:=(.node (.node (.node (.node (.node (.node (.node .leaf 2 ty2 .leaf) 3 ty3 .leaf) 4 ty4 (.node (.node .leaf 5 ty5 .leaf) 9 ty9 .leaf)) 21 MZ (.node (.node (.node .leaf 23 MY .leaf) 24 MX .leaf) 27 MW (.node (.node .leaf 29 MV .leaf) 31 MU .leaf))) 32 MT (.node (.node (.node (.node .leaf 33 MS .leaf) 35 MR .leaf) 36 MQ (.node (.node .leaf 37 MP .leaf) 39 MO .leaf)) 42 MN (.node (.node (.node .leaf 47 MM .leaf) 48 ML .leaf) 61 MK (.node (.node .leaf 63 MJ .leaf) 65 MI .leaf)))) 67 MH (.node (.node (.node (.node (.node .leaf 70 MG .leaf) 72 MF .leaf) 73 ME (.node (.node .leaf 76 MD .leaf) 78 fa .leaf)) 81 MC (.node (.node (.node .leaf 85 MA .leaf) 88 Mz .leaf) 89 My (.node (.node .leaf 92 Mx .leaf) 94 Mw .leaf))) 96 Mv (.node (.node (.node (.node .leaf 97 Mu .leaf) 99 Mt .leaf) 104 JO (.node (.node .leaf 111 JN .leaf) 114 JM .leaf)) 122 JL (.node (.node (.node .leaf 124 JK .leaf) 126 JJ .leaf) 128 JI (.node .leaf 129 JH .leaf))))) 132 JG (.node (.node (.node (.node (.node (.node .leaf 133 JF .leaf) 139 JE .leaf) 142 JD (.node (.node .leaf 147 JC .leaf) 151 JB .leaf)) 155 JA (.node (.node (.node .leaf 157 Jz .leaf) 158 Jy .leaf) 162 Jx (.node (.node .leaf 167 Jw .leaf) 175 Jv .leaf))) 177 Ju (.node (.node (.node (.node .leaf 185 Jt .leaf) 189 Js .leaf) 192 Jr (.node (.node .leaf 194 Jq .leaf) 195 Jp .leaf)) 197 Jo (.node (.node (.node .leaf 199 Jn .leaf) 209 Jm .leaf) 210 Jl (.node (.node .leaf 214 Jk .leaf) 219 Jj .leaf)))) 220 Ji (.node (.node (.node (.node (.node .leaf 221 Jh .leaf) 223 Jg .leaf) 225 Jf (.node (.node .leaf 229 Je .leaf) 233 Jd .leaf)) 234 Jc (.node (.node (.node .leaf 235 Jb .leaf) 236 Ja .leaf) 238 I9 (.node (.node .leaf 244 I8 .leaf) 246 I7 .leaf))) 256 I6 (.node (.node (.node (.node .leaf 258 I5 .leaf) 266 I4 .leaf) 281 I3 (.node (.node .leaf 283 I2 .leaf) 291 I1 .leaf)) 295 I0 (.node (.node (.node .leaf 300 IZ .leaf) 301 IY .leaf) 302 IX (.node .leaf 303 IW .leaf))))))
theorem yL:Dc.On (aj prog):=⟨GK,⟨Kw,⟨KK,⟨KR,⟨Mq,⟨Mr,⟨Ms,ac,ac⟩,ac⟩,⟨Mo,⟨Mp,ac,ac⟩,ac⟩⟩,⟨KO,⟨KP,⟨KQ,ac,ac⟩,ac⟩,⟨KL,⟨KN,ac,ac⟩,ac⟩⟩⟩,⟨KD,⟨KG,⟨KH,⟨KJ,ac,ac⟩,ac⟩,⟨KE,⟨KF,ac,ac⟩,ac⟩⟩,⟨Kz,⟨KA,⟨KB,ac,ac⟩,ac⟩,⟨Kx,⟨Ky,ac,ac⟩,ac⟩⟩⟩⟩,⟨Kk,⟨Kq,⟨Kt,⟨Ku,⟨Kv,ac,ac⟩,ac⟩,⟨Kr,⟨Ks,ac,ac⟩,ac⟩⟩,⟨Kn,⟨Ko,⟨Kp,ac,ac⟩,ac⟩,⟨Kl,⟨Km,ac,ac⟩,ac⟩⟩⟩,⟨GR,⟨GV,⟨Ki,⟨Kj,ac,ac⟩,ac⟩,⟨GS,⟨GU,ac,ac⟩,ac⟩⟩,⟨GN,⟨GP,⟨GQ,ac,ac⟩,ac⟩,⟨GL,ac,ac⟩⟩⟩⟩⟩,⟨Gk,⟨Gx,⟨GD,⟨GH,⟨GI,⟨GJ,ac,ac⟩,ac⟩,⟨GF,⟨GG,ac,ac⟩,ac⟩⟩,⟨GA,⟨GB,⟨GC,ac,ac⟩,ac⟩,⟨Gy,⟨Gz,ac,ac⟩,ac⟩⟩⟩,⟨Gr,⟨Gu,⟨Gv,⟨Gw,ac,ac⟩,ac⟩,⟨Gs,⟨Gt,ac,ac⟩,ac⟩⟩,⟨Gn,⟨Gp,⟨Gq,ac,ac⟩,ac⟩,⟨Gl,⟨Gm,ac,ac⟩,ac⟩⟩⟩⟩,⟨F8,⟨Ge,⟨Gh,⟨Gi,⟨Gj,ac,ac⟩,ac⟩,⟨Gf,⟨Gg,ac,ac⟩,ac⟩⟩,⟨Gb,⟨Gc,⟨Gd,ac,ac⟩,ac⟩,⟨F9,⟨Ga,ac,ac⟩,ac⟩⟩⟩,⟨F2,⟨F5,⟨F6,⟨F7,ac,ac⟩,ac⟩,⟨F3,⟨F4,ac,ac⟩,ac⟩⟩,⟨FZ,⟨F0,⟨F1,ac,ac⟩,ac⟩,⟨FY,ac,ac⟩⟩⟩⟩⟩⟩
def nD:Ty:=Dc.find
theorem ab:bx prog nD:=TT.td yL
theorem LC:prog.follows .mixedOrders=jp:=rfl
theorem fj{Q:AQ}{nt:Nat}{k:List KI}{s:AS}{C:Prop}{b:Nat}{st:Stop}(h:bw nD ⟨fun _=>is,0,kw⟩ 400 nt k s True=io (C,b,st))(hC:C)(hg:ep prog b Q st):GO prog nt k Q s:=zw LC ab 400 h hC hg
theorem gA{Q:AQ}{nt:Nat}{k:List KI}{s:AS}{C:Prop}{b:Nat}{st:Stop}(h:bw nD ⟨fun _=>is,0,kw⟩ 400 nt k s True=io (C,b,st))(hg:ep prog b Q st)
  (hC:C:=by(repeat' (first|exact ac|exact rfl|exact ah.refl _|exact ah.bk (by assumption)|apply Pm))<;>first|omega|exact fX (fun _=>rfl) _|(simp only[Po];omega)|(simp;done)|(simp;omega)):GO prog nt k Q s:=zw LC ab 400 h hC hg
theorem gM(N:Nat){Q:AQ}{nt:Nat}{k:List KI}{s:AS}{C:Prop}{b:Nat}{st:Stop}(h:bw nD ⟨fun _=>is,0,kw⟩ N nt k s True=io (C,b,st))(hg:ep prog b Q st)
  (hC:C:=by(repeat' (first|exact ac|exact rfl|exact ah.refl _|exact ah.bk (by assumption)|apply Pm))<;>first|omega|exact fX (fun _=>rfl) _|(simp only[Po];omega)|(simp;done)|(simp;omega)):GO prog nt k Q s:=zw LC ab N h hC hg
theorem zp{nt:Nat}{Q:AQ}{k:List KI}{s:AS}{all rest:List Oper}{o:Oper}{c:Call}{g:FuncId}{args:List PV}{r:PV}{s':AS}(hc:Al.Pure prog g args r)(h:GO prog nt (.ops all rest::k) Q s')(ho:o.op= .call c:=by exact rfl)(hg:o.guard=is:=by exact rfl)(ha:bM s.f c=io (g,args):=by exact rfl)(hl:bm 0 args=jp:=by exact rfl)(hr:r.low 0=jp:=by exact rfl)(hp:putDst nt o r s=io s':=by exact rfl):GO prog nt (.ops all (o::rest)::k) Q s:=aE hc ho hg ha hl hr hp h
theorem zL{ty:Ty}{j:List ResultVar}{e:Exit}{s:AS}{r r0:PV}(b:ah r0 r)(he:e= .normal∨e= .ret:=by first|exact .inr Z|exact .inl Z)(h:iU ty s j=io r0:=by exact rfl):CS ty j r e s:=aQ he h b
theorem zq{nt:Nat}{Q:AQ}{k:List KI}{s:AS}{all rest:List Oper}{o:Oper}{c:Call}{g:FuncId}{u args:List PV}{os:List AO}{r:PV}{y:AH}{A:Nat}{s':AS}(L:List Nat)(hc:bD prog g args os r y A)(h:GO prog nt (.ops all rest::k) Q s')(ho:o.op= .call c:=by exact rfl)(hg:o.guard=is:=by exact rfl)(ha:bM s.f c=io (g,u):=by exact rfl)(hn:cC L=jp:=by exact rfl)(hl:L.all (fun j=>PI j s.nx)=jp:=by exact rfl)(x:L.map s.h.get=os.map fun o=>io (o.cv (sig L s.nx)):=by exact rfl)(b:u=dy (sig L s.nx) args:=by exact rfl)(hp:putDst nt o (r.cv (sig L s.nx)) (aX s L y A)=io s':=by exact rfl):GO prog nt (.ops all (o::rest)::k) Q s:=bQ L hc ho hg ha hn hl x b hp h
theorem zd{nt:Nat}{Q:AQ}{k:List KI}{s:AS}{all:List Oper}{todo pend:List (Nat×Oper)}{j:Nat}{o:Oper}{c:Call}{g:FuncId}{u args:List PV}{os:List AO}{r:PV}{C:AH}{D:Nat}{s':AS}{B A:Prop}(L:List Nat)(hc:bD prog g args os r C D)(h:GO prog nt (.bW all (todo.filter fun x=>!PJ x.1 j) (aZ pend o)::k) Q s')(hrd:eL todo=[(j,o)]:=by exact rfl)(ho:o.op= .call c:=by exact rfl)(ha:bM s.f c=io (g,u):=by exact rfl)(hn:cC L=jp:=by exact rfl)(hl:L.all (fun j=>PI j s.nx)=jp:=by exact rfl)(y:L.map s.h.get=os.map fun o=>io (o.cv (sig L s.nx)):=by exact rfl)(b:u=dy (sig L s.nx) args:=by exact rfl)(hp:putDst nt o (r.cv (sig L s.nx)) (aX s L C D)=io s':=by exact rfl)(hg:bX nt all s.f o=io jp:=by exact rfl)(hpb:gZ all pend o=jp:=by exact rfl)(hE:mW todo [j]=jp:=by exact rfl)(hag:mX nD nt all s todo pend=io B:=by exact rfl)(hCA:B:=by(repeat' (first|exact ac|exact rfl|exact ah.refl _|exact ah.bk (by assumption)|apply Pm))<;>first|omega|(simp only[Po];omega)|(simp;done)|(simp;omega))(hag2:dD nD nt all s' (aZ pend o)=io A:=by exact rfl)(hC2:A:=by(repeat' (first|exact ac|exact rfl|exact ah.refl _|exact ah.bk (by assumption)|apply Pm))<;>first|omega|(simp only[Po];omega)|(simp;done)|(simp;omega)):GO prog nt (.bW all todo pend::k) Q s:=bh ab L hc hrd ho ha hn hl y b hp hg hpb hE hag hCA hag2 hC2 h
theorem Ad{nt:Nat}{Q:AQ}{k:List KI}{s:AS}{all:List Oper}{todo pend:List (Nat×Oper)}{j:Nat}{o:Oper}{c:Call}{g:FuncId}{u args:List PV}{r:PV}{s':AS}{A y:Prop}(hc:Al.Pure prog g args r)(h:GO prog nt (.bW all (todo.filter fun x=>!PJ x.1 j) (aZ pend o)::k) Q s')(hrd:eL todo=[(j,o)]:=by exact rfl)(ho:o.op= .call c:=by exact rfl)(ha:bM s.f c=io (g,u):=by exact rfl)(b:u=dy (sig [] s.nx) args:=by exact rfl)(hp:putDst nt o (r.cv (sig [] s.nx)) (aX s [] [] 0)=io s':=by exact rfl)(hg:bX nt all s.f o=io jp:=by exact rfl)(hpb:gZ all pend o=jp:=by exact rfl)(hE:mW todo [j]=jp:=by exact rfl)(hag:mX nD nt all s todo pend=io A:=by exact rfl)(hCA:A:=by(repeat' (first|exact ac|exact rfl|exact ah.refl _|exact ah.bk (by assumption)|apply Pm))<;>first|omega|(simp only[Po];omega)|(simp;done)|(simp;omega))(hag2:dD nD nt all s' (aZ pend o)=io y:=by exact rfl)(hC2:y:=by(repeat' (first|exact ac|exact rfl|exact ah.refl _|exact ah.bk (by assumption)|apply Pm))<;>first|omega|(simp only[Po];omega)|(simp;done)|(simp;omega)):GO prog nt (.bW all todo pend::k) Q s:=bh ab [] hc.rK hrd ho ha Z Z Z b hp hg hpb hE hag hCA hag2 hC2 h
theorem zW{n0:Nat}{L:List Nat}{s t:AS}(hh:mG t.nx (sg n0 L) s.h t.h)(h1:PJ t.nx (n0+L.length)=jp:=by exact rfl)(b:Rw n0 s.nx=jp:=by exact rfl)(u:L.all (fun j=>PI j s.nx)=jp:=by exact rfl)(hf:C3 t.nx (sg n0 L) s.f t.f:=by repeat' (first|exact ac|exact ah.refl _|exact rfl|apply Pm))(x:cC (ei (sg n0 L) t.h)=jp:=by exact rfl):Wk n0 L s t:=wk h1 b u hf hh x
theorem zM{n0:Nat}{L:List Nat}{s t:AS}(hf:C3 t.nx (sg n0 L) s.f t.f)(hh:mG t.nx (sg n0 L) s.h t.h)(h1:PJ t.nx (n0+L.length)=jp:=by exact rfl)(b:Rw n0 s.nx=jp:=by exact rfl)(u:L.all (fun j=>PI j s.nx)=jp:=by exact rfl)(x:cC (ei (sg n0 L) t.h)=jp:=by exact rfl):Wk n0 L s t:=wk h1 b u hf hh x
theorem zK{n i:Nat}{σ:Nat->Nat}{h r:AH}{cs:List PV}{b:Option TypeId}{c:List IV}(hr:mG n σ h r)(ho:h.get (σ i)=io (.cells cs b):=by exact rfl)(he:cs=c.map .iv:=by exact rfl)(hi:PI i n=jp:=by exact rfl):mG n σ h ((i,io (aw c))::r):=hC ho he hi hr
theorem zS{n i:Nat}{σ:Nat->Nat}{h r:AH}{α:Type}{sz:Nat}{es:List (List PV)}{l:List α}{f:α->List IV}(hr:mG n σ h r)(ho:h.get (σ i)=io (.row sz es):=by exact rfl)(he:es=l.map fun x=>(f x).map .iv:=by exact rfl)(hi:PI i n=jp:=by exact rfl):mG n σ h ((i,io (aF sz l f))::r):=hR ho he hi hr
theorem zI{a b:Prop}(l:a)(r:b):a∧b:=⟨l,r⟩
theorem zO{n i:Nat}{σ:Nat->Nat}{h r:AH}{o:AO}(hr:mG n σ h r)(he: ∃p,h.get (σ i)=io p∧dT p (o.cv σ):=by exact⟨_,rfl,.of_eq Z⟩)(hi:i<n:=by exact Pf Z)(hl:o.low n:=by exact rfl):mG n σ h ((i,io o)::r):=⟨he,hi,hl,hr⟩
theorem zD{ty:Ty}{s:AS}{l:List ResultVar}{m:Nat}{r r0:PV}{h:AH}{n:Nat}{e:Exit}(L:List Nat)(hr:iU ty s l=io r0)(hw:Wk m L ⟨[(0,r0)],s.h,s.nx⟩ ⟨[(0,r)],h,n⟩)(he:e= .normal∨e= .ret:=by first|exact .inr Z|exact .inl Z):Ac ty l m r h n e s:=aY L he hr hw
theorem zU{ty:Ty}{j:List ResultVar}{nt:Nat}{k:List KI}{s s':AS}{e:Exit}{C:Prop}{b:Nat}{r r0:PV}(h:bw nD ⟨fun _=>is,0,kw⟩ 400 nt k s True=io (C,b,.fin e s'))(hr:r0=r:=by exact rfl)(he:e= .normal∨e= .ret:=by first|exact .inr Z|exact .inl Z)(h1:iU ty s' j=io r0:=by exact rfl)(hC:C:=by(repeat' (first|exact ac|exact rfl|exact ah.refl _|exact ah.bk (by assumption)|apply Pm))<;>first|omega|exact fX (fun _=>rfl) _|(simp only[Po];omega)|(simp;done)|(simp;omega)):GO prog nt k (CS ty j r) s:=gA h (aQ he h1 (.of_eq hr)) hC
theorem zC{n i:Nat}{σ:Nat->Nat}{h r:AH}{V:Type}{kc:KC}{ev:V->IV}{z:V}{u:Value}{b:PV->V}{m j:List (kc.K×V)}(hr:mG n σ h r)(ho:h.get (σ i)=io (.map kc ev z u b m):=by exact rfl)(he:m=j:=by exact rfl)(hi:PI i n=jp:=by exact rfl):mG n σ h ((i,io (.map kc ev z u b j))::r):=hM ho he hi hr
theorem zJ{Q:AQ}{nt:Nat}{k:List KI}{s:AS}{C:Prop}{j:Nat}{st:Stop}{a b:Prop}(h:bw nD ⟨fun _=>is,0,kw⟩ 400 nt k s True=io (C,j,st))(e:ep prog j Q st=(a∧b))(l:a)(r:b)(hC:C:=by(repeat' (first|exact ac|exact rfl|exact ah.refl _|exact ah.bk (by assumption)|apply Pm))<;>first|omega|exact fX (fun _=>rfl) _|(simp only[Po];omega)|(simp;done)|(simp;omega)):GO prog nt k Q s:=gA h (e.mpr ⟨l,r⟩) hC
theorem zE{Q:AQ}{nt:Nat}{k:List KI}{s:AS}{C:Prop}{j:Nat}{st:Stop}{a b:Prop}(h:bw nD ⟨fun _=>is,0,kw⟩ 400 nt k s True=io (C,j,st))(e:ep prog j Q st=(a∧b))(r:b)(l:a)(hC:C:=by(repeat' (first|exact ac|exact rfl|exact ah.refl _|exact ah.bk (by assumption)|apply Pm))<;>first|omega|exact fX (fun _=>rfl) _|(simp only[Po];omega)|(simp;done)|(simp;omega)):GO prog nt k Q s:=gA h (e.mpr ⟨l,r⟩) hC
theorem zT{p:Prop}[Decidable p](h:decide p=jp):p:=of_decide_eq_true h
theorem zF{p:Prop}[Decidable p](h:decide p=kw): ¬p:=of_decide_eq_false h
theorem zN{a b:Nat}(h:lc ((a:Int)<(b:Int))=jp):a<b:=Int.ofNat_lt.1 (of_decide_eq_true h)
theorem zG{a b:Nat}(h:lc ((a:Int)<(b:Int))=kw):b<=a:=Rj fun hh=>absurd (Int.ofNat_lt.2 hh) (of_decide_eq_false h)
end Go.Proofs.YtllkaddcplhklaaGreatDoor
namespace Go.Proofs.YtllkaddcplhklaaGreatDoor
open Go Go.Al
abbrev an:=ByteArray
structure dG where
 kind:Int
 num:Int
 sym:an
 deriving Inhabited,DecidableEq
structure Term where
 kind:Int
 var:an
 val:dG
 deriving Inhabited,DecidableEq
inductive Expr where
 |mk (kind:Int) (var:an) (val:dG) (op:Int) (args:List Expr)
instance:Inhabited Expr:=⟨.mk 0 Pq ⟨0,0,Pq⟩ 0 []⟩
def Expr.kind:Expr->Int| .mk k _ _ _ _=>k
def Expr.var:Expr->an| .mk _ v _ _ _=>v
def Expr.val:Expr->dG| .mk _ _ v _ _=>v
def Expr.op:Expr->Int| .mk _ _ _ o _=>o
def Expr.args:Expr->List Expr| .mk _ _ _ _ a=>a
structure Atom where
 rel:an
 ak:List Term
 deriving Inhabited,DecidableEq
structure Pos where
 line:Int
 FP:Int
 deriving Inhabited,DecidableEq
inductive Lit where
 |mk (kind:Int) (atom:Atom) (op:Int) (left right:Expr) (dS:Int) (bB:an) (jx:Expr) (ar:List Lit) (at_:Pos)
instance:Inhabited Lit:=⟨.mk 0 co 0 co co 0 Pq co [] ⟨0,0⟩⟩
def Lit.kind:Lit->Int| .mk k _ _ _ _ _ _ _ _ _=>k
def Lit.atom:Lit->Atom| .mk _ a _ _ _ _ _ _ _ _=>a
def Lit.op:Lit->Int| .mk _ _ o _ _ _ _ _ _ _=>o
def Lit.left:Lit->Expr| .mk _ _ _ l _ _ _ _ _ _=>l
def Lit.right:Lit->Expr| .mk _ _ _ _ r _ _ _ _ _=>r
def Lit.dS:Lit->Int| .mk _ _ _ _ _ f _ _ _ _=>f
def Lit.bB:Lit->an| .mk _ _ _ _ _ _ v _ _ _=>v
def Lit.jx:Lit->Expr| .mk _ _ _ _ _ _ _ o _ _=>o
def Lit.ar:Lit->List Lit| .mk _ _ _ _ _ _ _ _ b _=>b
def Lit.at:Lit->Pos| .mk _ _ _ _ _ _ _ _ _ p=>p
structure fw where
 func:Int
 var:an
 iD:Expr
 body:List Lit
 deriving Inhabited
def Lit.agg(l:Lit):fw:=⟨l.dS,l.bB,l.jx,l.ar⟩
structure ax where
 head:Atom
 body:List Lit
 at_:Pos
 deriving Inhabited
structure Decl where
 name:an
 types:List Int
 at_:Pos
 deriving Inhabited
structure Prog where
 aR:List Decl
 rules:List ax
 deriving Inhabited
structure Fact where
 rel:an
 args:List dG
 deriving Inhabited
def dG.c(v:dG):List IV:=[iI v.kind,iI v.num,iS v.sym]
def Term.c(t:Term):List IV:=[iI t.kind,iS t.var,iI t.val.kind,iI t.val.num,iS t.val.sym]
def cS(s:an):List IV:=[iS s]
def jV(n:Int):List IV:=[iI n]
abbrev strs(l:List an):IV:=bN 1 l cS
def Atom.c(a:Atom):List IV:=[iS a.rel,bN 5 a.ak Term.c]
mutual
def Expr.cr:Expr->List IV
 | .mk k v val op args=> [iI k,iS v,iI val.kind,iI val.num,iS val.sym,iI op,.ct 7 args.length (fun j=>(Expr.wI args).getD j [])]
def Expr.wI:List Expr->List (List IV)
 | []=> []
 |e::r=>e.cr::Expr.wI r
end
def Expr.c(e:Expr):List IV:=[iI e.kind,iS e.var,iI e.val.kind,iI e.val.num,iS e.val.sym,iI e.op,.ct 7 e.args.length (fun j=>(Expr.wI e.args).getD j [])]
def Expr.c1(e:Expr):List IV:=[iI e.kind,iS e.var,iI e.val.kind,iI e.val.num,iS e.val.sym,iI e.op,bN 7 e.args Expr.c]
theorem Expr.Fj(e:Expr):e.cr=e.c:=by cases e;rfl
theorem Expr.oj: ∀(l:List Expr) (k:Nat),k<l.length->(Expr.wI l).getD k []=(l.getD k co).c
 |e::r,0,_=>by simp[Expr.wI,Expr.Fj]
 |e::r,k+1,h=>by simpa[Expr.wI]using Expr.oj r k (by simpa using h)
 | [],k,h=>by simp at h
theorem LV(e:Expr):jy (.ct 7 e.args.length (fun j=>(Expr.wI e.args).getD j [])) (bN 7 e.args Expr.c):= .ct Z (Expr.oj e.args)
theorem Bq(e:Expr):jy (bN 7 e.args Expr.c) (.ct 7 e.args.length (fun j=>(Expr.wI e.args).getD j [])):= .ct Z (fun k hk=>(Expr.oj e.args k hk).symm)
mutual
def Lit.cr:Lit->List IV
 | .mk kind atom op left right dS bB jx ar at_=>
  iI kind::(atom.c++(iI op::(left.c++(right.c++(iI dS::iS bB::(jx.c++ [.ct 30 ar.length (fun j=>(Lit.wI ar).getD j []),iI at_.line,iI at_.FP]))))))
def Lit.wI:List Lit->List (List IV)
 | []=> []
 |e::r=>e.cr::Lit.wI r
end
def Lit.cw(l:Lit)(b:IV):List IV:=
 [iI l.kind,iS l.atom.rel,bN 5 l.atom.ak Term.c,iI l.op,
  iI l.left.kind,iS l.left.var,iI l.left.val.kind,iI l.left.val.num,iS l.left.val.sym,iI l.left.op,.ct 7 l.left.args.length (fun j=>(Expr.wI l.left.args).getD j []),
  iI l.right.kind,iS l.right.var,iI l.right.val.kind,iI l.right.val.num,iS l.right.val.sym,iI l.right.op,.ct 7 l.right.args.length (fun j=>(Expr.wI l.right.args).getD j []),
  iI l.dS,iS l.bB,
  iI l.jx.kind,iS l.jx.var,iI l.jx.val.kind,iI l.jx.val.num,iS l.jx.val.sym,iI l.jx.op,.ct 7 l.jx.args.length (fun j=>(Expr.wI l.jx.args).getD j []),
  b,iI l.at.line,iI l.at.FP]
def tt(l:List Lit):IV:= .ct 30 l.length (fun j=>(Lit.wI l).getD j [])
def Lit.c(l:Lit):List IV:=l.cw (tt l.ar)
abbrev lits(l:List Lit):IV:=bN 30 l Lit.c
def Lit.c1(l:Lit):List IV:=l.cw (lits l.ar)
theorem Lit.Fj(e:Lit):e.cr=e.c:=by cases e;rfl
theorem Lit.oj: ∀(l:List Lit) (k:Nat),k<l.length->(Lit.wI l).getD k []=(l.getD k co).c
 |e::r,0,_=>by simp[Lit.wI,Lit.Fj]
 |e::r,k+1,h=>by simpa[Lit.wI]using Lit.oj r k (by simpa using h)
 | [],k,h=>by simp at h
theorem l9(l:List Lit):jy (tt l) (lits l):= .ct Z (Lit.oj l)
theorem zg(l:List Lit):jy (lits l) (tt l):= .ct Z (fun k hk=>(Lit.oj l k hk).symm)
def fw.cw(a:fw)(b:IV):List IV:=[iI a.func,iS a.var,iI a.iD.kind,iS a.iD.var,iI a.iD.val.kind,iI a.iD.val.num,iS a.iD.val.sym,iI a.iD.op,.ct 7 a.iD.args.length (fun j=>(Expr.wI a.iD.args).getD j []),b]
def fw.c(a:fw):List IV:=a.cw (tt a.body)
def fw.c1(a:fw):List IV:=a.cw (lits a.body)
def ax.c(r:ax):List IV:=[iS r.head.rel,bN 5 r.head.ak Term.c,lits r.body,iI r.at_.line,iI r.at_.FP]
def Decl.c(r:Decl):List IV:=[iS r.name,bN 1 r.types jV,iI r.at_.line,iI r.at_.FP]
def Prog.c(p:Prog):List IV:=[bN 4 p.aR Decl.c,bN 5 p.rules ax.c]
def Fact.c(f:Fact):List IV:=[iS f.rel,bN 3 f.args dG.c]
theorem Expr.AZ(e:Expr):ah (ag e.c) (ag e.c1):= .agg ⟨.refl _,.refl _,.refl _,.refl _,.refl _,.refl _,.iv (LV e),ac⟩
theorem Expr.HV(e:Expr):ah (ag e.c1) (ag e.c):= .agg ⟨.refl _,.refl _,.refl _,.refl _,.refl _,.refl _,.iv (Bq e),ac⟩
theorem Lit.Bv(l:Lit){b j:IV}(h:jy b j):ah (ag (l.cw b)) (ag (l.cw j)):=
 .agg ⟨.refl _,.refl _,.refl _,.refl _,.refl _,.refl _,.refl _,.refl _,.refl _,.refl _,.refl _,.refl _,.refl _,.refl _,.refl _,.refl _,.refl _,.refl _,.refl _,.refl _,.refl _,.refl _,.refl _,.refl _,.refl _,.refl _,.refl _,.iv h,.refl _,.refl _,ac⟩
theorem Lit.AZ(l:Lit):ah (ag l.c) (ag l.c1):=l.Bv (l9 _)
theorem fw.Bv(l:fw){b j:IV}(h:jy b j):ah (ag (l.cw b)) (ag (l.cw j)):=
 .agg ⟨.refl _,.refl _,.refl _,.refl _,.refl _,.refl _,.refl _,.refl _,.refl _,.iv h,ac⟩
theorem fw.AZ(l:fw):ah (ag l.c) (ag l.c1):=l.Bv (l9 _)
theorem fw.HV(l:fw):ah (ag l.c1) (ag l.c):=l.Bv (zg _)
mutual
def Expr.size:Expr->Nat
 | .mk _ _ _ _ args=>1+Expr.aB args
def Expr.aB:List Expr->Nat
 | []=>0
 |e::r=>e.size+Expr.aB r
end
mutual
def Lit.size:Lit->Nat
 | .mk _ a _ l r _ _ o b _=>2+a.ak.length+l.size+r.size+o.size+Lit.aB b
def Lit.aB:List Lit->Nat
 | []=>0
 |e::r=>e.size+Lit.aB r
end
theorem Expr.size_eq(e:Expr):e.size=1+Expr.aB e.args:=by cases e;rfl
theorem Lit.size_eq(l:Lit):l.size=2+l.atom.ak.length+l.left.size+l.right.size+l.jx.size+Lit.aB l.ar:=by cases l;rfl
theorem Expr.bT: ∀(l:List Expr) (k:Nat),k<l.length->(l.getD k co).size<=Expr.aB l
 |e::r,0,_=>by simp[Expr.aB]
 |e::r,k+1,h=>by
  have:=Expr.bT r k (by simpa using h);simp only[QI,Expr.aB];omega
 | [],k,h=>by simp at h
theorem Lit.bT: ∀(l:List Lit) (k:Nat),k<l.length->(l.getD k co).size<=Lit.aB l
 |e::r,0,_=>by simp[Lit.aB]
 |e::r,k+1,h=>by
  have:=Lit.bT r k (by simpa using h);simp only[QI,Lit.aB];omega
 | [],k,h=>by simp at h
theorem Expr.size_pos(e:Expr):1<=e.size:=by rw[e.size_eq];omega
theorem Lit.size_pos(e:Lit):2<=e.size:=by rw[e.size_eq];omega
theorem Expr.aG: ∀(l:List Expr),l.length<=Expr.aB l
 | []=>Ps _
 |e::r=>by have:=e.size_pos;have:=Expr.aG r;simp only[PX,Expr.aB];omega
theorem Lit.aG: ∀(l:List Lit),l.length<=Lit.aB l
 | []=>Ps _
 |e::r=>by have:=e.size_pos;have:=Lit.aG r;simp only[PX,Lit.aB];omega
def ax.size(r:ax):Nat:=r.head.ak.length+Lit.aB r.body
def du(l:List an)(s:an):Bool:=l.any fun x=>lc (x=s)
def dH(s:an)(a:List an×Bool)(x:an):List an×Bool:=
 if(a.2||decide (x=s))=kw∧(!(Op.bytesLess x.toList s.toList||decide (x=s)))=jp then(a.1++ [s]++ [x],jp) else(a.1++ [x],a.2||decide (x=s))
def fQ(l:List an)(s:an):List an:=
 let r:=l.foldl (dH s) ([],kw)
 if r.2 then r.1 else r.1++ [s]
def mH(l m:List an):List an:=m.foldl fQ l
def yM(a:List an)(t:Term):List an:=if t.kind=1 then fQ a t.var else a
def pe(a:Atom):List an:=a.ak.foldl yM []
theorem Lit.r9: ∀(l:List Lit) (i:Nat),Lit.aB (l.take i)<=Lit.aB l
 | [],i=>by simp
 |e::r,0=>by simp[Lit.aB]
 |e::r,i+1=>by have:=Lit.r9 r i;simp only[QQ,Lit.aB];omega
theorem Expr.dw: ∀(l:List Expr) (i:Nat),i<l.length->Expr.aB (l.take i)+(l.getD i co).size<=Expr.aB l
 |e::r,0,_=>by simp[Expr.aB]
 |e::r,i+1,h=>by have:=Expr.dw r i (by simpa using h);simp only[QQ,QI,Expr.aB];omega
 | [],i,h=>by simp at h
theorem Lit.dw: ∀(l:List Lit) (i:Nat),i<l.length->Lit.aB (l.take i)+(l.getD i co).size<=Lit.aB l
 |e::r,0,_=>by simp[Lit.aB]
 |e::r,i+1,h=>by have:=Lit.dw r i (by simpa using h);simp only[QQ,QI,Lit.aB];omega
 | [],i,h=>by simp at h
def fw.size(a:fw):Nat:=a.iD.size+Lit.aB a.body
section
def wY(n:Int):IV:= .v (.int .i64 n)
def OF(p:PV):Int:=match p with
 | .iv (.v (.int _ n))=>n
 |_=>0
abbrev NM:=List ((KC.str).K×Int)
abbrev cG(m:NM):AO:= .map .str wY 0 (.int .i64 0) OF m
abbrev xW(m:NM):IV:= .dQ .str wY 0 (.int .i64 0) m
theorem eW: ∀M,IR M (wY 0) (.int .i64 0):=fun _=> .v _
def bump(m:NM)(s:an):NM:=cA .str m s (dt .str m s 0+1)
def aD(l:List an):NM:=l.foldl bump []
theorem cY(l:List an)(s:an):aD (l++ [s])=bump (aD l) s:=by simp[aD]
section
variable {V:Type}
theorem kv{m:List ((KC.str).K×V)}{s t:an}{v z:V}:dt .str (cA .str m s v) t z=if s=t then v else dt .str m t z:=by
 induction m with
 |nil=>simp only[cA,dt]
 |cons x r ih=>
  obtain⟨a,b⟩:=x;simp only[cA];by_cases h:a=s
  .rw[am h];simp only[dt];by_cases j:s=t
   .simp[j]
   .have: ¬a=t:=fun e=>j (h▸e)
    rw[be j,be j,be this]
  .rw[be h];simp only[dt,ih];by_cases j:a=t
   .have: ¬s=t:=fun e=>h (j.trans e.symm)
    simp[j,this]
   .simp[j]
theorem yj{m:List ((KC.str).K×V)}{t:an}:cU .str m t=jp↔t∈m.map Qi:=by
 induction m with
 |nil=>simp[cU]
 |cons x r ih=>
  obtain⟨a,b⟩:=x;simp only[cU,Py,Px];by_cases h:a=t
  .simp[h]
  .have: ¬t=a:=fun e=>h e.symm
   simp[h,this,ih]
theorem oU{m:List ((KC.str).K×V)}{s:an}{v:V}(h:s∈m.map Qi):(cA .str m s v).map Qi=m.map Qi:=by
 induction m with
 |nil=>simp at h
 |cons x r ih=>
  obtain⟨a,b⟩:=x;simp only[cA];by_cases j:a=s
  .rw[am j];simp[j]
  .have: ¬s=a:=fun e=>j e.symm
   rw[be j,Py,ih (by simpa[this]using h)];rfl
theorem dA{m:List ((KC.str).K×V)}{s:an}{v:V}(h:s∉m.map Qi):(cA .str m s v).map Qi=m.map Qi++ [s]:=by
 induction m with
 |nil=>simp[cA]
 |cons x r ih=>
  obtain⟨a,b⟩:=x;simp only[Py,Px,not_or]at h;have: ¬a=s:=fun e=>h.1 e.symm;simp only[cA,be this,Py,ih h.2];rfl
theorem zf{m:List ((KC.str).K×V)}{t:an}{z:V}(h:t∉m.map Qi):dt .str m t z=z:=by
 induction m with
 |nil=>rfl
 |cons x r ih=>
  obtain⟨a,b⟩:=x;simp only[Py,Px,not_or]at h;have: ¬a=t:=fun e=>h.1 e.symm;simp only[dt,be this];exact ih h.2
end
theorem oE{α:Type}{p:List α->Prop}(h0:p [])(h1: ∀l a,p l->p (l++ [a]))(l:List α):p l:=by
 have key: ∀r:List α,p r.reverse:=by
  intro r
  induction r with
  |nil=>exact h0
  |cons a r ih=>rw[List.reverse_cons];exact h1 _ _ ih
 simpa using key l.reverse
def om(l:List an)(t:an):Nat:=(l.filter fun x=>lc (x=t)).length
theorem yw(l m:List an)(t:an):om (l++m) t=om l t+om m t:=by simp[om]
theorem fE(l:List an)(t:an):om l t<=l.length:=QH _ _
theorem tj{l:List an}{t:an}:0<om l t↔t∈l:=by
 rw[om,List.length_pos_iff_exists_mem];constructor
 .rintro⟨x,hx⟩;obtain⟨h1,b⟩:=PU.1 hx;exact(zT b)▸h1
 .exact fun h=>⟨t,PU.2 ⟨h,by simp⟩⟩
theorem qh{l:List an}{t:an}:om l t=0↔t∉l:=by
 rw[<-tj];omega
theorem bz(l:List an)(t:an):dt .str (aD l) t 0=(om l t:Int):=by
 induction l using oE with
 |h0=>rfl
 |h1 l s ih=>
  rw[cY,bump,kv,yw];by_cases h:s=t
  .subst h;rw[ih];simp[om]
  .rw[be h,ih];simp[h,om]
theorem dL(l:List an):((aD l).map Qi).Nodup∧ ∀t:an,t∈(aD l).map Qi↔t∈l:=by
 induction l using oE with
 |h0=>simp[aD]
 |h1 l s ih=>
  rw[cY,bump];obtain⟨h1,j⟩:=ih;by_cases h:s∈(aD l).map Qi
  .rw[oU h];refine⟨h1,fun t=>?_⟩;rw[j,PG,Pw];exact⟨.inl,fun u=>u.elim id fun e=>e▸(j s).1 h⟩
  .rw[dA h];refine⟨?_,fun t=>by rw[PG,j,PG]⟩;rw[QS];refine⟨h1,P0.2 ⟨Sc,P6⟩,fun a x b hb e=>?_⟩;rw[Pw]at hb;exact h ((e.trans hb)▸x)
def cF(a:Atom):List an:=a.ak.flatMap fun t=>if t.kind=1 then[t.var] else[]
theorem bL{α β:Type}[Inhabited α]{l:List α}{f:α->List β}{i:Nat}(h:i<l.length):(l.take (i+1)).flatMap f=(l.take i).flatMap f++f (l.getD i co):=by
 rw[cm h,R3];simp
theorem rZ: ∀l:List Term,(l.flatMap fun t=>if t.kind=1 then[t.var] else[]).length<=l.length
 | []=>by simp
 |t::r=>by
  have:=rZ r;have b:(if t.kind=1 then[t.var] else[]).length<=1:=by split<;>simp
  rw[Qs,Pn,PX];omega
theorem ik(a:Atom):(cF a).length<=a.ak.length:=rZ a.ak
theorem d88(occ:List an)(a:Atom)(hb:occ.length+a.ak.length<=1000000000000):bD Tryz.prog 135 [.mp 0,ag a.c] [cG (aD occ)] (.bq []) [(0,io (cG (aD (occ++cF a))))] 1:=by
 refine au ab Tryz.func135 Z (by decide) Tryz.ntmps135 Z (by simp) ?_;refine gA Z ?_;refine aJ 0 a.ak.length (PA _) (fun i=>⟨[(0,.mp 0),(3,.ptr 1 0),(7,.iv (bN 5 a.ak Term.c)),(8,pI a.ak.length),(9,pI i)],[(0,io (cG (aD (occ++(a.ak.take i).flatMap fun t=>if t.kind=1 then[t.var] else[]))))],2⟩) (fun _=>True) [] ac
  (zW (hM Z (by simp) Z trivial)) fun i y _=>?_
 have hl:=rZ (a.ak.take i);simp only[Qy]at hl;refine zJ Z Z (fun h1=>?_) fun h1=>?_
 .have h1:i<a.ak.length:=by simpa using h1
  have hs:=bL (f:=fun t:Term=>if t.kind=1 then[t.var] else[]) h1;have x:=bz (occ++(a.ak.take i).flatMap fun t=>if t.kind=1 then[t.var] else[]) (a.ak.getD i co).var;have j:=fE (occ++(a.ak.take i).flatMap fun t=>if t.kind=1 then[t.var] else[]) (a.ak.getD i co).var;rw[Pn]at j;refine zJ Z Z (fun b=>?_) fun b=>?_
  .have b:(a.ak.getD i co).kind=1:=by simpa using b
   rw[am b]at hs;refine gA Z ⟨h1,ac,[],zW (hM Z (by rw[hs,<-PH,cY];rfl) Z ac)⟩
  .have b: ¬(a.ak.getD i co).kind=1:=by simpa using b
   rw[be b,Qm]at hs;refine gA Z ⟨h1,ac,[],zW (hM Z (by rw[hs]) Z ac)⟩
 .have h1:a.ak.length<=i:=by simpa using h1
  have u:a.ak.take i=a.ak:=Pz h1;refine gA Z (zD [] Z (zW (hM Z (by rw[u];rfl) Z ac)))
end
end Go.Proofs.YtllkaddcplhklaaGreatDoor
namespace Go.Proofs.YtllkaddcplhklaaGreatDoor
open Go Go.Al Go.Proofs.Tryz
mutual
def ch:Expr->List an
 | .mk k v _ _ args=>if k=1 then[v] else if k=4 then jj args else[]
def jj:List Expr->List an
 | []=> []
 |e::r=>ch e++jj r
end
theorem mn: ∀l:List Expr,jj l=l.flatMap ch
 | []=>rfl
 |e::r=>by simp only[jj,Qs,mn r]
theorem zP(e:Expr):ch e=if e.kind=1 then[e.var] else if e.kind=4 then e.args.flatMap ch else[]:=by
 cases e with
 |mk k v val op args=>simp only[ch,Expr.kind,Expr.var,Expr.args,mn];rfl
mutual
theorem fW: ∀e:Expr,(ch e).length<=e.size
 | .mk k v _ _ args=>by
  have:=ll args;simp only[ch,Expr.size];split
  .simp
  .split
   .omega
   .simp
theorem ll: ∀l:List Expr,(jj l).length<=Expr.aB l
 | []=>by simp[jj]
 |e::r=>by
  have h1:=fW e;have b:=ll r;simp only[jj,Expr.aB,Pn];omega
end
theorem d135: ∀(n:Nat) (e:Expr) (occ:List an),e.size<=n->occ.length+e.size<=1000000000000->bD prog 193 [.mp 0,ag e.c] [cG (aD occ)] (.bq []) [(0,io (cG (aD (occ++ch e))))] 1
 |0,e,_,h,_=>by have:=e.size_pos;omega
 |n+1,e,occ,h,hb=>by
  refine bD.le (args:=[.mp 0,ag e.c1]) ?_ ⟨.refl _,e.AZ,ac⟩;have u:=zP e;have C:=e.size_eq;have B:=bz occ e.var;have A:=fE occ e.var;refine au ab func193 Z (by decide) ntmps193 Z (by simp) ?_;refine zJ Z Z (fun h1=>?_) fun h1=>?_
  .have h1:e.kind=1:=by simpa using h1
   rw[am h1]at u;refine gA Z (zD [] Z (zW (hM Z (by rw[u,cY];rfl) Z ac)))
  have h1: ¬e.kind=1:=by simpa using h1
  rw[be h1]at u;refine zJ Z Z (fun j=>?_) fun j=>?_
  .have j:e.kind=4:=by simpa using j
   rw[am j]at u;refine gA Z ?_;refine aJ 0 e.args.length (PA _) (fun i=>⟨[(0,.mp 0),(3,.ptr 1 0),(18,.iv (bN 7 e.args Expr.c)),(19,pI e.args.length),(20,pI i)],[(0,io (cG (aD (occ++(e.args.take i).flatMap ch))))],2⟩) (fun _=>True) [] ac
    (zW (hM Z (by simp) Z trivial)) fun i G _=>?_
   have y:=Expr.aG e.args;refine zJ Z Z (fun b=>?_) fun b=>?_
   .have b:i<e.args.length:=by simpa using b
    have hs:=bL (f:=ch) b;have I:=Expr.dw e.args i b;have D:=ll (e.args.take i);rw[mn]at D;refine gA Z (bQ [0] (d135 n (e.args.getD i co) _ (by omega) (by rw[Pn];omega)) Z Z Z Z Z Z Z Z ?_);refine gA Z ⟨b,ac,[],zW (hM Z (by rw[hs,PH]) Z ac)⟩
   .have b:e.args.length<=i:=by simpa using b
    have x:e.args.take i=e.args:=Pz b;refine gA Z (zD [] Z (zW (hM Z (by rw[u,x]) Z ac)))
  .have j: ¬e.kind=4:=by simpa using j
   rw[be j]at u;refine gA Z (zD [] Z (zW (hM Z (by rw[u,Qm]) Z ac)))
theorem Fh(e:Expr)(occ:List an)(hb:occ.length+e.size<=1000000000000):bD prog 193 [.mp 0,ag e.c] [cG (aD occ)] (.bq []) [(0,io (cG (aD (occ++ch e))))] 1:=d135 e.size e occ (Ps _) hb
def cH(l:Lit):List an:=if l.kind=1∨l.kind=2 then cF l.atom else if l.kind=3 then ch l.left++ch l.right else[]
theorem kX(l:Lit):(cH l).length+2<=l.size:=by
 have h1:=ik l.atom;have b:=fW l.left;have j:=fW l.right;rw[l.size_eq];unfold cH;split
 .omega
 .split
  .rw[Pn];omega
  .simp;omega
theorem d89(l:Lit)(occ:List an)(hb:occ.length+l.size<=1000000000000):bD prog 156 [.mp 0,ag l.c] [cG (aD occ)] (.bq []) [(0,io (cG (aD (occ++cH l))))] 1:=by
 have A:=l.size_eq;have B:=fW l.left;refine au ab func156 Z (by decide) ntmps156 Z (by simp) ?_;refine zJ Z Z (fun j=>?_) fun j=>?_
 .have j:l.kind=1:=zT j;have y:cH l=cF l.atom:=am (.inl j);refine gA Z (zq [0] (d88 occ l.atom (by omega)) ?_);refine gA Z (zD [] Z (zW (hM Z (by rw[y]) Z ac)))
 have j: ¬l.kind=1:=zF j;refine zJ Z Z (fun u=>?_) fun u=>?_
 .have u:l.kind=2:=zT u;have y:cH l=cF l.atom:=am (.inr u);refine gA Z (zq [0] (d88 occ l.atom (by omega)) ?_);refine gA Z (zD [] Z (zW (hM Z (by rw[y]) Z ac)))
 have u: ¬l.kind=2:=zF u;have b:cH l=if l.kind=3 then ch l.left++ch l.right else[]:=be (by simp[j,u]);refine zJ Z Z (fun x=>?_) fun x=>?_
 .have x:l.kind=3:=zT x;rw[am x]at b;refine gA Z (zq [0] (Fh l.left occ (by omega)) ?_);refine gA Z (bQ [0] (Fh l.right _ (by rw[Pn];omega)) Z Z Z Z Z Z Z Z ?_);refine gA Z (zD [] Z (zW (hM Z (by rw[b,PH]) Z ac)))
 .have x: ¬l.kind=3:=zF x;rw[be x]at b;refine gA Z (zD [] Z (zW (hM Z (by rw[b,Qm]) Z ac)))
def a7(a:fw):List an:=(if a.func=1 then[] else ch a.iD)++a.body.flatMap cH
theorem jF: ∀l:List Lit,(l.flatMap cH).length<=Lit.aB l
 | []=>by simp
 |e::r=>by
  have h1:=kX e;have b:=jF r;rw[Qs,Pn];simp only[Lit.aB];omega
theorem J6(e:Expr)(hb:e.size<=1000000000000):bD prog 193 [.mp 0,ag e.c] [.ff] (.bq []) [(0,io (cG (aD (ch e))))] 1:=
 (Fh e [] (by simpa using hb)).JY ⟨⟨id,fun M N U w j b=>⟨#[],0,b,⟨rfl,by simp[aD],by simp[aD],by simp,by simp⟩,eW M⟩⟩,ac⟩
theorem OJ(a:Atom)(hb:a.ak.length<=1000000000000):bD prog 135 [.mp 0,ag a.c] [.ff] (.bq []) [(0,io (cG (aD (cF a))))] 1:=
 (d88 [] a (by simpa using hb)).JY ⟨⟨id,fun M N U w j b=>⟨#[],0,b,⟨rfl,by simp[aD],by simp[aD],by simp,by simp⟩,eW M⟩⟩,ac⟩
theorem d127(a:fw)(hb:a.size<=1000000000000):bD prog 162 [ag a.c] [] (.mp 0) [(0,io (cG (aD (a7 a))))] 1:=by
 refine bD.le (args:=[ag a.c1]) ?_ ⟨a.AZ,ac⟩;unfold fw.size at hb;have y:=fW a.iD;have x:=Lit.aG a.body;refine au ab func162 Z (by decide) ntmps162 Z (by simp) ?_;refine zJ Z Z (fun h1=>?_) fun h1=>?_
 .have h1: ¬a.func=1:=by simpa using h1
  have j:a7 a=ch a.iD++a.body.flatMap cH:=by unfold a7;rw[be h1]
  refine gA Z (zq [1] (J6 a.iD (by omega)) ?_);refine gA Z ?_;refine aJ 0 a.body.length (PA _) (fun i=>⟨[(3,.mp 1),(15,.iv (lits a.body)),(16,pI a.body.length),(17,pI i)],[(1,io (cG (aD (ch a.iD++(a.body.take i).flatMap cH))))],2⟩) (fun _=>True) [] ac
   (zW (hM Z (by simp) Z trivial)) fun i A _=>?_
  refine zJ Z Z (fun b=>?_) fun b=>?_
  .have b:i<a.body.length:=by simpa using b
   have hs:=bL (f:=cH) b;have B:=Lit.dw a.body i b;have C:=jF (a.body.take i);refine gA Z (bQ [1] (d89 (a.body.getD i co) _ (by rw[Pn];omega)) Z Z Z Z Z Z Z Z ?_);refine gA Z ⟨b,ac,[],zW (hM Z (by rw[hs,PH]) Z ac)⟩
  .have b:a.body.length<=i:=by simpa using b
   have u:a.body.take i=a.body:=Pz b;refine gA Z (zD [1] Z (zW (hM Z (by rw[u,j]) Z ac)))
 .have h1:a.func=1:=by simpa using h1
  have j:a7 a=a.body.flatMap cH:=by unfold a7;rw[am h1];rfl
  refine gA Z ?_;refine aJ 0 a.body.length (PA _) (fun i=>⟨[(3,.mp 1),(15,.iv (lits a.body)),(16,pI a.body.length),(17,pI i)],[(1,io (cG (aD ((a.body.take i).flatMap cH))))],2⟩) (fun _=>True) [] ac
   (zW (LK Z eW Z trivial)) fun i A _=>?_
  refine zJ Z Z (fun b=>?_) fun b=>?_
  .have b:i<a.body.length:=by simpa using b
   have hs:=bL (f:=cH) b;have B:=Lit.dw a.body i b;have C:=jF (a.body.take i);refine gA Z (bQ [1] (d89 (a.body.getD i co) _ (by omega)) Z Z Z Z Z Z Z Z ?_);refine gA Z ⟨b,ac,[],zW (hM Z (by rw[hs]) Z ac)⟩
  .have b:a.body.length<=i:=by simpa using b
   have u:a.body.take i=a.body:=Pz b;refine gA Z (zD [1] Z (zW (hM Z (by rw[u,j]) Z ac)))
end Go.Proofs.YtllkaddcplhklaaGreatDoor
namespace Go.Proofs.YtllkaddcplhklaaGreatDoor
open Go Go.Al
def ins:List an->an->List an
 | [],s=> [s]
 |x::r,s=>if x=s then x::r else if Op.bytesLess x.toList s.toList=jp then x::ins r s else s::x::r
theorem jg(s:an): ∀(l a:List an),l.foldl (dH s) (a,jp)=(a++l,jp)
 | [],a=>by simp
 |x::r,a=>by
  have:dH s (a,jp) x=(a++ [x],jp):=by simp[dH]
  rw[Qd,this,jg s r];simp
theorem vi(s:an): ∀(l a:List an),(if(l.foldl (dH s) (a,kw)).2 then(l.foldl (dH s) (a,kw)).1 else(l.foldl (dH s) (a,kw)).1++ [s])=a++ins l s
 | [],a=>by simp[ins]
 |x::r,a=>by
  by_cases h1:x=s
  .have:dH s (a,kw) x=(a++ [x],jp):=by simp[dH,h1]
   rw[Qd,this,jg];simp[ins,h1]
  .cases h2:Op.bytesLess x.toList s.toList with
   |true=>
    have:dH s (a,kw) x=(a++ [x],kw):=by simp[dH,h1,h2]
    rw[Qd,this,vi s r];simp[ins,h1,h2]
   |false=>
    have:dH s (a,kw) x=(a++ [s]++ [x],jp):=by simp[dH,h1,h2]
    rw[Qd,this,jg];simp[ins,h1,h2]
theorem um(l:List an)(s:an):fQ l s=ins l s:=by
 have:=vi s l [];simpa[fQ]using this
theorem kT{x:an}: ∀{l:List an} {s:an},x∈ins l s↔x∈l∨x=s
 | [],s=>by simp[ins]
 |y::r,s=>by
  simp only[ins];split
  .rename_i h;subst h;simp;exact fun h=> .inl h
  .split
   .simp[kT (l:=r),or_assoc]
   .simp;constructor
    .rintro(h|h|h)
     .exact .inr h
     .exact .inl (.inl h)
     .exact .inl (.inr h)
    .rintro((h|h)|h)
     .exact .inr (.inl h)
     .exact .inr (.inr h)
     .exact .inl h
theorem db{x s:an}{l:List an}:x∈fQ l s↔x∈l∨x=s:=by rw[um];exact kT
theorem qE{x:an}: ∀{m l:List an},x∈mH l m↔x∈l∨x∈m
 | [],l=>by simp[mH]
 |y::r,l=>by
  have h:=qE (x:=x) (m:=r) (l:=fQ l y);simp only[mH,Qd]at h ⊢;rw[h,db,Px,or_assoc]
theorem bA{l:List an}{s:an}:du l s=jp↔s∈l:=by
 simp[du]
theorem ey{l:List an}{s:an}:du l s=kw↔s∉l:=by
 rw[<-Bool.not_eq_true,bA]
end Go.Proofs.YtllkaddcplhklaaGreatDoor
