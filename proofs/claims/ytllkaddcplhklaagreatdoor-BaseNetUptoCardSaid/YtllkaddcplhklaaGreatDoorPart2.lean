/-
  What the proofs of the claims need: part 2 of 5.
-/
import Derived.Test.YtllkaddcplhklaaGreatDoorPart1
import Derived.Deep.Slices
import Derived.ReadAgain
import Derived.ChangeStays
import Derived.ChangeSame
import Derived.WideShapes
import Derived.RowKit
import Derived.Lib.AppendStr
import Derived.Laws.IdiomStrings
import Derived.Laws.BytesArg
import Derived.Laws.MakeOwn
import Derived.Laws.Slices
import Derived.Lib.SliceRun
import Derived.Shelf.GgSortFunc.RowK
import Derived.StillTail
import Derived.KernelRfl
import Derived.Test.YtllkaddcplhklaaGreatDoorProg
open And renaming intro→Pq
open Array renaming eq_empty_of_size_eq_zero→Qz,extract_size→SQ,getD_eq_getD_getElem?→Pk,getElem?_append_left→P5,getElem?_append_right→RU,getElem?_eq_getElem→PU,getElem?_eq_none→RO,getElem?_eq_some_iff→Qu,getElem?_map→RL,getElem?_modify→P4,getElem?_push→RI,getElem?_setIfInBounds→PR,getElem?_toList→PS,length_toList→Rv,mem_filter→Sc,range→Sn,size_append→RD
open Bool renaming and_eq_true→Qf,eq_false_iff→RT,false_eq_true→Rb,not_eq_true'→Qs,not_true→RR,or_eq_false_iff→RE,or_eq_true→RB
open ByteArray renaming empty→Pt
open Classical renaming choose→RY,choose_spec→Rm
open Int renaming toNat_natCast→Pr
open List.Nodup renaming length_le_of_subset→QH
open List.Pairwise renaming filter→RH
open List renaming all_eq_true→P8,any_eq_false→Qm,any_eq_true→QJ,append_assoc→PK,append_nil→Qp,cons_append→QR,eq_nil_of_length_eq_zero→Qh,ext_getElem?→RF,filter_congr→Rt,filter_cons→Rf,filter_eq_self→R2,flatMap_append→R3,flatMap_cons→Qv,foldl_cons→Qg,getD_cons_succ→QM,getD_cons_zero→Rj,getD_eq_getElem?_getD→Pn,getElem?_append_left→PG,getElem?_append_right→PD,getElem?_drop→Ql,getElem?_eq_getElem→Po,getElem?_eq_some_iff→Pm,getElem?_map→Ps,getElem?_of_mem→Qd,getElem?_range→R1,getElem?_set→Rh,getElem?_take→Qc,getElem?_toArray→Qi,getElem_map→Q8,getElem_mem→P7,length_append→Pp,length_cons→PO,length_eq_zero_iff→QY,length_filter_le→QK,length_map→PX,length_nil→Ra,length_pos_iff→Qy,length_singleton→Qq,length_take→QI,map_append→PH,map_congr_left→PN,map_cons→PB,map_map→PW,mem_append→PI,mem_append_left→P6,mem_append_right→QU,mem_cons→Px,mem_cons_of_mem→Py,mem_cons_self→Pz,mem_filter→PZ,mem_map→P1,mem_of_getElem?→P0,mem_range→QQ,mem_singleton→PA,nil_append→Rk,nodup_append→QX,nodup_cons→P2,nodup_nil→Qa,not_mem_nil→Se,pairwise_cons→P3,pairwise_iff_getElem→Qx,pairwise_map→RG,perm_ext_iff_of_nodup→Q4,range→PY,replicate→RV,take_append_drop→RS,take_of_length_le→PJ,take_succ_cons→QS,take_succ_eq_append_getElem→Sa
open Nat renaming add_assoc→Q6,add_mul→Qr,add_zero→Rq,beq→PM,ble→Ry,ble_eq_true_of_le→Qj,blt→PL,eq_of_beq_eq_true→PF,le_add_right→Sd,le_of_ble_eq_true→Pj,le_of_not_lt→Ro,le_refl→Pv,le_succ→QZ,le_trans→P9,lt_irrefl→SM,lt_of_le_of_lt→SP,lt_of_lt_of_le→Rn,lt_or_ge→Qo,lt_succ_of_lt→QW,lt_succ_self→Rc,lt_trichotomy→RC,mul_comm→SR,mul_le_mul_right→PQ,mul_one→Sq,ne_of_lt→Sx,sub_zero→R8,succ_mul→Q7,zero_add→PT,zero_le→PC,zero_mul→Rw
open Option renaming getD_some→Qn,map_eq_some_iff→Pu,map_none→RQ,map_some→Qw
open Option.some renaming inj→Qb,injEq→Pl
open Prod renaming fst→Qk
open Prod.mk renaming injEq→Pw
set_option maxRecDepth 100000
open Bool renaming false→kw,true→jp
open Decidable renaming decide→lc
open Inhabited renaming default→co
open Option renaming none→is,some→io
namespace Go.Al
section
def xS:Op->Bool
  | .binOp .add _ _ _ _=>jp
  | .binOp .sub _ _ _ _=>jp
  | .binOp .mul _ _ _ _=>jp
  | .binOp .rem _ _ _ _=>jp
  | .binOp .quo _ _ _ _=>jp
  | .indexAddr ..=>jp
  | .index ..=>jp
  | .slice ..=>jp
  |_=>kw
theorem we{ty:Ty}{s:AS}{o:Op}{p:PV}{C:Prop}(h:gG ty s o=io (p,C))(ho:xS o=kw):C:=by
  cases o with
  | binOp op t x y t'=>
    simp only[gG]at h;split at h
    · unfold BN at h
      split at h
      · split at h<;>first|(cases h;done)|(simp only[Pl,Pw]at h;rw[<-h.2];trivial)
      · split at h<;>first|(cases h;done)|(simp only[Pl,Pw]at h;rw[<-h.2];trivial)
      · cases h
    unfold wR at h;split at h
    · split at h
      · unfold zA at h
        split at h
        · unfold qx at h
          split at h<;>first
            |(cases h;done)
            |(split at h<;>first|(cases h;done)|(simp only[Pl,Pw]at h;rw[<-h.2];trivial))
        · unfold qx at h
          split at h<;>first
            |(cases h;done)
            |(split at h<;>first|(cases h;done)|(simp only[Pl,Pw]at h;rw[<-h.2];trivial))
        unfold Bd at h;split at h<;>first|(cases h;done)|(simp[xS]at ho;done)|(simp only[Pl,Pw]at h;rw[<-h.2];trivial)
      · unfold qx at h
        split at h<;>first
          |(cases h;done)
          |(split at h<;>first|(cases h;done)|(simp only[Pl,Pw]at h;rw[<-h.2];trivial))
    · unfold Av at h
      split at h<;>first|(cases h;done)|(simp[xS]at ho;done)|(simp only[Pl,Pw]at h;rw[<-h.2];trivial)
    · split at h
      all_goals first
        |(cases h;done)
        | (unfold mI at h
           split at h
           · split at h<;>first|(cases h;done)|(simp only[Pl,Pw]at h;rw[<-h.2];trivial)
           · cases h)
    · split at h
      all_goals first
        |(cases h;done)
        | (unfold mI at h
           split at h
           · split at h<;>first|(cases h;done)|(simp only[Pl,Pw]at h;rw[<-h.2];trivial)
           · cases h)
    all_goals first
      |(cases h;done)
      | (unfold sP at h
         split at h
         · split at h<;>first|(cases h;done)|(simp only[Pl,Pw]at h;rw[<-h.2];trivial)
         · cases h)
  |indexAddr t x i=>simp[xS]at ho
  |index t x i=>simp[xS]at ho
  |slice t x lo hi mx=>simp[xS]at ho
  | call c=>
    obtain⟨callee,args,j⟩:=c;cases callee with
    | builtin b=>
      cases b with
      | len=>
        simp only[gG]at h;split at h
        · split at h
          · split at h<;>first|(cases h;done)|(simp only[uf,Pl,Pw]at h;rw[<-h.2];trivial)
          · split at h<;>first|(cases h;done)|(simp only[uf,Pl,Pw]at h;rw[<-h.2];trivial)
          · split at h
            · simp only[Pl,Pw]at h;rw[<-h.2];trivial
            · split at h<;>first|(cases h;done)|(simp only[Pl,Pw]at h;rw[<-h.2];trivial)
            · cases h
          · cases h
        · cases h
      | max=>
        simp only[gG]at h;split at h
        · split at h<;>first|(cases h;done)|(simp only[Pl,Pw]at h;rw[<-h.2];trivial)
        · cases h
      | min=>
        simp only[gG]at h;split at h
        · split at h<;>first|(cases h;done)|(simp only[Pl,Pw]at h;rw[<-h.2];trivial)
        · cases h
      |_=>simp[gG]at h
    |_=>simp[gG]at h
  | unOp op t x=>
    cases op with
    |not=>simp only[gG]at h;split at h<;>first|(cases h;done)|(simp only[Pl,Pw]at h;rw[<-h.2];trivial)
    |_=>simp[gG]at h
  | lookup t x i ok=>
    have key: ∀{kc:KC} {V:Type} {e:V->IV} {z:V} {u:Value} {m:List (kc.K×V)},sU ty t ok kc e z u m (ev s.f i)=io (p,C)->C:=by
      intro kc V e z u m h;unfold sU at h;split at h
      · split at h
        · split at h
          · split at h<;>(simp only[Pl,Pw]at h;rw[<-h.2];trivial)
          · cases h
        · cases h
      · cases h
    simp only[gG]at h;split at h
    · exact key h
    · split at h
      · exact key h
      · cases h
    · cases h
  | _=>
    simp only[gG]at h
    repeat' (first|(cases h;done)|(simp only[force_eq,Pl,Pw]at h;rw[<-h.2];trivial)|split at h)
inductive FO where
  |read (i:Nat) (o:Oper) (p:PV) (C:Prop)
  |skip (i:Nat) (o:Oper)
  |split (d:Nat) (t:Bool)
def km(ty:Ty)(nt:Nat)(s:AS)(all:List Oper)(todo pend:List (Nat×Oper)):List (Nat×Oper)->Option FO
  | []=>is
  | (i,o)::r=>match todo.any (fun y=>waits o y.1)||aQ o with
    |true=>km ty nt s all todo pend r
    | false=>match bY nt all s.f o with
      | some jp=>match gG ty s o.op with
        | some (p,C)=>match uu all pend o with
          |true=>io (.read i o p C)
          |false=>km ty nt s all todo pend r
        |none=>km ty nt s all todo pend r
      | some kw=>match uu all pend o with
        |true=>io (.skip i o)
        |false=>km ty nt s all todo pend r
      | none=>match o.guard with
        | some (g,_)=>match guardOf all s.f g with
          |some (d,.iv (.v (.bool t)))=>io (.split d t)
          |_=>km ty nt s all todo pend r
        |none=>km ty nt s all todo pend r
def dF(ty:Ty)(nt:Nat)(all:List Oper)(s:AS):List (Nat×Oper)->Option Prop
  | []=>io True
  | (_,o)::r=>match dF ty nt all s r with
    |none=>is
    | some R=>match bY nt all s.f o with
      | some jp=>match gG ty s o.op with
        | some (p,C)=>match o.dst with
          |some d=>bif PL d nt then io ((an p (s.f.get d)∧C)∧R) else is
          |none=>io (C∧R)
        |none=>is
      | some kw=>match o.dst with
        |some d=>io (s.f.get d= .iv (.v (.tuple #[]))∧R)
        |none=>io R
      |none=>is
def eN(todo:List (Nat×Oper)):List (Nat×Oper):=todo.filter fun x=>!(aQ x.2||todo.any fun y=>waits x.2 y.1)
def nn(ty:Ty)(nt:Nat)(all:List Oper)(s:AS)(todo pend:List (Nat×Oper)):Option Prop:=
  match todo.any fun y=>aQ y.2 with
  |true=>dF ty nt all s pend
  |false=>io True
def mN(all:List Oper)(i:Nat)(o:Oper):Nat->List Oper->Bool
  |_,[]=>jp
  |k,q::r=>(PM k i||((waits q i||!looks all q o)&&(match o.dst,q.dst with|some d,io e=>!PM d e|_,_=>jp)))&&mN all i o (k+1) r
def js(ty:Ty)(nt:Nat)(all:List Oper):Nat->List Oper->Bool
  |_,[]=>jp
  | i,o::r=>(match o.op with
    | .alloc t=>match o.guard,o.dst,ty t with
      |none,io d,io _=>PL d nt&&((o.after.toList.all fun e=>!Region.binds .any e)&&mN all i o 0 all)
      |_,_,_=>kw
    |_=>jp)&&js ty nt all (i+1) r
def xQ(todo:List (Nat×Oper)):List (Nat×Oper)->Option (Nat×Oper)
  | []=>is
  | (i,o)::r=>match aQ o,wW todo i with
    |true,jp=>io (i,o)
    |_,_=>xQ todo r
inductive Stop where
  |fin (e:Exit) (s:AS)
  |cond (c:Operand) (t:Bool) (x y:Code) (k:List KI) (s:AS)
  |guard (all rest:List Oper) (o:Oper) (d:Nat) (want t:Bool) (k:List KI) (s:AS)
  |op (all rest:List Oper) (o:Oper) (k:List KI) (s:AS)
  |loop (b:Code) (k:List KI) (s:AS)
  |draw (id:Nat) (ops:Array Oper) (k:List KI) (s:AS)
  |again (R:AS->Prop) (s:AS)
  |K9 (all rest:List Oper) (o:Oper) (d:Nat) (want t:Bool) (k:List KI) (s:AS)
  |E9 (all:List Oper) (todo pend:List (Nat×Oper)) (d:Nat) (t:Bool) (k:List KI) (s:AS)
  |Fc (all:List Oper) (todo pend:List (Nat×Oper)) (k:List KI) (s:AS)
  |bad (why:Nat) (k:List KI) (s:AS)
  |out (k:List KI) (s:AS)
def l9(id:Nat):List KI->Option (List KI)
  | []=>is
  | .ay j::k=>bif PM id j then io k else l9 id k
  | .code _::k=>l9 id k
  | .ops _ _::k=>l9 id k
  | .lp _::k=>l9 id k
  | .q6 _ _::k=>l9 id k
  | .bX _ _ _::k=>l9 id k
  | .BQ _ _::k=>l9 id k
  | .C6::k=>l9 id k
  | .Ik ..::_=>is
  | .Il ..::_=>is
def fp:List KI->Option (List KI)
  | []=>is
  | .ay _::k=>fp k
  | .code _::k=>fp k
  | .ops _ _::k=>fp k
  | .lp _::k=>fp k
  | .q6 _ _::k=>fp k
  | .bX _ _ _::k=>fp k
  | .BQ _ _::k=>fp k
  | .C6::k=>fp k
  |k=>io k
structure Ph where
  nt:Nat
  res:List ResultVar
  body:Code
abbrev On:=Nat->Option Ph
def FN(P:Program)(b:On):Prop:= ∀g e,b g=io e-> ∃fn,P.funcs[g]? =io fn∧fn.body=io e.body∧(fn.name== "runtime.NumGoroutine")=kw∧fn.ntmps=e.nt∧fn.results.toList=e.res
def yN{α:Type _}:Nat->List PV->(AF->α)->α
  |_,[],k=>k []
  |n,p::r,k=>tj p fun b=>yN (n+1) r fun f=>k ((n,b)::f)
theorem tF{α:Type _}: ∀(l:List PV) (n:Nat) (k:AF->α),yN n l k=k (mL n l)
  | [],_,_=>rfl
  |p::r,n,k=>by simp only[yN,de,tF r,mL]
def callee(b:On)(s:AS):Op->Option (Ph×List PV)
  | .call c=>match bR s.f c with
    | some (g,asv)=>match b g with
      | some e=>match Ry asv.length e.nt with
        |true=>io (e,asv)
        |false=>is
      |none=>is
    |none=>is
  |_=>is
structure Way where
  fns:On
  un:Nat
  cl:Bool
def bw(ty:Ty)(y:Way):Nat->Nat->List KI->AS->Prop->Option (Prop×Nat×Stop)
  |0,nt,k,s,C=>io (C,nt,.out k s)
  |_+1,nt,[],s,C=>io (C,nt,.fin .normal s)
  |n+1,nt,.ay _::k,s,C=>bw ty y n nt k s C
  |_+1,nt,.lp R::_,s,C=>io (C,nt,.again R s)
  |n+1,nt,.C6::k,s,C=>bw ty y n nt k s C
  |n+1,nt,.code (.scope b)::k,s,C=>bw ty y n nt (.code b:: .C6::k) s C
  | n+1,nt,.BQ b m::k,s,C=>match m with
    |0=>io (C,nt,.bad 2 k s)
    |m+1=>bw ty y n nt (.code b:: .BQ b m::k) s C
  | n+1,_,.Ik nt f res o all rest::k,s,C=>match res s with
    |none=>io (C,nt,.bad 3 k s)
    | some r=>match putDst nt o r ⟨f,s.h,s.nx⟩ with
      |none=>io (C,nt,.bad 4 k s)
      |some s'=>bw ty y n nt (.ops all rest::k) s' C
  | n+1,_,.Il nt f res j o all todo pend::k,s,C=>match res s with
    |none=>io (C,nt,.bad 5 k s)
    | some r=>match putDst nt o r ⟨f,s.h,s.nx⟩ with
      |none=>io (C,nt,.bad 6 k s)
      | some s'=>match dF ty nt all s' (a7 pend o) with
        |none=>io (C,nt,.bad 7 k s)
        |some C''=>bw ty y n nt (.bX all (todo.filter fun x=>!PM x.1 j) (a7 pend o)::k) s' (C∧C'')
  |n+1,nt,.code .skip::k,s,C=>bw ty y n nt k s C
  |n+1,nt,.code (.label _)::k,s,C=>bw ty y n nt k s C
  |n+1,nt,.code (.seq a b)::k,s,C=>bw ty y n nt (.code a:: .code b::k) s C
  |n+1,nt,.code (.block id b)::k,s,C=>bw ty y n nt (.code b:: .ay id::k) s C
  | n+1,nt,.code (.region id ops d)::k,s,C=>match d with
    |false=>bw ty y n nt (.ops ops.toList ops.toList::k) s C
    | true=>match sN ops.toList,gy 0 ops.toList,js ty nt ops.toList 0 ops.toList with
      |true,jp,jp=>bw ty y n nt (.bX ops.toList (ic 0 ops.toList) []::k) s C
      |_,_,_=>io (C,nt,.draw id ops k s)
  |n+1,nt,.bX _ [] _::k,s,C=>bw ty y n nt k s C
  | n+1,nt,.bX all (x::todo) pend::k,s,C=>match km ty nt s all (x::todo) pend (x::todo) with
    | some (.read i o p C')=>match putDst nt o p s with
      |none=>io (C,nt,.bad 8 k s)
      | some s'=>match xS o.op with
        |true=>bw ty y n nt (.bX all ((x::todo).filter fun x=>!PM x.1 i) ((i,o)::pend)::k) s' (C∧C')
        |false=>bw ty y n nt (.bX all ((x::todo).filter fun x=>!PM x.1 i) ((i,o)::pend)::k) s' C
    |some (.skip i o)=>bw ty y n nt (.bX all ((x::todo).filter fun x=>!PM x.1 i) ((i,o)::pend)::k) (fI o s) C
    | some (.split d _)=>match s.f.get d with
      | .iv (.v (.bool t'))=>match y.cl with
        |false=>io (C,nt,.E9 all (x::todo) pend d t' k s)
        | true=>match t' with
          |true=>bw ty y n nt (.bX all (x::todo) pend::k) (setBool s (.tmp d) jp) C
          |false=>bw ty y n nt (.bX all (x::todo) pend::k) (setBool s (.tmp d) kw) C
      |_=>io (C,nt,.bad 9 k s)
    | none=>match eN (x::todo) with
      | [(j,o)]=>match bY nt all s.f o,ib all pend o,nk (x::todo) [j] with
        | some jp,jp,jp=>match nn ty nt all s (x::todo) pend with
          |none=>io (C,nt,.bad 101 k s)
          | some CA=>match gG ty s o.op with
            | some (p,C')=>match putDst nt o p s with
              |none=>io (C,nt,.bad 102 k s)
              | some s'=>match dF ty nt all s' (a7 pend o) with
                |none=>io (C,nt,.bad 103 k s)
                |some C''=>bw ty y n nt (.bX all ((x::todo).filter fun x=>!PM x.1 j) (a7 pend o)::k) s' (C∧(CA∧C'∧C''))
            | none=>match Er ty s o.op with
              | none=>match callee y.fns s o.op with
                | none=>match Oe ty s o.op with
                  |none=>io (C,nt,.Fc all (x::todo) pend k s)
                  | some (C',p,s1)=>match putDst nt o p s1 with
                    |none=>io (C,nt,.bad 109 k s)
                    | some s'=>match dF ty nt all s' (a7 pend o) with
                      |none=>io (C,nt,.bad 110 k s)
                      |some C''=>bw ty y n nt (.bX all ((x::todo).filter fun x=>!PM x.1 j) (a7 pend o)::k) s' (C∧(CA∧C'∧C''))
                |some (e,asv)=>yN 0 asv fun f=>bw ty y n e.nt (.code e.body:: .Il nt s.f (iZ ty · e.res) j o all (x::todo) pend::k) ⟨f,s.h,s.nx⟩ (C∧CA)
              | some (p,s1)=>match putDst nt o p s1 with
                |none=>io (C,nt,.bad 104 k s)
                | some s'=>match dF ty nt all s' (a7 pend o) with
                  |none=>io (C,nt,.bad 105 k s)
                  |some C''=>bw ty y n nt (.bX all ((x::todo).filter fun x=>!PM x.1 j) (a7 pend o)::k) s' (C∧(CA∧C''))
        |_,_,_=>io (C,nt,.Fc all (x::todo) pend k s)
      | []=>match xQ (x::todo) (x::todo) with
        |none=>io (C,nt,.Fc all (x::todo) pend k s)
        | some (i,o)=>match o.op,o.dst with
          | .alloc t,io d=>match ty t with
            |none=>io (C,nt,.bad 106 k s)
            | some e=>force (aP e.zero) fun A=>match dF ty nt all s pend,dF ty nt all (jt s d A) pend with
              |some C1,io C2=>bw ty y n nt (.bX all ((x::todo).filter fun x=>!PM x.1 i) pend::k) (jt s d A) (C∧(C1∧C2))
              |_,_=>io (C,nt,.bad 107 k s)
          |_,_=>io (C,nt,.bad 108 k s)
      |_=>io (C,nt,.Fc all (x::todo) pend k s)
  | n+1,nt,.code (.cond c u v)::k,s,C=>match ev s.f c with
    | .iv (.v (.bool t))=>match y.cl with
      |false=>io (C,nt,.cond c t u v k s)
      | true=>match t with
        |true=>bw ty y n nt (.code u::k) s C
        |false=>bw ty y n nt (.code v::k) s C
    | .kb jp=>bw ty y n nt (.code u::k) s C
    | .kb kw=>bw ty y n nt (.code v::k) s C
    |_=>io (C,nt,.bad 14 k s)
  | n+1,nt,.code .ret::k,s,C=>match fp k with
    |some k'=>bw ty y n nt k' s C
    |none=>io (C,nt,.fin .ret s)
  | n+1,nt,.code (.exit id)::k,s,C=>match l9 id k with
    |some k'=>bw ty y n nt k' s C
    |none=>io (C,nt,.bad 15 k s)
  | n+1,nt,.code (.loop b)::k,s,C=>match y.un with
    |0=>io (C,nt,.loop b k s)
    |u+1=>bw ty y n nt (.code b:: .BQ b u::k) s C
  |_+1,nt,.code _::k,s,C=>io (C,nt,.bad 16 k s)
  |_+1,nt,.q6 _ _::k,s,C=>io (C,nt,.bad 17 k s)
  |n+1,nt,.ops _ []::k,s,C=>bw ty y n nt k s C
  | n+1,nt,.ops all (o::r)::k,s,C=>match o.guard with
    | some (j,want)=>match guardOf all s.f j with
      | some (d,.iv (.v (.bool t)))=>bif PL d nt then(match y.cl with
        |false=>io (C,nt,.guard all r o d want t k s)
        | true=>match t with
          |true=>bw ty y n nt (.ops all (o::r)::k) (setBool s (.tmp d) jp) C
          |false=>bw ty y n nt (.ops all (o::r)::k) (setBool s (.tmp d) kw) C) else io (C,nt,.bad 18 k s)
      | some (d,.kb t)=>bif PL d nt then(match t,want,o with
        |true,jp,⟨a1,a2,a3,a4,a5,_⟩=>bw ty y n nt (.ops all (⟨a1,a2,a3,a4,a5,is⟩::r)::k) s C
        |false,kw,⟨a1,a2,a3,a4,a5,_⟩=>bw ty y n nt (.ops all (⟨a1,a2,a3,a4,a5,is⟩::r)::k) s C
        |_,_,o=>bw ty y n nt (.ops all r::k) (fI o s) C) else io (C,nt,.bad 19 k s)
      |some (_,.iv (.v (.tuple _)))=>bw ty y n nt (.ops all r::k) (fI o s) C
      |_=>io (C,nt,.bad 20 k s)
    | none=>match gG ty s o.op with
      | none=>match Er ty s o.op with
        | none=>match callee y.fns s o.op with
          | none=>match Oe ty s o.op with
            |none=>io (C,nt,.op all r o k s)
            | some (C',p,s1)=>match putDst nt o p s1 with
              |none=>io (C,nt,.bad 111 k s)
              |some s'=>bw ty y n nt (.ops all r::k) s' (C∧C')
          |some (e,asv)=>yN 0 asv fun f=>bw ty y n e.nt (.code e.body:: .Ik nt s.f (iZ ty · e.res) o all r::k) ⟨f,s.h,s.nx⟩ C
        | some (p,s1)=>match putDst nt o p s1 with
          |none=>io (C,nt,.bad 21 k s)
          |some s'=>bw ty y n nt (.ops all r::k) s' C
      | some (p,C')=>match putDst nt o p s with
        |none=>io (C,nt,.bad 22 k s)
        | some s'=>match xS o.op with
          |true=>bw ty y n nt (.ops all r::k) s' (C∧C')
          |false=>bw ty y n nt (.ops all r::k) s' C
def ew(P:Program)(nt:Nat)(Q:AQ):Stop->Prop
  | .fin e s=>Q e s
  | .cond c t x y k s=>(t=jp->GO P nt (.code x::k) Q (setBool s c jp))∧(t=kw->GO P nt (.code y::k) Q (setBool s c kw))
  | .guard all r o d want t k s=>(t=want->GO P nt (.ops all ({o with guard:=is}::r)::k) Q (setBool s (.tmp d) want))∧(t=!want->GO P nt (.ops all r::k) Q (fI o (setBool s (.tmp d) (!want))))
  | .op all r o k s=>GO P nt (.ops all (o::r)::k) Q s
  | .loop b k s=>GO P nt (.code (.loop b)::k) Q s
  | .draw id ops k s=>GO P nt (.code (.region id ops jp)::k) Q s
  | .again R s=>R s
  | .K9 all r o d want t k s=>(t=want->GO P nt (.q6 all ({o with guard:=is}::r)::k) Q (setBool s (.tmp d) want))∧(t=!want->GO P nt (.q6 all r::k) Q (fI o (setBool s (.tmp d) (!want))))
  | .E9 all todo pend d t k s=>(t=jp->GO P nt (.bX all todo pend::k) Q (setBool s (.tmp d) jp))∧(t=kw->GO P nt (.bX all todo pend::k) Q (setBool s (.tmp d) kw))
  | .Fc all todo pend k s=>GO P nt (.bX all todo pend::k) Q s
  | .bad _ _ _=>False
  | .out k s=>GO P nt k Q s
section
variable {P:Program} {ty:Ty} {nt:Nat} {Q:AQ}
theorem lk: ∀(k:List KI) {nt:Nat} {s:AS},fp k=is->Q .ret s->kp P nt k Q .ret s
  | [],_,_,_,h=>h
  | .code _::k,_,_,g,h=>lk k g h
  | .ay _::k,_,_,g,h=>lk k g h
  | .ops _ _::k,_,_,g,h=>lk k g h
  | .lp _::k,_,_,g,h=>lk k g h
  | .q6 _ _::k,_,_,g,h=>lk k g h
  | .bX _ _ _::k,_,_,g,h=>lk k g h
  | .BQ _ _::k,_,_,g,h=>lk k g h
  | .C6::k,_,_,g,h=>lk k g h
  | .Ik ..::_,_,_,g,_=>by simp[fp]at g
  | .Il ..::_,_,_,g,_=>by simp[fp]at g
theorem dm: ∀(k:List KI) {nt:Nat} {s:AS} {b:List KI},fp k=io b->GO P nt b Q s->kp P nt k Q .ret s
  | [],_,_,_,g,_=>by simp[fp]at g
  | .code _::k,_,_,_,g,h=>dm k g h
  | .ay _::k,_,_,_,g,h=>dm k g h
  | .ops _ _::k,_,_,_,g,h=>dm k g h
  | .lp _::k,_,_,_,g,h=>dm k g h
  | .q6 _ _::k,_,_,_,g,h=>dm k g h
  | .bX _ _ _::k,_,_,_,g,h=>dm k g h
  | .BQ _ _::k,_,_,_,g,h=>dm k g h
  | .C6::k,_,_,_,g,h=>dm k g h
  | .Ik ..::_,_,_,_,g,h=>by
    simp only[fp,Pl]at g;subst g;exact⟨.inr Z,h.2⟩
  | .Il ..::_,_,_,_,g,h=>by
    simp only[fp,Pl]at g;subst g;exact⟨.inr Z,h.2⟩
theorem cX{id:Nat}: ∀(k:List KI) {nt:Nat} {b:List KI} {s:AS},l9 id k=io b->GO P nt b Q s->kp P nt k Q (.exit id) s
  | [],_,_,_,h,_=>by cases h
  | .code _::k,_,_,_,h,g=>cX k h g
  | .ops _ _::k,_,_,_,h,g=>cX k h g
  | .lp _::k,_,_,_,h,g=>cX k h g
  | .q6 _ _::k,_,_,_,h,g=>cX k h g
  | .bX _ _ _::k,_,_,_,h,g=>cX k h g
  | .BQ _ _::k,_,_,_,h,g=>cX k h g
  | .C6::k,_,_,_,h,g=>cX k h g
  | .Ik ..::_,_,_,_,h,_=>by cases h
  | .Il ..::_,_,_,_,h,_=>by cases h
  | .ay j::k,nt,b,s,h,g=>by
    simp only[l9]at h;show if id=j then _ else _;cases hb:PM id j with
    | true=>
      simp only[hb,cond_true,Pl]at h;subst h;rw[am (PF hb)];exact g
    | false=>
      simp only[hb,cond_false]at h;rw[be (fun e=>by subst e;simp at hb)];exact cX k h g
theorem sA(j:bz P ty){s s':AS}{o:Oper}{p:PV}{C:Prop}(h:gG ty s o.op=io (p,C))(hC:C)(hp:putDst nt o p s=io s'):OT P nt o s (fun t=>t=s'):=by
  intro M N a w b K Z hk;obtain⟨x,y,u⟩:=pO j b h hC;unfold Oper.wp;rw[y];simp only[Oper.upon];cases hd:o.dst with
  | none=>
    have:=eS hp hd;subst this;exact hk M N s' _ w (.refl _ _ _ _ _) b rfl
  | some d=>
    obtain⟨h1,rfl⟩:=eR hp hd;exact hk M N {s with f:=(d,p)::s.f} _ w (.refl _ _ _ _ _) (b.put d p x h1 u) rfl
theorem mU(j:bz P ty){s s':AS}{o:Oper}{p:PV}{C:Prop}(h:gG ty s o.op=io (p,C))(hC:C)(hp:putDst nt o p s=io s'):
    (s'.h=s.h∧s'.nx=s.nx)∧ ∀M N a w,Fits M N s nt a w-> ∃x,(execOp a.eval o).run P w= .ok (.value x) w∧Fits M N s' nt (a.put o.dst x) w:=by
  cases hd:o.dst with
  | none=>
    have:=eS hp hd;subst this;exact⟨⟨rfl,rfl⟩,fun M N a w b=>let ⟨x,hx,_⟩:=pO j b h hC;⟨x,hx,b⟩⟩
  | some d=>
    obtain⟨h1,rfl⟩:=eR hp hd;exact⟨⟨rfl,rfl⟩,fun M N a w b=>let ⟨x,hx,hv⟩:=pO j b h hC;⟨x,hx,b.put d p x h1 hv⟩⟩
theorem sF{s:AS}{all:List Oper}{todo pend:List (Nat×Oper)}: ∀{l:List (Nat×Oper)} {i:Nat} {o:Oper},(∀x∈l,x∈todo)->
    ((∀{p C},km ty nt s all todo pend l=io (.read i o p C)->(i,o)∈todo∧aQ o=kw∧(∀x∈todo,waits o x.1=kw)∧bY nt all s.f o=io jp∧uu all pend o=jp∧gG ty s o.op=io (p,C))∧
     (km ty nt s all todo pend l=io (.skip i o)->(i,o)∈todo∧aQ o=kw∧(∀x∈todo,waits o x.1=kw)∧bY nt all s.f o=io kw∧uu all pend o=jp))
  | [],i,o,_=>⟨fun h=>by simp[km]at h,fun h=>by simp[km]at h⟩
  | (j,q)::r,i,o,hl=>by
    have b:=sF (s:=s) (all:=all) (todo:=todo) (pend:=pend) (l:=r) (i:=i) (o:=o) (fun x G=>hl x (Py _ G));have u:(todo.any (fun y=>waits q y.1)||aQ q)=kw->aQ q=kw∧ ∀x∈todo,waits q x.1=kw:=fun h=>by
      simp only[RE,Qm]at h;exact⟨h.2,fun x G=>by simpa using h.1 x G⟩
    constructor
    · intro p C h
      simp only[km]at h;split at h
      · exact b.1 h
      · rename_i A
        split at h
        · rename_i D
          split at h
          · rename_i I
            split at h
            · rename_i B
              simp only[Pl,FO.read.injEq]at h;obtain⟨rfl,rfl,rfl,rfl⟩:=h;exact⟨hl _ (by simp),(u A).1,(u A).2,D,B,I⟩
            · exact b.1 h
          · exact b.1 h
        · split at h
          · cases h
          · exact b.1 h
        · split at h
          · split at h
            · cases h
            · exact b.1 h
          · exact b.1 h
    · intro h
      simp only[km]at h;split at h
      · exact b.2 h
      · rename_i A
        split at h
        · split at h
          · split at h
            · cases h
            · exact b.2 h
          · exact b.2 h
        · rename_i D
          split at h
          · rename_i B
            simp only[Pl,FO.skip.injEq]at h;obtain⟨rfl,rfl⟩:=h;exact⟨hl _ (by simp),(u A).1,(u A).2,D,B⟩
          · exact b.2 h
        · split at h
          · split at h
            · cases h
            · exact b.2 h
          · exact b.2 h
theorem tK{s s1:AS}{o:Oper}{d:Nat}{p:PV}(hd:o.dst=io d)(hs:s1={s with f:=(d,p)::s.f})(hp:an p (s.f.get d)){M:Mem}{N:Nm}{a:Act}{w:World}(hf:Fits M N s1 nt a w):Fits M N s nt a w:=by
  subst hs;refine⟨hf.1,fun k=>?_,hf.2.2⟩;have:=hf.2.1 k;rw[AF.ax]at this;split at this
  · rename_i hk;subst hk;exact hp _ _ _ _ this
  · exact this
theorem df(u:bz P ty){all:List Oper}{s:AS}: ∀{l:List (Nat×Oper)} {C:Prop},dF ty nt all s l=io C->C-> ∀x∈l,eH P nt all s x.2
  | [],_,_,_,x,hx=>(nomatch hx)
  | (i,o)::r,C,h,hC,x,hx=>by
    simp only[dF]at h;split at h
    · cases h
    · rename_i R hR
      have key:R->(∀M N b w,Fits M N s nt b w-> ∃v,YieldsAt P all.toArray w o v b∧Fits M N s nt (b.put o.dst v) w)->eH P nt all s x.2:=by
        intro B hh;rcases Px.1 hx with rfl|hx
        · exact hh
        · exact df u hR B x hx
      split at h
      · rename_i y
        split at h
        · rename_i p Y B
          split at h
          · rename_i d hd
            cases hb:PL d nt with
            |false=>simp[hb]at h
            | true=>
              simp only[hb,cond_true,Pl]at h;subst h;obtain⟨⟨h1,I⟩,J⟩:=hC;refine key J fun M N b w j=>?_;obtain⟨v,G,A⟩:=pO u j B I;refine⟨v,.inl ⟨eW y j,.inl G⟩,?_⟩;rw[hd];exact tK hd Z h1 (j.put d p v (Pj hb) A)
          · rename_i hd
            simp only[Pl]at h;subst h;refine key hC.2 fun M N b w j=>?_;obtain⟨v,G,A⟩:=pO u j B hC.1;exact⟨v,.inl ⟨eW y j,.inl G⟩,by rw[hd];exact j⟩
        · cases h
      · rename_i y
        have D: ∀d,o.dst=io d->s.f.get d= .iv (.v (.tuple #[]))-> ∀M N b w,Fits M N s nt b w-> ∃v,YieldsAt P all.toArray w o v b∧Fits M N s nt (b.put o.dst v) w:=fun d hd h1 M N b w j=>by
          refine⟨undef,.inr ⟨eW y j,rfl⟩,?_⟩;have:=j.skip o;unfold fI at this;rw[hd]at this ⊢;exact tK hd Z (h1▸an.refl _) this
        split at h
        · rename_i d hd
          simp only[Pl]at h;subst h;exact key hC.2 (D d hd hC.1)
        · rename_i hd
          simp only[Pl]at h;subst h;exact key hC fun M N b w j=>⟨undef,.inr ⟨eW y j,rfl⟩,by rw[hd];exact j⟩
      · cases h
theorem Bl{all:List Oper}{o:Oper}{r:List Oper}{d:Nat}{t:Bool}{k:List KI}{s:AS}{c:Bool}(hc:c=t)(u:s.f.get d= .iv (.v (.bool t)))(h:GO P nt (.ops all (o::r)::k) Q (setBool s (.tmp d) c)):GO P nt (.ops all (o::r)::k) Q s:=by
  subst hc;intro M N a w j;have b:=j.setBool (c:= .tmp d) u;exact AL.same (s:=s) h (iJ _ _ _) b
theorem th{c:Operand}{u v:Code}{t:Bool}{k:List KI}{s:AS}(hc:ev s.f c= .iv (.v (.bool t)))(h:GO P nt (.code (bif t then u else v)::k) Q s):GO P nt (.code (.cond c u v)::k) Q s:=by
  intro M N a w b;refine wp_cond (b.bool hc) ?_;cases t
  · exact h M N a w b
  · exact h M N a w b
theorem qL{all:List Oper}{f:AF}{j d:Nat}{p:PV}(h:guardOf all f j=io (d,p)):f.get d=p:=by
  unfold guardOf at h;split at h
  · split at h
    · simp only[Pl,Pw]at h;rw[<-h.1];exact h.2
    · cases h
  · cases h
theorem xP{todo:List (Nat×Oper)}: ∀{l:List (Nat×Oper)} {i:Nat} {o:Oper},(∀x∈l,x∈todo)->xQ todo l=io (i,o)->(i,o)∈todo∧wW todo i=jp
  | [],_,_,_,h=>by simp[xQ]at h
  | (j,q)::r,i,o,hl,h=>by
    simp only[xQ]at h;split at h
    · rename_i b
      simp only[Pl,Pw]at h;obtain⟨rfl,rfl⟩:=h;exact⟨hl _ (by simp),b⟩
    · exact xP (fun x u=>hl x (Py _ u)) h
theorem qW{all:List Oper}{i:Nat}{o:Oper}: ∀{l:List Oper} {n:Nat},mN all i o n l=jp-> ∀k q,l[k]? =io q->n+k≠i->(waits q i=jp∨looks all q o=kw)∧ ∀d,o.dst=io d->q.dst≠io d
  | [],_,_,k,q,hk,_=>by simp at hk
  | c::l,n,h,k,q,hk,hne=>by
    simp only[mN,Qf,RB,Qs]at h;cases k with
    | zero=>
      simp at hk;subst hk;rcases h.1 with h1|⟨h1,u⟩
      · exact absurd (PF h1) (by simpa using hne)
      · refine⟨h1,fun d b j=>?_⟩
        rw[b,j]at u;simp at u
    |succ k=>exact qW h.2 k q (by simpa using hk) (by omega)
theorem ur(y:bz P ty){all:List Oper}(h:js ty nt all 0 all=jp):iw P nt all:=by
  have key: ∀(l:List Oper) (n:Nat),js ty nt all n l=jp-> ∀k o,l[k]? =io o->aQ o=jp->
      o.guard=is∧(∃d,o.dst=io d∧d<nt)∧(∃t v,o.op= .alloc t∧ ∀w,(zeroValue t).run P w= .ok v w)∧(∀k,waits o k=kw)∧mN all (n+k) o 0 all=jp:=by
    intro l
    induction l with
    |nil=>intro n _ k o hk;simp at hk
    | cons c l ih=>
      intro n h k o hk b;simp only[js,Qf]at h;cases k with
      | zero=>
        simp at hk;subst hk;have h1:=h.1;split at h1
        · rename_i t x
          split at h1
          · rename_i d e G hd j
            simp only[Qf]at h1;refine⟨G,⟨d,hd,Pj h1.1⟩,⟨t,_,x,fun w=>c7 (y _ _ j)⟩,fun k=>?_,h1.2.2⟩;unfold waits;refine Qm.2 fun e j=>?_;have:=P8.1 h1.2.1 e j;simp only[Qs]at this;simp[this]
          · cases h1
        · rename_i u
          unfold aQ at b;split at b
          · rename_i t x;exact absurd x (u t)
          · cases b
      | succ k=>
        have:=ih (n+1) h.2 k o (by simpa using hk) b;rw[show n+(k+1)=n+1+k by omega];exact this
  intro i o J b;obtain⟨h1,B,C,D,A⟩:=key all 0 h i o J b;refine⟨h1,B,C,D,fun k q hk I=>?_⟩;rw[PT]at A;exact qW A k q hk (by omega)
theorem vz{j:On}(u:FN P j){s:AS}{o:Op}{e:Ph}{b:List PV}(h:callee j s o=io (e,b)):
    ∃g c fn,o= .call c∧bR s.f c=io (g,b)∧b.length<=e.nt∧P.funcs[g]? =io fn∧fn.body=io e.body∧(fn.name== "runtime.NumGoroutine")=kw∧fn.ntmps=e.nt∧fn.results.toList=e.res:=by
  unfold callee at h;split at h
  · rename_i c
    split at h
    · rename_i g x D
      split at h
      · rename_i I G
        split at h
        · rename_i hb
          simp only[Pl,Pw]at h;obtain⟨rfl,rfl⟩:=h;obtain⟨fn,h1,y,A,B,C⟩:=u _ _ G;exact⟨g,c,fn,rfl,D,Pj hb,h1,y,A,B,C⟩
        · cases h
      · cases h
    · cases h
  · cases h
theorem Lp(hm:P.follows .mixedOrders=jp)(B:bz P ty){y:Way}(x0:FN P y.fns): ∀(n nt:Nat) (k:List KI) (s:AS) (C0 C:Prop) (J:Nat) (st:Stop),bw ty y n nt k s C0=io (C,J,st)->(C->C0)∧(C->ew P J Q st->GO P nt k Q s):=by
  intro n
  induction n with
  | zero=>
    intro nt k s C0 C J st h;simp only[bw,Pl,Pw]at h;obtain⟨rfl,rfl,rfl⟩:=h;exact⟨fun h=>h,fun _ g=>g⟩
  | succ n ih=>
    intro nt k s C0 C J st h;have A: ∀{Y:Nat} {k2:List KI} {s2:AS},bw ty y n Y k2 s2 C0=io (C,J,st)->(GO P Y k2 Q s2->GO P nt k Q s)->(C->C0)∧(C->ew P J Q st->GO P nt k Q s):=
      fun h f=>have:=ih _ _ _ _ _ _ _ h;⟨this.1,fun hC g=>f (this.2 hC g)⟩
    have G: ∀{Y:Nat} {k2:List KI} {s2:AS} {C1:Prop},bw ty y n Y k2 s2 (C0∧C1)=io (C,J,st)->(C1->GO P Y k2 Q s2->GO P nt k Q s)->(C->C0)∧(C->ew P J Q st->GO P nt k Q s):=
      fun h f=>have:=ih _ _ _ _ _ _ _ h;⟨fun hC=>(this.1 hC).1,fun hC g=>f (this.1 hC).2 (this.2 hC g)⟩
    have D: ∀{v0:Stop},io (C0,nt,v0)=io (C,J,st)->(ew P nt Q v0->GO P nt k Q s)->(C->C0)∧(C->ew P J Q st->GO P nt k Q s):=by
      intro v0 h f;simp only[Pl,Pw]at h;obtain⟨rfl,rfl,rfl⟩:=h;exact⟨fun h=>h,fun _ g=>f g⟩
    have a0: ∀{Y:Nat} {z0:Nat} {k2:List KI} {s2:AS},io (C0,Y,Stop.bad z0 k2 s2)=io (C,J,st)->(C->C0)∧(C->ew P J Q st->GO P nt k Q s):=by
      intro Y z0 k2 s2 h;simp only[Pl,Pw]at h;obtain⟨rfl,rfl,rfl⟩:=h;exact⟨fun h=>h,fun _ g=>g.elim⟩
    cases k with
    |nil=>simp only[bw]at h;exact D h fun g=>g
    | cons i k=>
      cases i with
      |lp R=>simp only[bw]at h;exact D h fun g=>g
      |ay id=>simp only[bw]at h;exact A h LU
      |C6=>simp only[bw]at h;exact A h fun g=>g
      | BQ b m=>
        simp only[bw]at h;split at h
        · exact a0 h
        · exact A h go_round
      | Ik Y f res o all rest=>
        simp only[bw]at h;split at h
        · exact a0 h
        · rename_i r hr
          split at h
          · exact a0 h
          · rename_i s' I
            exact A h fun g=>⟨.inl Z,r,s',hr,I,g⟩
      | Il Y f res j o all todo pend=>
        simp only[bw]at h;split at h
        · exact a0 h
        · rename_i r hr
          split at h
          · exact a0 h
          · rename_i s' I
            split at h
            · exact a0 h
            · rename_i n0 d0
              exact G h fun hC g=>⟨.inl Z,r,s',hr,I,df B d0 hC,g⟩
      | code c=>
        cases c with
        |skip=>simp only[bw]at h;exact A h go_skip
        |scope b=>simp only[bw]at h;exact A h EK
        |label l=>simp only[bw]at h;exact A h EM
        |seq a b=>simp only[bw]at h;exact A h LQ
        |block id b=>simp only[bw]at h;exact A h ER
        | region id ops d=>
          cases d with
          |false=>simp only[bw]at h;exact A h go_region
          | true=>
            simp only[bw]at h;split at h
            · rename_i h1 h2 h3
              exact A h (EP hm (Cn h1) h2 (ur B h3))
            · exact D h fun g=>g
        | cond c u v=>
          simp only[bw]at h;split at h
          · rename_i t he
            split at h
            · exact D h fun g=>Ig he g.1 g.2
            · split at h
              · exact A h (th he)
              · exact A h (th he)
          · rename_i he
            exact A h (tg he)
          · rename_i he
            exact A h (tg he)
          · exact a0 h
        | ret=>
          simp only[bw]at h;split at h
          · rename_i k' I
            exact A h fun g=>go_ret (dm k I g)
          · rename_i I
            exact D h fun g=>go_ret (lk k I g)
        | exit id=>
          simp only[bw]at h;split at h
          · rename_i k' I
            exact A h fun g=>Ib (cX k I g)
          · exact a0 h
        | loop b=>
          simp only[bw]at h;split at h
          · exact D h fun g=>g
          · exact A h om
        |_=>simp only[bw]at h;exact a0 h
      |q6 all rest=>simp only[bw]at h;exact a0 h
      | bX all todo pend=>
        cases todo with
        |nil=>simp only[bw]at h;exact A h yv
        | cons x todo=>
          have g0: ∀{j:Nat} {o:Oper},eN (x::todo)=[(j,o)]->(j,o)∈(x::todo)∧aQ o=kw∧ ∀y∈(x::todo),waits o y.1=kw:=by
            intro j o h1;have h2:(j,o)∈eN (x::todo):=by rw[h1];simp
            obtain⟨h3,h4⟩:=PZ.1 h2;simp only[Qs,RE,Qm]at h4;exact⟨h3,h4.1,fun y hy=>by simpa using h4.2 y hy⟩
          have b0: ∀{CA:Prop},nn ty nt all s (x::todo) pend=io CA->CA-> ∀y∈(x::todo),aQ y.2=jp-> ∀y∈pend,eH P nt all s y.2:=by
            intro CA h1 f0 y hy k1;unfold nn at h1;split at h1
            · exact df B h1 f0
            · rename_i h2
              have:=Qm.1 h2 y hy;rw[k1]at this;exact absurd Z this
          have e0: ∀{j:Nat} {o:Oper} {s':AS},eN (x::todo)=[(j,o)]->bY nt all s.f o=io jp->ib all pend o=jp->nk (x::todo) [j]=jp->(∀y∈(x::todo),aQ y.2=jp-> ∀y∈pend,eH P nt all s y.2)->OT P nt o s (fun t=>t=s')->
              (∀y∈a7 pend o,eH P nt all s' y.2)->GO P nt (.bX all ((x::todo).filter fun x=>!PM x.1 j) (a7 pend o)::k) Q s'->GO P nt (.bX all (x::todo) pend::k) Q s:=by
            intro j o s' h1 h2 h3 h4 ha h5 h6 h7;obtain⟨c0,r0,t0⟩:=g0 h1;refine rJ h4 ⟨_,c0,r0⟩ ha fun j' o' hj _ hu=>?_;simp only[PA]at hj;subst hj;have:=hu o c0;subst this;exact⟨r0,fun y hy _=>t0 y hy,h3,h2,_,h5,fun t ht=>by subst ht;exact⟨h6,h7⟩⟩
          simp only[bw]at h;split at h
          · rename_i i o p C' s0
            obtain⟨g1,ga,gb,g2,g3,g4⟩:=(sF (fun _ h=>h)).1 s0;split at h
            · exact a0 h
            · rename_i s' I
              split at h
              · exact G h fun hC g=>tc g1 ga gb g2 g3 (mU B g4 hC I).1 (mU B g4 hC I).2 g
              · rename_i ho
                exact A h fun g=>tc g1 ga gb g2 g3 (mU B g4 (we g4 ho) I).1 (mU B g4 (we g4 ho) I).2 g
          · rename_i i o s0
            obtain⟨g1,ga,gb,g2,g3⟩:=(sF (fun _ h=>h)).2 s0;exact A h (EO g1 ga gb g2 g3)
          · split at h
            · rename_i t' hy
              split at h
              · exact D h fun g=>p8 hy g.1 g.2
              · split at h
                · exact A h fun g=>p8 hy (fun _=>g) (fun h=>by cases h)
                · exact A h fun g=>p8 hy (fun h=>by cases h) (fun _=>g)
            · exact a0 h
          · split at h
            · rename_i j o m0
              split at h
              · rename_i i0 j0 k0
                split at h
                · exact a0 h
                · rename_i CA f0
                  split at h
                  · rename_i p C' hr
                    split at h
                    · exact a0 h
                    · rename_i s' I
                      split at h
                      · exact a0 h
                      · rename_i n0 d0
                        exact G h fun hC g=>e0 m0 i0 j0 k0 (b0 f0 hC.1) (sA B hr hC.2.1 I) (df B d0 hC.2.2) g
                  · split at h
                    · split at h
                      · split at h
                        · exact D h fun g=>g
                        · rename_i C' p s1 o0
                          split at h
                          · exact a0 h
                          · rename_i s' I
                            split at h
                            · exact a0 h
                            · rename_i n0 d0
                              exact G h fun hC g=>e0 m0 i0 j0 k0 (b0 f0 hC.1) (Da B o0 hC.2.1 I) (df B d0 hC.2.2) g
                      · rename_i e b1 p0
                        rw[tF]at h;obtain⟨g,c,fn,ho,ha,he,h1,h2,h3,h4,h5⟩:=vz x0 p0;obtain⟨c0,r0,t0⟩:=g0 m0;exact G h fun hC gg=>Ie B c0 k0 t0 (b0 f0 hC) j0 i0 ho ha h1 h2 h3 h4 h5 he gg
                    · rename_i p s1 q0
                      split at h
                      · exact a0 h
                      · rename_i s' I
                        split at h
                        · exact a0 h
                        · rename_i n0 d0
                          exact G h fun hC g=>e0 m0 i0 j0 k0 (b0 f0 hC.1) (Ep B q0 I) (df B d0 hC.2) g
              · exact D h fun g=>g
            · split at h
              · exact D h fun g=>g
              · rename_i i o j1
                split at h
                · rename_i t d i1 f1
                  split at h
                  · exact a0 h
                  · rename_i e he
                    rw[force_eq]at h;split at h
                    · rename_i C1 C2 d1 e1
                      obtain⟨m1,m2⟩:=xP (fun _ h=>h) j1;exact G h fun hC g=>CI m1 i1 (fun w=>c7 (B _ _ he)) f1 m2 (df B d1 hC.1) (df B e1 hC.2) g
                    · exact a0 h
                · exact a0 h
            · exact D h fun g=>g
      | ops all rest=>
        cases rest with
        |nil=>simp only[bw]at h;exact A h zR
        | cons o r=>
          simp only[bw]at h;split at h
          · rename_i j w0 hg
            split at h
            · rename_i d t hy
              cases hb:PL d nt with
              |false=>simp only[hb,cond_false]at h;exact a0 h
              | true=>
                simp only[hb,cond_true]at h;split at h
                · exact D h fun g=>EN hg hy (Pj hb) g.1 g.2
                · split at h
                  · exact A h (Bl Z (qL hy))
                  · exact A h (Bl Z (qL hy))
            · rename_i d t hy
              cases hb:PL d nt with
              |false=>simp only[hb,cond_false]at h;exact a0 h
              | true=>
                simp only[hb,cond_true]at h;obtain⟨a1,a2,a3,a4,a5,a6⟩:=o;cases t<;>cases w0<;>simp only at h
                all_goals exact A h fun g=>yu hg hy (Pj hb) g
            · rename_i d vs hy
              exact A h fun g=>yt hg hy g
            · exact a0 h
          · rename_i hg
            split at h
            · split at h
              · split at h
                · split at h
                  · exact D h fun g=>g
                  · rename_i C' p s1 o0
                    split at h
                    · exact a0 h
                    · rename_i s' I
                      exact G h fun hC g=>cC hg (Da B o0 hC I) fun t ht=>by subst ht;exact g
                · rename_i e b1 p0
                  rw[tF]at h;obtain⟨g,c,fn,ho,ha,he,h1,h2,h3,h4,h5⟩:=vz x0 p0;exact A h fun gg=>LR B hg ho ha h1 h2 h3 h4 h5 he gg
              · rename_i p s1 q0
                split at h
                · exact a0 h
                · rename_i s' I
                  exact A h fun g=>cC hg (Ep B q0 I) fun t ht=>by subst ht;exact g
            · rename_i p C' hr
              split at h
              · exact a0 h
              · rename_i s' I
                split at h
                · exact G h fun hC g=>cC hg (sA B hr hC I) fun t ht=>by subst ht;exact g
                · rename_i ho
                  exact A h fun g=>cC hg (sA B hr (we hr ho) I) fun t ht=>by subst ht;exact g
theorem LD:FN P (fun _=>is):=fun _ _ h=>nomatch h
theorem zQ(hm:P.follows .mixedOrders=jp)(j:bz P ty)(n:Nat){k:List KI}{s:AS}{C:Prop}{b:Nat}{st:Stop}(h:bw ty ⟨fun _=>is,0,kw⟩ n nt k s True=io (C,b,st))(hC:C)(hg:ew P b Q st):GO P nt k Q s:=
  (Lp hm j LD n nt k s True C b st h).2 hC hg
end
mutual
def PV.low(n:Nat):PV->Bool
 | .iv _=>jp
 | .agg cs=>bj n cs
 | .bm cs=>bj n cs
 | .ptr i _=>PL i n
 | .cN i _ _ _=>PL i n
 | .ep _ i=>PL i n
 | .mZ i _ _=>PL i n
 | .sl i _ _ _=>PL i n
 | .mp i=>PL i n
 | .b7 _ first caps=>match bj n first with
  |true=>bj n caps
  |false=>kw
 | .kb _=>jp
 | .any=>jp
def bj(n:Nat):List PV->Bool
 | []=>jp
 |p::r=>match PV.low n p with
  |true=>bj n r
  |false=>kw
end
theorem fR{n:Nat}: ∀{l:List PV},bj n l=jp-> ∀(j:Nat) (p:PV),l[j]? =io p->p.low n=jp
 | [],_,j,p,h=>by simp at h
 |c::l,hb,j,p,h=>by
  simp only[bj]at hb;split at hb
  .rename_i b;cases j with
   |zero=>simp at h;subst h;exact b
   |succ j=>exact fR hb j p (by simpa using h)
  .cases hb
def AO.low(n:Nat):AO->Prop
 | .cells cs _=>bj n cs=jp
 | .row _ es=> ∀(k:Nat) (e:List PV),es[k]? =io e->bj n e=jp
 | .bp _ _=>True
 | .eC=>True
 | .map ..=>True
 | .bL ..=>True
 | .dK _ _=>True
 | .gf ..=>True
 | .dP q _ _=>q.low n=jp
section
variable {M:Mem} {N:Nm} {U:Nat->Prop} {n:Nat}
theorem VR.down{p:PV}{x:Value}(h:VR M N U p x):p.low n=jp->VR M N (· <n) p x:=by
 induction h with
 |iv x y h=>exact fun _=> .iv x y h
 |agg cs ys hl hr ih=>exact fun hb=> .agg _ _ hl fun j p u=>ih j p u (fR hb j p u)
 |bm cs ys hl hr ih=>exact fun hb=> .bm _ _ hl fun j p u=>ih j p u (fR hb j p u)
 |ptr i off h=>exact fun hb=> .ptr i off (Pj hb)
 |cN i sz k off h=>exact fun hb=> .cN i sz k off (Pj hb)
 |ep z i h=>exact fun hb=> .ep z i (Pj hb)
 |mZ i o m h=>exact fun hb=> .mZ i o m (Pj hb)
 |sl i off len sz cap h A hl hc he=>exact fun hb=> .sl i off len sz cap (Pj hb) A hl hc he
 |lZ i sz h=>exact fun hb=> .lZ i sz (Pj hb)
 |sle i sz cap h hc he=>exact fun hb=> .sle i sz cap (Pj hb) hc he
 |mp i h=>exact fun hb=> .mp i (Pj hb)
 |b7 fn first caps f' c' h1 h2 hr1 hr2 ih1 ih2=>
  intro hb;simp only[PV.low]at hb;split at hb
  .rename_i A;exact .b7 _ _ _ _ _ h1 h2 (fun j p u=>ih1 j p u (fR A j p u)) (fun j p u=>ih2 j p u (fR hb j p u))
  .cases hb
 |kb b=>exact fun _=> .kb b
 |any x=>exact fun _=> .any x
theorem OR.down{w:World}{i:Nat}{o:AO}(h:OR M N U w i o)(hb:o.low n):OR M N (· <n) w i o:=by
 cases o with
 |cells cs T0=>obtain⟨c,T,h1,u,x,y,A⟩:=h;exact⟨c,T,h1,u,x,fun j p C=>(y j p C).down (fR hb j p C),A⟩
 |row sz es=>
  rcases h with h|⟨G,c,T,h1,u,x,y,A⟩
  .exact .inl h
  exact .inr ⟨G,c,T,h1,u,x,y,fun k e j p B D=>(A k e j p B D).down (fR (hb k e B) j p D)⟩
 |bp l T=>exact h
 |eC=>exact h
 |map kc ev z zv dv m=>exact h
 |bL kc ev m l cu=>exact h
 |dK s p=>exact h
 |gf kc ev z zv dv m bs c=>exact h
 |dP q c l=>obtain⟨b,h1,u⟩:=h;exact⟨b,h1.down hb,u⟩
end
def IU(n:Nat)(f:AF):AF->Prop
 | []=>True
 |(d,p)::r=>f.get d=p∧p.low n=jp∧IU n f r
def Ao(n:Nat)(h:AH):AH->Prop
 | []=>True
 |(_,is)::r=>Ao n h r
 |(i,io o)::r=>h.get i=io o∧i<n∧o.low n∧Ao n h r
structure Oa (s t:AS):Prop where
 nx:t.nx<=s.nx
 f:IU t.nx s.f t.f
 h:Ao t.nx s.h t.h
theorem pE{n:Nat}{h:AH}: ∀{g:AH},Ao n h g-> ∀i o,g.get i=io o->h.get i=io o∧i<n∧o.low n
 | [],_,i,o,hi=>by simp[AH.get]at hi
 |(k,is)::r,hw,i,o,hi=>by
  rw[AH.ax]at hi;split at hi
  .cases hi
  .exact pE (g:=r) hw i o hi
 |(k,io p)::r,hw,i,o,hi=>by
  obtain⟨h1,b,j,u⟩:=hw;rw[AH.ax]at hi;split at hi
  .rename_i e;subst e;simp only[Pl]at hi;subst hi;exact⟨h1,b,j⟩
  .exact pE u i o hi
theorem Oa.ext{s t:AS}(hw:Oa s t){M x:Mem}{N y:Nm}{n:Nat}{h:AH}{w A:World}(b:Ext M N (· <n) h w x y (· <s.nx) s.h A)(hn:n<=t.nx):Ext M N (· <n) h w x y (· <t.nx) t.h A:=
 ⟨b.os,b.tape,b.output,b.size,b.fP,b.oF,b.gE,b.nm,fun _ j=>Rn j hn,fun i o j u=>b.fM i o (pE hw.h i o j).1 u⟩
theorem cU{p:Nat->Prop}(h: ∃n,p n): ∃n,p n∧ ∀m,p m->n<=m:=by
 obtain⟨n,u⟩:=h
 induction n using Nat.strongRecOn with
 |_ n ih=>
  by_cases j: ∃m,m<n∧p m
  .obtain⟨m,h1,b⟩:=j;exact ih m h1 b
  .exact⟨n,u,fun m b=>Ro fun h1=>j ⟨m,h1,b⟩⟩
section
variable {P:Program} {nt:Nat} {Q:AQ} {k:List KI} {s:AS}
end
section
variable {P:Program}
def Pure(P:Program)(k:FuncId)(args:List PV)(r:PV):Prop:=Fn P k args [] fun q h n=>q=r∧h=[]∧n=0
end
mutual
theorem PV.jG(σ:Nat->Nat): ∀p:PV,p.low 0=jp->p.cx σ=p
 | .iv _,_=>rfl
 | .agg cs,h=>by simp only[PV.cx];rw[gk σ cs (by simpa[PV.low]using h)]
 | .bm cs,h=>by simp only[PV.cx];rw[gk σ cs (by simpa[PV.low]using h)]
 | .ptr i o,h=>by simp[PV.low,PL]at h
 | .cN i _ _ o,h=>by simp[PV.low,PL]at h
 | .ep _ i,h=>by simp[PV.low,PL]at h
 | .mZ i _ _,h=>by simp[PV.low,PL]at h
 | .sl i _ _ _,h=>by simp[PV.low,PL]at h
 | .mp i,h=>by simp[PV.low,PL]at h
 | .b7 fn a b,h=>by
  simp only[PV.low]at h;simp only[PV.cx];split at h
  .rename_i j;rw[gk σ a j,gk σ b h]
  .cases h
 | .kb _,_=>rfl
 | .any,_=>rfl
theorem gk(σ:Nat->Nat): ∀l:List PV,bj 0 l=jp->dA σ l=l
 | [],_=>rfl
 |p::r,h=>by
  simp only[bj]at h;split at h
  .rename_i b;simp only[dA];rw[PV.jG σ p b,gk σ r h]
  .cases h
end
section
variable {P:Program} {nt:Nat} {Q:AQ} {k:List KI} {s:AS}
theorem aC{all rest:List Oper}{o:Oper}{c:Call}{g:FuncId}{args:List PV}{r:PV}{s':AS}(hc:Pure P g args r)(ho:o.op= .call c)(hg:o.guard=is)(ha:bR s.f c=io (g,args))(hl:bj 0 args=jp)
  (hr:r.low 0=jp) (hp:putDst nt o r s=io s') (h:GO P nt (.ops all rest::k) Q s'):GO P nt (.ops all (o::rest)::k) Q s:=by
 refine cC (R:=fun t=>t=s') hg ?_ (fun t b=>by subst b;exact h);refine lD ho ha hc (L:=[]) (by simp) (by simp) Z (gk _ _ hl).symm ?_;rintro q j u ⟨rfl,rfl,rfl⟩;exact⟨s',by rw[PV.jG _ _ hr];exact hp,rfl⟩
end
def dV(o q:AO):Prop:=(q.real=jp->o.real=jp)∧ ∀(M:Mem) (N:Nm) (U:Nat->Prop) (w:World) (i:Nat),OR M N U w i o->OR M N U w i q
theorem an.of_eq{p q:PV}(h:p=q):an p q:=h▸ .refl p
theorem jC.refl(p:IV):jC p p:=fun _ _ h=>h
theorem jC.of_eq{p q:IV}(h:p=q):jC p q:=h▸ .refl p
theorem dV.refl(o:AO):dV o o:=⟨id,fun _ _ _ _ _ h=>h⟩
theorem dV.of_eq{o q:AO}(h:o=q):dV o q:=h▸ .refl o
theorem dV.trans{o q r:AO}(a:dV o q)(b:dV q r):dV o r:=⟨fun h=>a.1 (b.1 h),fun M N U w i h=>b.2 M N U w i (a.2 M N U w i h)⟩
theorem an.iv{p q:IV}(h:jC p q):an (.iv p) (.iv q):=fun M N U x b=>by
 cases b with
 |iv _ _ hi=>exact .iv _ _ (h M x hi)
theorem jC.nil(sz:Nat)(el:Nat->List IV):jC (.v (.slice is 0 0)) (.cB sz 0 el):=fun M x h=>by
 cases h;exact .fu _ _ _ _
theorem an.nil(sz:Nat)(el:Nat->List IV):an (.iv (.v (.slice is 0 0))) (.iv (.cB sz 0 el)):= .iv (.nil sz el)
theorem an.kb(b:Bool):an (.kb b) (.iv (.v (.bool b))):=fun M N U x h=>by
 cases h;exact .iv _ _ (.v _)
theorem jC.cB{sz n y:Nat}{el u:Nat->List IV}(hn:n=y)(h: ∀k,k<n->el k=u k):jC (.cB sz n el) (.cB sz y u):=by
 subst hn;intro M x B;cases B with
 |fu=>exact .fu _ _ _ _
 |cB _ _ _ b off cap hn hc hl hm hr=>
  exact .cB _ _ _ _ _ _ hn hc (fun k hk=>by rw[<-h k hk];exact hl k hk) hm (fun k j p hk A=>hr k j p hk (by rw[h k hk];exact A))
theorem an.cB{sz n j:Nat}{el b:Nat->List IV}(hn:n=j)(h: ∀k,k<n->el k=b k):an (.iv (.cB sz n el)) (.iv (.cB sz j b)):= .iv (.cB hn h)
def gd:List PV->List PV->Prop
 | [],[]=>True
 |p::r,q::s=>an p q∧gd r s
 |_,_=>False
theorem gd.length: ∀{a b:List PV},gd a b->a.length=b.length
 | [],[],_=>rfl
 |_::_,_::_,h=>congrArg (· +1) (gd.length h.2)
 | [],_::_,h=>h.elim
 |_::_,[],h=>h.elim
theorem gd.get: ∀{a b:List PV},gd a b-> ∀(j:Nat) (q:PV),b[j]? =io q-> ∃p,a[j]? =io p∧an p q
 | [],[],_,j,q,h=>by simp at h
 |p::r,q0::s,hh,j,q,h=>by
  cases j with
  |zero=>simp at h;subst h;exact⟨p,rfl,hh.1⟩
  |succ j=>simpa using gd.get hh.2 j q (by simpa using h)
 | [],_::_,hh,_,_,_=>hh.elim
 |_::_,[],hh,_,_,_=>hh.elim
theorem an.agg{a b:List PV}(h:gd a b):an (.agg a) (.agg b):=fun M N U x y=>by
 cases y with
 |agg _ ys hl hr=>exact .agg _ _ (h.length▸hl) fun j q u=>let ⟨p,hp,hle⟩:=h.get j q u;hle M N U _ (hr j p hp)
theorem an.bm{a b:List PV}(h:gd a b):an (.bm a) (.bm b):=fun M N U x y=>by
 cases y with
 |bm _ ys hl hr=>exact .bm _ _ (h.length▸hl) fun j q u=>let ⟨p,hp,hle⟩:=h.get j q u;hle M N U _ (hr j p hp)
theorem dV.cells{a b:List PV}{u:Option TypeId}(h:gd a b):dV (.cells a u) (.cells b u):=⟨fun h=>h,fun M N U w i ⟨c,T,h1,h2,h3,h4,h5⟩=>
 ⟨c,T,h1,h2,h.length▸h3,fun j q x=>let ⟨p,hp,hle⟩:=h.get j q x;hle M N U _ (h4 j p hp),h5⟩⟩
theorem dV.Mr(a:List PV)(b:Option TypeId):dV (.cells a b) (.cells a):=⟨fun h=>h,fun M N U w i ⟨c,T,h1,h2,h3,h4,_⟩=>⟨c,T,h1,h2,h3,h4,.none _⟩⟩
theorem Fn.le{P:Program}{k:FuncId}{aa args:List PV}{os:List AO}{R:PV->AH->Nat->Prop}(h:Fn P k args os R)(b:gd aa args):Fn P k aa os R:=
 ⟨h.1,fun M N w vs x hl y=>h.2 M N w vs x (by rw[<-b.length];exact hl) fun j q u=>let ⟨p,hp,hpq⟩:=b.get j q u;hpq M N _ _ (y j p hp)⟩
theorem Pure.le{P:Program}{k:FuncId}{aa args:List PV}{r:PV}(h:Pure P k args r)(b:gd aa args):Pure P k aa r:=Fn.le h b
def sg(n0:Nat)(L:List Nat)(i:Nat):Nat:=bif PL i n0 then i else L.getD (i-n0) 0
theorem fj{n0:Nat}{L:List Nat}{i:Nat}(h:i<n0):sg n0 L i=i:=by
 have:PL i n0=jp:=Qj h;simp[sg,this]
def Dc(n:Nat)(σ:Nat->Nat)(f:AF):AF->Prop
 | []=>True
 |(d,p)::r=>an (f.get d) (p.cx σ)∧p.low n=jp∧Dc n σ f r
def mP(n:Nat)(σ:Nat->Nat)(h:AH):AH->Prop
 | []=>True
 |(_,is)::r=>mP n σ h r
 |(i,io o)::r=>(∃b,h.get (σ i)=io b∧dV b (o.cx σ))∧i<n∧o.low n∧mP n σ h r
def en(σ:Nat->Nat):AH->List Nat
 | []=> []
 |(_,is)::r=>en σ r
 |(i,io _)::r=>σ i::en σ r
structure Wk (n0:Nat) (L:List Nat) (s t:AS):Prop where
 nx:t.nx=n0+L.length
 ns:n0<=s.nx
 lt: ∀j∈L,j<s.nx
 f:Dc t.nx (sg n0 L) s.f t.f
 h:mP t.nx (sg n0 L) s.h t.h
 inj:(en (sg n0 L) t.h).Nodup
theorem An{n:Nat}{σ:Nat->Nat}{f:AF}: ∀{g:AF},Dc n σ f g-> ∀d,g.get d= .any∨(an (f.get d) ((g.get d).cx σ)∧(g.get d).low n=jp)
 | [],_,_=> .inl Z
 |(k,p)::r,h,d=>by
  obtain⟨h1,b,j⟩:=h;rw[AF.ax];by_cases hd:d=k
  .subst hd;rw[am Z];exact .inr ⟨h1,b⟩
  .rw[be hd];exact An j d
theorem gV{n:Nat}{σ:Nat->Nat}{h:AH}: ∀{g:AH},mP n σ h g-> ∀i o,g.get i=io o->(∃b,h.get (σ i)=io b∧dV b (o.cx σ))∧i<n∧o.low n
 | [],_,i,o,hi=>by simp[AH.get]at hi
 |(k,is)::r,hw,i,o,hi=>by
  rw[AH.ax]at hi;split at hi
  .cases hi
  .exact gV (g:=r) hw i o hi
 |(k,io p)::r,hw,i,o,hi=>by
  obtain⟨h1,j,u,x⟩:=hw;rw[AH.ax]at hi;split at hi
  .rename_i e;subst e;simp only[Pl]at hi;subst hi;exact⟨h1,j,u⟩
  .exact gV x i o hi
theorem iM{σ:Nat->Nat}: ∀{g:AH} {i:Nat} {o:AO},g.get i=io o->σ i∈en σ g
 | [],i,o,h=>by simp[AH.get]at h
 |(k,is)::r,i,o,h=>by
  rw[AH.ax]at h;split at h
  .cases h
  .exact iM (g:=r) h
 |(k,io p)::r,i,o,h=>by
  rw[AH.ax]at h;split at h
  .rename_i e;subst e;simp[en]
  .exact Py _ (iM h)
theorem kT{σ:Nat->Nat}: ∀{g:AH},(en σ g).Nodup-> ∀i j o p,g.get i=io o->g.get j=io p->σ i=σ j->i=j
 | [],_,i,j,o,p,h,_,_=>by simp[AH.get]at h
 |(k,is)::r,hn,i,j,o,p,hi,hj,he=>by
  rw[AH.ax]at hi hj;split at hi
  .cases hi
  .split at hj
   .cases hj
   .exact kT (g:=r) hn i j o p hi hj he
 |(k,io q)::r,hn,i,j,o,p,hi,hj,he=>by
  rw[AH.ax]at hi hj;simp only[en,P2]at hn;split at hi
  .rename_i u;split at hj
   .rename_i b;rw[u,b]
   .subst u;exact absurd (he▸iM hj) hn.1
  .split at hj
   .rename_i b;subst b;exact absurd (he▸iM hi) hn.1
   .exact kT hn.2 i j o p hi hj he
section
variable {n0:Nat} {L:List Nat} {s t:AS} {M:Mem} {N:Nm} {w:World}
theorem dV.real{o q:AO}(h:dV o q)(b:q.real=jp):o.real=jp:=h.1 b
theorem Wk.fits(hw:Wk n0 L s t){nt:Nat}{a:Act}(hf:Fits M N s nt a w):Fits M (N.comp (sg n0 L)) t nt a w:=by
 refine⟨⟨hf.1.eh,fun i o b=>(gV hw.h i o b).2.1,fun i o b A=>?_,fun i o b=>?_,fun i j o p b C G I D=>?_⟩,fun d=>?_,hf.2.2⟩
 .obtain⟨⟨B,h1,u⟩,y,x⟩:=gV hw.h i o b;exact hf.1.dN _ B h1 (u.real ((AO.bW _ o).trans A))
 .obtain⟨⟨B,h1,u⟩,y,x⟩:=gV hw.h i o b;exact(OR.qt (u.2 M N _ w _ (hf.1.obj _ _ h1))).down x
 .obtain⟨⟨B,h1,u⟩,_⟩:=gV hw.h i o b;obtain⟨⟨J,y,x⟩,_⟩:=gV hw.h j p C;have:=hf.1.inj _ _ _ _ h1 y (u.real ((AO.bW _ o).trans G)) (x.real ((AO.bW _ p).trans I)) D;exact kT hw.inj i j o p b C this
 .rcases An hw.f d with h|⟨h1,u⟩
  .rw[h];exact .any _
  .exact((h1 M N _ _ (hf.2.1 d)).qt Z).down u
theorem Wk.ext(hw:Wk n0 L s t){x:Mem}{y:Nm}{h0:AH}{A:World}(b:Ext x y (· <n0) h0 A M N (· <s.nx) s.h w):Ext x y (· <n0) h0 A M (N.comp (sg n0 L)) (· <t.nx) t.h w:=by
 refine⟨b.os,b.tape,b.output,b.size,b.fP,b.oF,b.gE,⟨fun i j=>?_,fun i j=>?_⟩,fun i j=>by have:=hw.nx;omega,fun i o j u=>?_⟩
 .simp only[Nm.comp,fj j];exact b.nm.ay i j
 .simp only[Nm.comp,fj j];exact b.nm.ext i j
 .obtain⟨⟨C,h1,B⟩,_⟩:=gV hw.h i o j;exact b.fM _ C h1 (B.real ((AO.bW _ o).trans u))
end
theorem ll{P:Program}{nt:Nat}{Q:AQ}{k:List KI}{s:AS}{c:Code}{R j:AS->Prop}(h: ∀t,R t->j t)(hg:GO P nt (.code c:: .lp R::k) Q s):GO P nt (.code c:: .lp j::k) Q s:=by
 intro M N a w A;refine AW.then hg A fun e C D x y s' B b u=>⟨x,y,s',B,b,?_⟩
 cases e with
 |normal=>exact h _ u
 |_=>exact u
section
variable {P:Program} {nt:Nat} {Q:AQ} {k:List KI} {s:AS}
theorem ae{L:List Nat}{t:AS}{c:Code}(hw:Wk s.nx L s t)(h:GO P nt (.code c::k) Q t):GO P nt (.code c::k) Q s:=by
 intro M N a w A;exact AW.then h (hw.fits A) fun e a2 C x y B u b j=>⟨x,y,B,(hw.ext (.refl _ _ _ _ _)).trans u,b,j⟩
theorem gu{body:Code}{σ:Type}(I:σ->AS)(μ:σ->Nat)(i0:σ)(G:List Nat)(h0:Wk s.nx G s (I i0))
  (b: ∀i,GO P nt (.code body:: .lp (fun t=> ∃j L,μ j<μ i∧Wk s.nx L t (I j))::k) Q (I i)):GO P nt (.code (.loop body)::k) Q s:=by
 intro Y N0 a0 w0 C
 let J:Act->World->Nat->Prop:=fun a w n=> ∃i M N,μ i=n∧Ext Y N0 (· <s.nx) s.h w0 M N (· <(I i).nx) (I i).h w∧Fits M N (I i) nt a w
 have B:J a0 w0 (μ i0):=⟨i0,Y,N0.comp (sg s.nx G),rfl,h0.ext (.refl _ _ _ _ _),h0.fits C⟩
 refine wp_loop (fun a w=> ∃n,J a w n) (fun a w=>by classical exact if h: ∃n,J a w n then RY (cU h) else 0) ⟨_,B⟩ fun a w b0=>?_;obtain⟨⟨i,M,N,hi,hx,hf⟩,c0⟩:=Rm (cU b0);refine AW.then (b i) hf fun e A D R N' s' x u hr=>?_
 cases e with
 |normal=>
  obtain⟨j,L,hj,hw⟩:=hr;have y:J A D (μ j):=⟨j,R,N'.comp (sg s.nx L),rfl,hw.ext (hx.trans x),hw.fits u⟩
  refine⟨⟨_,y⟩,?_⟩;simp only[dif_pos b0,dif_pos (⟨_,y⟩: ∃n,J A D n)];rw[<-hi];exact SP ((Rm (cU (⟨_,y⟩: ∃n,J A D n))).2 _ y) hj
 |_=>exact⟨R,N',s',hx.trans x,u,hr⟩
end
section
variable {P:Program} {nt:Nat} {Q:AQ} {k:List KI} {s:AS}
theorem aJ{body:Code}(i0 n:Nat)(j:i0<=n)(I:Nat->AS)(J:Nat->Prop)(u:List Nat)(y:J i0)(h0:Wk s.nx u s (I i0))
  (b: ∀i,i<=n->J i->GO P nt (.code body:: .lp (fun t=>i<n∧J (i+1)∧ ∃L,Wk s.nx L t (I (i+1)))::k) Q (I i)):GO P nt (.code (.loop body)::k) Q s:=by
 refine gu (σ:={i:Nat//i<=n∧J i}) (fun i=>I i.1) (fun i=>n-i.1) ⟨i0,j,y⟩ u h0 fun i=>?_;obtain⟨i,h1,x⟩:=i;have:=b i h1 x;refine ll ?_ this
 rintro t ⟨h3,h4,L,h5⟩;exact⟨⟨i+1,h3,h4⟩,L,by show n-(i+1)<n-i;omega,h5⟩
end
theorem lq{P:Program}{nt:Nat}{Q:AQ}{k:List KI}{s:AS}{c:Code}(t sz:Nat)(B:s.f.get t= .iv (.v (.slice is 0 0)))(h:GO P nt (.code c::k) Q (rY s t sz)):GO P nt (.code c::k) Q s:=by
 intro M N a w b;obtain⟨R,Y,sn⟩:=s;obtain⟨h1,G⟩:=b.1.FW sz;have j:Fits M N (rY ⟨R,Y,sn⟩ t sz) nt a w:=by
  refine⟨G,fun k=>?_,b.2.2⟩;simp only[rY];rw[AF.ax];split
  .rename_i x;subst x;have:=b.2.1 k;simp only at B this;rw[B]at this;generalize a.tmps.getD k undef=v at this;cases this with
   |iv _ _ h=>cases h with
    |v=>exact .lZ _ _ (Rc _)
  .exact(b.2.1 k).mono (.refl _) (.refl _ _) (fun i I=>QW I)
 exact AW.then h j fun e a2 w2 C D J A u y=>⟨C,D,J,h1.trans A,u,y⟩
mutual
def PV.eh(i sz:Nat)(el:Nat->List IV):PV->PV
 | .iv x=> .iv x
 | .agg cs=> .agg (qk i sz el cs)
 | .bm cs=> .bm (qk i sz el cs)
 | .sl j off len sz'=>bif PM j i then .iv (.cB sz len (fun k=>el (off+k))) else .sl j off len sz'
 | .ptr j o=> .ptr j o
 | .cN j a b c=> .cN j a b c
 | .ep z j=> .ep z j
 | .mZ j o n=> .mZ j o n
 | .mp j=> .mp j
 | .b7 fn a b=> .b7 fn a b
 | .kb b=> .kb b
 | .any=> .any
def qk(i sz:Nat)(el:Nat->List IV):List PV->List PV
 | []=> []
 |p::r=>PV.eh i sz el p::qk i sz el r
end
theorem gx(i sz:Nat)(el:Nat->List IV): ∀l:List PV,qk i sz el l=l.map (PV.eh i sz el)
 | []=>rfl
 |p::r=>by simp[qk,gx i sz el r]
mutual
def PV.da(i sz n:Nat):PV->Prop
 | .agg cs=>dQ i sz n cs
 | .bm cs=>dQ i sz n cs
 | .sl j off len sz'=>if j=i then sz'=sz∧off+len<=n else True
 |_=>True
def dQ(i sz n:Nat):List PV->Prop
 | []=>True
 |p::r=>PV.da i sz n p∧dQ i sz n r
end
theorem gP{i sz n:Nat}: ∀{l:List PV},dQ i sz n l-> ∀(j:Nat) (p:PV),l[j]? =io p->p.da i sz n
 | [],_,j,p,h=>by simp at h
 |c::l,hh,j,p,h=>by
  cases j with
  |zero=>simp at h;subst h;exact hh.1
  |succ j=>exact gP hh.2 j p (by simpa using h)
theorem wH{M:Mem}{N:Nm}{n:Nat}{h:AH}{w:World}(hr:Rel M N (· <n) h w){i sz:Nat}{es:List (List PV)}(hi:h.get i=io (.row sz es)){el:Nat->List IV}
  (g0: ∀k e,es[k]? =io e->e=(el k).map .iv): ∃A,Ext M N (· <n) h w A N (· <n) ((i,is)::h) w∧Rel A N (· <n) ((i,is)::h) w∧
   ∀p x,VR M N (· <n) p x->p.da i sz es.length->VR A N (· <n) (p.eh i sz el) x:=by
 have key: ∀A:Mem,M.le A->(∀a0 len b0 b,a0+len<=es.length->0<len->len<=b0->b0<=maxLen->b=N.ay i->IR A (.cB sz len (fun k=>el (a0+k))) (.slice (io ⟨b,a0*sz,is⟩) len b0))->
   ∀p x,VR M N (· <n) p x->p.da i sz es.length->VR A N (· <n) (p.eh i sz el) x:=by
  intro A hM hs p x hx
  induction hx with
  |iv x y h=>exact fun _=> .iv _ _ (h.mono hM)
  |agg cs ys hl hr ih=>
   intro C;refine .agg _ _ (by simpa[gx]using hl) fun j q hq=>?_;rw[gx,Ps,Pu]at hq;obtain⟨q0,G,rfl⟩:=hq
   exact ih j q0 G (gP (by simpa[PV.da]using C) j q0 G)
  |bm cs ys hl hr ih=>
   intro C;refine .bm _ _ (by simpa[gx]using hl) fun j q hq=>?_;rw[gx,Ps,Pu]at hq;obtain⟨q0,G,rfl⟩:=hq
   exact ih j q0 G (gP (by simpa[PV.da]using C) j q0 G)
  |ptr i a0 h=>exact fun _=> .ptr _ _ h
  |cN i sz k a0 h=>exact fun _=> .cN _ _ _ _ h
  |ep z i h=>exact fun _=> .ep _ _ h
  |mZ i o n h=>exact fun _=> .mZ _ _ _ h
  |sl j a0 len sz' b0 h h0 hl hc R=>
   intro C;simp only[PV.da]at C;simp only[PV.eh];by_cases u:j=i
   .subst u;rw[am Z]at C;obtain⟨rfl,C⟩:=C;have:PM j j=jp:=by simp
    rw[this,cond_true];exact .iv _ _ (hs a0 len b0 _ C h0 hl hc Z)
   .have:PM j i=kw:=RT.2 (fun e=>u (PF e));rw[this,cond_false];exact .sl _ _ _ _ _ h h0 hl hc R
  |lZ j sz' h=>
   intro C;simp only[PV.eh];cases hb:PM j i with
   |true=>exact .iv _ _ (.fu _ _ _ _)
   |false=>exact .lZ _ _ h
  |sle j sz' b0 h hc R=>
   intro C;simp only[PV.eh];cases hb:PM j i with
   |true=>exact .iv _ _ (.fu _ _ _ _)
   |false=>exact .sle _ _ _ h hc R
  |mp i h=>exact fun _=> .mp _ h
  |b7 fn first caps f' c' h1 J hr1 hr2 ih1 ih2=>exact fun _=> .b7 _ _ _ _ _ h1 J (fun j p u=>(hr1 j p u).mono hM (.refl _ _) (fun _ h=>h)) (fun j p u=>(hr2 j p u).mono hM (.refl _ _) (fun _ h=>h))
  |kb b=>exact fun _=> .kb _
  |any x=>exact fun _=> .any _
 rcases hr.obj i _ hi with h0|⟨h0,c,T,h1,J,h3,h4,h5⟩
 .subst h0;exact⟨M,(Ext.refl _ _ _ _ _).del i,hr.del i,key M (.refl _) fun a0 len b0 b h1 J=>by simp at h1;omega⟩
 .have c0:es≠ []∨es=[]:=by cases es<;>simp
  rcases c0 with c0|rfl;rotate_left
  .exact⟨M,(Ext.refl _ _ _ _ _).del i,hr.del i,key M (.refl _) fun a0 len b0 b h1 J=>by simp at h1;omega⟩
  have I:(AO.row sz es).real=jp:=by cases es with
   |nil=>exact absurd Z c0
   |cons=>rfl
  have e0:=hr.dN i _ hi I
  let A:Mem:=M.set (N.ay i) (.cells c) e0
  have hM:M.le A:=fun b d hb=>by
   simp only[A,Mem.set];by_cases B:b=N.ay i
   .rw[B,e0]at hb;cases hb
   .rw[be B];exact hb
  have hnew: ∀b d,M b=is->A b=io d->b=N.ay i:=fun b d h1 J=>by
   simp only[A,Mem.set]at J;by_cases B:b=N.ay i
   .exact B
   .rw[be B,h1]at J;cases J
  refine⟨A,?_,?_,key A hM fun a0 len b0 b hb h6 h7 h8 i0=>?_⟩
  .exact⟨rfl,rfl,⟨rfl,Pv _⟩,Pv _,fun _ _ _=>rfl,hM,fun b d h1 J=> .inr ⟨i,_,hi,I,(hnew b d h1 J).symm⟩,.refl _ _,fun _ h=>h,fun j o u I=> .inr ⟨j,o,(bc j o u).2,I,rfl⟩⟩
  .refine⟨fun b d hb=>?_,fun j o u=>hr.used j o (bc j o u).2,fun j o u Y=>?_,fun j o u=>?_,fun j k o p u hk=>hr.inj j k o p (bc j o u).2 (bc k p hk).2⟩
   .simp only[A,Mem.set]at hb;by_cases B:b=N.ay i
    .rw[am B]at hb;cases hb;exact⟨T,(0,0),by rw[B,h1]⟩
    .rw[be B]at hb;exact hr.eh b d hb
   .obtain⟨g1,g2⟩:=bc j o u;simp only[A,Mem.set];rw[be fun e=>g1 (hr.inj j i o _ g2 hi Y I e)];exact hr.dN j o g2 Y
   .obtain⟨g1,g2⟩:=bc j o u;exact(hr.obj j o g2).mono hM (.refl _ _) (fun _ h=>h) (hr.used j o g2) Z
  .subst i0;have D: ∀o,A.cell (N.ay i) o=c[o]? :=fun o=>by simp[Mem.cell,A,Mem.set]
   have j0: ∀k j,k<len->j<sz->a0*sz+k*sz+j<c.size:=by
    intro k j hk u;have:(a0+k+1)*sz<=es.length*sz:=PQ _ (by omega);rw[Qr,Qr]at this;omega
   have f0: ∀k,k<len-> ∃e,es[a0+k]? =io e:=fun k hk=>⟨_,Po (by omega)⟩
   refine .cB _ _ _ _ _ _ h7 h8 (fun k hk=>?_) (fun k j hk u=>?_) (fun k j p hk C=>?_)
   .obtain⟨e,R⟩:=f0 k hk;have:=h4 _ e R;rw[g0 _ e R]at this;simpa using this
   .rw[D];simp[j0 k j hk u]
   .obtain⟨e,R⟩:=f0 k hk;have h9:=h4 _ e R;have d0:=g0 _ e R;have u:j<sz:=by rw[<-h9,d0,PX];exact(Pm.1 C).1
    have:=h5 _ e j (.iv p) R (by rw[d0,Ps,C];rfl);rw[D];have e2:a0*sz+k*sz+j=(a0+k)*sz+j:=by rw[Qr]
    rw[e2];rw[Pk]at this;cases this with
    |iv _ _ h=>exact h.mono hM
def iE(h:AH)(n:Nat)(r:PV)(K:AH->PV->Prop):Prop:= ∀M N w,Rel M N (· <n) h w-> ∃b j u,Ext M N (· <n) h w b N (· <n) j w∧Rel b N (· <n) j w∧(∀x,VR M N (· <n) r x->VR b N (· <n) u x)∧K j u
theorem iE.done{h:AH}{n:Nat}{r:PV}{K:AH->PV->Prop}(hk:K h r):iE h n r K:=fun M N w b=>⟨M,h,r,.refl _ _ _ _ _,b,fun _ h=>h,hk⟩
theorem iE.row{h:AH}{n:Nat}{r:PV}{K:AH->PV->Prop}(i:Nat){sz:Nat}{es:List (List PV)}(el:Nat->List IV)(hi:h.get i=io (.row sz es))(b: ∀k e,es[k]? =io e->e=(el k).map .iv)
  (j:r.da i sz es.length) (hk:iE ((i,is)::h) n (r.eh i sz el) K):iE h n r K:=by
 intro M N w D;obtain⟨u,h1,B,C⟩:=wH D hi b;obtain⟨y,A,I,g1,g2,g3,g4⟩:=hk u N w B;exact⟨y,A,I,h1.trans g1,g2,fun x G=>g3 x (C _ _ G j),g4⟩
def IS(ty:Ty)(l:List ResultVar)(m:Nat)(R:PV->AH->Nat->Prop):AQ:=fun e s=>
 (e= .normal∨e= .ret)∧ ∃u,iZ ty s l=io u∧iE s.h s.nx u fun x y=> ∃r b j L,R r b j∧Wk m L ⟨[(0,y)],x,s.nx⟩ ⟨[(0,r)],b,j⟩
section
variable {P:Program}
theorem ou {ty:Ty} (Y:bz P ty) {k:FuncId} {fn:Func} {c:Code} (hf:P.funcs[k]? =io fn) (hb:fn.body=io c) (hn:(fn.name== "runtime.NumGoroutine")=kw) {nt:Nat} (J:fn.ntmps=nt)
  {l:List ResultVar} (hl:fn.results.toList=l) {args:List PV} (I:args.length<=nt) {os:List AO} {R:PV->AH->Nat->Prop}
  (h:GO P nt [.code c] (IS ty l os.length R) ⟨mL 0 args,c9 0 os,os.length⟩):Fn P k args os R:=by
 have key:Fn P k args os (fun r0 h0 n0=>iE h0 n0 r0 fun b r2=> ∃r B C L,R r B C∧Wk os.length L ⟨[(0,r2)],b,n0⟩ ⟨[(0,r)],B,C⟩):=by
  refine zY Y hf hb hn J hl I ?_;intro M N a w u;refine wp_mono (h M N a w u) fun e a' w' hp=>?_;obtain⟨D,A,s',h1,b,h3⟩:=hp;refine⟨D,A,s',h1,b,?_⟩;simp only[kp]at h3 ⊢;obtain⟨he,r,g1,g2⟩:=h3;exact⟨he,r,g1,g2⟩
 refine⟨key.1,fun M N w vs hr y hv=>(key.2 M N w vs hr y hv).mono ?_⟩;rintro e w' ⟨x,D,A,r0,h0,n0,rfl,hF,hx,hr',hvr⟩;obtain⟨M2,b,r2,g1,g2,g3,r,B,C,L,hR,hw⟩:=hF D A w' hr'
 have G:Fits M2 A ⟨[(0,r2)],b,n0⟩ 1 ⟨#[x],[]⟩ w':=⟨g2,fun d=>by
  rw[AF.ax];by_cases hd:d=0
  .subst hd;rw[am Z];exact g3 x hvr
  .rw[be hd];exact .any _,rfl,rfl⟩
 have j:=hw.fits G;refine⟨x,M2,_,r,B,C,rfl,hR,hw.ext (hx.trans g1),j.1,?_⟩;have:=j.2.1 0;exact this
def C5(ty:Ty)(l:List ResultVar)(r:PV):AQ:=fun e s=>
 (e= .normal∨e= .ret)∧ ∃b,iZ ty s l=io b∧iE s.h s.nx b fun _ j=>an j r
theorem ah {ty:Ty} (y:bz P ty) {k:FuncId} {fn:Func} {c:Code} (hf:P.funcs[k]? =io fn) (hb:fn.body=io c) (hn:(fn.name== "runtime.NumGoroutine")=kw) {nt:Nat} (x:fn.ntmps=nt)
  {l:List ResultVar} (hl:fn.results.toList=l) {args:List PV} (u:args.length<=nt) {r:PV} (hlow:r.low 0=jp)
  (h:GO P nt [.code c] (C5 ty l r) ⟨mL 0 args,[],0⟩):Pure P k args r:=by
 refine ou y hf hb hn x hl u ?_;intro M N a w b;refine wp_mono (h M N a w b) fun e a' w' I=>?_;obtain⟨B,D,s',h1,j,A⟩:=I;refine⟨B,D,s',h1,j,?_⟩;simp only[kp]at A ⊢;obtain⟨G,r0,g1,g2⟩:=A;refine⟨G,r0,g1,fun M N w J=>?_⟩;obtain⟨C,j,r2,R,Y,q3,q4⟩:=g2 M N w J;refine⟨C,j,r2,R,Y,q3,r,[],0,[],⟨rfl,rfl,rfl⟩,rfl,PC _,by simp,⟨?_,hlow,ac⟩,ac,Qa⟩;rw[PV.jG _ _ hlow];exact q4
theorem aN{ty:Ty}{l:List ResultVar}{r r0:PV}{e:Exit}{s:AS}(he:e= .normal∨e= .ret)(h:iZ ty s l=io r0)(b:an r0 r):C5 ty l r e s:=⟨he,r0,h,.done b⟩
end
section
variable {P:Program}
theorem EY{k:FuncId}{args:List PV}{os:List AO}{R:PV->AH->Nat->Prop}(hc:gB P k){n:Nat}(hn: ∃sz u,PV.iv (.cB sz n u)∈args)(h:n<=maxLen->Fn P k args os R):Fn P k args os R:=by
 refine⟨hc,fun M N w vs A hl x=>?_⟩;obtain⟨sz,u,hn⟩:=hn;obtain⟨j,y⟩:=Qd hn;have:=x j _ y;have b:n<=maxLen:=by
  generalize vs.getD j undef=v at this;cases this with
  |iv _ _ hi=>cases hi with
   |fu=>exact PC _
   |cB=>omega
 exact(h b).2 M N w vs A hl x
theorem D7{k:FuncId}{args:List PV}{r:PV}(hc:gB P k){n:Nat}(hn: ∃sz b,PV.iv (.cB sz n b)∈args)(h:n<=maxLen->Pure P k args r):Pure P k args r:=EY hc hn h
end
abbrev iI(n:Int):IV:= .v (.int .i64 n)
abbrev iS(s:ByteArray):IV:= .v (.string s)
abbrev pI(n:Int):PV:= .iv (iI n)
abbrev pS(s:ByteArray):PV:= .iv (iS s)
abbrev pB(b:Bool):PV:= .iv (.v (.bool b))
abbrev ag(l:List IV):PV:= .agg (l.map .iv)
abbrev bu{α:Type}[Inhabited α](sz:Nat)(l:List α)(f:α->List IV):IV:= .cB sz l.length (fun k=>f (l.getD k co))
def aF{α:Type}(sz:Nat)(l:List α)(f:α->List IV):AO:= .row sz (l.map fun x=>(f x).map .iv)
theorem bg(σ:Nat->Nat): ∀l:List IV,dA σ (l.map .iv)=l.map .iv
 | []=>rfl
 |x::r=>by simp only[PB,dA,PV.cx,bg σ r]
theorem qq(n:Nat): ∀l:List IV,bj n (l.map .iv)=jp
 | []=>rfl
 |x::r=>by simp only[PB,bj,PV.low,qq n r]
section
variable {α:Type} {sz:Nat} {l:List α} {f:α->List IV}
theorem b4(σ:Nat->Nat):(aF sz l f).cx σ=aF sz l f:=by
 simp only[aF,AO.cx,PW];congr 1;exact PN fun x _=>bg σ _
theorem dL(n:Nat):(aF sz l f).low n:=by
 intro k e b;rw[Ps,Pu]at b;obtain⟨x,_,rfl⟩:=b;exact qq n _
theorem AM{es:List (List PV)}(σ:Nat->Nat)(h:es=l.map fun x=>(f x).map .iv):dV (.row sz es) ((aF sz l f).cx σ):=by
 rw[b4];exact .of_eq (by rw[h];rfl)
theorem gj[Inhabited α]{es:List (List PV)}(h:es=l.map fun x=>(f x).map .iv): ∀k e,es[k]? =io e->e=(f (l.getD k co)).map .iv:=by
 subst h;intro k e b;rw[Ps,Pu]at b;obtain⟨x,j,rfl⟩:=b;rw[Pn,j];rfl
theorem vS[Inhabited α](l:List α)(f:α->List IV):(PY l.length).map (fun k=>(f (l.getD k co)).map PV.iv)=l.map fun x=>(f x).map .iv:=by
 apply RF;intro k;rw[Ps,Ps];rcases Qo k l.length with h|h
 .rw[R1 h,Po h];simp[Pn,h]
 .simp[h]
theorem qX(h: ∀x,eE ((f x).map .iv)=jp)(l:List α):allOnes (l.map fun x=>(f x).map .iv)=jp:=by
 induction l with
 |nil=>rfl
 |cons x r ih=>simp only[PB,allOnes,h x,ih]
theorem fZ[Inhabited α](h: ∀x,eE ((f x).map .iv)=jp)(l:List α):allOnes ((PY l.length).map (fun k=>(f (l.getD k co)).map PV.iv))=jp:=by
 rw[vS];exact qX h l
end
def az(l:List IV):AO:= .cells (l.map .iv)
theorem Af(σ:Nat->Nat)(l:List IV):(az l).cx σ=az l:=by
 simp only[az,AO.cx,bg]
theorem CW{cs:List PV}{b:Option TypeId}{l:List IV}(σ:Nat->Nat)(h:cs=l.map .iv):dV (.cells cs b) ((az l).cx σ):=by
 rw[Af];exact .trans (.Mr cs b) (.of_eq (by rw[h];rfl))
def cF:List Nat->Bool
 | []=>jp
 |x::r=>!r.elem x&&cF r
theorem fg: ∀{l:List Nat},cF l=jp->l.Nodup
 | [],_=>Qa
 |x::r,h=>by
  simp only[cF,Qf,Qs,List.elem_eq_mem,decide_eq_false_iff_not]at h;exact P2.2 ⟨h.1,fg h.2⟩
theorem wk{n0:Nat}{L:List Nat}{s t:AS}(h1:PM t.nx (n0+L.length)=jp)(b:Ry n0 s.nx=jp)(u:L.all (fun j=>PL j s.nx)=jp)(hf:Dc t.nx (sg n0 L) s.f t.f)(hh:mP t.nx (sg n0 L) s.h t.h)
  (x:cF (en (sg n0 L) t.h)=jp):Wk n0 L s t:=
 ⟨PF h1,Pj b,fun j y=>Pj (P8.1 u j y),hf,hh,fg x⟩
theorem wk0{n0:Nat}{s t:AS}(h1:t.nx=n0)(b:Ry n0 s.nx=jp)(hf:Dc t.nx (sg n0 []) s.f t.f)(hh:t.h=[]):Wk n0 [] s t:=
 ⟨by simpa using h1,Pj b,by simp,hf,by rw[hh];trivial,by rw[hh];exact Qa⟩
section
variable {n i:Nat} {σ:Nat->Nat} {h r:AH}
theorem hC{cs:List PV}{b:Option TypeId}{c:List IV}(ho:h.get (σ i)=io (.cells cs b))(he:cs=c.map .iv)(hi:PL i n=jp)(hr:mP n σ h r):mP n σ h ((i,io (az c))::r):=
 ⟨⟨_,ho,CW σ he⟩,Pj hi,qq n c,hr⟩
theorem hR{α:Type}{sz:Nat}{es:List (List PV)}{l:List α}{f:α->List IV}(ho:h.get (σ i)=io (.row sz es))(he:es=l.map fun x=>(f x).map .iv)(hi:PL i n=jp)(hr:mP n σ h r):mP n σ h ((i,io (aF sz l f))::r):=
 ⟨⟨_,ho,AM σ he⟩,Pj hi,dL n,hr⟩
theorem hM{V:Type}{kc:KC}{ev:V->IV}{z:V}{u:Value}{b:PV->V}{m j:List (kc.K×V)}(ho:h.get (σ i)=io (.map kc ev z u b m))(he:m=j)(hi:PL i n=jp)(hr:mP n σ h r):mP n σ h ((i,io (.map kc ev z u b j))::r):=
 ⟨⟨_,ho,.of_eq (by rw[he];rfl)⟩,Pj hi,ac,hr⟩
theorem LO{V:Type}{kc:KC}{ev:V->IV}{z:V}{b:Value}{u:PV->V}(ho:h.get (σ i)=io .eC)(y: ∀M,IR M (ev z) b)(hi:PL i n=jp)(hr:mP n σ h r):mP n σ h ((i,io (.map kc ev z b u []))::r):=
 ⟨⟨_,ho,id,fun M N U w j x=>⟨#[],0,x,⟨rfl,by simp,by simp,by simp,by simp⟩,y M⟩⟩,Pj hi,ac,hr⟩
theorem hI{V:Type}{kc:KC}{ev:V->IV}{m:List (kc.K×V)}{vs y:List Nat}{C u:Option (kc.K×V)}(ho:h.get (σ i)=io (.bL kc ev m vs C))(he:vs=y)(hc:u=C∨u=is)(hi:PL i n=jp)(hr:mP n σ h r):mP n σ h ((i,io (.bL kc ev m y u))::r):=by
 refine⟨⟨_,ho,id,fun M N U w j D=>?_⟩,Pj hi,ac,hr⟩;subst he;rcases hc with rfl|rfl
 .exact D
 .rcases D with⟨h1,A,_,B⟩|⟨b,ents,clock,x,h1,A,G,B,I,J,R⟩
  .exact .inl ⟨h1,A,rfl,B⟩
  .exact .inr ⟨b,ents,clock,x,h1,A,G,B,I,J,by simp⟩
end
theorem dt{ty:Ty}{b:List ResultVar}{e:Exit}{s:AS}{α:Type}[Inhabited α]{i n sz:Nat}{es:List (List PV)}{L:List α}{f:α->List IV}(he:e= .normal∨e= .ret)(h:iZ ty s b=io (.sl i 0 n sz))(hi:s.h.get i=io (.row sz es))
  (hes:es=L.map fun x=>(f x).map .iv) (hn:n=L.length):C5 ty b (.iv (bu sz L f)) e s:=by
 refine⟨he,_,h,.row i (fun k=>f (L.getD k co)) hi (gj hes) ?_ (.done ?_)⟩
 .subst hes;subst hn;simp[PV.da]
 .have:PM i i=jp:=by simp
  simp only[PV.eh,this,cond_true,PT];subst hn;exact .refl _
theorem an.bk{b c:Bool}(h:b=c):an (pB b) (.kb c):=fun _ _ _ _ j=>by
 subst h;cases j with
 |iv _ _ h=>cases h;exact .kb _
theorem an.row{i n m sz:Nat}(h:n=m):an (.sl i 0 n sz) (.sl i 0 m sz):= .of_eq (by rw[h])
section
variable {α:Type} [Inhabited α] {l:List α} {f:α->Bool} {i:Nat}
theorem cM(h:(l.take i).any f=kw)(hi:i<l.length):((l.take (i+1)).any f=kw↔f (l.getD i co)=kw):=by
 rw[Sa hi,List.any_append,h,Pn,Po hi];simp
theorem BM(hi:i<l.length)(h:f (l.getD i co)=jp):l.any f=jp:=by
 rw[Pn,Po hi]at h;exact QJ.2 ⟨_,P7 hi,h⟩
omit [Inhabited α] in
theorem any_none(h:(l.take i).any f=kw)(hi:l.length<=i):l.any f=kw:=by
 rwa[PJ hi]at h
theorem ct(hi:i<l.length):l.take (i+1)=l.take i++ [l.getD i co]:=by
 rw[Sa hi,Pn,Po hi];rfl
theorem gQ{β:Type}{g:β->α->β}{b:β}(hi:i<l.length):(l.take (i+1)).foldl g b=g ((l.take i).foldl g b) (l.getD i co):=by
 rw[ct hi,List.foldl_append];rfl
end
theorem eY{P:Program}{nt:Nat}{Q:AQ}{k:List KI}{s:AS}{body:Code}{K:Type}(m:List K)(I:List Nat->AS)(J:List Nat->Prop)(B:List Nat)(R:J [])(h0:Wk s.nx B s (I []))
  (u: ∀vs:List Nat,J vs->GO P nt (.code body:: .lp (fun t=> ∃j x,m[j]? =io x∧j∉vs∧J (j::vs)∧ ∃L,Wk s.nx L t (I (j::vs)))::k) Q (I vs)):GO P nt (.code (.loop body)::k) Q s:=by
 refine gu (σ:={vs:List Nat//vs.Nodup∧(∀j∈vs,j<m.length)∧J vs}) (fun v=>I v.1) (fun v=>m.length-v.1.length) ⟨[],Qa,by simp,R⟩ B h0 fun v=>?_;obtain⟨vs,h1,C,D⟩:=v;refine ll ?_ (u vs D)
 rintro t ⟨j,x,g1,g2,g3,L,g4⟩;have G:j<m.length:=(Pm.1 g1).1;have b: ∀i∈j::vs,i<m.length:=by
  intro i hi;rcases Px.1 hi with rfl|hi
  .exact G
  .exact C i hi
 have A:(j::vs).Nodup:=P2.2 ⟨g2,h1⟩;have y:(j::vs).length<=m.length:=by
  have:=QH A (l₂:=PY m.length) (fun i hi=>QQ.2 (b i hi));simpa using this
 refine⟨⟨j::vs,A,b,g3⟩,L,?_,g4⟩;show m.length-(j::vs).length<m.length-vs.length;simp only[PO]at y ⊢;omega
def bF(P:Program)(k:FuncId)(args:List PV)(os:List AO)(r:PV)(h:AH)(n:Nat):Prop:=Fn P k args os fun q b j=>q=r∧b=h∧j=n
def pA:List AO->List AO->Prop
 | [],[]=>True
 |p::r,q::s=>dV p q∧pA r s
 |_,_=>False
theorem pA.length: ∀{a b:List AO},pA a b->a.length=b.length
 | [],[],_=>rfl
 |_::_,_::_,h=>congrArg (· +1) (pA.length h.2)
 | [],_::_,h=>h.elim
 |_::_,[],h=>h.elim
theorem pA.get: ∀{a b:List AO},pA a b-> ∀(j:Nat) (q:AO),b[j]? =io q-> ∃p,a[j]? =io p∧dV p q
 | [],[],_,j,q,h=>by simp at h
 |p::r,q0::s,hh,j,q,h=>by
  cases j with
  |zero=>simp at h;subst h;exact⟨p,rfl,hh.1⟩
  |succ j=>simpa using pA.get hh.2 j q (by simpa using h)
 | [],_::_,hh,_,_,_=>hh.elim
 |_::_,[],hh,_,_,_=>hh.elim
theorem Fn.J0{P:Program}{k:FuncId}{args:List PV}{os ps:List AO}{R:PV->AH->Nat->Prop}(h:Fn P k args os R)(G:pA ps os):Fn P k args ps R:=by
 have I:=G.length;have u: ∀i o,(c9 0 os).get i=io o-> ∃p,(c9 0 ps).get i=io p∧dV p o:=by
  intro i o y;rw[p7,am (PC _)]at y ⊢;exact G.get _ _ y
 refine⟨h.1,fun M N w vs C hl hv=>?_⟩;rw[I]at C hv ⊢;have a0:Rel M N (· <os.length) (c9 0 os) w:=by
  refine⟨C.eh,fun i o y=>?_,fun i o y b0=>?_,fun i o y=>?_,fun i j o p y hj J hp he=>?_⟩
  .obtain⟨p,h1,A⟩:=u i o y;exact C.used i p h1
  .obtain⟨p,h1,A⟩:=u i o y;exact C.dN i p h1 (A.1 b0)
  .obtain⟨p,h1,A⟩:=u i o y;exact A.2 _ _ _ _ _ (C.obj i p h1)
  .obtain⟨o',h1,A⟩:=u i o y;obtain⟨p',B,D⟩:=u j p hj;exact C.inj i j o' p' h1 B (A.1 J) (D.1 hp) he
 refine(h.2 M N w vs a0 hl hv).mono ?_;rintro e w' ⟨x,M',N',r,h',n',rfl,hR,hx,hrr,hvr⟩;refine⟨x,M',N',r,h',n',rfl,hR,⟨hx.os,hx.tape,hx.output,hx.size,fun b hb hn=>hx.fP b hb fun i o y J=>?_,hx.oF,fun b c h1 A=>?_,hx.nm,hx.ule,fun i o y J=>?_⟩,hrr,hvr⟩
 .obtain⟨p,h1,A⟩:=u i o y;exact hn i p h1 (A.1 J)
 .rcases hx.gE b c h1 A with B|⟨i,o,B,D,Y⟩
  .exact .inl B
  .obtain⟨p,g1,g2⟩:=u i o B;exact .inr ⟨i,p,g1,g2.1 D,Y⟩
 .rcases hx.fM i o y J with B|⟨j,q,B,D,Y⟩
  .exact .inl B
  .obtain⟨p,g1,g2⟩:=u j q B;exact .inr ⟨j,p,g1,g2.1 D,Y⟩
theorem bF.J0{P:Program}{k:FuncId}{args:List PV}{os j:List AO}{r:PV}{h:AH}{n:Nat}(hc:bF P k args os r h n)(b:pA j os):bF P k args j r h n:=Fn.J0 hc b
theorem bF.le{P:Program}{k:FuncId}{aa args:List PV}{os:List AO}{r:PV}{h:AH}{n:Nat}(hc:bF P k args os r h n)(b:gd aa args):bF P k aa os r h n:=Fn.le hc b
theorem Pure.rN{P:Program}{k:FuncId}{args:List PV}{r:PV}(h:Pure P k args r):bF P k args [] r [] 0:=h
section
variable {P:Program} {ty:Ty} {nt:Nat} {Q:AQ} {k:List KI} {s:AS}
theorem Ab{o:Oper}{c:Call}{g:FuncId}{u args:List PV}{os:List AO}{r:PV}{y:AH}{A:Nat}{s':AS}(L:List Nat)(hc:bF P g args os r y A)(ho:o.op= .call c)(ha:bR s.f c=io (g,u))
  (hn:cF L=jp) (hl:L.all (fun j=>PL j s.nx)=jp) (x:L.map s.h.get=os.map fun o=>io (o.cx (sig L s.nx))) (b:u=dA (sig L s.nx) args) (hp:putDst nt o (r.cx (sig L s.nx)) (aZ s L y A)=io s'):
  OT P nt o s (fun t=>t=s'):=
 lD ho ha hc (fg hn) (fun j B=>Pj (P8.1 hl j B)) x b (by rintro q C n0 ⟨rfl,rfl,rfl⟩;exact⟨s',hp,rfl⟩)
theorem bx{all rest:List Oper}{o:Oper}{c:Call}{g:FuncId}{u args:List PV}{os:List AO}{r:PV}{y:AH}{A:Nat}{s':AS}(L:List Nat)(hc:bF P g args os r y A)(ho:o.op= .call c)(hg:o.guard=is)(ha:bR s.f c=io (g,u))
  (hn:cF L=jp) (hl:L.all (fun j=>PL j s.nx)=jp) (x:L.map s.h.get=os.map fun o=>io (o.cx (sig L s.nx))) (b:u=dA (sig L s.nx) args) (hp:putDst nt o (r.cx (sig L s.nx)) (aZ s L y A)=io s')
  (h:GO P nt (.ops all rest::k) Q s'):GO P nt (.ops all (o::rest)::k) Q s:=
 cC hg (Ab L hc ho ha hn hl x b hp) fun t B=>by subst B;exact h
theorem lr(A:bz P ty){all:List Oper}{todo pend:List (Nat×Oper)}{j:Nat}{o:Oper}{s':AS}{J I:Prop}(hrd:eN todo=[(j,o)])(hg:bY nt all s.f o=io jp)(hpb:ib all pend o=jp)(hE:nk todo [j]=jp)
  (hag:nn ty nt all s todo pend=io J) (hCA:J) (C:OT P nt o s (fun t=>t=s')) (hag2:dF ty nt all s' (a7 pend o)=io I) (hC2:I)
  (h:GO P nt (.bX all (todo.filter fun x=>!PM x.1 j) (a7 pend o)::k) Q s'):GO P nt (.bX all todo pend::k) Q s:=by
 have u:(j,o)∈eN todo:=by rw[hrd];simp
 obtain⟨R,B⟩:=PZ.1 u;simp only[Qs,RE,Qm]at B;have b: ∀y∈todo,aQ y.2=jp-> ∀y∈pend,eH P nt all s y.2:=by
  intro y D G;unfold nn at hag;split at hag
  .exact df A hag hCA
  .rename_i h2;have:=Qm.1 h2 y D;rw[G]at this;exact absurd Z this
 refine rJ hE ⟨_,R,B.1⟩ b fun j' o' Y _ hu=>?_;simp only[PA]at Y;subst Y;have:=hu o R;subst this;exact⟨B.1,fun y D _=>by simpa using B.2 y D,hpb,hg,_,C,fun t ht=>by subst ht;exact⟨df A hag2 hC2,h⟩⟩
theorem bD(A:bz P ty){all:List Oper}{todo pend:List (Nat×Oper)}{j:Nat}{o:Oper}{c:Call}{g:FuncId}{u args:List PV}{os:List AO}{r:PV}{D:AH}{G:Nat}{s':AS}{C B:Prop}(L:List Nat)(hc:bF P g args os r D G)
  (hrd:eN todo=[(j,o)]) (ho:o.op= .call c) (ha:bR s.f c=io (g,u))
  (hn:cF L=jp) (hl:L.all (fun j=>PL j s.nx)=jp) (y:L.map s.h.get=os.map fun o=>io (o.cx (sig L s.nx))) (b:u=dA (sig L s.nx) args) (hp:putDst nt o (r.cx (sig L s.nx)) (aZ s L D G)=io s')
  (hg:bY nt all s.f o=io jp) (hpb:ib all pend o=jp) (hE:nk todo [j]=jp)
  (hag:nn ty nt all s todo pend=io C) (hCA:C) (hag2:dF ty nt all s' (a7 pend o)=io B) (hC2:B)
  (h:GO P nt (.bX all (todo.filter fun x=>!PM x.1 j) (a7 pend o)::k) Q s'):GO P nt (.bX all todo pend::k) Q s:=
 lr A hrd hg hpb hE hag hCA (Ab L hc ho ha hn hl y b hp) hag2 hC2 h
def Aj(ty:Ty)(l:List ResultVar)(m:Nat)(r:PV)(h:AH)(n:Nat):AQ:=IS ty l m fun q b j=>q=r∧b=h∧j=n
theorem au (x:bz P ty) {g:FuncId} {fn:Func} {c:Code} (hf:P.funcs[g]? =io fn) (hb:fn.body=io c) (hn:(fn.name== "runtime.NumGoroutine")=kw) (u:fn.ntmps=nt)
  {l:List ResultVar} (hl:fn.results.toList=l) {args:List PV} (j:args.length<=nt) {os:List AO} {r:PV} {h:AH} {n:Nat}
  (b:GO P nt [.code c] (Aj ty l os.length r h n) ⟨mL 0 args,c9 0 os,os.length⟩):bF P g args os r h n:=ou x hf hb hn u hl j b
theorem bd{l:List ResultVar}{m:Nat}{r r0:PV}{h:AH}{n:Nat}{e:Exit}(L:List Nat)(he:e= .normal∨e= .ret)(hr:iZ ty s l=io r0)(hw:Wk m L ⟨[(0,r0)],s.h,s.nx⟩ ⟨[(0,r)],h,n⟩):Aj ty l m r h n e s:=
 ⟨he,r0,hr,.done ⟨r,h,n,L,⟨rfl,rfl,rfl⟩,hw⟩⟩
end
theorem iE.map{h:AH}{n:Nat}{r:PV}{K:AH->PV->Prop}(i:Nat){kc:KC}{V:Type}{e:V->IV}{z:V}{b:Value}{y:PV->V}{m:List (kc.K×V)}(hi:h.get i=io (.map kc e z b y m))
  (hk:iE ((i,is)::h.eZ i (.dR kc e z b m)) n (r.eZ i (.dR kc e z b m)) K):iE h n r K:=by
 intro M N w D;obtain⟨j,h1,B,_,C⟩:=ph D hi;obtain⟨u,A,I,g1,g2,g3,g4⟩:=hk j N w B;exact⟨u,A,I,h1.trans g1,g2,fun x G=>g3 x (C _ _ G),g4⟩
mutual
def PV.EX(i:Nat)(l:List IV):PV->PV
 | .iv x=> .iv x
 | .agg cs=> .agg (yz i l cs)
 | .bm cs=> .bm (yz i l cs)
 | .ptr j o=>bif PM j i then .iv (.jz (l.drop o)) else .ptr j o
 | .sl j off len sz'=> .sl j off len sz'
 | .cN j a b c=> .cN j a b c
 | .ep z j=> .ep z j
 | .mZ j o n=> .mZ j o n
 | .mp j=> .mp j
 | .b7 fn a b=> .b7 fn a b
 | .kb b=> .kb b
 | .any=> .any
def yz(i:Nat)(l:List IV):List PV->List PV
 | []=> []
 |p::r=>PV.EX i l p::yz i l r
end
theorem mv(i:Nat)(x:List IV): ∀l:List PV,yz i x l=l.map (PV.EX i x)
 | []=>rfl
 |p::r=>by simp[yz,mv i x r]
theorem CK{M:Mem}{N:Nm}{n:Nat}{h:AH}{w:World}(hr:Rel M N (· <n) h w){i:Nat}{l:List IV}{cs:List PV}{T0:Option TypeId}(hi:h.get i=io (.cells cs T0))(a0:cs=l.map .iv):
  ∃B,Ext M N (· <n) h w B N (· <n) ((i,is)::h) w∧Rel B N (· <n) ((i,is)::h) w∧ ∀p x,VR M N (· <n) p x->VR B N (· <n) (p.EX i l) x:=by
 subst a0;have R:=hr.dN i _ hi Z;obtain⟨c,T,h1,G,h3,h4,h5⟩:=hr.obj i _ hi
 let B:Mem:=M.set (N.ay i) (.cells c) R
 have hM:M.le B:=fun b d hb=>by
  simp only[B,Mem.set];by_cases u:b=N.ay i
  .rw[u,R]at hb;cases hb
  .rw[be u];exact hb
 have hnew: ∀b d,M b=is->B b=io d->b=N.ay i:=fun b d h1 G=>by
  simp only[B,Mem.set]at G;by_cases u:b=N.ay i
  .exact u
  .rw[be u,h1]at G;cases G
 have C: ∀o,B.cell (N.ay i) o=c[o]? :=fun o=>by simp[Mem.cell,B,Mem.set]
 refine⟨B,?_,?_,fun p x hx=>?_⟩
 .exact⟨rfl,rfl,⟨rfl,Pv _⟩,Pv _,fun _ _ _=>rfl,hM,fun b d h1 G=> .inr ⟨i,_,hi,rfl,(hnew b d h1 G).symm⟩,.refl _ _,fun _ h=>h,fun j o A b0=> .inr ⟨j,o,(bc j o A).2,b0,rfl⟩⟩
 .refine⟨fun b d hb=>?_,fun j o A=>hr.used j o (bc j o A).2,fun j o A I=>?_,fun j o A=>?_,fun j k o p A hk=>hr.inj j k o p (bc j o A).2 (bc k p hk).2⟩
  .simp only[B,Mem.set]at hb;by_cases u:b=N.ay i
   .rw[am u]at hb;cases hb;exact⟨T,(0,0),by rw[u];exact h1⟩
   .rw[be u]at hb;exact hr.eh b d hb
  .obtain⟨g1,g2⟩:=bc j o A;simp only[B,Mem.set];rw[be fun e=>g1 (hr.inj j i o _ g2 hi I Z e)];exact hr.dN j o g2 I
  .obtain⟨g1,g2⟩:=bc j o A;exact(hr.obj j o g2).mono hM (.refl _ _) (fun _ h=>h) (hr.used j o g2) Z
 .induction hx with
  |iv x y h=>exact .iv _ _ (h.mono hM)
  |agg cs ys hl _ ih=>
   refine .agg _ _ (by simpa[mv]using hl) fun j q D=>?_;rw[mv,Ps,Pu]at D;obtain⟨q0,J,rfl⟩:=D
   exact ih j q0 J
  |bm cs ys hl _ ih=>
   refine .bm _ _ (by simpa[mv]using hl) fun j q D=>?_;rw[mv,Ps,Pu]at D;obtain⟨q0,J,rfl⟩:=D
   exact ih j q0 J
  |ptr j off h=>
   simp only[PV.EX];cases hb:PM j i with
   |true=>
    have A:=PF hb;subst A;have Y:l.length=c.size:=by simpa using h3
    refine .iv _ _ (.jz _ _ _ (fun k hk=>?_) fun k q D=>?_)
    .rw[List.length_drop]at hk;rw[C];simp[show off+k<c.size by omega]
    .rw[Ql]at D;have c0:off+k<c.size:=by rw[<-Y];exact(Pm.1 D).1
     have:=h4 (off+k) (.iv q) (by rw[Ps,D];rfl);rw[C];rw[Pk]at this;cases this with
     |iv _ _ h=>exact h.mono hM
   |false=>exact .ptr _ _ h
  |cN i sz k off h=>exact .cN _ _ _ _ h
  |ep z i h=>exact .ep _ _ h
  |mZ i o n h=>exact .mZ _ _ _ h
  |sl j off len sz' cap h h0 hl hc he=>exact .sl _ _ _ _ _ h h0 hl hc he
  |lZ j sz' h=>exact .lZ _ _ h
  |sle j sz' cap h hc he=>exact .sle _ _ _ h hc he
  |mp j h=>exact .mp _ h
  |b7 fn first caps f' c' h1 G hr1 hr2 _ _=>exact .b7 _ _ _ _ _ h1 G (fun j p A=>(hr1 j p A).mono hM (.refl _ _) (fun _ h=>h)) (fun j p A=>(hr2 j p A).mono hM (.refl _ _) (fun _ h=>h))
  |kb b=>exact .kb _
  |any x=>exact .any _
theorem iE.cells{h:AH}{n:Nat}{r:PV}{K:AH->PV->Prop}(i:Nat)(l:List IV){cs:List PV}{y:Option TypeId}(hi:h.get i=io (.cells cs y))(b:cs=l.map .iv)(hk:iE ((i,is)::h) n (r.EX i l) K):iE h n r K:=by
 intro M N w D;obtain⟨j,h1,B,C⟩:=CK D hi b;obtain⟨u,A,I,g1,g2,g3,g4⟩:=hk j N w B;exact⟨u,A,I,h1.trans g1,g2,fun x G=>g3 x (C _ _ G),g4⟩
theorem lx{ty:Ty}{l:List ResultVar}{r r0:PV}{e:Exit}{s:AS}(he:e= .normal∨e= .ret)(h:iZ ty s l=io r0)(hk:iE s.h s.nx r0 fun _ b=>an b r):C5 ty l r e s:=⟨he,r0,h,hk⟩
section
variable {P:Program} {ty:Ty} {nt:Nat} {Q:AQ} {k:List KI} {s:AS}
theorem qM{all rest:List Oper}{o:Oper}{c:Call}{g:FuncId}{u args:List PV}{os:List AO}{R:PV->AH->Nat->Prop}(L:List Nat)(hc:Fn P g args os R)(ho:o.op= .call c)(hg:o.guard=is)(ha:bR s.f c=io (g,u))
  (hn:cF L=jp) (hl:L.all (fun j=>PL j s.nx)=jp) (x:L.map s.h.get=os.map fun o=>io (o.cx (sig L s.nx))) (b:u=dA (sig L s.nx) args)
  (h: ∀r y A,R r y A-> ∃s',putDst nt o (r.cx (sig L s.nx)) (aZ s L y A)=io s'∧GO P nt (.ops all rest::k) Q s'):GO P nt (.ops all (o::rest)::k) Q s:=
 cC (R:=fun t=>GO P nt (.ops all rest::k) Q t) hg (lD ho ha hc (fg hn) (fun j B=>Pj (P8.1 hl j B)) x b h) fun t C=>C
theorem rK{R:PV->AH->Nat->Prop}{l:List ResultVar}{m:Nat}{r r0:PV}{h:AH}{n:Nat}{e:Exit}(L:List Nat)(he:e= .normal∨e= .ret)(hr:iZ ty s l=io r0)(hR:R r h n)(hw:Wk m L ⟨[(0,r0)],s.h,s.nx⟩ ⟨[(0,r)],h,n⟩):IS ty l m R e s:=
 ⟨he,r0,hr,.done ⟨r,h,n,L,hR,hw⟩⟩
end
theorem pf{P:Program}{nt:Nat}{Q:AQ}{k:List KI}{s:AS}{c:Code}(i j sz:Nat){cs:List PV}{u:Option TypeId}(hi:s.h.get i=io (.cells cs u))(hj:cs[j]? =io (.iv (.v (.slice is 0 0))))
  (h:GO P nt (.code c::k) Q ⟨s.f,(i,io (.cells (cs.set j (.sl s.nx 0 0 sz)) u))::(s.nx,io (.row sz []))::s.h,s.nx+1⟩):GO P nt (.code c::k) Q s:=by
 intro M N a w A;obtain⟨sf,sh,y⟩:=s;obtain⟨h1,Y⟩:=A.1.FW sz;have D:i≠y:=fun e=>by have:=A.1.used i _ hi;simp only at this;omega
 have b:AH.get ((y,io (AO.row sz []))::sh) i=io (.cells cs u):=by
  rw[AH.ax,be D];exact hi
 obtain⟨J,T,e1,e2,e3,R,e5⟩:=Y.obj i _ b
 obtain⟨g1,g2⟩:=Y.write (i:=i) (o0:= .cells cs u) b Z w (.cells (cs.set j (.sl y 0 0 sz)) u) Z Z Z Z (fun _ _=>rfl) ⟨J,T,e1,e2,by rw[List.length_set];exact e3,fun k p x=>by
  rw[Rh]at x;split at x
  .rename_i hk;subst hk;split at x
   .cases x;have:=R j _ hj;generalize J.getD j undef=v at this ⊢;cases this with
    |iv _ _ h=>cases h with
     |v=>exact .lZ _ _ (Rc _)
   .cases x
  .exact R k p x,e5⟩
 have B:Fits M N ⟨sf,(i,io (.cells (cs.set j (.sl y 0 0 sz)) u))::(y,io (.row sz []))::sh,y+1⟩ nt a w:=
  ⟨g2,fun k=>(A.2.1 k).mono (.refl _) (.refl _ _) (fun i hi=>QW hi),A.2.2⟩
 exact AW.then h B fun e a2 w2 M2 N2 s2 I C G=>⟨M2,N2,s2,(h1.trans g1).trans I,C,G⟩
theorem iE.DV{h:AH}{n:Nat}{r:PV}{K:AH->PV->Prop}{α:Type}[Inhabited α](i:Nat){sz:Nat}{es:List (List PV)}(L:List α)(f:α->List IV)(hi:h.get i=io (.row sz es))(hes:es=L.map fun x=>(f x).map .iv)
  (b:r.da i sz L.length) (hk:iE ((i,is)::h) n (r.eh i sz fun k=>f (L.getD k co)) K):iE h n r K:=
 .row i (fun k=>f (L.getD k co)) hi (gj hes) (by subst hes;simpa using b) hk
def AO.jj(i sz:Nat)(el:Nat->List IV):AO->AO
 | .cells cs T=> .cells (qk i sz el cs) T
 |o=>o
def AO.q9(i sz n:Nat):AO->Prop
 | .cells cs _=>dQ i sz n cs
 | .row _ es=> ∀(k:Nat) (e:List PV) (j:Nat) (p:PV),es[k]? =io e->e[j]? =io p-> ∃y,p= .iv y
 |_=>True
def AH.jj(i sz:Nat)(el:Nat->List IV):AH->AH
 | []=> []
 |(k,is)::r=>(k,is)::AH.jj i sz el r
 |(k,io o)::r=>(k,io (o.jj i sz el))::AH.jj i sz el r
def AH.q9(i sz n:Nat):AH->Prop
 | []=>True
 |(_,is)::r=>AH.q9 i sz n r
 |(_,io o)::r=>o.q9 i sz n∧AH.q9 i sz n r
def AF.jj(i sz:Nat)(el:Nat->List IV):AF->AF
 | []=> []
 |(d,p)::r=>(d,p.eh i sz el)::AF.jj i sz el r
def AF.q9(i sz n:Nat):AF->Prop
 | []=>True
 |(_,p)::r=>p.da i sz n∧AF.q9 i sz n r
theorem AH.jh(i sz:Nat)(el:Nat->List IV): ∀(h:AH) (j:Nat),(AH.jj i sz el h).get j=(h.get j).map (AO.jj i sz el)
 | [],_=>rfl
 |(k,is)::r,j=>by
  simp only[AH.jj,AH.ax,AH.jh i sz el r j];split<;>rfl
 |(k,io o)::r,j=>by
  simp only[AH.jj,AH.ax,AH.jh i sz el r j];split<;>rfl
theorem AH.kV{i sz n:Nat}: ∀{h:AH} (_:h.q9 i sz n) (j:Nat) (o:AO),h.get j=io o->o.q9 i sz n
 | [],_,j,o,ho=>nomatch ho
 |(k,is)::r,hh,j,o,ho=>by
  rw[AH.ax]at ho;split at ho
  .cases ho
  .exact AH.kV (h:=r) hh j o ho
 |(k,io q)::r,hh,j,o,ho=>by
  rw[AH.ax]at ho;split at ho
  .cases ho;exact hh.1
  .exact AH.kV (h:=r) hh.2 j o ho
theorem AF.jh(i sz:Nat)(el:Nat->List IV): ∀(f:AF) (d:Nat),(AF.jj i sz el f).get d=(f.get d).eh i sz el
 | [],_=>rfl
 |(k,p)::r,d=>by
  simp only[AF.jj,AF.ax,AF.jh i sz el r d];split<;>rfl
theorem AF.kV{i sz n:Nat}: ∀{f:AF} (_:f.q9 i sz n) (d:Nat),(f.get d).da i sz n
 | [],_,d=>trivial
 |(k,p)::r,h,d=>by
  rw[AF.ax];split
  .exact h.1
  .exact AF.kV (f:=r) h.2 d
theorem AO.qh(i sz:Nat)(el:Nat->List IV)(o:AO):(o.jj i sz el).real=o.real:=by
 cases o<;>rfl
theorem rI{P:Program}{nt:Nat}{Q:AQ}{k:List KI}{s:AS}{c:Code}(i:Nat){sz:Nat}{es:List (List PV)}(el:Nat->List IV)(hi:s.h.get i=io (.row sz es))(D: ∀k e,es[k]? =io e->e=(el k).map .iv)
  (hf:s.f.q9 i sz es.length) (hh:s.h.q9 i sz es.length) (h:GO P nt (.code c::k) Q ⟨s.f.jj i sz el,(i,is)::s.h.jj i sz el,s.nx⟩):GO P nt (.code c::k) Q s:=by
 intro M N a w b;obtain⟨C,h1,u,Y⟩:=wH b.1 hi D;have hM:M.le C:=h1.oF;have A: ∀j o,AH.get ((i,is)::s.h.jj i sz el) j=io o-> ∃p,AH.get ((i,is)::s.h) j=io p∧s.h.get j=io p∧o=p.jj i sz el:=by
  intro j o x;obtain⟨g1,g2⟩:=bc j o x;rw[AH.jh,Pu]at g2;obtain⟨p,g3,g4⟩:=g2;exact⟨p,by rw[AH.ax,be g1];exact g3,g3,g4.symm⟩
 have hE:Ext M N (· <s.nx) s.h w C N (· <s.nx) ((i,is)::s.h.jj i sz el) w:=⟨h1.os,h1.tape,h1.output,h1.size,h1.fP,h1.oF,h1.gE,h1.nm,h1.ule,fun j o x y=>by
  obtain⟨p,g1,_,rfl⟩:=A j o x;rw[AO.qh]at y
  exact h1.fM j p g1 y⟩
 have hR:Rel C N (· <s.nx) ((i,is)::s.h.jj i sz el) w:=by
  refine⟨u.eh,fun j o x=>?_,fun j o x y=>?_,fun j o x=>?_,fun j k o p x hk ho hp=>?_⟩
  .obtain⟨p,g1,_,rfl⟩:=A j o x;exact u.used j p g1
  .obtain⟨p,g1,_,rfl⟩:=A j o x;rw[AO.qh]at y;exact u.dN j p g1 y
  .obtain⟨p,g1,g2,rfl⟩:=A j o x;cases p with
   |cells cs T0=>
    obtain⟨c,T,q1,q2,q3,q4,q5⟩:=b.1.obj j _ g2;have hok:=AH.kV hh j _ g2;refine⟨c,T,q1,q2,by simpa[gx]using q3,fun k q hq=>?_,q5⟩;rw[gx,Ps,Pu]at hq;obtain⟨q0,B,rfl⟩:=hq;exact Y _ _ (q4 k q0 B) (gP hok k q0 B)
   |row=>exact u.obj j _ g1
   |bp=>exact u.obj j _ g1
   |eC=>exact u.obj j _ g1
   |map=>exact u.obj j _ g1
   |bL=>exact u.obj j _ g1
   |dK=>exact u.obj j _ g1
   |gf=>exact u.obj j _ g1
   |dP=>exact u.obj j _ g1
  .obtain⟨o',g1,_,rfl⟩:=A j o x;obtain⟨p',g2,_,rfl⟩:=A k p hk;rw[AO.qh]at ho hp;exact u.inj j k o' p' g1 g2 ho hp
 have G:Fits C N ⟨s.f.jj i sz el,(i,is)::s.h.jj i sz el,s.nx⟩ nt a w:=⟨hR,fun d=>by
  rw[AF.jh];exact Y _ _ (b.2.1 d) (AF.kV hf d),b.2.2⟩
 exact AW.then h G fun e a2 w2 M2 N2 s2 R I J=>⟨M2,N2,s2,hE.trans R,I,J⟩
def AO.ji(i sz:Nat)(el:Nat->List IV):AO->AO
 | .cells cs T=> .cells (qk i sz el cs) T
 | .row s es=> .row s (es.map (qk i sz el))
 |o=>o
def AO.uc(i sz n:Nat):AO->Prop
 | .cells cs _=>dQ i sz n cs
 | .row _ es=> ∀e∈es,dQ i sz n e
 |_=>True
def AH.ji(i sz:Nat)(el:Nat->List IV):AH->AH
 | []=> []
 |(k,is)::r=>(k,is)::AH.ji i sz el r
 |(k,io o)::r=>(k,io (o.ji i sz el))::AH.ji i sz el r
def AH.uc(i sz n:Nat):AH->Prop
 | []=>True
 |(_,is)::r=>AH.uc i sz n r
 |(_,io o)::r=>o.uc i sz n∧AH.uc i sz n r
theorem AH.qi(i sz:Nat)(el:Nat->List IV): ∀(h:AH) (j:Nat),(AH.ji i sz el h).get j=(h.get j).map (AO.ji i sz el)
 | [],_=>rfl
 |(k,is)::r,j=>by
  simp only[AH.ji,AH.ax,AH.qi i sz el r j];split<;>rfl
 |(k,io o)::r,j=>by
  simp only[AH.ji,AH.ax,AH.qi i sz el r j];split<;>rfl
theorem AH.oW{i sz n:Nat}: ∀{h:AH} (_:h.uc i sz n) (j:Nat) (o:AO),h.get j=io o->o.uc i sz n
 | [],_,j,o,ho=>nomatch ho
 |(k,is)::r,hh,j,o,ho=>by
  rw[AH.ax]at ho;split at ho
  .cases ho
  .exact AH.oW (h:=r) hh j o ho
 |(k,io q)::r,hh,j,o,ho=>by
  rw[AH.ax]at ho;split at ho
  .cases ho;exact hh.1
  .exact AH.oW (h:=r) hh.2 j o ho
theorem AO.ot(i sz:Nat)(el:Nat->List IV)(o:AO):(o.ji i sz el).real=o.real:=by
 cases o with
 |row s es=>cases es<;>rfl
 |_=>rfl
def La:List Code->Code->Code
 | [],r=>r
 |c::l,r=> .seq c (La l r)
def vO:Nat->Code->List Code
 |n+1,.seq a b=>a::vO n b
 |_,_=> []
def rM:Nat->Code->Code
 |n+1,.seq _ b=>rM n b
 |_,c=>c
theorem A8{P:Program}{nt:Nat}{R:AQ}: ∀{l:List Code} {e:Exit} {s:AS},e≠ .normal->kp P nt (l.map KI.code) R e s->R e s
 | [],_,_,_,h=>h
 |c::l,e,s,he,h=>by
  cases e with
  |normal=>exact absurd Z he
  |_=>exact A8 (l:=l) he h
end
end Go.Al
namespace Go.Al
open Go.ChangeShapes Go.WideShapes Go.RowKit
section
def vk(W:World)(b:Nat):Option MB:=match W.heap[b]? with
 |some (.cells c _ _)=>io (.cells c)
 |some (.map es cl)=>io (.map es cl)
 |_=>is
def lP(W:World):Prop:= ∀b c,LP b=io c-> ∃T j,W.heap[b]? =io (.cells c T j)
def Mem.oE(W:World)(h:lP W):Mem:=⟨vk W,fun b c hb=>by obtain⟨T,j,e⟩:=h b c hb;simp[vk,e]⟩
def NA:Nm:=⟨fun _=>0,fun _=>0⟩
theorem Hp(W:World)(h:lP W):Rel (Mem.oE W h) NA (· <0) [] W:=by
 refine⟨fun b c hb=>?_,fun i o x=>by simp[AH.get]at x,fun i o x=>by simp[AH.get]at x,fun i o x=>by simp[AH.get]at x,fun i j o p x=>by simp[AH.get]at x⟩;have u:vk W b=io c:=hb;unfold vk at u;split at u
 .rename_i A T y e;obtain rfl:=Qb u;exact⟨T,y,e⟩
 .rename_i es cl e;obtain rfl:=Qb u;exact e
 .cases u
theorem yI{W:World}{h:lP W}{b o:Nat}{v:Value}(hc:W.cell? ⟨b,o,is⟩=io v):(Mem.oE W h).cell b o=io v:=by
 show(match vk W b with|some (.cells c)=>c[o]? |_=>is)=io v;unfold World.cell? at hc;unfold vk;split at hc
 .rename_i c T j e;simp only at e;rw[e];simpa using hc
 .cases hc
def CR(M:Mem)(l:List IV)(cs:List Value):Prop:=l.length=cs.length∧ ∀j p,l[j]? =io p->IR M p (cs.getD j undef)
theorem CR.nil(M:Mem):CR M [] []:=⟨rfl,fun j p h=>by simp at h⟩
theorem CR.one{M:Mem}{p:IV}{v:Value}(h:IR M p v):CR M [p] [v]:=⟨rfl,fun j q b=>by
 cases j with
 |zero=>simp at b;subst b;simpa using h
 |succ j=>simp at b⟩
theorem CR.append{M:Mem}{l x:List IV}{cs b:List Value}(h:CR M l cs)(k:CR M x b):CR M (l++x) (cs++b):=by
 refine⟨by simp[h.1,k.1],fun j p u=>?_⟩;rcases Qo j l.length with hj|hj
 .rw[PG hj]at u;have:=h.2 j p u;rw[Pn]at this ⊢;rwa[PG (by rw[<-h.1];exact hj)]
 .rw[PD hj]at u;have:=k.2 _ p u;rw[Pn]at this ⊢;rw[PD (by rw[<-h.1];exact hj),<-h.1];exact this
theorem CR.ei{M:Mem}{l r:List IV}{cs:List Value}{o n o':Nat}(h:CR M l ((cs.drop o).take n))(e:o'=o+n)(k:CR M r (cs.drop o')):CR M (l++r) (cs.drop o):=by
 subst e;have:=h.append k;rwa[<-List.drop_drop,RS]at this
theorem CR.end_{M:Mem}{cs:List Value}{o:Nat}(h:cs.length=o):CR M [] (cs.drop o):=by
 rw[List.drop_eq_nil_of_le (by omega)];exact .nil M
theorem CR.agg{M:Mem}{N:Nm}{U:Nat->Prop}{l:List IV}{ys:Array Value}(h:CR M l ys.toList):VR M N U (ag l) (.agg ys):=by
 refine .agg _ _ (by simpa using h.1) fun j p b=>?_;rw[Ps,Pu]at b;obtain⟨q,u,rfl⟩:=b;have:=h.2 j q u;exact .iv _ _ (by simpa[Pk,Pn]using this)
theorem CR.le{M:Mem}{l u:List IV}{cs:List Value}(h:CR M l cs)(hl:l.length=u.length)(b: ∀(j:Nat) (p q:IV),l[j]? =io p->u[j]? =io q->jC p q):CR M u cs:=by
 refine⟨hl▸h.1,fun j q y=>?_⟩;have x:j<l.length:=by rw[hl];exact(Pm.1 y).1
 exact b j _ q (Po x) y M _ (h.2 j _ (Po x))
theorem CR.A4{M:Mem}{p q:IV}{cs:List Value}(h:CR M [p] cs)(b:jC p q):CR M [q] cs:=
 h.le Z fun j y A u x=>by
  cases j with
  |zero=>simp at u x;subst u;subst x;exact b
  |succ j=>simp at u
section
variable {H:Type} {enc:TypeId×Value->H} {P:Program} {W:World} {hT:lP W} {sp:Nat->Bool} {held:Bool}
def Rd(enc:TypeId×Value->H)(P:Program)(W:World)(hT:lP W)(sp:Nat->Bool)(held:Bool)(t:TypeId){α:Type}(c:α->List IV)(Q:α->DataW H->Prop)(n:Nat):Prop:=
 ∀m,m<=n-> ∀b y,DataW.trod enc P W 0 sp held m t b=io y-> ∃x,CR (Mem.oE W hT) (c x) b∧Q x y.1
theorem Rd.mono{t:TypeId}{α:Type}{c:α->List IV}{Q:α->DataW H->Prop}{n m:Nat}(h:Rd enc P W hT sp held t c Q n)(hm:m<=n):Rd enc P W hT sp held t c Q m:=fun k hk=>h k (P9 hk hm)
theorem ja{t:TypeId}{k:IntKind}(b:P.underlying t=io (.int k))(n:Nat):Rd enc P W hT sp held t (fun z=> [.v (.int k z)]) (fun z d=>d= .lit (.int k z)∧(Lit.int k z).wf=jp) n:=by
 intro m _ u y h;cases m with
 |zero=>simp[DataW.trod]at h
 |succ m=>
  unfold DataW.trod at h;rw[b]at h;split at h<;>simp_all;obtain⟨⟨rfl,j⟩,rfl⟩:=h;exact⟨_,.one (.v _),rfl,j⟩
theorem gJ{t:TypeId}(b:P.underlying t=io .string)(n:Nat):Rd enc P W hT sp held t (fun s=> [.v (.string s)]) (fun s d=>d= .lit (.string s.data.toList)∧s.size<=maxLen) n:=by
 intro m _ u y h;cases m with
 |zero=>simp[DataW.trod]at h
 |succ m=>
  unfold DataW.trod at h;rw[b]at h;split at h<;>simp_all;rename_i s;obtain⟨j,rfl⟩:=h;exact⟨s,.one (.v _),rfl,j⟩
def QL{α:Type}(Q:α->DataW H->Prop)(l:List α)(d:DataW H):Prop:=
 ∃b:List (DataW H),(d= .nil∧b=[]∨ ∃sp,d= .slice b sp)∧l.length=b.length∧ ∀(i:Nat) (x:α) (e:DataW H),l[i]? =io x->b[i]? =io e->Q x e
theorem gl{α:Type}[Inhabited α]{t e:TypeId}{sz:Nat}{c:α->List IV}{Q:α->DataW H->Prop}{n:Nat}(ht:P.underlying t=io (.slice e))(hc:P.cellsOf e=sz)(C:0<sz)(hl: ∀x,(c x).length=sz)
  (he:Rd enc P W hT sp held e c Q n):Rd enc P W hT sp held t (fun l:List α=> [bu sz l c]) (QL Q) (n+1):=by
 intro m hm cs y h;rcases DataW.trod_slice ht h with⟨rfl,rfl⟩|⟨a,len,f0,A,rest,k,rfl,rfl,rfl,_,h1,h2,h3,h4,_⟩
 .exact⟨[],.one (.fu ..),[],.inl ⟨rfl,rfl⟩,rfl,fun i x e h=>by simp at h⟩
 have key: ∀i,i<len-> ∃x,(∃u,W.cells? 0 (a.add (i*sz)) sz=io u∧CR (Mem.oE W hT) (c x) u)∧ ∃y,A[i]? =io y∧Q x y.1:=by
  intro i D;have h5:=h4 i D;rw[hc,Po (by omega)]at h5;obtain⟨u,h6,h7⟩:=Option.bind_eq_some_iff.1 h5;obtain⟨x,h8,h9⟩:=he k (by omega) _ _ h7;exact⟨x,⟨u,h6,h8⟩,_,Po (by omega),h9⟩
 obtain⟨f,hf⟩:=Deep.choose_lt key;refine⟨(PY len).map f,.one ?_,A.map (·.1),.inr ⟨_,rfl⟩,by simp[h3],fun i x e hx a0=>?_⟩
 .cases len with
  |zero=>exact .fu ..
  |succ len=>
   have i0: ∀i,i<len+1-> ∀j,j<sz->W.cell? ((a.add (i*sz)).add j)=((c (f i))[j]?).bind fun _=>(W.cell? ((a.add (i*sz)).add j)):=by
    intro i D j B;rw[Po (by rw[hl];exact B)];rfl
   have b: ∀i,i<len+1-> ∀j,j<sz-> ∃v,W.cell? ⟨a.block,a.off+i*sz+j,is⟩=io v∧(∀p,(c (f i))[j]? =io p->IR (Mem.oE W hT) p v)∧a.spot=is:=by
    intro i D j B;obtain⟨⟨u,h6,h8⟩,_⟩:=hf i D;obtain⟨_,h9,G⟩:=World.cells?_some h6;have I:=G j B;rw[Po (by omega)]at I;have hs: ∀j,j<sz->(a.add (i*sz+j)).spot=is:=fun j B=>by
     have J:=G j B;rw[Po (by omega),Deep.add_add]at J;exact World.cell?_spot J
    have R:a.add (i*sz+j)=⟨a.block,a.off+i*sz+j,is⟩:=by
     have:=hs j B;unfold Addr.add at this ⊢;split
     .rename_i h0;rw[am h0]at this;cases a;simp_all
     .rw[Q6]
    refine⟨u[j]'(by omega),?_,fun p hp=>?_,?_⟩
    .rw[<-R,<-Deep.add_add];exact I
    .have:=h8.2 j p hp;rwa[Pn,Po (by omega)]at this
    .obtain⟨⟨g0,g6,_⟩,_⟩:=hf 0 (by omega);obtain⟨_,g9,d0⟩:=World.cells?_some g6;have c0:=d0 0 C;rw[Po (by omega),Deep.add_add]at c0;have:=World.cell?_spot c0;simpa[Addr.add]using this
   have ha:io a=io (⟨a.block,a.off,is⟩:Addr):=by
    obtain⟨_,_,_,hs⟩:=b 0 (by omega) 0 C;cases a;simp_all
   rw[ha];have b0:((PY (len+1)).map f).length=len+1:=by simp
   have Y: ∀k,k<len+1->((PY (len+1)).map f).getD k co=f k:=fun k hk=>by
    simp[Pn,R1 hk]
   unfold bu;rw[b0];refine .cB _ _ _ _ _ _ h1 h2 (fun k _=>hl _) (fun k j hk B=>?_) (fun k j p hk hp=>?_)
   .obtain⟨v,hv,_⟩:=b k hk j B;rw[yI hv];rfl
   .rw[Y k hk]at hp;have B:j<sz:=by rw[<-hl (f k)];exact(Pm.1 hp).1
    obtain⟨v,hv,e0,_⟩:=b k hk j B;rw[yI hv];exact e0 p hp
 .have D:i<len:=by simpa using(Pm.1 hx).1
  obtain⟨_,y,hy,hq⟩:=hf i D;rw[Ps,hy]at a0;rw[Ps,R1 D]at hx;simp at a0 hx;subst a0;subst hx;exact hq
theorem lO{n:Nat}{b:Array Field}{cs:List Value}{xs:List (DataW H×List MemPlace)}(hf: ∀(i:Nat) (f:Field),b[i]? =io f->DataW.trod enc P W 0 sp held n f.type ((cs.drop f.offset).take (P.cellsOf f.type))=xs[i]?)
  (i:Nat) {f:Field} (h1:b[i]? =io f) {t o sz:Nat} (j:f.type=t) (u:f.offset=o) (y:P.cellsOf t=sz) {x:DataW H×List MemPlace} (A:xs[i]? =io x):DataW.trod enc P W 0 sp held n t ((cs.drop o).take sz)=io x:=by
 subst j;subst u;subst y;rw[hf i f h1,A]
end
section
variable {H:Type} {enc:TypeId×Value->H} {P:Program} {W W':World} {T:TypeId->Prop}
theorem B6{W W':World}(hk: ∀b,b<W.heap.size->W'.heap[b]? =W.heap[b]?){p:MemPlace}(hp:p.block<W.heap.size):W.sameAt W' p:=by
 cases p with
 |cell b o=>exact World.cell?_of_block (a:=⟨b,o,is⟩) (hk b hp)
 |map b=>exact hk b hp
theorem nr(K:Kids P T)(A: ∀{t e},T t->P.underlying t=io (.slice e)->0<P.cellsOf e)(hk: ∀b,b<W.heap.size->W'.heap[b]? =W.heap[b]?){sp:Nat->Bool}:
  ∀{ts:List TypeId} {vs:List Value} {y:List (DataW H)} {u:List MemPlace},(∀t∈ts,T t)->DataW.TrodAll enc P W 0 (fun _=>jp) jp ts vs y u->(∀p∈u,p.block<W.heap.size)->(∀p∈u,sp p.block=jp)->
   DataW.TrodAll enc P W' 0 sp jp ts vs y u
 | [],vs,y,u,_,h,_,_=>by
  obtain⟨rfl,rfl,rfl⟩:=trodAll_nil h;exact trodAll_mk0
 |t::ts,vs,y,u,hT,h,hlt,hsp=>by
  obtain⟨v,G,d,B,p,q,rfl,rfl,rfl,⟨n,h1⟩,C⟩:=trodAll_cons h;refine⟨p,q,⟨n,DataW.trod_stays K A (fun h=>by cases h) (hT t (by simp)) h1 (fun x j=>B6 hk (hlt x (P6 _ j))) (fun x j=>hsp x (P6 _ j))⟩,?_,rfl⟩;exact nr K A hk (fun t D=>hT t (Py _ D)) C (fun x j=>hlt x (QU _ j)) (fun x j=>hsp x (QU _ j))
theorem H4{W W':World}(u:W'.os=W.os)(j:W'.output=W.output)(hk: ∀b,b<W.heap.size->W'.heap[b]? =W.heap[b]?)(may:MemPlace->Prop):W.keptBut W' may:=by
 refine World.keptBut_mono (fun p x=>(x:False).elim) (World.keptBut_none_iff.2 ⟨u,j,hk⟩)
theorem wa{f:Func}{s:ChangeSpec}{y I A again:Bool}{args:Array Value}{v:Value}{C gs:List (DataW H)}{u:List MemPlace}
  (K:Kids P T) (hz: ∀{t e},T t->P.underlying t=io (.slice e)->0<P.cellsOf e) (e0: ∀t∈f.params.toList,T t) (B:s.vars=[])
  (hW:DataW.Whole enc P f.params.toList s.vars y W args.toList C gs u) (i0:W'.os=W.os) (a0:W'.output=W.output) (hk: ∀b,b<W.heap.size->W'.heap[b]? =W.heap[b]?)
  (G: ∀(b:Nat) (sp:Nat->Bool) (hd:Bool),DataW.TrodAll enc P W' b sp hd f.resultTypes.toList (v.resultList f.resultTypes.size) (s.fn H (C++gs)).results [])
  (J:(s.fn H (C++gs)).args=C) (k0:(s.fn H (C++gs)).vars=[])
  (hok: ∀(j:Nat) (t:TypeId) (r:Value),f.resultTypes[j]? =io t->(v.resultList f.resultTypes.size)[j]? =io r->Value.okWide P W' .any 0 t r):
  s.post enc P f y I A again W args v W':=by
 have R: ∀p∈u,p.block<W.heap.size:=fun p Y=>by simpa using hW.lt p Y
 have D: ∀p∈u,(fun b=>lc (b<W.heap.size)) p.block=jp:=fun p Y=>by simpa using hW.lt p Y
 obtain⟨pa,pv,hA,hV,rfl,f0,g0⟩:=id hW;rw[B]at hV;obtain⟨rfl,rfl⟩:gs=[]∧pv=[]:=by
  cases gs with
  |nil=>exact⟨rfl,hV⟩
  |cons _ _=>exact hV.elim
 rw[Qp]at R D;have x: ∀sp:Nat->Bool,(∀p∈pa,sp p.block=jp)->DataW.TrodAll enc P W' 0 sp jp f.params.toList args.toList (s.fn H (C++ [])).args pa:=fun sp j0=>by
  rw[J];exact nr K hz hk e0 hA R j0
 have c0: ∀sp:Nat->Bool,DataW.TrodVars enc P W' sp s.vars (s.fn H (C++ [])).vars []:=fun sp=>by
  rw[k0,B];rfl
 refine⟨C,[],pa++ [],[],pa,[],hW,G _ _ _,x _ D,c0 _,?_,fun _=>⟨hok,_,_,([]++pa)++ [],⟨[]++pa,[],trodAll_append (x _ (fun _ _=>rfl)) (G _ _ _),c0 _,rfl,?_,?_⟩,?_⟩⟩
 .exact H4 i0 a0 hk _
 .intro b d0 Y;have b0:MemPlace.cell b d0∈pa:=by simpa using Y
  have hb:=R _ b0;have:=f0 b d0 (by simpa using b0);rw[<-this];simp only[World.frozen?];rw[hk b hb]
 .intro ha;have:=g0 ha;simpa using this
 .intro p Y _;simpa using Y
end
section
variable {P:Program} {ty:Ty} {nt:Nat} {s:AS} {Q:AQ} {k:List KI}
def tx(c:UInt8):List IV:=[.v (.int .u8 (c.toNat:Int))]
theorem pM(w:World)(t u G e:TypeId)(i:TypeInfo)(J:P.underlying t=io (.slice e))(hu:P.underlying u=io .string)(hi:P.info? e=io i)(D:i.size=1)(T:TypeId)
  (g j y:Nat) (x:Array Value) (hg:w.heap[g]? =io (.cells x T (0,0))) (b:ByteArray)
  (A:j+b.size<=y) (B:j+b.size<=x.size):
  (Builtin.append_ #[t,u] G #[.slice (io ⟨g,0,is⟩) j y,.string b]).run P w=
   .ok (.slice (io ⟨g,0,is⟩) (j+b.size) y) (w.setRow g (x.toList.take j++Lib.strCells b++x.toList.drop (j+b.size)).toArray):=by
 have I:=Lib.run_firstCells_string (P:=P) w 1 b;have C:=run_storeCells_at P g j T (Lib.strCells b) 0 x w hg (by simpa[Lib.strCells_length]using B) (Lib.strCells_oneCell b);simp only[Rq,Lib.strCells_length]at C;simp[Builtin.append_,run_underlying J,run_underlying hu,sizeOf,typeInfo,hi,D,Builtin.lenOf,A,I,Addr.add_lit,C]
theorem ki(w:World)(t u C e:TypeId)(i:TypeInfo)(D:P.underlying t=io (.slice e))(hu:P.underlying u=io .string)(hi:P.info? e=io i)(A:Option Addr)(x j:Nat)(y:x<=j)(b:ByteArray)(hb:b.size=0)(hs:A=is∨ ∃b o,A=io ⟨b,o,is⟩):
  (Builtin.append_ #[t,u] C #[.slice A x j,.string b]).run P w= .ok (.slice A x j) w:=by
 have B:=Lib.run_firstCells_string (P:=P) w i.size b;have G:Lib.strCells b=[]:=Qh (by rw[Lib.strCells_length];exact hb);rw[hb,G]at B;rcases hs with rfl|⟨g,o,rfl⟩
 .simp[Builtin.append_,run_underlying D,run_underlying hu,sizeOf,typeInfo,hi,Builtin.lenOf,hb,y,B]
 .simp[Builtin.append_,run_underlying D,run_underlying hu,sizeOf,typeInfo,hi,Builtin.lenOf,hb,y,B,storeCells]
def q8(s:AS)(i:Nat)(l:List UInt8)(u:TypeId):AS:=⟨s.f,(s.nx,io (.bp l u))::(i,is)::s.h,s.nx+1⟩
theorem oP{i:Nat}{l:List UInt8}{u:TypeId}{M b:Mem}{N j:Nm}{a:Act}{w x:World}(hf:Fits M N s nt a w)(y:Ext M N (· <s.nx) s.h w b j (· <s.nx+1) ((s.nx,io (.bp l u))::(i,is)::s.h) x)
  (hr:Rel b j (· <s.nx+1) ((s.nx,io (.bp l u))::(i,is)::s.h) x):
  Ext M N (· <s.nx) s.h w b j (· <(q8 s i l u).nx) (q8 s i l u).h x∧Fits b j (q8 s i l u) nt a x:=
 ⟨y,hr,hf.2.1.ext y,hf.2.2⟩
theorem Rel.IW{M:Mem}{N:Nm}{w:World}{n:Nat}{h:AH}(hr:Rel M N (· <n) h w)(T:TypeId):Ext M N (· <n) h w M N (· <n+1) ((n,io (.bp [] T))::h) w∧Rel M N (· <n+1) ((n,io (.bp [] T))::h) w:=by
 have u: ∀i p,AH.get ((n,io (.bp [] T))::h) i=io p->(i=n∧p= .bp [] T)∨(i<n∧h.get i=io p):=by
  intro i p x;rw[AH.ax]at x;split at x
  .rename_i C;exact .inl ⟨C,by simpa using x.symm⟩
  .exact .inr ⟨hr.used i p x,x⟩
 refine⟨⟨rfl,rfl,⟨rfl,Pv _⟩,Pv _,fun _ _ _=>rfl,.refl _,fun b c h1 A=>by simp[h1]at A,.refl _ _,fun i x=>by omega,fun i p x y=>?_⟩,⟨hr.eh,fun i p x=>?_,fun i p x y=>?_,fun i p x=>?_,fun i j p q x J D G B=>?_⟩⟩
 .rcases u i p x with⟨rfl,rfl⟩|⟨h1,A⟩
  .cases y
  .exact .inr ⟨i,p,A,y,rfl⟩
 .rcases u i p x with⟨rfl,rfl⟩|⟨h1,A⟩<;>omega
 .rcases u i p x with⟨rfl,rfl⟩|⟨h1,A⟩
  .cases y
  .exact hr.dN i p A y
 .rcases u i p x with⟨rfl,rfl⟩|⟨h1,A⟩
  .exact .inl Z
  .exact(hr.obj i p A).mono (.refl _) (.refl _ _) (fun i x=>by omega) h1 Z
 .rcases u i p x with⟨rfl,rfl⟩|⟨h1,A⟩<;>rcases u j q J with⟨rfl,rfl⟩|⟨R,I⟩
  .rfl
  .cases D
  .cases G
  .exact hr.inj i j p q A I D G B
theorem Ha(x0:bz P ty){o:Oper}{x y:Operand}{t tu u:TypeId}(ho:o.op= .call ⟨.builtin .append, #[x,y], #[t,tu]⟩){e et eu:bG}(ht:ty t=io e)(hk:e.k= .aO (.slice u))(s1:ty tu=io et)(m1:et.k= .aO .string)(hu:ty u=io eu)
  {i len:Nat} {l:List UInt8} {b:ByteArray} (hx:ev s.f x= .sl i 0 len 1) (hi:s.h.get i=io (.bp l u)) (C:l.length=len) (r1:eu.size=1) (k1:eu.bytes=1) (hz:eu.zero= .int .u8 0)
  (o1:ev s.f y= .iv (.v (.string b))) (z1:len+b.size<=140737488355328)
  {s':AS} (hp:putDst nt o (.sl s.nx 0 (len+b.size) 1) (q8 s i (l++b.data.toList) u)=io s'):OT P nt o s (fun t=>t=s'):=by
 refine OT.value hp fun M N a w J=>?_;obtain⟨⟨ii,g0,r0,q0,s0⟩,_⟩:=x0 u _ hu;rw[r1]at r0;rw[k1]at q0;rw[hz]at s0
 have k0:P.underlying t=io (.slice u):=by
  have:=(x0 t _ ht).2.1;rw[hk]at this;exact this.1
 have j0:P.underlying tu=io .string:=by
  have:=(x0 tu _ s1).2.1;rw[m1]at this;exact this.1
 have z0:=aH J.2.1 x;rw[hx]at z0;have a1:=aH J.2.1 y;rw[o1]at a1;have w1:a.eval y= .string b:=by
  generalize a.eval y=v at a1;cases a1 with
  |iv _ _ h=>cases h;rfl
 have A: ∀v w',(Builtin.append_ #[t,tu] o.type #[a.eval x,a.eval y]).run P w= .ok v w'->(execOp a.eval o).run P w= .ok (.value v) w':=by
  intro v w' h;simp only[execOp,ho,resolve];simp[invoke,builtin,h]
 rw[w1]at A;have a2:i<s.nx:=J.1.used i _ hi;have m0:s.nx≠i:=by omega
 have n1:=J.1.obj i _ hi;have f0:b.data.toList.length=b.size:=by simp
 have e0: ∀(j:Nat) (x:UInt8),b.data.toList[j]? =io x->(Lib.strCells b).getD j undef= .int .u8 (x.toNat:Int):=by
  intro j x hx;simp only[Lib.strCells,Pn,Ps,hx,Qw,Qn]
 have b0: ∀z:Array Value,(∀(j:Nat) (x:UInt8),l[j]? =io x->z.getD j undef= .int .u8 (x.toNat:Int))->(∀j,j<b.size->z.getD (len+j) undef=(Lib.strCells b).getD j undef)->
   ∀(j:Nat) (x:UInt8),(l++b.data.toList)[j]? =io x->z.getD j undef= .int .u8 (x.toNat:Int):=by
  intro z h1 h2 j x D;rcases Qo j l.length with hk|hk
  .rw[PG hk]at D;exact h1 j x D
  .rw[PD hk]at D;have t0:j-l.length<b.size:=by rw[<-f0];exact(Pm.1 D).1
   have:=h2 _ t0;rw[e0 _ _ D,show len+(j-l.length)=j by omega]at this;exact this
 have Y: ∀(G:List Value) (a0:Nat),G.length=len->(∀(j:Nat) (x:UInt8),l[j]? =io x->G.getD j undef= .int .u8 (x.toNat:Int))->len+b.size<=a0->a0<=maxLen->0<len+b.size->
   ∀z:Array Value,z=G.toArray++(Lib.strCells b).toArray++Builtin.zeroCells (Value.int .u8 0).cells (a0-(len+b.size))->
   ∃M' R,Ext M N (· <s.nx) s.h w M' R (· <(q8 s i (l++b.data.toList) u).nx) (q8 s i (l++b.data.toList) u).h (w.drew.alloc (.cells z u))∧Fits M' R (q8 s i (l++b.data.toList) u) nt a (w.drew.alloc (.cells z u))∧
    VR M' R (· <(q8 s i (l++b.data.toList) u).nx) (.sl s.nx 0 (len+b.size) 1) (.slice (io ⟨w.heap.size,0,is⟩) (len+b.size) a0):=by
  intro G a0 f1 t1 o0 l1 v0 z b1;have x1:(Value.int IntKind.u8 0).cells.size=1:=rfl;have I:z.size=a0:=by
   rw[b1,RD,RD,size_zeroCells,x1];simp only[List.size_toArray,f1,Lib.strCells_length];omega
  obtain⟨R,h1,h2,h3,h4,h5⟩:=J.1.drew.alloc (.cells z u) (.bp (l++b.data.toList) u) z.size (fun R g1 g2 g3=>by
   refine .inr ⟨z,by rw[g1];exact heap_alloc_new _ _,g2.symm,by rw[I,Pp,C,f0];omega,b0 z (fun j x D=>?_) (fun j D=>?_)⟩
   .have b2:=(Pm.1 D).1;have e1:z.getD j undef=G.getD j undef:=by
     rw[b1,Pk,Array.append_assoc,P5 (by simp;omega),Pn];simp
    rw[e1];exact t1 j x D
   .rw[b1,Pk,P5 (by simp[Lib.strCells_length];omega),RU (by simp;omega),Pn]
    simp[f1])
  have p1:=(h5.del i).swap (Ne.symm m0);have v1:=(((Ext.drew (M:=M) (N:=N) (U:=(· <s.nx)) (h:=s.h) (w:=w)).trans h4).del i).swap (Ne.symm m0);obtain⟨g1,g2⟩:=oP J v1 p1;refine⟨M,R,g1,g2,?_⟩;have:=VR.sl (M:=M) (N:=R) (U:=(· <s.nx+1)) s.nx 0 (len+b.size) 1 a0 (by omega) v0 o0 l1 (by rw[h2,I];simp);rw[h1,Rw]at this;exact this
 generalize a.eval x=vx at z0 A;cases z0 with
 |lZ _ _ hU=>
  have he:l=[]:=Qh C;subst he;by_cases hm:b.size=0
  .have n0:b.data.toList=[]:=Qh (by rw[f0];exact hm);have B:=ki (P:=P) w t tu o.type u ii k0 j0 g0 is 0 0 (Pv _) b hm (.inl Z);obtain⟨h1,h2⟩:=J.1.IW u;obtain⟨g1,g2⟩:=oP (i:=i) (l:=[]) (u:=u) J ((h1.del i).swap (Ne.symm m0)) ((h2.del i).swap (Ne.symm m0));rw[n0,hm];exact⟨_,w,M,N,A _ _ B,g1,g2,.lZ _ _ (by simp only[q8];omega)⟩
  .have B:=run_append_nil_string (P:=P) w t tu o.type u ii (.int .u8 0) k0 j0 g0 s0 b (by omega) (by omega) (by rw[q0];omega);have e1:(b.data.map fun b=>Value.int .u8 b.toNat)=(Lib.strCells b).toArray:=by
    apply Array.ext';simp[Lib.strCells]
   rw[e1]at B;obtain⟨M',R,g1,g2,g3⟩:=Y [] (grownCap w b.size 0 u) Z (by simp) (by simpa using grownCap_ge w b.size 0 u) (grownCap_le_maxLen w _ _ _ (by simp only[maxLen];omega)) (by omega) _ Z;simp only[PT,Rk,Array.empty_append] at*
   exact⟨_,_,M',R,A _ _ B,by simpa using g1,by simpa using g2,by simpa using g3⟩
 |sl _ _ _ _ a0 hU h0 hl hc hext=>
  rcases n1 with rfl|⟨cur,q1,q2,q3,q4⟩
  .simp at C;omega
  have c0:(AO.bp l u).real=jp:=by cases l with
   |nil=>simp at C;omega
   |cons=>rfl
  rw[Rw]at A;have p0:cur.size=a0:=by rw[q2,<-hext];omega
  by_cases hm:b.size=0
  .have n0:b.data.toList=[]:=Qh (by rw[f0];exact hm);have B:=ki (P:=P) w t tu o.type u ii k0 j0 g0 (io ⟨N.ay i,0,is⟩) len a0 hl b hm (.inr ⟨_,_,rfl⟩)
   obtain⟨h1,h2⟩:=J.1.move hi c0 w (.bp (l++ []) u) Z Z Z Z (fun _ _=>rfl) (by
    rw[Qp]
    exact .inr ⟨cur,by simpa using q1,by simpa using q2,q3,q4⟩)
   obtain⟨g1,g2⟩:=oP (i:=i) J h1 h2;rw[n0,hm];refine⟨_,w,M,_,A _ _ B,g1,g2,?_⟩;have:=VR.sl (M:=M) (N:=N.with s.nx (N.ay i) (N.ext i)) (U:=(· <s.nx+1)) s.nx 0 len 1 a0 (by omega) h0 hl hc (by simpa using hext);simpa[q8]using this
  .by_cases d0:len+b.size<=a0
   .have B:=pM (P:=P) w t tu o.type u ii k0 j0 g0 r0 u (N.ay i) len a0 cur q1 b d0 (by omega);generalize hL:(cur.toList.take len++Lib.strCells b++cur.toList.drop (len+b.size)).toArray=L at B;have d1:L.size=cur.size:=by rw[<-hL];simp[Lib.strCells_length];omega
    have w0:=setRow_heap w (N.ay i) cur L u (0,0) q1;have j1: ∀j,j<len->L.getD j undef=cur.getD j undef:=by
     intro j D;rw[<-hL,Pk,Pk];simp only[Qi];rw[PK,PG (by simp;omega),Qc,am D,PS]
    have i1: ∀j,j<b.size->L.getD (len+j) undef=(Lib.strCells b).getD j undef:=by
     intro j D;rw[<-hL,Pk,Pn];simp only[Qi];rw[PG (by simp[Lib.strCells_length];omega),PD (by simp;omega)];congr 2;simp;omega
    obtain⟨h1,h2⟩:=J.1.move hi c0 (w.setRow (N.ay i) L) (.bp (l++b.data.toList) u) Z Z Z (by simp) (fun b hb=>by
      simp only[World.setRow,P4]
      rw[be (fun e=>hb e.symm)]) (by
     refine .inr ⟨L,by simpa using w0,by rw[d1];simpa using q2,by rw[d1,p0,Pp,C,f0];omega,b0 L (fun j x D=>?_) i1⟩;rw[j1 j (by rw[<-C];exact(Pm.1 D).1)]
     exact q4 j x D)
    obtain⟨g1,g2⟩:=oP (i:=i) J h1 h2;refine⟨_,_,M,_,A _ _ B,g1,g2,?_⟩;have:=VR.sl (M:=M) (N:=N.with s.nx (N.ay i) (N.ext i)) (U:=(· <s.nx+1)) s.nx 0 (len+b.size) 1 a0 (by omega) (by omega) d0 hc (by simpa using hext);simpa[q8]using this
   .have i0: ∀(j:Nat) (v:Value),(cur.toList.take len)[j]? =io v->w.cell? ((⟨N.ay i,0,is⟩:Addr).add j)=io v:=by
     intro j v hv;rw[Qc]at hv;split at hv
     .rw[du,PT];simp only[World.cell?,q1];simpa using hv
     .cases hv
    have B:=Lib.run_append_grow_string (P:=P) w t tu o.type u ii (.int .u8 0) k0 j0 g0 s0 ⟨N.ay i,0,is⟩ len a0 (cur.toList.take len) (by rw[r0];simp;omega) i0 b (by omega) (by omega)
     (by rw[q0];exact growslice_fits (by omega) (by omega))
    obtain⟨M',R,g1,g2,g3⟩:=Y (cur.toList.take len) (grownCap w (len+b.size) a0 u) (by simp;omega) (fun j x D=>by
      have:=q4 j x D;have t0:j<len:=by rw[<-C];exact(Pm.1 D).1
      rw[Pn,Qc,am t0,PS]
      rw[Pk]at this;exact this) (grownCap_ge w _ _ _) (grownCap_le_maxLen w _ _ _ (by simp only[maxLen];omega)) (by omega) _ Z
    exact⟨_,_,M',R,A _ _ B,g1,g2,g3⟩
theorem H7(Y:bz P ty){all rest:List Oper}{o:Oper}{x y:Operand}{t tu u d:Nat}{e et A:bG}{i len:Nat}{l:List UInt8}{b:ByteArray}(ho:o.op= .call ⟨.builtin .append, #[x,y], #[t,tu]⟩)(hg:o.guard=is)(J:ty t=io e)(hk:e.k= .aO (.slice u))(R:ty tu=io et)(D:et.k= .aO .string)(hu:ty u=io A)
  (hx:ev s.f x= .sl i 0 len 1) (hi:s.h.get i=io (.bp l u)) (I:A.size=1) (C:A.bytes=1) (hz:A.zero= .int .u8 0)
  (G:ev s.f y= .iv (.v (.string b))) (hd:o.dst=io d) (hlt:PL d nt=jp) (j:l.length=len) (B:len+b.size<=140737488355328)
  (h:GO P nt (.ops all rest::k) Q ⟨(d,.sl s.nx 0 (l++b.data.toList).length 1)::s.f,(s.nx,io (.bp (l++b.data.toList) u))::(i,is)::s.h,s.nx+1⟩):GO P nt (.ops all (o::rest)::k) Q s:=by
 have e:(l++b.data.toList).length=len+b.size:=by rw[Pp,j];simp
 rw[e]at h
 exact cC hg (Ha Y ho J hk R D hu hx hi j I C hz G B (s':=⟨(d,.sl s.nx 0 (len+b.size) 1)::s.f,(s.nx,io (.bp (l++b.data.toList) u))::(i,is)::s.h,s.nx+1⟩) (by
  simp only[putDst,q8,hd,hlt,cond_true,de])) fun t J=>by subst J;exact h
theorem DB{o:Oper}{I:Operand}(ho:o.op= .next I jp){i:Nat}(J:ev s.f I= .ptr i 0){b:ByteArray}{a0:Nat}(hi:s.h.get i=io (.dK b a0)){d:Nat}(hd:o.dst=io d)(hlt:PL d nt=jp):
  OT P nt o s (fun t=>(b.size<=a0∧t=⟨(d,.bm [.kb kw])::s.f,s.h,s.nx⟩)∨
   (a0<b.size∧t=⟨(d,.bm [.kb jp,.iv (.v (.int .i64 (a0:Nat))),.iv (.v (.int .i32 (Utf8.decode b a0).1))])::s.f,(i,io (.dK b (a0+(Utf8.decode b a0).2)))::s.h,s.nx⟩)):=by
 intro M N a w G K Z hk;have R:=aH G.2.1 I;rw[J]at R;have A:w.heap[N.ay i]? =io (.stringIter b a0):=G.1.obj i _ hi;have B:N.ay i<w.heap.size:=(Qu.1 A).1;have C:d<nt:=Pj hlt;have D:a.eval I= .pointer (io ⟨N.ay i,0,is⟩):=by
  generalize a.eval I=y at R;cases R;rfl
 unfold Oper.wp;by_cases u:a0<b.size
 .have x:(execOp a.eval o).run P w= .ok (.value (.tuple #[.bool jp,.int .i64 (a0:Nat),.int .i32 (Utf8.decode b a0).1])) {w with heap:=w.heap.setIfInBounds (N.ay i) (.stringIter b (a0+(Utf8.decode b a0).2))}:=by
   simp only[execOp,ho,D];simp[Instr.next,getObj,setObj,Sem.run,A,u,Result.andThen,goInt]
  rw[x];simp only[Oper.upon]
  obtain⟨q1,q2⟩:=G.1.write hi rfl {w with heap:=w.heap.setIfInBounds (N.ay i) (.stringIter b (a0+(Utf8.decode b a0).2))} (.dK b (a0+(Utf8.decode b a0).2)) rfl rfl rfl (by simp) (fun c Y=>by
   show(w.heap.setIfInBounds _ _)[c]? =_
   rw[PR,be (fun e=>Y e.symm)]) (by
   show(w.heap.setIfInBounds _ _)[_]? =_
   rw[PR,am rfl,am B])
  refine hk M N _ _ _ q1 ?_ (.inr ⟨u,rfl⟩);rw[hd];refine Fits.put (s:=⟨s.f,(i,io (.dK b (a0+(Utf8.decode b a0).2)))::s.h,s.nx⟩) ⟨q2,G.2⟩ d _ _ C (.bm _ _ rfl fun q p u=>?_)
  match q with
  |0=>simp at u;subst u;exact .kb _
  |1=>simp at u;subst u;exact .iv _ _ (.v _)
  |2=>simp at u;subst u;exact .iv _ _ (.v _)
  |q+3=>simp at u
 .have x:(execOp a.eval o).run P w= .ok (.value (.tuple #[.bool kw])) w:=by
   simp only[execOp,ho,D];simp[Instr.next,getObj,Sem.run,A,u,Result.andThen]
  rw[x];simp only[Oper.upon];refine hk M N ⟨(d,.bm [.kb kw])::s.f,s.h,s.nx⟩ _ w (.refl _ _ _ _ _) ?_ (.inl ⟨by omega,rfl⟩);rw[hd]
  exact G.put d _ _ C (.bm _ _ rfl fun j p u=>by
    match j with
    |0=>simp at u;subst u;exact .kb _
    |j+1=>simp at u)
theorem kE{all rest:List Oper}{o:Oper}{u:Operand}{i:Nat}{b:ByteArray}{a0 d:Nat}(ho:o.op= .next u jp)(hg:o.guard=is)(j:ev s.f u= .ptr i 0)(hi:s.h.get i=io (.dK b a0))(hd:o.dst=io d)(hlt:PL d nt=jp)
  (h1:b.size<=a0->GO P nt (.ops all rest::k) Q ⟨(d,.bm [.kb kw])::s.f,s.h,s.nx⟩)
  (x:a0<b.size->GO P nt (.ops all rest::k) Q ⟨(d,.bm [.kb jp,.iv (.v (.int .i64 (a0:Nat))),.iv (.v (.int .i32 (Utf8.decode b a0).1))])::s.f,(i,io (.dK b (a0+(Utf8.decode b a0).2)))::s.h,s.nx⟩):
  GO P nt (.ops all (o::rest)::k) Q s:=by
 refine cC hg (DB ho j hi hd hlt) fun t y=>?_;rcases y with⟨g1,rfl⟩|⟨g1,rfl⟩
 .exact h1 g1
 .exact x g1
theorem vh(B:bz P ty){all rest:List Oper}{o:Oper}{x:Operand}{t d:Nat}{b:ByteArray}{e:bG}(ho:o.op= .range t x)(hg:o.guard=is)(A:ty t=io e)(hk:e.k= .aO .string)(J:ev s.f x= .iv (.v (.string b)))(hd:o.dst=io d)(hlt:PL d nt=jp)
  (h:GO P nt (.ops all rest::k) Q ⟨(d,.ptr s.nx 0)::s.f,(s.nx,io (.dK b 0))::s.h,s.nx+1⟩):GO P nt (.ops all (o::rest)::k) Q s:=by
 have C:P.underlying t=io .string:=by
  have:=(B t _ A).2.1;rw[hk]at this;exact this.1
 refine cC (R:=fun t=>t=⟨(d,.ptr s.nx 0)::s.f,(s.nx,io (.dK b 0))::s.h,s.nx+1⟩) hg (OT.value (s1:=newObj s (.dK b 0)) (p:= .ptr s.nx 0) (by cases s;simp only[putDst,newObj,hd,hlt,cond_true,de]) fun M N a w y=>?_) fun t A=>by subst A;exact h
 have j:=aH y.2.1 x;rw[J]at j;have D:a.eval x= .string b:=by
  generalize a.eval x=v at j;cases j with
  |iv _ _ h=>cases h;rfl
 obtain⟨u,h1,Y,h3,G,I⟩:=y.1.alloc (.stringIter b 0) (.dK b 0) 0 (fun u g1 g2 g3=>by
  show(w.alloc _).heap[u.ay s.nx]? =_
  rw[g1];exact heap_alloc_new w _)
 refine⟨.pointer (io ⟨w.heap.size,0,is⟩),_,M,u,?_,G,dD y G I,?_⟩
 .simp only[execOp,ho,D];simp[Instr.range,run_underlying C]
 .have:=VR.ptr (M:=M) (N:=u) (U:=(· <s.nx+1)) s.nx 0 (by omega);rw[h1]at this;exact this
end
section
variable {P:Program} {ty:Ty} {nt:Nat} {s:AS} {Q:AQ} {k:List KI}
theorem CH(c0:bz P ty){all rest:List Oper}{o:Oper}{x:Operand}{t t' u d:Nat}{b:ByteArray}{et e0 eu:bG}(ho:o.op= .convert t t' x)(hg:o.guard=is)(ht:ty t=io et)(hk:et.k= .aO .string)(n0:ty t'=io e0)(j0:e0.k= .aO (.slice u))(hu:ty u=io eu)(k0:eu.k= .aO (.int .u8))
  (hx:ev s.f x= .iv (.v (.string b))) (hd:o.dst=io d) (hlt:PL d nt=jp) (hb:b.size<=1000000)
  (h:GO P nt (.ops all rest::k) Q ⟨(d,.iv (.cB 1 b.data.toList.length fun k=>tx (b.data.toList.getD k co)))::s.f,s.h,s.nx⟩):GO P nt (.ops all (o::rest)::k) Q s:=by
 have hs:P.underlying t=io .string:=by have:=(c0 t _ ht).2.1;rw[hk]at this;exact this.1
 have m0:P.underlying t'=io (.slice u):=by have:=(c0 t' _ n0).2.1;rw[j0]at this;exact this.1
 have o0:P.underlying u=io (.int .u8):=by have:=(c0 u _ hu).2.1;rw[k0]at this;exact this.1
 refine cC (R:=fun t=>t=⟨(d,.iv (.cB 1 b.data.toList.length fun k=>tx (b.data.toList.getD k co)))::s.f,s.h,s.nx⟩) hg (OT.value (s1:=s) (p:= .iv (.cB 1 b.data.toList.length fun k=>tx (b.data.toList.getD k co))) (by cases s;simp only[putDst,hd,hlt,cond_true,de]) fun M N a w D=>?_) fun t ht=>by subst ht;exact h
 have d0:=aH D.2.1 x;rw[hx]at d0;have p0:a.eval x= .string b:=by
  generalize a.eval x=v at d0;cases d0 with
  |iv _ _ h=>cases h;rfl
 have Y:=Go.run_bytes_of_string (P:=P) w t t' u b hs m0 o0;generalize hC:bytesRow b (grownCap w b.size 0 u)=C at Y;have B:M w.heap.size=is:=by
  cases hm:M w.heap.size with
  |none=>rfl
  |some c=>exact absurd (D.1.eh _ _ hm).lt (SM _)
 have G: ∀c,c<w.heap.size->(w.drew.alloc (.cells C u (C.size,C.size+1))).heap[c]? =w.heap[c]? :=fun c A=>by
  show(w.heap.push _)[c]? =_;rw[RI,be (by omega)]
 have hnew:(w.drew.alloc (.cells C u (C.size,C.size+1))).heap[w.heap.size]? =io (.cells C u (C.size,C.size+1)):=by
  show(w.heap.push _)[w.heap.size]? =_;simp
 have f0: ∀j,j<b.data.toList.length->C[j]? =io (.int .u8 ((b.data.toList.getD j co).toNat:Int)):=by
  intro j hj;have a0:j<b.data.size:=by simpa using hj
  rw[<-hC];simp only[bytesRow];rw[P5 (by simpa using a0)];simp[Pn];exact⟨b.data[j],PU a0,by rw[PU a0];rfl⟩
 have I:=grownCap_ge w b.size 0 u;refine⟨.slice (io ⟨w.heap.size,0,is⟩) b.size (grownCap w b.size 0 u),w.drew.alloc (.cells C u (C.size,C.size+1)),M.set w.heap.size (.cells C) B,N,?_,?_,?_,?_⟩
 .simp only[execOp,ho,p0];rw[Sem.run_bind,Y];rfl
 .have q1:M.le (M.set w.heap.size (.cells C) B):=fun c e A=>by
   simp only[Mem.set];rw[be fun e2=>by rw[e2,B]at A;cases A];exact A
  have q2: ∀c e,M c=is->(M.set w.heap.size (.cells C) B) c=io e->w.heap.size<=c∨ ∃i o,s.h.get i=io o∧o.real=jp∧N.ay i=c:=fun c e h1 h2=>by
   simp only[Mem.set]at h2;by_cases he:c=w.heap.size
   .exact .inl (by omega)
   .rw[be he,h1]at h2;cases h2
  exact⟨rfl,rfl,⟨rfl,QZ _⟩,(by show w.heap.size<=(w.heap.push _).size;simp),fun c A _=>G c A,q1,q2,.refl _ _,fun _ h=>h,fun i o J y=> .inr ⟨i,o,J,y,rfl⟩⟩
 .have g0:M.le (M.set w.heap.size (.cells C) B):=fun c e A=>by
   simp only[Mem.set];rw[be fun e2=>by rw[e2,B]at A;cases A];exact A
  refine⟨⟨fun c e A=>?_,D.1.used,fun i o J y=>?_,fun i o J=>?_,D.1.inj⟩,fun i=>(D.2.1 i).mono g0 (.refl _ _) fun _ h=>h,D.2.2⟩
  .simp only[Mem.set]at A;by_cases he:c=w.heap.size
   .rw[am he]at A;cases A;exact⟨u,(C.size,C.size+1),by rw[he];exact hnew⟩
   .rw[be he]at A;exact(D.1.eh c e A).mono (G c (D.1.eh c e A).lt)
  .simp only[Mem.set];have:=D.1.lt J y;rw[be (by omega)];exact D.1.dN i o J y
  .cases y:o.real with
   |true=>exact(D.1.obj i o J).mono g0 (.refl _ _) (fun _ h=>h) (D.1.used i o J) (G _ (D.1.lt J y))
   |false=>
    cases o with
    |row sz es=>cases es with
     |nil=>exact .inl Z
     |cons=>cases y
    |bp l T=>cases l with
     |nil=>exact .inl Z
     |cons=>cases y
    |_=>cases y
 .have i0:b.data.toList.length=b.size:=by simp
  rw[<-i0]at I ⊢;by_cases h0:b.data.toList.length=0
  .rw[h0];exact .iv _ _ (.fu _ _ _ _)
  .refine .iv _ _ (.cB _ _ _ _ _ _ (by omega) (grownCap_le_maxLen w _ _ _ (by simp only[maxLen];omega)) (fun _ _=>rfl) (fun k j hk hj=>?_) (fun k j p hk hp=>?_))
   .have b0:j=0:=by omega
    subst b0;have:=f0 k hk;simp only[Mem.cell,Mem.set,if_true,PT,Sq,Rq,this,Option.isSome_some]
   .have b0:j=0:=by
     have:=(Pm.1 hp).1;simp[tx]at this;exact this
    subst b0;cases hp;have:=f0 k hk;simp only[Mem.cell,Mem.set,if_true,PT,Sq,Rq,this,Qn];exact .v _
theorem Ih(B:bz P ty)(l:List UInt8){all rest:List Oper}{o:Oper}{x:Operand}{t C u d i n:Nat}{es:List (List PV)}{et G eu:bG}(ho:o.op= .convert t C x)(hg:o.guard=is)(ht:ty t=io et)(hk:et.k= .aO (.slice u))(g0:ty C=io G)(d0:G.k= .aO .string)(hu:ty u=io eu)(e0:eu.k= .aO (.int .u8))
  (hx:ev s.f x= .sl i 0 n 1) (hi:s.h.get i=io (.row 1 es)) (hd:o.dst=io d) (hlt:PL d nt=jp) (hes:es=l.map fun x=>(tx x).map .iv) (hn:n=l.length)
  (h:GO P nt (.ops all rest::k) Q ⟨(d,.iv (.v (.string ⟨l.toArray⟩)))::s.f,s.h,s.nx⟩):GO P nt (.ops all (o::rest)::k) Q s:=by
 have hs:P.underlying C=io .string:=by have:=(B C _ g0).2.1;rw[d0]at this;exact this.1
 have a0:P.underlying t=io (.slice u):=by have:=(B t _ ht).2.1;rw[hk]at this;exact this.1
 have b0:P.underlying u=io (.int .u8):=by have:=(B u _ hu).2.1;rw[e0]at this;exact this.1
 subst hn;subst hes;refine cC (R:=fun t=>t=⟨(d,.iv (.v (.string ⟨l.toArray⟩)))::s.f,s.h,s.nx⟩) hg (OT.value (s1:=s) (p:= .iv (.v (.string ⟨l.toArray⟩))) (by cases s;simp only[putDst,hd,hlt,cond_true,de]) fun M N a w hf=>?_) fun t ht=>by subst ht;exact h
 have b:=aH hf.2.1 x;rw[hx]at b;have Y:(convert t C (a.eval x)).run P w= .ok (.string ⟨l.toArray⟩) w:=by
  generalize a.eval x=v at b;cases hor:l with
  |nil=>
   rw[hor]at b;generalize D:PV.sl i 0 ([]:List UInt8).length 1=q at b;cases b with
   |sl _ _ _ _ _ _ h0=>cases D;simp at h0
   |lZ _ _ _=>
    have:=run_convert_bytes_nil (P:=P) w t u a0 b0 0 0 C hs;exact this
   |_=>cases D
  |cons x0 r0=>
   rw[<-hor];have J:0<l.length:=by rw[hor];simp
   generalize f0:l.length=n at b J;generalize D:PV.sl i 0 n 1=q at b;cases b with
   |sl _ _ _ _ cap hU h0 hl hc he=>
    cases D;rcases hf.1.obj i _ hi with A|⟨_,c,T,q1,q2,q3,q4,q5⟩
    .rw[hor]at A;cases A
    rw[Rw,<-f0];refine run_convert_bytes_back (P:=P) w t C u ⟨N.ay i,0,is⟩ cap l a0 b0 hs fun j hj=>?_;rw[du,PT];have I:j<c.size:=by rw[PX]at q3;omega
    have:=q5 j [.iv (.v (.int .u8 (l[j].toNat:Int)))] 0 _ (by rw[Ps,Po hj];rfl) Z;rw[Sq,Rq,Pk,PU I,Qn]at this;simp only[World.cell?,q1];generalize c0:c[j]=y at this;cases this with
    |iv _ _ h=>cases h;simp[I,c0]
   |lZ _ _ _=>cases D;omega
   |_=>cases D
 exact⟨_,w,M,N,by simp only[execOp,ho];exact aX Y,.refl _ _ _ _ _,hf,.iv _ _ (.v _)⟩
theorem rG(u:bz P ty){all rest:List Oper}{o:Oper}{x:Operand}{t y d:Nat}{q J:IntKind}{n:Int}{G j:bG}(ho:o.op= .convert t y x)(hg:o.guard=is)(B:ty t=io G)(hk:G.k= .aO (.int q))(C:ty y=io j)(A:j.k= .aO .string)
  (hx:ev s.f x= .iv (.v (.int J n))) (hd:o.dst=io d) (hlt:PL d nt=jp)
  (h:GO P nt (.ops all rest::k) Q ⟨(d,.iv (.v (.string (Utf8.encode n))))::s.f,s.h,s.nx⟩):GO P nt (.ops all (o::rest)::k) Q s:=by
 have hs:P.underlying y=io .string:=by have:=(u y _ C).2.1;rw[A]at this;exact this.1
 have Y:P.underlying t=io (.int q):=by have:=(u t _ B).2.1;rw[hk]at this;exact this.1
 refine cC (R:=fun t=>t=⟨(d,.iv (.v (.string (Utf8.encode n))))::s.f,s.h,s.nx⟩) hg (OT.value (s1:=s) (p:= .iv (.v (.string (Utf8.encode n)))) (by cases s;simp only[putDst,hd,hlt,cond_true,de]) fun M N a w I=>?_) fun t B=>by subst B;exact h
 have b:=aH I.2.1 x;rw[hx]at b;have D:a.eval x= .int J n:=by
  generalize a.eval x=v at b;cases b with
  |iv _ _ h=>cases h;rfl
 refine⟨_,w,M,N,?_,.refl _ _ _ _ _,I,.iv _ _ (.v _)⟩;simp only[execOp,ho,D];refine aX ?_;simp[convert,run_underlying Y,run_underlying hs,Conv.intToString]
end
def cQ{kc:KC}{V:Type}(key:V->kc.K)(m:List (kc.K×V))(S:List V):Prop:= ∃T:List V,T.Perm S∧m=T.map fun v=>(key v,v)
section
variable {kc:KC} {V:Type} {key:V->kc.K}
theorem EG(T:List V)(f:V)(b: ∀u∈T,key u=key f->u=f):c8 kc (T.map fun v=>(key v,v)) (key f)=jp↔f∈T:=by
 induction T with
 |nil=>simp[c8]
 |cons v r ih=>
  simp only[PB,c8];have j:=ih fun u hu=>b u (Py _ hu);by_cases e:key v=key f
  .have:=b v (Pz ..) e;subst this;simp
  .rw[be e,j,Px];exact⟨.inr,fun q=>q.resolve_left fun q=>e (by rw[q])⟩
theorem v7(T:List V)(f:V)(hn: ∀u∈T,key u≠key f):cD kc (T.map fun v=>(key v,v)) (key f) f=(T++ [f]).map fun v=>(key v,v):=by
 induction T with
 |nil=>rfl
 |cons v r ih=>
  simp only[PB,cD,QR];rw[be (hn v (Pz ..)),ih fun u hu=>hn u (Py _ hu)]
theorem Fb[DecidableEq V](T:List V)(f:V)(b: ∀u∈T,key u=key f->u=f):jA kc (T.map fun v=>(key v,v)) (key f)=(T.erase f).map fun v=>(key v,v):=by
 induction T with
 |nil=>rfl
 |cons v r ih=>
  simp only[PB,jA];by_cases e:key v=key f
  .have:=b v (Pz ..) e;subst this;rw[am Z,List.erase_cons_head]
  .have j: ¬v=f:=fun q=>e (by rw[q])
   rw[be e,ih fun u hu=>b u (Py _ hu),List.erase_cons_tail (by simpa using j),PB]
theorem cQ.perm{m:List (kc.K×V)}{S b:List V}(h:cQ key m S)(p:S.Perm b):cQ key m b:=by
 obtain⟨T,h1,j⟩:=h;exact⟨T,h1.trans p,j⟩
theorem cQ.nil:cQ key ([]:List (kc.K×V)) []:=⟨[],.nil,rfl⟩
theorem cQ.len{m:List (kc.K×V)}{S:List V}(h:cQ key m S):m.length=S.length:=by
 obtain⟨T,h1,rfl⟩:=h;rw[PX,h1.length_eq]
theorem cQ.has{m:List (kc.K×V)}{S:List V}(h:cQ key m S){f:V}(b: ∀u∈S,key u=key f->u=f):c8 kc m (key f)=jp↔f∈S:=by
 obtain⟨T,h1,rfl⟩:=h;rw[EG T f fun u hu=>b u (h1.mem_iff.1 hu),h1.mem_iff]
theorem cQ.put{m:List (kc.K×V)}{S:List V}(h:cQ key m S){f:V}(b: ∀u∈S,key u=key f->u=f)(hf:f∉S):cQ key (cD kc m (key f) f) (f::S):=by
 obtain⟨T,h1,rfl⟩:=h;refine⟨T++ [f],?_,v7 T f fun u hu e=>hf (b u (h1.mem_iff.1 hu) e▸h1.mem_iff.1 hu)⟩;exact(List.perm_append_comm).trans ((List.Perm.cons f h1))
theorem cQ.del[DecidableEq V]{m:List (kc.K×V)}{S:List V}(h:cQ key m S){f:V}(b: ∀u∈S,key u=key f->u=f):cQ key (jA kc m (key f)) (S.erase f):=by
 obtain⟨T,h1,rfl⟩:=h;exact⟨T.erase f,h1.erase f,Fb T f fun u hu=>b u (h1.mem_iff.1 hu)⟩
theorem cQ.w8{m:List (kc.K×V)}{S:List V}(h:cQ key m S):(m.map (·.2)).Perm S:=by
 obtain⟨T,h1,rfl⟩:=h;rw[PW];show(T.map id).Perm S;rw[List.map_id];exact h1
end
section
variable {P:Program} {ty:Ty} {nt:Nat} {Q:AQ} {k:List KI} {s:AS}
theorem Io{o:Oper}{g:FuncId}{x y:Operand}{ts:Array TypeId}{b j v:Value}(ho:o.op= .call ⟨.value (.func g), #[x,y],ts⟩)(D:ev s.f x= .iv (.v b))(G:ev s.f y= .iv (.v j))
  (hc: ∀w,(callFunc g #[b,j]).run P w= .ok (.value v) w) {s':AS} (hp:putDst nt o (.iv (.v v)) s=io s'):OT P nt o s fun t=>t=s':=by
 refine OT.value hp fun M N a w A=>⟨v,w,M,N,?_,.refl _ _ _ _ _,A,.iv _ _ (.v _)⟩
 have h1:=aH A.2.1 x;have u:=aH A.2.1 y;rw[D]at h1;rw[G]at u;have B:a.eval x=b:=by
  generalize a.eval x=z at h1;cases h1 with
  |iv _ _ h=>cases h;rfl
 have C:a.eval y=j:=by
  generalize a.eval y=z at u;cases u with
  |iv _ _ h=>cases h;rfl
 simp only[execOp,ho,resolve,Act.eval,Deferred.ofValue,pure_bind,invoke];have: #[]++Array.map a.eval #[x,y]++ #[]= #[b,j]:=by simp[B,C]
 first
  |(rw[this];exact hc w)
  |(simp only[Act.eval] at*;simpa[B,C]using hc w)
theorem Ia{all rest:List Oper}{o:Oper}{g:FuncId}{x y:Operand}{ts:Array TypeId}{b j:Value}(v:Value)(ho:o.op= .call ⟨.value (.func g), #[x,y],ts⟩)(hg:o.guard=is)(A:ev s.f x= .iv (.v b))(B:ev s.f y= .iv (.v j))
  (hc: ∀w,(callFunc g #[b,j]).run P w= .ok (.value v) w) {s':AS} (hp:putDst nt o (.iv (.v v)) s=io s') (h:GO P nt (.ops all rest::k) Q s'):GO P nt (.ops all (o::rest)::k) Q s:=
 cC hg (Io ho A B hc hp) fun t u=>by subst u;exact h
end
theorem Ee(i sz n:Nat): ∀l:List IV,dQ i sz n (l.map .iv)
 | []=>trivial
 |_::r=>⟨ac,Ee i sz n r⟩
theorem AV{α:Type}(i sz n b:Nat)(l:List α)(f:α->List IV):(aF b l f).q9 i sz n:=by
 intro k e j p u A;rw[Ps,Pu]at u;obtain⟨x,_,rfl⟩:=u;rw[Ps,Pu]at A;obtain⟨y,_,rfl⟩:=A;exact⟨y,rfl⟩
section
variable {P:Program} {ty:Ty} {nt:Nat} {s:AS}
theorem s4{M:Mem}{N:Nm}{a:Act}{w:World}(hf:Fits M N s nt a w){x:Operand}{k:IntKind}{n:Int}(h:ev s.f x= .iv (.v (.int k n))):a.eval x= .int k n:=by
 have b:=aH hf.2.1 x;rw[h]at b;generalize a.eval x=v at b;cases b with
 |iv _ _ b=>cases b with
  |v=>rfl
theorem NB(D:bz P ty){o:Oper}{t u:TypeId}{l c:Operand}(ho:o.op= .makeSlice t l c){e b:bG}(ht:ty t=io e)(hk:e.k= .aO (.slice u))(hu:ty u=io b)
  {n m sz:Nat} {kl kc:IntKind} {ml nc:Int} (hl:ev s.f l= .iv (.v (.int kl ml))) (hc:ev s.f c= .iv (.v (.int kc nc))) (i0:ml=(m:Int)) (j0:nc=(n:Int)) (hn:0<n) (q0:n<=100000000000) (hb:b.bytes*n<=281474976710656) (n0:b.size=sz) (G:b.zero.cells.size=sz) (m0:0<sz)
  {z:List PV} (hz:z=aP b.zero) {p:PV} (C:(m=0∧p= .sl s.nx 1 0 sz)∨(m=n∧p= .sl s.nx 0 n sz))
  {s':AS} (hp:putDst nt o p (newObj s (.row sz (RV n z)))=io s'):OT P nt o s (fun t=>t=s'):=by
 refine OT.value hp fun M N a w R=>?_;subst hz n0 i0 j0;obtain⟨⟨ii,b0,c0,a0,d0⟩,_⟩:=D u _ hu
 have o0:P.underlying t=io (.slice u):=by
  have:=(D t _ ht).2.1;rw[hk]at this;exact this.1
 have p0:m<=n:=by rcases C with⟨h,_⟩|⟨h,_⟩<;>omega
 have B:=run_make w t u ii b.zero o0 b0 d0 kl kc (m:Int) (n:Int) (by omega) (by omega) (by rw[a0];omega) (by omega);rw[Pr,Pr,c0]at B;have I:(aP b.zero).length=b.size:=by rw[(ey (M:=M) (N:=N) (U:=(· <s.nx)) b.zero).1,G]
 have A: ∀(k:Nat) (e:List PV),(RV n (aP b.zero))[k]? =io e->k<n∧e=aP b.zero:=by
  intro k e x;rw[List.getElem?_replicate]at x;split at x
  .exact⟨by assumption,by simpa using x.symm⟩
  .cases x
 obtain⟨J,h1,h2,h8,h9,Y⟩:=R.1.alloc (.cells (madeCells b.zero.cells (n*b.size)) u) (.row b.size (RV n (aP b.zero))) (n*b.size) (fun J g1 g2 g3=>
  .inr ⟨m0,_,u,by rw[g1];exact heap_alloc_new w _,by rw[size_madeCells,g2],by rw[size_madeCells,List.length_replicate];exact Pv _,fun k e x=>by rw[(A k e x).2,I],fun k e j p x hj=>by
   obtain⟨f0,rfl⟩:=A k e x;have e0:j<b.size:=by rw[<-I];exact(Pm.1 hj).1
   have g0:k*b.size+j<n*b.size:=by
    have:(k+1)*b.size<=n*b.size:=PQ _ f0;rw[Qr]at this;omega
   have h7:(madeCells b.zero.cells (n*b.size)).getD (k*b.size+j) undef=b.zero.cells.getD j undef:=by
    have hx:(Sn (n*b.size))[k*b.size+j]? =io (k*b.size+j):=by simp[g0]
    have hm:(k*b.size+j) % b.zero.cells.size=j:=by rw[G,Nat.add_comm,Nat.add_mul_mod_self_right,Nat.mod_eq_of_lt e0]
    rw[madeCells,Pk,RL,hx];simp only[Qw,Qn,hm];rw[Pk,getElem!_pos b.zero.cells j (by omega),PU (by omega)];rfl
   rw[h7];exact(ey b.zero).2 j p hj⟩)
 refine⟨.slice (io ⟨w.heap.size,0,is⟩) m n,_,M,J,?_,h9,dD R h9 Y,?_⟩
 .simp only[execOp,ho,s4 R hl,s4 R hc];rw[Sem.run_bind,B];rfl
 .have k0:(newObj s (.row b.size (RV n (aP b.zero)))).nx=s.nx+1:=by cases s;rfl
  rw[k0];have y:n<=maxLen:=by simp only[maxLen];omega
  rcases C with⟨rfl,rfl⟩|⟨rfl,rfl⟩
  .have:=VR.sle (M:=M) (N:=J) (U:=(· <s.nx+1)) s.nx b.size n (by omega) y (by rw[h2]);rw[h1]at this;exact this
  .have:=VR.sl (M:=M) (N:=J) (U:=(· <s.nx+1)) s.nx 0 m b.size m (by omega) hn (Pv _) y (by rw[h2,PT]);rw[h1,Rw]at this;exact this
theorem LH(j:bz P ty){o:Oper}{t u:TypeId}{l c:Operand}(ho:o.op= .makeSlice t l c){e y:bG}(ht:ty t=io e)(hk:e.k= .aO (.slice u))(hu:ty u=io y)
  {sz:Nat} (el:Nat->List IV) {kl kc:IntKind} {ml nc:Int} (hl:ev s.f l= .iv (.v (.int kl ml))) (hc:ev s.f c= .iv (.v (.int kc nc))) (D:ml=0) (G:nc=0)
  {s':AS} (hp:putDst nt o (.iv (.cB sz 0 el)) (newObj s (.row sz []))=io s'):OT P nt o s (fun t=>t=s'):=by
 refine OT.value hp fun M N a w x=>?_;subst D G;obtain⟨⟨Y,B,b0,a0,C⟩,_⟩:=j u _ hu
 have I:P.underlying t=io (.slice u):=by
  have:=(j t _ ht).2.1;rw[hk]at this;exact this.1
 have b:=run_make w t u Y y.zero I B C kl kc 0 0 (by omega) (by omega) (by omega) (by omega);obtain⟨J,h1,h2,h8,R,A⟩:=x.1.alloc (.cells (madeCells y.zero.cells ((0:Int).toNat*Y.size)) u) (.row sz []) 0 (fun J g1 g2 g3=> .inl Z);refine⟨.slice (io ⟨w.heap.size,0,is⟩) 0 0,_,M,J,?_,R,dD x R A,.iv _ _ (.fu _ _ _ _)⟩;simp only[execOp,ho,s4 x hl,s4 x hc];rw[Sem.run_bind,b];rfl
theorem L4(B:bz P ty){o:Oper}{t u:TypeId}{x hi:Operand}(ho:o.op= .slice t x is (io hi) is){e I:bG}(ht:ty t=io e)(hk:e.k= .aO (.slice u))(hu:ty u=io I)
  {i n m sz:Nat} {kc:IntKind} {J:Int} (hx:ev s.f x= .sl i 0 n sz) (hh:ev s.f hi= .iv (.v (.int kc J))) (D:J=(m:Int)) (Y:m<=n) (hn:0<n)
  {p:PV} (G:(m=0∧p= .sl i 1 0 sz)∨(0<m∧p= .sl i 0 m sz)) {s':AS} (hp:putDst nt o p s=io s'):OT P nt o s (fun t=>t=s'):=by
 refine OT.value hp fun M N a w C=>?_;subst D
 have y:P.underlying t=io (.slice u):=by
  have:=(B t _ ht).2.1;rw[hk]at this;exact this.1
 have j:P.elem t=u:=by simp[Program.elem,y]
 have A:=aH C.2.1 x;rw[hx]at A;generalize hv:a.eval x=vx at A;cases A with
 |lZ=>omega
 |sl _ _ _ _ cap hU h0 hl hc hext=>
  have b:=run_slice_h (P:=P) (w:=w) t (io ⟨N.ay i,0*sz,is⟩) n cap (by rw[j];exact y) kc (m:Int) (by omega) (by omega);rw[j,aL (B u _ hu)]at b;refine⟨sliced (io ⟨N.ay i,0*sz,is⟩) 0 m cap I.size,w,M,N,?_,.refl _ _ _ _ _,C,?_⟩
  .simp only[execOp,ho,hv,Qw,RQ,s4 C hh];refine aX ?_;rw[run_sliceAt_slice w t _ _ _ _ (by rw[j];exact y),b];rfl
  .rcases G with⟨rfl,rfl⟩|⟨R,rfl⟩
   .have:=VR.sle (M:=M) (N:=N) (U:=(· <s.nx)) i sz cap hU hc (by rw[<-hext,PT]);simpa[sliced,Addr.add]using this
   .have:=VR.sl (M:=M) (N:=N) (U:=(· <s.nx)) i 0 m sz cap hU R (by omega) hc hext;simpa[sliced,Addr.add]using this
theorem IJ(j0:bz P ty){o:Oper}{x y:Operand}{t u:TypeId}(ho:o.op= .call ⟨.builtin .append, #[x,y], #[t,t]⟩){e B:bG}(ht:ty t=io e)(hk:e.k= .aO (.slice u))(hu:ty u=io B)
  {i sz:Nat} {es news:List (List PV)} {py:PV} (hx:ev s.f x= .sl i 1 0 sz) (hi:s.h.get i=io (.row sz es)) (x0:B.size=sz) (b0:news.length<=es.length) (hm:0<news.length)
  (w0:ev s.f y=py) (hy:Src s.h sz py news) (e0: ∀e∈news,eE e=jp)
  {s':AS} (hp:putDst nt o (.sl s.nx 0 news.length sz) (pz s i sz [] news)=io s'):OT P nt o s (fun t=>t=s'):=by
 refine OT.value hp fun M N a w hf=>?_;subst x0;obtain⟨⟨ii,r0,d0,e1,f1⟩,_⟩:=j0 u _ hu
 have z0:P.underlying t=io (.slice u):=by
  have:=(j0 t _ ht).2.1;rw[hk]at this;exact this.1
 have g0:=aH hf.2.1 x;rw[hx]at g0;have n0:=aH hf.2.1 y;rw[w0]at n0;obtain⟨I,ao,c,b1,Y⟩:=hy.ok hf n0;have C: ∀v w',(Builtin.append_ #[t,t] o.type #[a.eval x,a.eval y]).run P w= .ok v w'->(execOp a.eval o).run P w= .ok (.value v) w':=by
  intro v w' h;simp only[execOp,ho,resolve];simp[invoke,builtin,h]
 rw[b1]at C;have J:(AO.row B.size es).real=jp:=by cases es with
  |nil=>exact absurd b0 (by simp only[Ra];omega)
  |cons=>rfl
 rcases hf.1.obj i _ hi with rfl|⟨hsz0,cur,T,q1,q2,q3,q4,q5⟩
 .cases J
 generalize a.eval x=vx at g0 C;cases g0 with
 |sl _ _ _ _ _ _ h0=>exact absurd h0 (SM _)
 |sle _ _ cap hU hc hext=>
  have G:cur.size=cap*B.size:=by rw[q2,<-hext]
  have A:news.length<=cap:=by
   have:es.length*B.size<=cap*B.size:=by rw[<-G];exact q3
   have:=Nat.le_of_mul_le_mul_right this hsz0;omega
  obtain⟨b2,d1,p0,a0⟩:=Y (List.ne_nil_of_length_pos hm);subst p0;obtain⟨vs,k0,a1,m0⟩:=oJ (s:=s) a0;have R:vs.length=news.length*B.size:=by rw[k0,im I]
  have q0:vs.length<=cur.size:=by rw[R,G];exact PQ _ A
  have c0: ∀v∈vs,v.oneCell'=jp:=by
   intro v hv;obtain⟨j,hj⟩:=Qd hv;have s0:j<news.flatten.length:=by rw[<-k0];exact(Pm.1 hj).1
   have hp:=Po s0;obtain⟨k,e,i',h1,h2,_⟩:=kI I j _ hp;have:=(m0 j _ hp).one (gT (e0 e (P0 h1)) i' _ h2);rw[Pn,hj]at this;exact this
  have D:=kj (P:=P) (w:=w) t o.type u ii z0 r0 T (N.ay i) 0 cap cur q1 ⟨b2,d1,is⟩ news.length c vs (by rw[R,d0]) a1 c0 (by omega) (by rw[d0];omega);rw[d0]at D;generalize hL:(cur.toList.take (0*B.size)++vs++cur.toList.drop (0*B.size+vs.length)).toArray=L at D;rw[PT]at D;have i0:L.size=cur.size:=by rw[<-hL];simp;omega
  have f0:=setRow_heap w (N.ay i) cur L T (0,0) q1;have o0: ∀j,j<vs.length->L.getD j undef=vs.getD j undef:=by
   intro j hj;rw[<-hL,Pk,Pn];simp only[Qi];rw[PG (by simp;omega),PD (by simp)];simp
  obtain⟨h1,h2⟩:=hf.1.move hi J (w.setRow (N.ay i) L) (.row B.size ([]++news)) Z Z Z (by simp) (fun b hb=>by
    simp only[World.setRow,P4]
    rw[be (fun e=>hb e.symm)]) (by
   refine .inr ⟨hsz0,L,T,by simpa using f0,by rw[i0];simpa using q2,by rw[i0,G];exact PQ _ A,fun k e he=>I _ e he,fun k e j p he hj=>?_⟩;have i1:j<B.size:=by rw[<-I _ e he];exact(Pm.1 hj).1
   have t0:k<news.length:=(Pm.1 he).1;have v0:k*B.size+j<vs.length:=by
    rw[R];have:(k+1)*B.size<=news.length*B.size:=PQ _ t0;rw[Qr]at this;omega
   rw[o0 _ v0]
   exact(m0 _ p (mw I _ e j p he hj)).mono (.refl _) (N.eJ _ _ _) (fun i hi=>by omega))
  obtain⟨g1,g2⟩:=mM (es:=[]) (news:=news) (i:=i) hf h1 h2;refine⟨_,_,M,_,C _ _ D,g1,g2,?_⟩;have:=VR.sl (M:=M) (N:=N.with s.nx (N.ay i) (N.ext i)) (U:=(· <s.nx+1)) s.nx 0 news.length B.size cap (by omega) hm A hc (by simpa using hext);rw[jT];simpa using this
section
variable {Q:AQ} {k:List KI} {all rest:List Oper} {o:Oper} {s':AS}
theorem J2(D:bz P ty){t u:TypeId}{l c:Operand}(n m:Nat)(hg:o.guard=is)(ho:o.op= .makeSlice t l c){e b:bG}(C:ty t=io e)(hk:e.k= .aO (.slice u))(hu:ty u=io b)
  {R kc:IntKind} {I nc:Int} (hl:ev s.f l= .iv (.v (.int R I))) (hc:ev s.f c= .iv (.v (.int kc nc))) (j:I=(m:Int)) (y:nc=(n:Int)) (hn:0<n) (x:n<=100000000000) (hb:b.bytes*n<=281474976710656) (G:b.zero.cells.size=b.size) (B:0<b.size)
  {z:List PV} (J:z=aP b.zero) {p:PV} (A:(m=0∧p= .sl s.nx 1 0 b.size)∨(m=n∧p= .sl s.nx 0 n b.size))
  (hp:putDst nt o p (newObj s (.row b.size (RV n z)))=io s') (h:GO P nt (.ops all rest::k) Q s'):GO P nt (.ops all (o::rest)::k) Q s:=
 cC hg (NB D ho C hk hu hl hc j y hn x hb Z G B J A hp) fun t C=>by subst C;exact h
theorem EL(y:bz P ty){t u:TypeId}{l c:Operand}(sz:Nat)(el:Nat->List IV)(hg:o.guard=is)(ho:o.op= .makeSlice t l c){e B:bG}(x:ty t=io e)(hk:e.k= .aO (.slice u))(hu:ty u=io B)
  {C kc:IntKind} {A nc:Int} (hl:ev s.f l= .iv (.v (.int C A))) (hc:ev s.f c= .iv (.v (.int kc nc))) (b:A=0) (j:nc=0)
  (hp:putDst nt o (.iv (.cB sz 0 el)) (newObj s (.row sz []))=io s') (h:GO P nt (.ops all rest::k) Q s'):GO P nt (.ops all (o::rest)::k) Q s:=
 cC hg (LH y ho x hk hu el hl hc b j hp) fun t x=>by subst x;exact h
theorem Bn(B:bz P ty){t u:TypeId}{x hi:Operand}{i n sz:Nat}(m:Nat)(hg:o.guard=is)(ho:o.op= .slice t x is (io hi) is){e D:bG}(A:ty t=io e)(hk:e.k= .aO (.slice u))(hu:ty u=io D)
  {kc:IntKind} {C:Int} (G:ev s.f x= .sl i 0 n sz) (hh:ev s.f hi= .iv (.v (.int kc C))) (b:C=(m:Int)) (j:m<=n) (hn:0<n)
  {p:PV} (y:(m=0∧p= .sl i 1 0 sz)∨(0<m∧p= .sl i 0 m sz)) (hp:putDst nt o p s=io s') (h:GO P nt (.ops all rest::k) Q s'):GO P nt (.ops all (o::rest)::k) Q s:=
 cC hg (L4 B ho A hk hu G hh b j hn y hp) fun t A=>by subst A;exact h
theorem wG(D:bz P ty){x y:Operand}{t u:TypeId}(hg:o.guard=is)(ho:o.op= .call ⟨.builtin .append, #[x,y], #[t,t]⟩){e j:bG}(C:ty t=io e)(hk:e.k= .aO (.slice u))(hu:ty u=io j)
  {i:Nat} {es news:List (List PV)} {G:PV} (I:ev s.f x= .sl i 1 0 j.size) (hi:s.h.get i=io (.row j.size es))
  (B:ev s.f y=G) (J:K8 s.h j.size G=io news) (b:news.length<=es.length) (hm:0<news.length) (A: ∀e∈news,eE e=jp)
  (hp:putDst nt o (.sl s.nx 0 news.length j.size) (pz s i j.size [] news)=io s') (h:GO P nt (.ops all rest::k) Q s'):GO P nt (.ops all (o::rest)::k) Q s:=
 cC hg (IJ D ho C hk hu I hi Z b hm B (gX J) A hp) fun t C=>by subst C;exact h
end
section
variable {Q:AQ} {k:List KI} {all rest:List Oper} {o:Oper} {s':AS}
end
end
theorem dV.take{sz n:Nat}{es:List (List PV)}:dV (.row sz es) (.row sz (es.take n)):=by
 refine⟨fun h=>?_,fun M N U w i h=>?_⟩
 .cases es with
  |nil=>rw[List.take_nil]at h;exact h
  |cons=>rfl
 .rcases h with h|⟨u,c,T,h1,x,y,A,B⟩
  .exact .inl (by rw[h,List.take_nil])
  .refine .inr ⟨u,c,T,h1,x,P9 (PQ _ (by rw[QI];omega)) y,fun k e b=>?_,fun k e j p b C=>?_⟩
   .rw[Qc]at b;split at b
    .exact A k e b
    .cases b
   .rw[Qc]at b;split at b
    .exact B k e j p b C
    .cases b
theorem Bm{P:Program}{nt:Nat}{Q:AQ}{k:List KI}{s:AS}{body:Code}{σ:Type}(i0 n:Nat)(u:i0<=n)(I:Nat->σ->AS)(J:Nat->σ->Prop)(y:σ)(A:List Nat)(C:J i0 y)(h0:Wk s.nx A s (I i0 y))
  (b: ∀i x,i<=n->J i x->GO P nt (.code body:: .lp (fun t=>i<n∧ ∃j L,J (i+1) j∧Wk s.nx L t (I (i+1) j))::k) Q (I i x)):GO P nt (.code (.loop body)::k) Q s:=by
 refine gu (σ:={p:Nat×σ//p.1<=n∧J p.1 p.2}) (fun p=>I p.1.1 p.1.2) (fun p=>n-p.1.1) ⟨(i0,y),u,C⟩ A h0 fun p=>?_;obtain⟨⟨i,x⟩,h1,B⟩:=p;refine ll ?_ (b i x h1 B)
 rintro t ⟨h3,j,L,h4,h5⟩;exact⟨⟨(i+1,j),h3,h4⟩,L,by show n-(i+1)<n-i;omega,h5⟩
theorem H8{P:Program}{ty:Ty}{nt:Nat}{Q:AQ}{k:List KI}{s:AS}(j:bz P ty){all rest:List Oper}{o:Oper}{t:TypeId}{x i:Operand}(p:PV)(ho:o.op= .lookup t x i kw)(hg:o.guard=is)
  {kc:KC} {V:Type} {e:V->IV} {z:V} {y:Value} {m:List (kc.K×V)} (B:ev s.f x= .iv (.dR kc e z y m)) {q:PV} (hl:sU ty t kw kc e z y m (ev s.f i)=io (q,True)) (A:q=p)
  {s':AS} (hp:putDst nt o p s=io s') (h:GO P nt (.ops all rest::k) Q s'):GO P nt (.ops all (o::rest)::k) Q s:=by
 have b:gG ty s o.op=io (p,True):=by
  rw[ho,<-A];simp only[gG,B];exact hl
 exact cC hg (sA j b ac hp) fun u hu=>by subst hu;exact h
section
variable {P:Program} {ty:Ty} {nt:Nat} {s:AS}
theorem Dx{o:Oper}{p:PV}{s':AS}(hp:putDst nt o p s=io s')(h: ∀M N a w,Fits M N s nt a w-> ∃x,(execOp a.eval o).run P w= .ok (.value x) w∧VR M N (· <s.nx) p x):
  (s'.h=s.h∧s'.nx=s.nx)∧ ∀M N a w,Fits M N s nt a w-> ∃x,(execOp a.eval o).run P w= .ok (.value x) w∧Fits M N s' nt (a.put o.dst x) w:=by
 cases hd:o.dst with
 |none=>
  have:=eS hp hd;subst this;exact⟨⟨rfl,rfl⟩,fun M N a w b=>let ⟨x,hx,_⟩:=h M N a w b;⟨x,hx,b⟩⟩
 |some d=>
  obtain⟨h1,rfl⟩:=eR hp hd;exact⟨⟨rfl,rfl⟩,fun M N a w b=>let ⟨x,hx,hv⟩:=h M N a w b;⟨x,hx,b.put d p x h1 hv⟩⟩
theorem td{Q:AQ}{k:List KI}{all:List Oper}{todo pend:List (Nat×Oper)}{o:Oper}{s':AS}{p:PV}(i:Nat)(j:todo.find? (fun x=>PM x.1 i)=io (i,o))(u:aQ o=kw)(y:todo.all (fun x=>!waits o x.1)=jp)(hg:bY nt all s.f o=io jp)(b:uu all pend o=jp)
  (hp:putDst nt o p s=io s') (A: ∀M N a w,Fits M N s nt a w-> ∃x,(execOp a.eval o).run P w= .ok (.value x) w∧VR M N (· <s.nx) p x)
  (h:GO P nt (.bX all (todo.filter fun x=>!PM x.1 i) ((i,o)::pend)::k) Q s'):GO P nt (.bX all todo pend::k) Q s:=
 have g:=Dx hp A
 tc (List.mem_of_find?_eq_some j) u (fun x B=>by simpa using P8.1 y x B) hg b g.1 g.2 h
end
section
variable {P:Program} {ty:Ty} {nt:Nat} {Q:AQ} {k:List KI} {s:AS}
theorem il{all rest:List Oper}{o:Oper}{t e:TypeId}{x:Operand}{d sz n:Nat}{el:Nat->List IV}(hg:o.guard=is)(ho:o.op= .binOp .eql t x (.const (.slice is 0 0)) t)(hd:o.dst=io d)(A:PL d nt=jp)(G:P.underlying t=io (.slice e))(I:ev s.f x= .iv (.cB sz n el))
  (h: ∀b:Bool,(b=jp->n=0)->GO P nt (.ops all rest::k) Q ⟨(d,pB b)::s.f,s.h,s.nx⟩):GO P nt (.ops all (o::rest)::k) Q s:=by
 refine cC (R:=fun u=> ∃b:Bool,(b=jp->n=0)∧u=⟨(d,pB b)::s.f,s.h,s.nx⟩) hg (fun M N a w C K Z hk=>?_) fun u ⟨b,hb,hu⟩=>by subst hu;exact h b hb
 have y:=aH C.2.1 x;rw[I]at y;generalize B:a.eval x=v at y;have j: ∀(a0:Option Addr) (l c:Nat),v= .slice a0 l c->(execOp a.eval o).run P w= .ok (.value (.bool a0.isNone)) w:=fun a0 l c y=>by
  unfold execOp;rw[ho];simp only[B,y];exact aX (Lib.run_eql_slice_nil w t e a0 l c 0 0 G)
 have b0: ∀(b:Bool),(b=jp->n=0)->(execOp a.eval o).run P w= .ok (.value (.bool b)) w->o.wp P a w K Z:=fun b hb D=>by
  unfold Oper.wp;rw[D];simp only[Oper.upon];rw[hd];exact hk M N ⟨(d,pB b)::s.f,s.h,s.nx⟩ _ w (.refl _ _ _ _ _) (C.put d (pB b) (.bool b) (Pj A) (.iv _ _ (.v _))) ⟨b,hb,rfl⟩
 cases y with
 |iv _ _ hi=>cases hi with
  |fu _ _ a0 cap=>exact b0 _ (fun _=>rfl) (j a0 0 cap rfl)
  |cB _ _ _ b off cap hn hc hl hm D=>exact b0 kw (fun h=>by cases h) (j _ n cap rfl)
theorem jO(j:bz P ty){all rest:List Oper}{o:Oper}{t u:TypeId}{d:Nat}(hg:o.guard=is)(ho:o.op= .buildSlice t 0 #[])(hd:o.dst=io d)(y:PL d nt=jp){e I:bG}(ht:ty t=io e)(hk:e.k= .aO (.slice u))(hu:ty u=io I)
  (h: ∀b:Nat,GO P nt (.ops all rest::k) Q ⟨(d,.iv (.v (.slice (io ⟨b,0,is⟩) 0 0)))::s.f,(s.nx,io (.row 1 []))::s.h,s.nx+1⟩):GO P nt (.ops all (o::rest)::k) Q s:=by
 refine cC (R:=fun v=> ∃b:Nat,v=⟨(d,.iv (.v (.slice (io ⟨b,0,is⟩) 0 0)))::s.f,(s.nx,io (.row 1 []))::s.h,s.nx+1⟩) hg (fun M N a w Y K Z B=>?_) fun v ⟨b,hv⟩=>by subst hv;exact h b
 have D:P.underlying t=io (.slice u):=by
  have:=(j t _ ht).2.1;rw[hk]at this;exact this.1
 obtain⟨G,h1,h2,h8,J,x⟩:=Y.1.alloc (.cells #[] u) (.row 1 []) 0 (fun G g1 g2 g3=> .inl rfl);have hr:(execOp a.eval o).run P w= .ok (.value (.slice (io ⟨w.heap.size,0,is⟩) 0 0)) (w.alloc (.cells #[] u)):=by
  have C:=aL (w:=w) (j u I hu);simp[execOp,ho,Instr.buildSlice,Sem.run_bind,run_underlying D,Result.andThen_ok,C,newRow,Instr.fill,show Sn 0= #[] from rfl]
 have A:=dD Y J x;unfold Oper.wp;rw[hr];simp only[Oper.upon];rw[hd];exact B M G ⟨(d,.iv (.v (.slice (io ⟨w.heap.size,0,is⟩) 0 0)))::s.f,(s.nx,io (.row 1 []))::s.h,s.nx+1⟩ _ _ J (Fits.put (s:=⟨s.f,(s.nx,io (.row 1 []))::s.h,s.nx+1⟩) A d _ _ (Pj y) (.iv _ _ (.v _))) ⟨_,rfl⟩
theorem jP(d0:bz P ty){all rest:List Oper}{o:Oper}{x y:Operand}{t u:TypeId}(hg:o.guard=is)(ho:o.op= .call ⟨.builtin .append, #[x,y], #[t,t]⟩){e A:bG}(ht:ty t=io e)(hk:e.k= .aO (.slice u))(hu:ty u=io A)
  {b0 sz:Nat} {news:List (List PV)} {py:PV} (hx:ev s.f x= .iv (.v (.slice (io ⟨b0,0,is⟩) 0 0))) (v0:A.size=sz) (hz:A.zero.cells.size=sz) (t0:0<sz)
  (s0:ev s.f y=py) (hy:Src s.h sz py news) (hm:news≠ []) (hb:news.length*A.bytes<=140737488355328) (d1:news.length<=140737488355328)
  {s':AS} (hp:putDst nt o (.sl s.nx 0 news.length sz) (newObj s (.row sz news))=io s') (h:GO P nt (.ops all rest::k) Q s'):GO P nt (.ops all (o::rest)::k) Q s:=by
 refine cC hg (OT.value hp fun M N a w hf=>?_) fun v hv=>by subst hv;exact h
 subst v0;obtain⟨⟨ii,o0,p0,n0,q0⟩,_⟩:=d0 u _ hu;have w0:P.underlying t=io (.slice u):=by
  have:=(d0 t _ ht).2.1;rw[hk]at this;exact this.1
 have Y:=aH hf.2.1 x;rw[hx]at Y;have f0:=aH hf.2.1 y;rw[s0]at f0;obtain⟨D,ao,c,a1,G⟩:=hy.ok hf f0;have B: ∀v w',(Builtin.append_ #[t,t] o.type #[a.eval x,a.eval y]).run P w= .ok v w'->(execOp a.eval o).run P w= .ok (.value v) w':=by
  intro v w' h;simp only[execOp,ho,resolve];simp[invoke,builtin,h]
 rw[a1]at B;have a0: ∀vs:List Value,vs.length=news.flatten.length->vs.length=news.length*ii.size:=fun vs h=>by rw[h,im D,p0]
 generalize a.eval x=vx at Y B;cases Y with
 |iv _ _ hi=>cases hi with
  |v=>
   obtain⟨b,b1,j0,I⟩:=G hm;subst j0;obtain⟨vs,e0,x0,z0⟩:=oJ (s:=s) I;have j1:0<news.length:=Qy.2 hm;have J:=run_append_grow (P:=P) w t o.type u ii A.zero w0 o0 q0 ⟨b0,0,is⟩ 0 0 [] (by simp) (fun j v hj=>by simp at hj) ⟨b,b1,is⟩ news.length c vs (a0 vs e0) x0 (by omega) (by omega) (growslice_fits (by omega) (by rw[n0,PT];exact hb));have R:vs.length=news.length*A.size:=by rw[e0,im D]
   have c0:=grownCap_ge w (0+news.length) 0 u;have k0:=grownCap_le_maxLen w (0+news.length) 0 u (by simp only[maxLen];omega);generalize grownCap w (0+news.length) 0 u=cap at*
   generalize i0:([]:List Value).toArray++vs.toArray++Builtin.zeroCells A.zero.cells (cap-(0+news.length))=z at J;have C:z.size=cap*A.size:=by
    rw[<-i0,RD,RD,size_zeroCells,hz];simp only[List.size_toArray,R,Ra,PT] at*
    rw[<-Qr,Nat.add_sub_cancel' c0]
   obtain⟨N',h1,h2,h3,h4,h5⟩:=hf.1.drew.alloc (.cells z u) (.row A.size news) z.size (fun N' g1 g2 g3=>by
    refine .inr ⟨t0,z,u,by rw[g1];exact heap_alloc_new _ _,g2.symm,?_,fun k e he=>D _ e he,fun k e j p he hj=>?_⟩
    .rw[C];exact PQ _ (by omega)
    .have f1:j<A.size:=by rw[<-D _ e he];exact(Pm.1 hj).1
     have r0:k<news.length:=(Pm.1 he).1;have m0:=mw D _ e j p he hj;have i1:k*A.size+j<vs.length:=by
      rw[R];have:(k+1)*A.size<=news.length*A.size:=PQ _ r0;rw[Qr]at this;omega
     have:=z0 _ p m0;have e1:z.getD (k*A.size+j) undef=vs.getD (k*A.size+j) undef:=by
      rw[<-i0,Pk,P5 (by simp;omega),Pn];simp
     rw[e1];exact this.mono (.refl _) g3 (fun i hi=>by omega))
   have g0:=(Ext.drew (M:=M) (N:=N) (U:=(· <s.nx)) (h:=s.h) (w:=w)).trans h4;refine⟨_,_,M,N',B _ _ J,g0,⟨h5,hf.2.1.ext g0,hf.2.2⟩,?_⟩;have:=VR.sl (M:=M) (N:=N') (U:=(· <s.nx+1)) s.nx 0 (0+news.length) A.size cap (by omega) (by omega) c0 k0 (by rw[h2,C];simp);rw[h1,Rw,show PV.sl s.nx 0 (0+news.length) A.size=PV.sl s.nx 0 news.length A.size by rw[PT]]at this;exact(show(newObj s (.row A.size news)).nx=s.nx+1 from rfl)▸this
theorem kG(I:bz P ty){all rest:List Oper}{o:Oper}{x y:Operand}{t u:TypeId}(hg:o.guard=is)(ho:o.op= .call ⟨.builtin .append, #[x,y], #[t,t]⟩){e eu:bG}(ht:ty t=io e)(hk:e.k= .aO (.slice u))(hu:ty u=io eu)
  {Y sz:Nat} (hx:ev s.f x= .iv (.v (.slice (io ⟨Y,0,is⟩) 0 0))) (d0:eu.size=sz)
  {el:Nat->List IV} (c0:ev s.f y= .iv (.cB sz 0 el)) {el2:Nat->List IV}
  {s':AS} (hp:putDst nt o (.iv (.cB sz 0 el2)) s=io s') (h:GO P nt (.ops all rest::k) Q s'):GO P nt (.ops all (o::rest)::k) Q s:=by
 refine cC hg (OT.value hp fun M N a w hf=>?_) fun v hv=>by subst hv;exact h
 subst d0;obtain⟨⟨ii,a0,g0,f0,i0⟩,_⟩:=I u _ hu;have e0:P.underlying t=io (.slice u):=by
  have:=(I t _ ht).2.1;rw[hk]at this;exact this.1
 have B:=aH hf.2.1 x;rw[hx]at B;have C:=aH hf.2.1 y;rw[c0]at C;have j: ∀v D,(Builtin.append_ #[t,t] o.type #[a.eval x,a.eval y]).run P w= .ok v D->(execOp a.eval o).run P w= .ok (.value v) D:=by
  intro v D h;simp only[execOp,ho,resolve];simp[invoke,builtin,h]
 generalize a.eval x=vx at B j;generalize a.eval y=vy at C j;have A: ∀(G:Option Addr) (c:Nat),vx= .slice (io ⟨Y,0,is⟩) 0 0->vy= .slice G 0 c-> ∃v D J R,(execOp a.eval o).run P w= .ok (.value v) D∧Ext M N (· <s.nx) s.h w J R (· <s.nx) s.h D∧Fits J R s nt a D∧VR J R (· <s.nx) (.iv (.cB eu.size 0 el2)) v:=fun G c e1 e2=>by
  subst e1 e2;exact⟨_,w,M,N,j _ _ (iz (P:=P) (w:=w) t o.type u ii e0 a0 (io ⟨Y,0,is⟩) 0 0 (Pv _) G c (.inr ⟨_,_,rfl⟩)),.refl _ _ _ _ _,hf,.iv _ _ (.fu _ _ _ _)⟩
 cases B with
 |iv _ _ hi=>cases hi with
  |v=>cases C with
   |iv _ _ hi=>cases hi with
    |fu _ _ G c=>exact A G c Z Z
    |cB _ _ _ b off cap=>exact A _ _ Z Z
end
section
variable {P:Program} {ty:Ty} {nt:Nat} {Q:AQ} {k:List KI} {s:AS}
theorem yW(r0:bz P ty){o:Oper}{t:TypeId}{a x:Operand}(ho:o.op= .store t a x)(hd:o.dst=is){i sz q:Nat}{e:bG}(he:ty t=io e)(z0:e.size=sz){es:List (List PV)}{xs:List PV}
  (ha:ev s.f a= .cN i sz q 0) (hi:s.h.get i=io (.row sz es)) (hq:q<es.length) (v0:(ev s.f x).cells=io xs) (f0:xs.length=sz) (b0:eE xs=jp):
  OT P nt o s (fun u=>u=⟨s.f,(i,io (.row sz (es.set q xs)))::s.h,s.nx⟩):=by
 have hp:putDst nt o .any ⟨s.f,(i,io (.row sz (es.set q xs)))::s.h,s.nx⟩=io ⟨s.f,(i,io (.row sz (es.set q xs)))::s.h,s.nx⟩:=by simp only[putDst,hd]
 refine OT.skip hp fun M N b w J=>?_;have hu:=aH J.2.1 a;have hy:=aH J.2.1 x;rw[ha]at hu;generalize s0:b.eval a=u at hu;generalize w0:b.eval x=y at hy
 have key: ∃w',(Instr.storeAt t u y).run P w= .ok () w'∧Ext M N (· <s.nx) s.h w M N (· <s.nx) ((i,io (.row sz (es.set q xs)))::s.h) w'∧Fits M N ⟨s.f,(i,io (.row sz (es.set q xs)))::s.h,s.nx⟩ nt b w':=by
  cases hu with
  |cN _ _ _ _ hU=>
   obtain⟨hl,hv⟩:=mG hy v0;have a1:y.cells.size=sz:=by omega
   rcases J.1.obj i _ hi with h0|⟨h0,c,T,g1,g2,g3,g4,g5⟩
   .rw[h0]at hq;simp at hq
   have a0:(q+1)*sz<=es.length*sz:=PQ _ hq;have x0:q*sz+sz<=c.size:=by rw[Q7]at a0;omega
   have C: ∀z∈y.cells.toList,z.oneCell'=jp:=by
    intro v t0;obtain⟨j,hj⟩:=Qd t0;have k0:j<y.cells.toList.length:=(Pm.1 hj).1;have e0:xs[j]? =io (xs[j]'(by simp at k0;omega)):=Po _;have:=(hv j _ e0).one (gT b0 j _ e0);rw[Pk]at this;have i0:y.cells[j]? =io v:=by simpa using hj
    rw[i0]at this;exact this
   have d0:=run_storeCells_at P (N.ay i) (q*sz) T y.cells.toList 0 c w g1 (by simp;omega) C;refine⟨w.setRow (N.ay i) (c.toList.take (q*sz+0)++y.cells.toList++c.toList.drop (q*sz+0+y.cells.toList.length)).toArray,?_,?_⟩
   .have D:=aL (w:=w) (r0 t e he);have q0:y.cells.size=e.size:=by omega
    simp only[Instr.storeAt,Instr.sureAddr,pure_bind,storeVar,Sem.run_bind,D,Result.andThen_ok,q0,ne_eq,not_true_eq_false,if_false];exact d0
   .have c0:=setRow_heap w (N.ay i) c (c.toList.take (q*sz+0)++y.cells.toList++c.toList.drop (q*sz+0+y.cells.toList.length)).toArray T (0,0) g1;have o0: ∀b,b≠N.ay i->(w.setRow (N.ay i) (c.toList.take (q*sz+0)++y.cells.toList++c.toList.drop (q*sz+0+y.cells.toList.length)).toArray).heap[b]? =w.heap[b]? :=by
     intro b hb;simp only[World.setRow,P4];rw[be (fun e=>hb e.symm)]
    have p0:(AO.row sz es).real=jp:=by cases es with
     |nil=>simp at hq
     |cons=>rfl
    have g0: ∀m,(c.toList.take (q*sz+0)++y.cells.toList++c.toList.drop (q*sz+0+y.cells.toList.length)).toArray.getD m undef=if q*sz<=m∧m<q*sz+sz then y.cells.getD (m-q*sz) undef else c.getD m undef:=by
     intro m;rw[Pk,Pk,Pk];have m0:y.cells.toList.length=sz:=by simp;omega
     split
     .rename_i hm;have e1:(c.toList.take (q*sz+0)++y.cells.toList++c.toList.drop (q*sz+0+y.cells.toList.length)).toArray[m]? =y.cells[m-q*sz]? :=by
       simp only[Qi];rw[PG (by simp;omega),PD (by simp;omega)];simp only[QI,Rv,PS];congr 1;omega
      rw[e1]
     .rename_i hm;have e1:(c.toList.take (q*sz+0)++y.cells.toList++c.toList.drop (q*sz+0+y.cells.toList.length)).toArray[m]? =c[m]? :=by
       simp only[Qi];rcases Qo m (q*sz) with k1|k1
       .rw[PK,PG (by simp;omega),Qc,am (by omega),PS]
       .rw[PD (by simp;omega),Ql,PS];congr 1;simp;omega
      rw[e1]
    have:=J.1.write hi p0 (w.setRow (N.ay i) (c.toList.take (q*sz+0)++y.cells.toList++c.toList.drop (q*sz+0+y.cells.toList.length)).toArray) (.row sz (es.set q xs)) Z Z Z (by simp) o0
     (.inr ⟨h0,_,T,c0,by simp;omega,by simp;omega,fun G Y A=>?_,fun G Y R p2 A I=>?_⟩)
    .exact⟨this.1,this.2,J.2.1,J.2.2⟩
    .rw[Rh]at A;split at A
     .cases A;exact f0
     .exact g4 G Y A
    .rw[g0];rw[Rh]at A;split at A
     .rename_i B;subst B;cases A;have j0:R<sz:=by rw[<-f0];exact(Pm.1 I).1
      rw[am (by omega),show q*sz+R-q*sz=R by omega];exact hv R p2 I
     .rename_i B;have j0:R<sz:=by rw[<-g4 G Y A];exact(Pm.1 I).1
      rw[be ?_]
      .exact g5 G Y R p2 A I
      .intro⟨e1,Y⟩;rcases RC q G with n0|heq|hgt
       .have:(q+1)*sz<=G*sz:=PQ _ n0;rw[Q7]at this;omega
       .exact B heq
       .have:(G+1)*sz<=q*sz:=PQ _ hgt;rw[Q7]at this;omega
 obtain⟨w',h1,A,I⟩:=key;refine⟨w',M,N,?_,A,I⟩;simp only[execOp,ho];simp[s0,w0,h1]
end
def Mg{σ:Type}(P:Program)(nt:Nat)(k:List KI)(Q:AQ)(n0:Nat)(t:σ->AS):AQ:=fun e u=>(e= .normal∧ ∃i L,Wk n0 L u (t i))∨(e≠ .normal∧kp P nt k Q e u)
theorem go_cut{P:Program}{nt:Nat}{Q:AQ}{k:List KI}{s:AS}{c:Code}{σ:Type}(n:Nat)(t:σ->AS)(A:c=La (vO n c) (rM n c))
  (h1:GO P nt ((vO n c).map KI.code) (Mg P nt k Q s.nx t) s) (h2: ∀i,GO P nt (.code (rM n c)::k) Q (t i)):GO P nt (.code c::k) Q s:=by
 intro M N a w hf;rw[A];have key: ∀(l:List Code) (u:AS) C G J B,Ext M N (· <s.nx) s.h w C G (· <u.nx) u.h B->Fits C G u nt J B->
   kp P nt (l.map KI.code) (Mg P nt k Q s.nx t) .normal u->(La l (rM n c)).wp P (lQ nt M N s w (kp P nt k Q)) J B:=by
  intro l
  induction l with
  |nil=>
   intro u C G J B R y hk;rcases hk with⟨_,i,L,hw⟩|⟨he,_⟩
   .exact AW.then (h2 i) (hw.fits y) fun e a2 w2 D I Y x b j=>⟨D,I,Y,(hw.ext R).trans x,b,j⟩
   .exact absurd Z he
  |cons c l ih=>
   intro u C G J B R y hk;refine wp_seq (AW.then hk y fun e a2 w2 D I Y x b j=>?_);cases e with
   |normal=>exact ih Y D I a2 w2 (R.trans x) b j
   |_=>
    rcases A8 (l:=l) (by simp) j with⟨he,_⟩|⟨_,hq⟩
    .cases he
    .exact⟨D,I,Y,R.trans x,b,hq⟩
 exact key _ s M N a w (.refl _ _ _ _ _) hf h1
theorem Fk{P:Program}{nt:Nat}{k:List KI}{Q:AQ}{n0:Nat}{σ:Type}{t:σ->AS}{u:AS}(i:σ)(L:List Nat)(h:Wk n0 L u (t i)):Mg P nt k Q n0 t .normal u:= .inl ⟨rfl,i,L,h⟩
section
variable {P:Program} {ty:Ty} {nt:Nat} {Q:AQ} {k:List KI} {s:AS}
theorem oq(j:bz P ty){all rest:List Oper}{o:Oper}{t:TypeId}{a:Operand}(ho:o.op= .load t a)(hg:o.guard=is){e:bG}(he:ty t=io e){i sz q off:Nat}{es:List (List PV)}{row:List PV}{v:PV}
  (ha:ev s.f a= .cN i sz q off) (hi:s.h.get i=io (.row sz es)) (x:es[q]? =io row) (hr:fK e (row.drop off)=io v)
  {s':AS} (hp:putDst nt o v s=io s') (h:GO P nt (.ops all rest::k) Q s'):GO P nt (.ops all (o::rest)::k) Q s:=by
 have hb:behind s.h (.cN i sz q off)=io (row.drop off):=by
  simp only[behind,hi,x,Nat.beq_refl]
 have b:gG ty s o.op=io (v,True):=by
  rw[ho];simp only[gG,he,ha,hb,hr]
 exact cC hg (sA j b ac hp) fun u hu=>by subst hu;exact h
end
section
variable {P:Program} {ty:Ty} {nt:Nat} {Q:AQ} {k:List KI} {s:AS}
theorem oL(t0:bz P ty){o:Oper}{t:TypeId}{a x:Operand}(ho:o.op= .store t a x)(hd:o.dst=is){i sz q off:Nat}{e:bG}(he:ty t=io e){es:List (List PV)}{row xs:List PV}
  (ha:ev s.f a= .cN i sz q off) (hi:s.h.get i=io (.row sz es)) (Y:es[q]? =io row) (x0:(ev s.f x).cells=io xs) (d1:xs.length=e.size) (g0:off+e.size<=sz) (b0:eE xs=jp):
  OT P nt o s (fun u=>u=⟨s.f,(i,io (.row sz (es.set q (setCells row off xs))))::s.h,s.nx⟩):=by
 have hp:putDst nt o .any ⟨s.f,(i,io (.row sz (es.set q (setCells row off xs))))::s.h,s.nx⟩=io ⟨s.f,(i,io (.row sz (es.set q (setCells row off xs))))::s.h,s.nx⟩:=by simp only[putDst,hd]
 refine OT.skip hp fun M N b w R=>?_;have hu:=aH R.2.1 a;have hy:=aH R.2.1 x;rw[ha]at hu;generalize v0:b.eval a=u at hu;generalize z0:b.eval x=y at hy
 have key: ∃w',(Instr.storeAt t u y).run P w= .ok () w'∧Ext M N (· <s.nx) s.h w M N (· <s.nx) ((i,io (.row sz (es.set q (setCells row off xs))))::s.h) w'∧Fits M N ⟨s.f,(i,io (.row sz (es.set q (setCells row off xs))))::s.h,s.nx⟩ nt b w':=by
  cases hu with
  |cN _ _ _ _ hU=>
   obtain⟨hl,hv⟩:=mG hy x0;have f1:y.cells.size=e.size:=by omega
   have q0:q<es.length:=(Pm.1 Y).1;rcases R.1.obj i _ hi with h0|⟨h0,c,T,g1,g2,g3,g4,g5⟩
   .rw[h0]at Y;simp at Y
   have f0:row.length=sz:=g4 q row Y;have a0:(q+1)*sz<=es.length*sz:=PQ _ q0;have b1:q*sz+off+e.size<=c.size:=by rw[Q7]at a0;omega
   have D: ∀z∈y.cells.toList,z.oneCell'=jp:=by
    intro v w0;obtain⟨j,hj⟩:=Qd w0;have m0:j<y.cells.toList.length:=(Pm.1 hj).1;have e0:xs[j]? =io (xs[j]'(by simp at m0;omega)):=Po _;have:=(hv j _ e0).one (gT b0 j _ e0);rw[Pk]at this;have j0:y.cells[j]? =io v:=by simpa using hj
    rw[j0]at this;exact this
   have d0:=run_storeCells_at P (N.ay i) (q*sz+off) T y.cells.toList 0 c w g1 (by simp;omega) D;refine⟨w.setRow (N.ay i) (c.toList.take ((q*sz+off)+0)++y.cells.toList++c.toList.drop ((q*sz+off)+0+y.cells.toList.length)).toArray,?_,?_⟩
   .have G:=aL (w:=w) (t0 t e he);have s0:y.cells.size=e.size:=by omega
    simp only[Instr.storeAt,Instr.sureAddr,pure_bind,storeVar,Sem.run_bind,G,Result.andThen_ok,s0,ne_eq,not_true_eq_false,if_false];exact d0
   .have c0:=setRow_heap w (N.ay i) c (c.toList.take ((q*sz+off)+0)++y.cells.toList++c.toList.drop ((q*sz+off)+0+y.cells.toList.length)).toArray T (0,0) g1;have p0: ∀b,b≠N.ay i->(w.setRow (N.ay i) (c.toList.take ((q*sz+off)+0)++y.cells.toList++c.toList.drop ((q*sz+off)+0+y.cells.toList.length)).toArray).heap[b]? =w.heap[b]? :=by
     intro b hb;simp only[World.setRow,P4];rw[be (fun e=>hb e.symm)]
    have r0:(AO.row sz es).real=jp:=by cases es with
     |nil=>simp at Y
     |cons=>rfl
    have i0: ∀m,(c.toList.take ((q*sz+off)+0)++y.cells.toList++c.toList.drop ((q*sz+off)+0+y.cells.toList.length)).toArray.getD m undef=if q*sz+off<=m∧m<q*sz+off+e.size then y.cells.getD (m-(q*sz+off)) undef else c.getD m undef:=by
     intro m;rw[Pk,Pk,Pk];have n0:y.cells.toList.length=e.size:=by simp;omega
     split
     .rename_i hm;have e1:(c.toList.take ((q*sz+off)+0)++y.cells.toList++c.toList.drop ((q*sz+off)+0+y.cells.toList.length)).toArray[m]? =y.cells[m-(q*sz+off)]? :=by
       simp only[Qi];rw[PG (by simp;omega),PD (by simp;omega)];simp only[QI,Rv,PS];congr 1;omega
      rw[e1]
     .rename_i hm;have e1:(c.toList.take ((q*sz+off)+0)++y.cells.toList++c.toList.drop ((q*sz+off)+0+y.cells.toList.length)).toArray[m]? =c[m]? :=by
       simp only[Qi];rcases Qo m (q*sz+off) with k1|k1
       .rw[PK,PG (by simp;omega),Qc,am (by omega),PS]
       .rw[PD (by simp;omega),Ql,PS];congr 1;simp;omega
      rw[e1]
    have:=R.1.write hi r0 (w.setRow (N.ay i) (c.toList.take ((q*sz+off)+0)++y.cells.toList++c.toList.drop ((q*sz+off)+0+y.cells.toList.length)).toArray) (.row sz (es.set q (setCells row off xs))) Z Z Z (by simp) p0
     (.inr ⟨h0,_,T,c0,by simp;omega,by simp;omega,fun I e2 A=>?_,fun I e2 B p2 A J=>?_⟩)
    .exact⟨this.1,this.2,R.2.1,R.2.2⟩
    .rw[Rh]at A;split at A
     .cases A;rw[cR];exact f0
     .exact g4 I e2 A
    .rw[i0];rw[Rh]at A;split at A
     .rename_i C;subst C;cases A;have k0:B<sz:=by rw[<-f0,<-cR row off xs];exact(Pm.1 J).1
      rcases gi row off xs B p2 J with⟨k1,k3⟩|⟨k1,k3⟩
      .have a1:B-off<xs.length:=(Pm.1 k3).1;rw[am (by omega),show q*sz+B-(q*sz+off)=B-off by omega];exact hv _ p2 k3
      .rw[be (by omega)];exact g5 q row B p2 Y k3
     .rename_i C;have k0:B<sz:=by rw[<-g4 I e2 A];exact(Pm.1 J).1
      rw[be ?_]
      .exact g5 I e2 B p2 A J
      .intro⟨e1,e3⟩;rcases RC q I with o0|heq|hgt
       .have:(q+1)*sz<=I*sz:=PQ _ o0;rw[Q7]at this;omega
       .exact C heq
       .have:(I+1)*sz<=q*sz:=PQ _ hgt;rw[Q7]at this;omega
 obtain⟨w',h1,A,J⟩:=key;refine⟨w',M,N,?_,A,J⟩;simp only[execOp,ho];simp[v0,z0,h1]
theorem uW{es:List (List PV)}{q off:Nat}{row xs:List PV}(b:es[q]? =io row)(h:setCells row off xs=row):es.set q (setCells row off xs)=es:=by
 rw[h];refine RF fun i=>?_;rw[Rh];split
 .rename_i e;subst e;split
  .exact b.symm
  .rename_i g;rw[List.getElem?_eq_none (by omega)]
 .rfl
theorem pg(A:bz P ty){all rest:List Oper}{o:Oper}{t:TypeId}{a x:Operand}(ho:o.op= .store t a x)(hd:o.dst=is)(hg:o.guard=is){i sz q off:Nat}{e:bG}(he:ty t=io e){es:List (List PV)}{row xs:List PV}
  (ha:ev s.f a= .cN i sz q off) (hi:s.h.get i=io (.row sz es)) (D:es[q]? =io row) (C:(ev s.f x).cells=io xs) (B:xs.length=e.size) (j:off+e.size<=sz) (y:eE xs=jp) (b:setCells row off xs=row)
  (h:GO P nt (.ops all rest::k) Q ⟨s.f,(i,io (.row sz es))::s.h,s.nx⟩):GO P nt (.ops all (o::rest)::k) Q s:=
 cC hg (oL A ho hd he ha hi D C B j y) fun u hu=>by subst hu;rw[uW D b];exact h
theorem kP(A:bz P ty){o:Oper}{t:TypeId}{a x:Operand}(ho:o.op= .store t a x)(hd:o.dst=is){i sz q off:Nat}{e:bG}(he:ty t=io e){es:List (List PV)}{row xs:List PV}
  (ha:ev s.f a= .cN i sz q off) (hi:s.h.get i=io (.row sz es)) (D:es[q]? =io row) (C:(ev s.f x).cells=io xs) (B:xs.length=e.size) (j:off+e.size<=sz) (y:eE xs=jp) (b:setCells row off xs=row):
  OT P nt o s fun u=>u=⟨s.f,(i,io (.row sz es))::s.h,s.nx⟩:=by
 have:=oL (P:=P) (nt:=nt) A ho hd he ha hi D C B j y;rwa[uW D b]at this
theorem ig(u:bz P ty){o:Oper}{t:TypeId}{a:Operand}(ho:o.op= .load t a){e:bG}(he:ty t=io e){i sz q off:Nat}{es:List (List PV)}{row:List PV}{v:PV}
  (ha:ev s.f a= .cN i sz q off) (hi:s.h.get i=io (.row sz es)) (A:es[q]? =io row) (hr:fK e (row.drop off)=io v):
  ∀M N b w,Fits M N s nt b w-> ∃x,(execOp b.eval o).run P w= .ok (.value x) w∧VR M N (· <s.nx) v x:=by
 have hb:behind s.h (.cN i sz q off)=io (row.drop off):=by
  simp only[behind,hi,A,Nat.beq_refl]
 have j:gG ty s o.op=io (v,True):=by
  rw[ho];simp only[gG,he,ha,hb,hr]
 intro M N b w y;exact pO u y j ac
def HL(P:Program)(nt:Nat)(all:List Oper)(s:AS):List (Nat×Oper)->Prop
 | []=>True
 |x::r=>eH P nt all s x.2∧HL P nt all s r
theorem HL.mem{all:List Oper}{l:List (Nat×Oper)}(h:HL P nt all s l): ∀x∈l,eH P nt all s x.2:=by
 induction l with
 |nil=>intro x b;cases b
 |cons y r ih=>
  intro x b;rcases Px.1 b with e|m
  .rw[e];exact h.1
  .exact ih h.2 x m
theorem tL(y:bz P ty){all:List Oper}{o:Oper}{t:TypeId}{a:Operand}(ho:o.op= .load t a)(hg:bY nt all s.f o=io jp){d:Nat}(hd:o.dst=io d)(j:PL d nt=jp){e:bG}(he:ty t=io e){i sz q off:Nat}{es:List (List PV)}{row:List PV}{v:PV}
  (ha:ev s.f a= .cN i sz q off) (hi:s.h.get i=io (.row sz es)) (A:es[q]? =io row) (hr:fK e (row.drop off)=io v) (hs:an v (s.f.get d)):eH P nt all s o:=fun M N b w u=>by
 obtain⟨x,C,B⟩:=ig y ho he ha hi A hr M N b w u;refine⟨x,.inl ⟨eW hg u,.inl C⟩,?_⟩;rw[hd];exact tK hd Z hs (u.put d v x (Pj j) B)
theorem Ic(A:bz P ty)(H:List Nat){all:List Oper}{todo pend:List (Nat×Oper)}{j:Nat}{o:Oper}{s':AS}{J I:Prop}(hrd:eN todo=[(j,o)])(hg:bY nt all s.f o=io jp)(hpb:ib all pend o=jp)(hE:nk todo [j]=jp)
  (hag:nn ty nt all s todo pend=io J) (hCA:J) (C:OT P nt o s (fun t=>t=s')) (hag2:dF ty nt all s' ((a7 pend o).filter fun x=>!H.any (PM x.1))=io I) (hC2:I) (hH:HL P nt all s' ((a7 pend o).filter fun x=>H.any (PM x.1)))
  (h:GO P nt (.bX all (todo.filter fun x=>!PM x.1 j) (a7 pend o)::k) Q s'):GO P nt (.bX all todo pend::k) Q s:=by
 have u:(j,o)∈eN todo:=by rw[hrd];simp
 obtain⟨R,B⟩:=PZ.1 u;simp only[Qs,RE,Qm]at B;have b: ∀y∈todo,aQ y.2=jp-> ∀y∈pend,eH P nt all s y.2:=by
  intro y D G;unfold nn at hag;split at hag
  .exact df A hag hCA
  .rename_i h2;have:=Qm.1 h2 y D;rw[G]at this;exact absurd Z this
 refine rJ hE ⟨_,R,B.1⟩ b fun j' o' Y _ hu=>?_;simp only[PA]at Y;subst Y;have:=hu o R;subst this
 refine⟨B.1,fun y D _=>by simpa using B.2 y D,hpb,hg,_,C,fun t ht=>by
  subst ht;refine⟨fun x hx=>?_,h⟩;cases hb:H.any (PM x.1) with
  |true=>exact hH.mem x (PZ.2 ⟨hx,hb⟩)
  |false=>exact df A hag2 hC2 x (PZ.2 ⟨hx,by simp only[hb];rfl⟩)⟩
theorem yw(A:bz P ty)(H:List Nat){all:List Oper}{todo pend:List (Nat×Oper)}{j:Nat}{o:Oper}{c:Call}{g:FuncId}{u args:List PV}{os:List AO}{r:PV}{D:AH}{G:Nat}{s':AS}{C B:Prop}(L:List Nat)(hc:bF P g args os r D G)
  (hrd:eN todo=[(j,o)]) (ho:o.op= .call c) (ha:bR s.f c=io (g,u))
  (hn:cF L=jp) (hl:L.all (fun j=>PL j s.nx)=jp) (y:L.map s.h.get=os.map fun o=>io (o.cx (sig L s.nx))) (b:u=dA (sig L s.nx) args) (hp:putDst nt o (r.cx (sig L s.nx)) (aZ s L D G)=io s')
  (hg:bY nt all s.f o=io jp) (hpb:ib all pend o=jp) (hE:nk todo [j]=jp)
  (hag:nn ty nt all s todo pend=io C) (hCA:C) (hag2:dF ty nt all s' ((a7 pend o).filter fun x=>!H.any (PM x.1))=io B) (hC2:B) (hH:HL P nt all s' ((a7 pend o).filter fun x=>H.any (PM x.1)))
  (h:GO P nt (.bX all (todo.filter fun x=>!PM x.1 j) (a7 pend o)::k) Q s'):GO P nt (.bX all todo pend::k) Q s:=
 Ic A H hrd hg hpb hE hag hCA (Ab L hc ho ha hn hl y b hp) hag2 hC2 hH h
end
theorem dV.Nu{sz:Nat}{es u:List (List PV)}(hl:es.length=u.length)(h: ∀(k:Nat) (e y:List PV),es[k]? =io e->u[k]? =io y->gd e y):dV (.row sz es) (.row sz u):=by
 have x:u=[]↔es=[]:=by rw[<-QY,<-QY,hl]
 refine⟨fun C=>?_,fun M N U w i D=>?_⟩
 .cases es with
  |nil=>rw[x.2 Z]at C;cases C
  |cons=>rfl
 .rcases D with A|⟨A,c,T,g1,g2,g3,g4,g5⟩
  .exact .inl (x.2 A)
  .refine .inr ⟨A,c,T,g1,g2,by rw[<-hl];exact g3,fun k y b=>?_,fun k y j p b G=>?_⟩
   .have hk:k<es.length:=by rw[hl];exact(Pm.1 b).1
    have:=h k _ y (Po hk) b;rw[<-this.length];exact g4 k _ (Po hk)
   .have hk:k<es.length:=by rw[hl];exact(Pm.1 b).1
    obtain⟨q,I,B⟩:=(h k _ y (Po hk) b).get j p G;exact B _ _ _ _ (g5 k _ j q (Po hk) I)
def db:List (List PV)->List (List PV)->Prop
 | [],[]=>True
 |p::r,q::s=>gd p q∧db r s
 |_,_=>False
theorem db.length: ∀{a b:List (List PV)},db a b->a.length=b.length
 | [],[],_=>rfl
 |_::_,_::_,h=>congrArg (· +1) (db.length h.2)
 | [],_::_,h=>h.elim
 |_::_,[],h=>h.elim
theorem db.get: ∀{a b:List (List PV)},db a b-> ∀(k:Nat) (e j:List PV),a[k]? =io e->b[k]? =io j->gd e j
 | [],[],_,_,_,_,h,_=>by simp at h
 |p::r,q::s,hh,k,e,j,h,g=>by
  cases k with
  |zero=>simp at h g;subst h;subst g;exact hh.1
  |succ k=>exact db.get hh.2 k e j (by simpa using h) (by simpa using g)
 | [],_::_,hh,_,_,_,_,_=>hh.elim
 |_::_,[],hh,_,_,_,_,_=>hh.elim
theorem gd.refl: ∀a:List PV,gd a a
 | []=>trivial
 |p::r=>⟨.refl p,gd.refl r⟩
theorem db.refl: ∀a:List (List PV),db a a
 | []=>trivial
 |p::r=>⟨gd.refl p,db.refl r⟩
theorem db.app: ∀{a b c d:List (List PV)},db a b->db c d->db (a++c) (b++d)
 | [],[],_,_,_,h=>h
 |_::_,_::_,_,_,h,g=>⟨h.1,db.app h.2 g⟩
 | [],_::_,_,_,h,_=>h.elim
 |_::_,[],_,_,h,_=>h.elim
theorem Mj{n i:Nat}{σ:Nat->Nat}{h r:AH}{α:Type}{sz:Nat}{es:List (List PV)}{l:List α}{f:α->List IV}(ho:h.get (σ i)=io (.row sz es))(he:db es (l.map fun x=>(f x).map .iv))(hi:PL i n=jp)(hr:mP n σ h r):mP n σ h ((i,io (aF sz l f))::r):=
 ⟨⟨_,ho,(dV.Nu he.length he.get).trans (AM σ Z)⟩,Pj hi,dL n,hr⟩
section
variable {P:Program} {ty:Ty} {nt:Nat} {s:AS}
theorem IH(j:bz P ty){o:Oper}{u v:TypeId}{x:Operand}(ho:o.op= .slice u x is is is){C D:bG}(hu:ty u=io C){n:Nat}(A:C.k= .arr n v)(J:ty v=io D)
  {i off:Nat} (R:ev s.f x= .ptr i off): ∀M N a w,Fits M N s nt a w-> ∃x,(execOp a.eval o).run P w= .ok (.value x) w∧VR M N (· <s.nx) (.mZ i off n) x:=by
 intro M N a w I;have B:P.underlying u=io (.array n v):=by
  have:=(j u _ hu).2.1;rw[A]at this;exact this
 have b:=aH I.2.1 x;rw[R]at b;generalize Y:a.eval x=y at b;cases b with
 |ptr _ _ hU=>
  refine⟨.slice (io ⟨N.ay i,off,is⟩) n n,?_,.mZ _ _ _ hU⟩;simp only[execOp,ho,Y,RQ];refine aX ?_;have G:(⟨N.ay i,off,is⟩:Addr).add 0=⟨N.ay i,off,is⟩:=by rw[du,Rq]
  simp[Instr.sliceAt,run_underlying B,Instr.sliceBounds,aL (j v _ J),Instr.sureAddr,G]
theorem Fm(f0:bz P ty){o:Oper}{x y:Operand}{t t' u:TypeId}(ho:o.op= .call ⟨.builtin .copy, #[x,y], #[t,t']⟩){e C:bG}(ht:ty t=io e)(hk:e.k= .aO (.slice u))(hu:ty u=io C)
  {i off n:Nat} {cs:List PV} {T:Option TypeId} {news:List (List PV)} {py:PV} (hx:ev s.f x= .mZ i off n) (hi:s.h.get i=io (.cells cs T)) (x0:ev s.f y=py) (hy:Src s.h C.size py news) (c0: ∀e∈news,eE e=jp)
  (hn:news.length<=n) (v0:off+news.length*C.size<=cs.length)
  {s':AS} (hp:putDst nt o (.iv (.v (.int .i64 news.length))) ⟨s.f,(i,io (.cells (cs.take off++news.flatten++cs.drop (off+news.length*C.size)) T))::s.h,s.nx⟩=io s'):OT P nt o s (fun t=>t=s'):=by
 refine OT.value hp fun M N a w J=>?_
 have o0:P.underlying t=io (.slice u):=by
  have:=(f0 t _ ht).2.1;rw[hk]at this;exact this.1
 have g0:=aH J.2.1 x;rw[hx]at g0;have q0:=aH J.2.1 y;rw[x0]at q0;obtain⟨m0,ao,c,s0,G⟩:=hy.ok J q0;have I:=im m0;obtain⟨B,CT,g1,g2,g3,g4,g5⟩:=J.1.obj i _ hi;have r0:a.eval x= .slice (io ⟨N.ay i,off,is⟩) n n:=by
  generalize a.eval x=z at g0;cases g0;rfl
 have D: ∀v w',(Builtin.copy_ #[t,t'] o.type #[a.eval x,a.eval y]).run P w= .ok v w'->(execOp a.eval o).run P w= .ok (.value v) w':=by
  intro v w' h;simp only[execOp,ho,resolve];simp[invoke,builtin,h]
 have a0:Nat.min news.length n=news.length:=Nat.min_eq_left hn;by_cases k0:news=[]
 .subst k0;have t0:cs.take off++([]:List (List PV)).flatten++cs.drop (off+([]:List (List PV)).length*C.size)=cs:=by simp
  rw[t0];obtain⟨q1,q2⟩:=J.1.write hi Z w (.cells cs T) Z Z Z Z (fun _ _=>rfl) ⟨B,CT,g1,g2,g3,g4,g5⟩;refine⟨.int .i64 0,w,M,N,D _ _ ?_,q1,⟨q2,J.2⟩,.iv _ _ (.v _)⟩;rw[r0,s0];have hl:(Builtin.firstCells C.size 0 (.slice ao 0 c)).run P w= .ok #[] w:=by
   cases ao with
   |none=>simp[Builtin.firstCells]
   |some a=>simp[Builtin.firstCells,loadCells,loadCellsFrom]
  simp[Builtin.copy_,run_underlying o0,Builtin.lenOf,aL (f0 u _ hu),hl,storeCells,goInt]
 .obtain⟨b,i0,rfl,R⟩:=G k0;obtain⟨vs,v1,v2,v3⟩:=oJ (s:=s) R;have p0:vs.length=news.length*C.size:=by rw[v1,I]
  have Y: ∀z∈vs,z.oneCell'=jp:=by
   intro z hz;obtain⟨j,A⟩:=Qd hz;have j0:j<news.flatten.length:=by rw[<-v1];exact(Pm.1 A).1
   obtain⟨k,e,i2,h1,h2,_⟩:=kI m0 j _ (Po j0);have h3:=v3 j _ (Po j0);have h4:=h3.one (gT (c0 e (P0 h1)) i2 _ h2);rw[Pn,A]at h4;exact h4
  have hl:=run_firstCells_some (P:=P) w C.size news.length ⟨b,i0,is⟩ news.length c vs p0 v2;have n0:=run_storeCells_at P (N.ay i) off CT vs 0 B w g1 (by omega) Y;simp only[Rq]at n0;have d0:=setRow_heap w (N.ay i) B (B.toList.take off++vs++B.toList.drop (off+vs.length)).toArray CT (0,0) g1;have b0: ∀b,b≠N.ay i->(w.setRow (N.ay i) (B.toList.take off++vs++B.toList.drop (off+vs.length)).toArray).heap[b]? =w.heap[b]? :=by
   intro b hb;simp only[World.setRow,P4];rw[be (fun e=>hb e.symm)]
  have w0: ∀(j:Nat) (p:PV),(cs.take off++news.flatten++cs.drop (off+news.length*C.size))[j]? =io p->VR M N (· <s.nx) p ((B.toList.take off++vs++B.toList.drop (off+vs.length)).toArray.getD j undef):=by
   intro j p A;rw[Pk,Qi];have z0:(cs.take off).length=off:=by rw[QI];omega
   have e0:(B.toList.take off).length=off:=by rw[QI,Rv];omega
   rw[PK]at A ⊢;rcases Qo j off with h1|h1
   .rw[PG (by omega)]at A ⊢;rw[Qc,am h1]at A ⊢;rw[PS,<-Pk];exact g4 j p A
   .rw[PD (by omega),z0]at A;rw[PD (by omega),e0];rcases Qo (j-off) news.flatten.length with h2|h2
    .rw[PG h2]at A;rw[PG (by rw[v1];exact h2),<-Pn];exact v3 _ p A
    .rw[PD h2,Ql,I]at A;rw[PD (by rw[v1];exact h2),Ql,p0,PS,<-Pk];rw[I]at h2;have e1:off+news.length*C.size+(j-off-news.length*C.size)=j:=by omega
     rw[e1]at A;rw[e1];exact g4 j p A
  obtain⟨q1,q2⟩:=J.1.write hi Z (w.setRow (N.ay i) (B.toList.take off++vs++B.toList.drop (off+vs.length)).toArray) (.cells (cs.take off++news.flatten++cs.drop (off+news.length*C.size)) T) Z Z Z (by simp) b0
   ⟨_,CT,d0,by simp;omega,by simp[I];omega,w0,g5⟩
  refine⟨.int .i64 news.length,_,M,N,D _ _ ?_,q1,⟨q2,J.2⟩,.iv _ _ (.v _)⟩;rw[r0,s0];simp[Builtin.copy_,run_underlying o0,Builtin.lenOf,aL (f0 u _ hu),a0,hl,n0,goInt]
end
end
end Go.Al
namespace Go.Al
open Go.Sort Go.RowKit
def Ai(P:Program)(D k:Nat):Prop:=
 (∀{α:Type} [Inhabited α] (enc:α->List Value) (_: ∀x,(enc x).length=k) (_: ∀x,∀v∈enc x,v.oneCell'=jp) (u:α->α->Int) (_:SWO fun x y=>lc (u x y<0)) (g:Nat) (C:Array Value) (b a0 b0:Nat) (d:Array α) (w:World)
  (_: ∀args w,(callFunc g args).run P w= .ok (.enter g args) w)
  (_: ∀(m:Nat) (os:Array Obj) (dk:Array α),dk.size=d.size-> ∀x y:α,
   Calls P g (#[.agg (enc x).toArray,.agg (enc y).toArray]++C) (grow (putRowK enc k (Sort.ahead w m) b a0 dk) os) fun e j=>e= .returned (.int .i64 (u x y))∧ ∃q B,j=grow ((grow (putRowK enc k (Sort.ahead w m) b a0 dk) os).drewN q) B)
  (_:HoldsK enc k w b a0 d) (_:b<w.heap.size) (_:d.size<4611686018427387904),
  Calls P D #[.slice (io ⟨b,a0,is⟩) d.size b0,.func (.func g) #[] C] w fun e j=>
   e= .returned (.tuple #[])∧ ∃A n os,PermIn 0 d.size d A∧SortedIn (fun x y=>lc (u x y<0)) 0 d.size A∧j=grow (putRowK enc k (Sort.ahead w n) b a0 A) os)∧
 ∀(p:Option Addr) (b0:Nat) (G:Value) (w:World),Calls P D #[.slice p 0 b0,G] w fun e j=>e= .returned (.tuple #[])∧j=w
def IV.flat:IV->Bool
 | .agg _=>kw
 | .v x=>x.oneCell'
 |_=>jp
theorem IR.one{M:Mem}{c:IV}{v:Value}(h:IR M c v)(hf:c.flat=jp):v.oneCell'=jp:=by
 cases h with
 |v=>exact hf
 |agg=>cases hf
 |_=>rfl
theorem uV{β:Type}{R:β->β->Prop}: ∀{a b:List β},a.Perm b->a.Pairwise R->b.Pairwise R->(∀x∈a,∀y∈a,R x y->R y x->x=y)->a=b
 | [],b,h,_,_,_=>h.nil_eq
 |x::a,[],h,_,_,_=>absurd h.length_eq (by simp)
 |x::a,y::b,h,h1,h2,h3=>by
  rw[P3]at h1 h2;have e:x=y:=by
   have hx:x∈y::b:=h.mem_iff.1 (Pz ..);have j:y∈x::a:=h.mem_iff.2 (Pz ..);rcases Px.1 hx with hx|hx
   .exact hx
   .rcases Px.1 j with hy'|hy'
    .exact hy'.symm
    .exact h3 x (Pz ..) y j (h1.1 y hy') (h2.1 x hx)
  subst e;rw[uV (h.cons_inv) h1.2 h2.2 fun u hu v A=>h3 u (Py _ hu) v (Py _ A)]
theorem H6{M x:Mem}{N y:Nm}{A:Nat->Prop}{G:AH}{U:Nat->Prop}{w j:World}(u:Ext M N U [] w x y A G j): ∃q os,j=grow (w.drewN q) os:=by
 refine⟨j.drawn-w.drawn,j.heap.extract w.heap.size j.heap.size,?_⟩;have hh:j.heap=w.heap++j.heap.extract w.heap.size j.heap.size:=by
  refine Array.ext_getElem? fun b=>?_;by_cases hb:b<w.heap.size
  .rw[P5 hb];exact u.fP b hb fun i o I=>nomatch I
  .rw[RU (by omega),Array.getElem?_extract];have:=u.size;split
   .congr 1;omega
   .rw[RO];omega
 have hd:=u.output.drawn;have B:=u.os;have C:=u.tape;have D:=u.output.out;cases j;cases w;simp only[grow,World.drewN] at*
 subst B C D;simp only[World.mk.injEq,and_true,true_and];exact⟨hh,by omega⟩
def yP{β:Type}(M:Mem)(ev:β->List IV)(ok:β->Prop)(k:Nat):Type:=
 {p:β×List Value//ok p.1∧p.2.length=k∧(∀v∈p.2,v.oneCell'=jp)∧ ∀j c,(ev p.1)[j]? =io c->IR M c (p.2.getD j undef)}
theorem uK{β:Type}{l:List β}{f:β->List IV}{i:Nat}{e:List PV}(h:(l.map fun x=>(f x).map PV.iv)[i]? =io e): ∃s,l[i]? =io s∧e=(f s).map PV.iv:=by
 rw[Ps,Pu]at h;obtain⟨s,h1,rfl⟩:=h;exact⟨s,h1,rfl⟩
set_option maxHeartbeats 1000000 in
theorem uH{P:Program}{fs g k:Nat}{β:Type}(hS:Ai P fs k)(k1:gB P fs)(j1:gB P g)(r0:0<k)(ev:β->List IV)(a0:β->β->Int)(ok:β->Prop)
  (l1: ∀x y,ok x->ok y->Pure P g [ag (ev x),ag (ev y)] (pI (a0 x y))) (e0: ∀x,(ev x).length=k) (n1: ∀x,∀c∈ev x,c.flat=jp)
  (Bc: ∀x,ok x-> ¬a0 x x<0) (tr: ∀x y z,ok x->ok y->ok z->a0 x y<0->a0 y z<0->a0 x z<0) (Og: ∀x y z,ok x->ok y->ok z-> ¬a0 x y<0-> ¬a0 y z<0-> ¬a0 x z<0)
  (l l':List β) (hl: ∀x∈l,ok x) (KV: ∀x∈l,∀y∈l,¬a0 x y<0-> ¬a0 y x<0->x=y) (hp:l.Perm l') (hs:l'.Pairwise fun x y=> ¬a0 y x<0) (r1:l.length<=1000000000000)
  (pv:PV) (x1: ∀M N U v,VR M N U pv v->v= .func (.func g) #[] #[]):
  bF P fs [.sl 0 0 l.length k,pv] [aF k l ev] (.bm []) [(0,io (aF k l' ev))] 1:=by
 refine⟨k1,fun M N w vs hr g0 hv=>?_⟩;obtain⟨v,v1,rfl⟩: ∃v v1,vs=[v,v1]:=by
  match vs,g0 with
  | [v,v1],_=>exact⟨v,v1,rfl⟩
 have J:=hv 0 _ Z;have g1:=x1 _ _ _ _ (hv 1 _ Z);simp only[Rj]at J;simp only[QM,Rj]at g1;subst g1;have t1:=hr.obj 0 _ Z;cases l with
 |nil=>
  have q1:l'=[]:=(hp.nil_eq).symm;subst q1;obtain⟨p,b0,rfl⟩: ∃p b0,v= .slice p 0 b0:=by
   generalize B:PV.sl 0 0 ([]:List β).length k=q at J;cases J with
   |sl i off len sz b0 h h0 h1 hc he=>cases B;simp at h0
   |lZ i sz h=>exact⟨_,_,rfl⟩
   |sle i sz b0 h hc he=>cases B
   |_=>cases B
  refine(hS.2 p b0 _ w).mono ?_;rintro e w' ⟨rfl,rfl⟩;exact⟨_,M,N,.bm [],_,1,rfl,⟨rfl,rfl,rfl⟩,.refl _ _ _ _ _,hr,.bm [] #[] Z (by simp)⟩
 |cons s0 r=>
  generalize hL:s0::r=L at*
  have k0:0<L.length:=by rw[<-hL];simp
  obtain⟨b0,z1⟩: ∃b0,v= .slice (io ⟨N.ay 0,0,is⟩) L.length b0:=by
   generalize hn:L.length=n at J k0;generalize B:PV.sl 0 0 n k=q at J;cases J with
   |sl i off len sz b0 h h0 h1 hc he=>cases B;exact⟨b0,by simp⟩
   |lZ i sz h=>cases B;omega
   |_=>cases B
  subst z1;rcases t1 with h0|⟨_,c,T,h1,h2,h3,h4,h5⟩
  .rw[<-hL]at h0;cases h0
  rw[PX]at h3;have t0:(aF k L ev).real=jp:=by rw[<-hL];rfl
  have s1:=hr.lt (i:=0) Z t0;have m0: ∀(i:Nat) (x:β),L[i]? =io x-> ∀j q,(ev x)[j]? =io q->IR M q (c.getD (i*k+j) undef):=fun i x u j q B=>by
   have:=h5 i ((ev x).map .iv) j (.iv q) (by rw[Ps,u];rfl) (by rw[Ps,B];rfl);cases this with
   |iv _ _ h=>exact h
  let x0:(i:Nat)->(h:i<L.length)->yP M ev ok k:=fun i h=>⟨(L[i],(PY k).map fun j=>c.getD (i*k+j) undef),by
   have hg: ∀j,j<k-> ∃q,(ev L[i])[j]? =io q:=fun j A=>⟨_,Po (by rw[e0];exact A)⟩
   refine⟨hl _ (P7 h),by simp,fun v hv=>?_,fun j q B=>?_⟩
   .rw[P1]at hv;obtain⟨j,A,rfl⟩:=hv;obtain⟨q,B⟩:=hg j (QQ.1 A);exact(m0 i _ (Po h) j q B).one (n1 _ q (P0 B))
   .have A:j<k:=by rw[<-e0 L[i]];exact(Pm.1 B).1
    have:=m0 i _ (Po h) j q B;rw[Pn,Ps,R1 A]
    exact this⟩
  haveI:Inhabited (yP M ev ok k):=⟨x0 0 k0⟩
  let d:Array (yP M ev ok k):=Array.ofFn (n:=L.length) fun i=>x0 i.1 i.2
  have D:d.size=L.length:=by simp[d]
  let enc:yP M ev ok k->List Value:=fun x=>x.1.2
  have I: ∀x,(enc x).length=k:=fun x=>x.2.2.1
  have z0: ∀i (h:i<L.length),d[i]! =x0 i h:=fun i h=>by
   rw[getElem!_pos d i (by rw[D];exact h)];simp[d]
  have hH:HoldsK enc k w (N.ay 0) 0 d:=by
   intro t ht;rw[size_flatK,D]at ht;have B:t/k<L.length:=Nat.div_lt_of_lt_mul (by rw[SR];exact ht);have hm:t % k<k:=Nat.mod_lt _ r0;have hb:t/k*k+t % k=t:=Nat.div_add_mod' t k;have f1:t<c.size:=by omega
   constructor
   .simp only[World.cell?,h1,PT,Option.isSome_none,Rb,if_false];rw[get_flatK _ _ _ _ (by rw[D];exact ht),z0 _ B];show c[t]? =io (((PY k).map fun j=>c.getD (t/k*k+j) undef)[t % k]!);rw[getElem!_pos _ _ (by simpa using hm)];simp only[Q8,List.getElem_range,hb];rw[PU f1,Pk,PU f1];rfl
   .simp[World.frozen?,h1]
  have hO:SWO fun x y:yP M ev ok k=>lc (a0 x.1.1 y.1.1<0):=
   ⟨fun x=>decide_eq_false (Bc _ x.2.1),fun x y z a b=>decide_eq_true (tr _ _ _ x.2.1 y.2.1 z.2.1 (of_decide_eq_true a) (of_decide_eq_true b)),
    fun x y z a b=>decide_eq_false (Og _ _ _ x.2.1 y.2.1 z.2.1 (of_decide_eq_false a) (of_decide_eq_false b))⟩
  have R: ∀x:yP M ev ok k,VR M N (· <0) (ag (ev x.1.1)) (.agg (enc x).toArray):=fun x=>by
   refine .agg _ _ (by simp[I,e0]) fun j p A=>?_;rw[Ps,Pu]at A;obtain⟨q,B,rfl⟩:=A;refine .iv _ _ ?_;have:=x.2.2.2.2 j q B;rw[Pk,Qi,<-Pn];exact this
  have p0: ∀(m:Nat) (os:Array Obj) (dk:Array (yP M ev ok k)),dk.size=d.size-> ∀x y:yP M ev ok k,
    Calls P g (#[.agg (enc x).toArray,.agg (enc y).toArray]++ #[]) (grow (putRowK enc k (Sort.ahead w m) (N.ay 0) 0 dk) os) fun e w'=>
     e= .returned (.int .i64 (a0 x.1.1 y.1.1))∧ ∃q a2,w'=grow ((grow (putRowK enc k (Sort.ahead w m) (N.ay 0) 0 dk) os).drewN q) a2:=by
   intro m os dk _ x y;generalize hW:grow (putRowK enc k (Sort.ahead w m) (N.ay 0) 0 dk) os=W;have f0: ∀b,b<w.heap.size->b≠N.ay 0->W.heap[b]? =w.heap[b]? :=fun b hb hn=>by
    rw[<-hW];show((w.heap.modify (N.ay 0) _)++os)[b]? =_;rw[P5 (by simpa using hb),P4,be fun e=>hn e.symm]
   have v0:Rel M N (· <([]:List AO).length) (c9 0 []) W:=
    ⟨fun b c hb=>(hr.eh b c hb).mono (f0 b (hr.eh b c hb).lt fun e=>by
      have:=hr.dN 0 _ Z t0
      rw[e]at hb;rw[hb]at this;cases this),
     fun i o u=>(nomatch u),fun i o u=>(nomatch u),fun i o u=>(nomatch u),fun i j o p u=>(nomatch u)⟩
   refine((l1 x.1.1 y.1.1 x.2.1 y.2.1).2 M N W [.agg (enc x).toArray,.agg (enc y).toArray] v0 Z fun j p A=>?_).mono ?_
   .match j with
    |0=>cases A;exact R x
    |1=>cases A;exact R y
    |j+2=>simp at A
   .rintro e w' ⟨v,M',N',r,h',n',rfl,⟨rfl,rfl,rfl⟩,hx,_,hv⟩;cases hv with
    |iv _ _ h=>cases h;exact⟨rfl,H6 hx⟩
  have Y:=hS.1 enc I (fun x=>x.2.2.2.1) (fun x y=>a0 x.1.1 y.1.1) hO g #[] (N.ay 0) 0 b0 d w j1 p0 hH s1 (by omega);rw[D]at Y;refine Y.mono ?_;rintro e w' ⟨rfl,d',n,os,hpm,hst,rfl⟩;have c0:d'.size=L.length:=hpm.1.trans D;have i1:(d'.toList.map fun x=>x.1.1)=l':=by
   have a1:(d.toList.map fun x=>x.1.1)=L:=by
    refine List.ext_getElem (by simpa using D) fun i h1 h2=>?_;have h3:i<L.length:=h2;have:=z0 i h3;rw[getElem!_pos d i (by omega)]at this;rw[Q8,Array.getElem_toList,this]
   have j0:d'.toList.Perm d.toList:=by
    have:=hpm.2.2;rw[show d'.extract 0 L.length=d' by rw[<-c0,SQ],show d.extract 0 L.length=d by rw[<-D,SQ]]at this;exact this
   refine uV ((j0.map _).trans (by rw[a1];exact hp)) ?_ hs fun x hx y hy a b=>?_
   .rw[Qx];intro i j u A p1;simp only[PX,Rv]at u A;have:=of_decide_eq_false (hst i j (PC _) p1 (by omega));rw[getElem!_pos d' i u,getElem!_pos d' j A]at this;simpa using this
   .have hm: ∀z,z∈(d'.toList.map fun x=>x.1.1)->z∈L:=fun z hz=>by
     rw[<-a1];exact((j0.map _).mem_iff).1 hz
    exact KV x (hm x hx) y (hm y hy) b a
  subst i1;generalize hW:putRowK enc k (Sort.ahead w n) (N.ay 0) 0 d'=w1;have q0:w1.heap=w.heap.modify (N.ay 0) (onCells (putCells id 0 (flatK enc k d'))):=by rw[<-hW];rfl
  have d1:w1.heap.size=w.heap.size:=by rw[q0];simp
  have w0:OR M N (· <1) w1 0 (aF k (d'.toList.map fun x=>x.1.1) ev):=by
   refine .inr ⟨r0,putCells id 0 (flatK enc k d') c,T,?_,?_,?_,?_,?_⟩
   .rw[q0,P4,am Z,h1];rfl
   .simp[putCells,h2]
   .simp only[PX,Rv,c0,putCells,Array.size_mapIdx];omega
   .intro i e he;obtain⟨s,_,rfl⟩:=uK he;simp[e0]
   .intro i e j p he A;obtain⟨s,b1,rfl⟩:=uK he;rw[Ps,Pu]at A;obtain⟨q,B,rfl⟩:=A;rw[Ps,Pu]at b1;obtain⟨y,hy,rfl⟩:=b1;have u:i<d'.size:=by
     have:=(Pm.1 hy).1;simpa using this
    have A:j<k:=by rw[<-e0 y.1.1];exact(Pm.1 B).1
    have i0:=PQ k (show i+1<=d'.size from u);rw[Qr,Nat.one_mul]at i0;have m1:d'[i]! =y:=by
     rw[getElem!_pos d' i u];rw[PS,PU u]at hy;exact Qb hy
    have d0:(putCells id 0 (flatK enc k d') c).getD (i*k+j) undef=(enc y).getD j undef:=by
     have o1:i*k+j<c.size:=by rw[c0]at i0;omega
     rw[Pk];simp only[putCells,Array.getElem?_mapIdx];rw[PU o1,Qw,Qn,am ⟨PC _,by rw[size_flatK];omega⟩,R8,id,get_flatK _ _ _ _ (by omega)];have e1:(i*k+j)/k=i:=by rw[SR,Nat.mul_add_div r0,Nat.div_eq_of_lt A];rfl
     have e2:(i*k+j) % k=j:=by rw[SR,Nat.mul_add_mod,Nat.mod_eq_of_lt A]
     rw[e1,e2,m1,getElem!_pos _ j (by rw[I];exact A),Pn,Po (by rw[I];exact A)];rfl
    rw[d0];exact .iv _ _ (y.2.2.2.2 j q B)
  have G:=hr.write (i:=0) (o0:=aF k L ev) Z t0 w1 (aF k (d'.toList.map fun x=>x.1.1) ev) (by rw[<-hW];rfl) (by rw[<-hW];rfl) (by rw[<-hW];rfl) d1 (fun b hb=>by
   rw[q0,P4,be fun e=>hb e.symm]) w0 (by rw[<-hW];exact Sd _ _)
  have n0:Rel M N (· <1) ((0,io (aF k (d'.toList.map fun x=>x.1.1) ev))::c9 0 [aF k L ev]) (grow w1 os):=G.2.more fun b hb=>by
   show(w1.heap++os)[b]? =_;rw[P5 hb]
  have C: ∀i o,AH.get [(0,io (aF k (d'.toList.map fun x=>x.1.1) ev))] i=io o->AH.get ((0,io (aF k (d'.toList.map fun x=>x.1.1) ev))::c9 0 [aF k L ev]) i=io o:=by
   intro i o h;rw[AH.ax]at h ⊢;split at h
   .rename_i h6;rw[am h6];exact h
   .simp[AH.get]at h
  refine⟨_,M,N,.bm [],_,1,rfl,⟨rfl,rfl,rfl⟩,⟨G.1.os,G.1.tape,⟨G.1.output.out,G.1.output.drawn⟩,?_,?_,.refl _,fun b c h1 h2=>(nomatch (h1.symm.trans h2)),.refl _ _,fun _ h=>h,fun i o u=>G.1.fM i o (C i o u)⟩,?_,.bm [] #[] Z (by simp)⟩
  .show w.heap.size<=(grow w1 os).heap.size;rw[size_grow,d1];omega
  .intro b hb hn;have h7:=G.1.fP b hb hn;show(w1.heap++os)[b]? =_;rw[P5 (by omega)];exact h7
  .exact⟨n0.eh,fun i o u=>n0.used i o (C i o u),fun i o u=>n0.dN i o (C i o u),fun i o u=>n0.obj i o (C i o u),fun i j o p u A=>n0.inj i j o p (C i o u) (C j p A)⟩
def FP(P:Program)(f:Nat):Prop:=
 ∀(b:Nat) (es:Array MapEntry) (clock:Nat) (w:World),w.heap[b]? =io (.map es clock)->Calls P f #[.map (io b)] w fun e j=>e= .returned (.map (io w.heap.size))∧j=w.alloc (.map es clock)
def AO.yn:AO->Bool
 | .eC=>jp
 | .map ..=>jp
 | .gf ..=>jp
 |_=>kw
theorem OR.yn{M:Mem}{N:Nm}{U:Nat->Prop}{w:World}{i:Nat}{o:AO}(h:OR M N U w i o)(ho:o.yn=jp): ∃es clock,w.heap[N.ay i]? =io (.map es clock):=by
 cases o with
 |eC=>exact⟨_,_,h⟩
 |map=>obtain⟨es,clock,h1,_⟩:=h;exact⟨_,_,h1⟩
 |gf=>obtain⟨es,h1,_⟩:=h;exact⟨_,_,h1⟩
 |_=>cases ho
theorem OR.N9{M:Mem}{N u:Nm}{U y:Nat->Prop}{w x:World}{i j:Nat}{o:AO}(h:OR M N U w i o)(ho:o.yn=jp)(e:x.heap[u.ay j]? =w.heap[N.ay i]?):OR M u y x j o:=by
 cases o with
 |eC=>exact e.trans h
 |map=>obtain⟨es,clock,h1,b⟩:=h;exact⟨es,clock,e.trans h1,b⟩
 |gf=>obtain⟨es,h1,b⟩:=h;exact⟨es,e.trans h1,b⟩
 |_=>cases ho
theorem Fs{P:Program}{f:Nat}(hS:FP P f)(hc:gB P f){o:AO}(ho:o.yn=jp):bF P f [.mp 0] [o] (.mp 1) [(1,io o),(0,io o)] 2:=by
 refine⟨hc,fun M N w vs y b A=>?_⟩;obtain⟨v,rfl⟩: ∃v,vs=[v]:=by
  match vs,b with
  | [v],_=>exact⟨v,rfl⟩
 have u:=A 0 _ Z;simp only[Rj]at u;obtain rfl:v= .map (io (N.ay 0)):=by cases u;rfl
 have j:=y.obj 0 _ Z;obtain⟨es,clock,h1⟩:=j.yn ho;refine(hS (N.ay 0) es clock w h1).mono ?_;rintro e J ⟨rfl,rfl⟩;obtain⟨x,B,G,I,C,D⟩:=y.alloc (n:=1) (.map es clock) o 0 fun x g1 g2 g3=>j.N9 ho (by rw[g1,h1];exact heap_alloc_new w _);refine⟨_,M,x,.mp 1,_,2,rfl,⟨rfl,rfl,rfl⟩,C,D,?_⟩;have:=VR.mp (M:=M) (N:=x) (U:=(· <2)) 1 (by decide);rw[B]at this;exact this
end Go.Al
namespace Go.Al
open Go.MapKept
section
section
variable {P:Program} {ty:Ty} {nt:Nat} {s:AS} {Q:AQ} {k:List KI}
theorem uO(Y:bz P ty){o:Oper}{t:TypeId}{x:Operand}(ho:o.op= .range t x){i:Nat}{kc:KC}{V:Type}{e:V->IV}{z:V}{I:Value}{G:PV->V}{m:List (kc.K×V)}(hx:ev s.f x= .mp i)(hi:s.h.get i=io (.map kc e z I G m))
  {te:bG} (ht:ty t=io te) {kt et:TypeId} (R:te.k= .aO (.map kt et)) {d:Nat} (hd:o.dst=io d) (hlt:d<nt):
  OT P nt o s fun u=> ∃bs clock,bs.length=m.length∧bs.Nodup∧(∀b∈bs,b<clock)∧u=⟨(d,.ptr s.nx 0)::s.f,(s.nx,io (.dP (.mp i) clock []))::(i,io (.gf kc e z I G m bs clock))::s.h,s.nx+1⟩:=by
 have hu:P.underlying t=io (.map kt et):=by
  have:=(Y _ _ ht).2.1;rw[R]at this;exact this.1
 intro M N a w A K Z hk;have B:=aH A.2.1 x;rw[hx]at B;have J:a.eval x= .map (io (N.ay i)):=by
  generalize a.eval x=y at B;cases B;rfl
 obtain⟨ents,clock,g1,g2,g3⟩:=A.1.obj i _ hi;obtain⟨q1,q2⟩:=A.1.write hi rfl w (.gf kc e z I G m (ents.toList.map MapEntry.born) clock) rfl rfl rfl rfl (fun _ _=>rfl) ⟨ents,g1,g2,g3,rfl⟩
 obtain⟨D,r1,r2,r3,r4,r5⟩:=q2.alloc (.mapIter (io (N.ay i)) clock #[] clock) (.dP (.mp i) clock []) 0 (fun D h1 h2 h3=>
  ⟨N.ay i,by have:=VR.mp (M:=M) (N:=D) (U:=(· <s.nx+1)) i (QW (A.1.used i _ hi));rwa[h3.ay i (A.1.used i _ hi)]at this,by rw[h1];exact heap_alloc_new w _⟩)
 have C:(execOp a.eval o).run P w= .ok (.value (.pointer (io ⟨w.heap.size,0,is⟩))) (w.alloc (.mapIter (io (N.ay i)) clock #[] clock)):=by
  simp only[execOp,ho,J];simp[Instr.range,run_underlying hu,getObj,Sem.run,g1,Result.andThen]
 unfold Oper.wp;rw[C];simp only[Oper.upon];refine hk M D _ _ _ (q1.trans r4) ?_ ⟨_,clock,by simp[g2.size],?_,fun b hb=>?_,rfl⟩
 .rw[hd];refine Fits.put (s:=⟨s.f,(s.nx,io (.dP (.mp i) clock []))::(i,io (.gf kc e z I G m (ents.toList.map MapEntry.born) clock))::s.h,s.nx+1⟩) ⟨r5,fun d=>(A.2.1 d).mono (.refl _) r3 (fun i hi=>QW hi),A.2.2⟩ d _ _ hlt ?_;have:=VR.ptr (M:=M) (N:=D) (U:=(· <s.nx+1)) s.nx 0 (by omega);rw[r1]at this;exact this
 .rw[List.Nodup,RG,Qx];intro p q hp hq b0 he;have:=g2.inj p q _ _ (by rw[<-PS,Po hp]) (by rw[<-PS,Po hq]) he;omega
 .obtain⟨x,a0,rfl⟩:=P1.1 hb;obtain⟨j,hj⟩:=Qd a0;exact g2.lt j x (by simpa using hj)
theorem x7{o:Oper}{it:Operand}(ho:o.op= .next it kw){i j:Nat}(n0:ev s.f it= .ptr i 0){kc:KC}{V:Type}{e:V->IV}{z:V}{zv:Value}{dv:PV->V}{m:List (kc.K×V)}{bs A:List Nat}{clock:Nat}
  (hi:s.h.get i=io (.dP (.mp j) clock A)) (hj:s.h.get j=io (.gf kc e z zv dv m bs clock)) {d:Nat} (hd:o.dst=io d) (hlt:d<nt):
  OT P nt o s fun u=>((∀(q b:Nat),bs[q]? =io b->b∈A)∧u=⟨(d,.bm [.kb kw])::s.f,s.h,s.nx⟩)∨
   ∃(q:Nat) (x:kc.K×V) (b:Nat),m[q]? =io x∧bs[q]? =io b∧b∉A∧u=⟨(d,.bm [.kb jp,kc.pk x.1,(e x.2).pv])::s.f,(i,io (.dP (.mp j) clock (A++ [b])))::s.h,s.nx⟩:=by
 intro M N a w hf K Z hk;have hx:=aH hf.2.1 it;rw[n0]at hx;have g0:=hf.1.obj i _ hi;have a0:N.ay i<w.heap.size:=OR.lt g0 rfl;have f0:a.eval it= .pointer (io ⟨N.ay i,0,is⟩):=by
  generalize a.eval it=y at hx;cases hx;rfl
 obtain⟨b0,d0,h1⟩:=g0;have m0:b0=N.ay j:=by cases d0;rfl
 subst m0;obtain⟨ents,hb,h3,h4,h5⟩:=hf.1.obj j _ hj;have c0: ∀x∈ents.toList,x.born<clock:=by
  intro x hx;obtain⟨j,hj⟩:=Qd hx;exact h3.lt j x (by simpa using hj)
 have e0: ∀q (G:q<ents.size),bs[q]? =io ents[q].born:=fun q G=>by
  rw[<-h5,Ps,PS,PU G];rfl
 unfold Oper.wp;rcases run_next_at (P:=P) w o.type (N.ay i) (N.ay j) clock clock A.toArray ents clock h1 hb c0 (Pv _) with⟨g1,g2⟩|⟨x,k0,I,j0,g2⟩
 .have D:(execOp a.eval o).run P w= .ok (.value (.tuple #[.bool kw])) w:=by
   simp only[execOp,ho,f0];exact aX g2
  rw[D];simp only[Oper.upon]
  refine hk M N ⟨(d,.bm [.kb kw])::s.f,s.h,s.nx⟩ _ w (.refl _ _ _ _ _) (by
   rw[hd]
   exact hf.put d _ _ hlt (.bm _ _ rfl fun j p C=>by
    match j with
    |0=>simp at C;subst C;exact .kb _
    |j+1=>simp at C)) (.inl ⟨fun q b G=>?_,rfl⟩)
  have p0:q<ents.size:=by
   have:=(Pm.1 G).1;rw[<-h5]at this;simpa using this
  rw[e0 q p0]at G;cases G;refine Decidable.byContradiction fun hn=>?_
  have:ents[q]∈leftOf ents A.toArray:=by
   simp only[leftOf,Sc];exact⟨by simp,by simpa using hn⟩
  rw[Qz g1]at this;simp at this
 .have D:(execOp a.eval o).run P w= .ok (.value (.tuple #[.bool jp,x.key,x.val])) (l0 I (N.ay i) (.mapIter (io (N.ay j)) clock (A.toArray.push x.born) clock)):=by
   simp only[execOp,ho,f0];rw[Sem.run_bind,g2];rfl
  rw[D];simp only[Oper.upon];simp only[leftOf,Array.mem_toList_iff,Sc]at k0;obtain⟨r0,s0⟩:=k0;obtain⟨q,G,i0⟩:=Array.getElem_of_mem r0;have q0:q<m.length:=by rw[<-h3.size];exact G
  have Y:m[q]? =io m[q]:=Po q0;have B:I.heap=w.heap∧I.os=w.os∧I.tape=w.tape∧I.output=w.output:=by
   rcases j0 with rfl|rfl<;>exact⟨rfl,rfl,rfl,rfl⟩
  have o0:OR M N (· <s.nx) (l0 I (N.ay i) (.mapIter (io (N.ay j)) clock (A.toArray.push x.born) clock)) i (.dP (.mp j) clock (A++ [x.born])):=by
   refine⟨N.ay j,d0,?_⟩;show(I.heap.setIfInBounds _ _)[_]? =_;rw[PR,am rfl,B.1,am a0];simp
  obtain⟨q1,q2⟩:=hf.1.write hi rfl (l0 I (N.ay i) (.mapIter (io (N.ay j)) clock (A.toArray.push x.born) clock)) _ B.2.1 B.2.2.1 B.2.2.2 (by simp[l0,B.1]) (fun c hc=>by
   show(I.heap.setIfInBounds _ _)[c]? =_
   rw[PR,be (fun e=>hc e.symm),B.1]) o0 (j0.elim (fun e=>e▸Pv _) fun e=>e▸QZ _)
  have J:=h3.key q _ Y;have R:=h3.val q _ Y;rw[h3.zV G,i0]at J R
  refine hk M N ⟨(d,.bm [.kb jp,kc.pk m[q].1,(e m[q].2).pv])::s.f,(i,io (.dP (.mp j) clock (A++ [x.born])))::s.h,s.nx⟩ _ _ q1 (by
   rw[hd];refine Fits.put (s:=⟨s.f,(i,io (.dP (.mp j) clock (A++ [x.born])))::s.h,s.nx⟩) ⟨q2,hf.2⟩ d _ _ hlt (.bm _ _ rfl fun q p C=>?_)
   match q with
   |0=>simp at C;subst C;exact .kb _
   |1=>simp at C;subst C;simp only[Pk];simp;rw[J];exact uU kc _
   |2=>simp at C;subst C;exact uP R
   |q+3=>simp at C) (.inr ⟨q,m[q],x.born,Y,by rw[e0 q G,i0],by simpa using s0,rfl⟩)
theorem vp{o:Oper}{Y:Operand}(ho:o.op= .entry Y){i j:Nat}(e0:ev s.f Y= .ptr i 0){kc:KC}{V:Type}{e:V->IV}{z:V}{zv:Value}{dv:PV->V}{m:List (kc.K×V)}{bs A:List Nat}{clock:Nat}
  (hi:s.h.get i=io (.dP (.mp j) clock A)) (hj:s.h.get j=io (.gf kc e z zv dv m bs clock)) {q:Nat} {x:kc.K×V} {b:Nat} (hl:A.getLast? =io b) (hq:bs[q]? =io b) (hm:m[q]? =io x) {s':AS}
  (hp:putDst nt o (.bm [kc.pk x.1,(e x.2).pv]) s=io s'):OT P nt o s fun u=>u=s':=by
 refine OT.value hp fun M N a w hf=>?_;have hx:=aH hf.2.1 Y;rw[e0]at hx
 have d0:a.eval Y= .pointer (io ⟨N.ay i,0,is⟩):=by
  generalize a.eval Y=y at hx;cases hx;rfl
 obtain⟨b0,a0,h1⟩:=hf.1.obj i _ hi;have c0:b0=N.ay j:=by cases a0;rfl
 subst c0;obtain⟨ents,hb,h3,h4,h5⟩:=hf.1.obj j _ hj;have I:q<ents.size:=by
  have:=(Pm.1 hq).1;rw[<-h5]at this;simpa using this
 have J:ents[q].born=b:=by
  rw[<-h5,Ps,PS,PU I]at hq;simpa using hq
 have B:=h3.key q _ hm;have C:=h3.val q _ hm;rw[h3.zV I]at B C;have G:ents.find? (fun e=>e.born==b)=io ents[q]:=by
  rw[Array.find?_eq_some_iff_getElem];refine⟨by simp[J],q,I,rfl,fun p f0=>?_⟩;simp only[Qs,beq_eq_false_iff_ne];intro he;have:=h3.inj p q ents[p] ents[q] (by simp) (by simp) (he.trans J.symm);omega
 refine⟨.tuple #[ents[q].key,ents[q].val],w,M,N,?_,.refl _ _ _ _ _,hf,?_⟩
 .simp only[execOp,ho,d0];refine aX ?_;have D:A.toArray.back? =io b:=by simpa using hl
  simp[Instr.entry,getObj,Sem.run,h1,hb,D,G,Result.andThen]
 .refine .bm _ _ Z fun p r R=>?_
  match p with
  |0=>simp at R;subst R;simp only[Pk];simp;rw[B];exact uU kc _
  |1=>simp at R;subst R;exact uP C
  |p+2=>simp at R
theorem Ac(C:bz P ty){o:Oper}{J ko:Operand}{t t':TypeId}(ho:o.op= .call ⟨.builtin .delete, #[J,ko], #[t,t']⟩){j:Nat}(hm:ev s.f J= .mp j){kc:KC}{V:Type}{e:V->IV}{z:V}{zv:Value}{Y:PV->V}{m:List (kc.K×V)}{bs:List Nat}{clock:Nat}
  (hj:s.h.get j=io (.gf kc e z zv Y m bs clock)) {te:bG} (ht:ty t=io te) {kt et:TypeId} (d0:te.k= .aO (.map kt et)) (I:dp ty kt=io kc) {R:kc.K} (b0:kc.dk (ev s.f ko)=io R) {q:Nat} (D:jn kc m R=io q) {s':AS}
  (hp:putDst nt o .any ⟨s.f,(j,io (.gf kc e z zv Y (m.eraseIdx q) (bs.eraseIdx q) clock))::s.h,s.nx⟩=io s'):OT P nt o s fun u=>u=s':=by
 have hu:P.underlying t=io (.map kt et):=by
  have:=(C _ _ ht).2.1;rw[d0]at this;exact this.1
 refine OT.value hp fun M N a w A=>?_;have e0:=BA b0 (aH A.2.1 ko);have B:=aH A.2.1 J;rw[hm]at B
 have i0:a.eval J= .map (io (N.ay j)):=by
  generalize a.eval J=y at B;cases B;rfl
 obtain⟨ents,h1,h2,h3,h4⟩:=A.1.obj j _ hj;have f0:=OR.lt (A.1.obj j _ hj) Z;have a0:=jN (P:=P) (w:=w) C I R ents.isEmpty 9994;have G:=lu (P:=P) (w:=w) C I R h2.keys;rw[D]at G;have hg:(getObj (N.ay j)).run P w= .ok (.map ents clock) w:=by simp[getObj,Sem.run,h1]
 obtain⟨v,g0,_⟩:=kK D;have j0:=(Pm.1 g0).1;have c0:=h2.erase j0
 obtain⟨g3,g4⟩:=A.1.write hj Z (l0 w (N.ay j) (.map (ents.eraseIdxIfInBounds q) clock)) (.gf kc e z zv Y (m.eraseIdx q) (bs.eraseIdx q) clock) Z Z Z (by simp[l0]) (fun b hb=>by
  show(w.heap.setIfInBounds _ _)[b]? =_
  rw[PR,be (fun e=>hb e.symm)]) ⟨ents.eraseIdxIfInBounds q,by
   show(w.heap.setIfInBounds _ _)[_]? =_;rw[PR,am Z,am f0],c0,h3,by
   rw[<-h4];have key: ∀(l:List MapEntry) (n:Nat),(l.eraseIdx n).map MapEntry.born=(l.map MapEntry.born).eraseIdx n:=by
    intro l
    induction l with
    |nil=>intro n;rfl
    |cons x l ih=>intro n;cases n with
     |zero=>rfl
     |succ n=>simp[List.eraseIdx,ih n]
   simp[key]⟩
 refine⟨.tuple #[],_,M,N,?_,g3,⟨g4,A.2.1,A.2.2⟩,.any _⟩;simp only[execOp,ho,resolve];simp[invoke,builtin,i0,e0,Builtin.delete_,run_underlying hu,hg,a0,G,hP (P:=P) _ h1]
theorem IF{kc:KC}{V:Type}{e:V->IV}{z:V}{j:Value}{b:PV->V}{m:List (kc.K×V)}{bs:List Nat}{clock:Nat}:dV (.gf kc e z j b m bs clock) (.map kc e z j b m):=
 ⟨fun _=>rfl,fun _ _ _ _ _ ⟨ents,h1,h2,h3,_⟩=>⟨ents,clock,h1,h2,h3⟩⟩
end
def jW(bs vs:List Nat):List Nat:=vs.map fun j=>bs.getD j 0
theorem su{bs vs:List Nat}{q b:Nat}(hb:bs[q]? =io b)(h:b∉jW bs vs):q∉vs:=fun m=>h (P1.2 ⟨q,m,by rw[Pn,hb];rfl⟩)
theorem DE{bs vs:List Nat}(hn:bs.Nodup)(C: ∀j∈vs,j<bs.length)(h: ∀(q b:Nat),bs[q]? =io b->b∈jW bs vs): ∀q,q<bs.length->q∈vs:=by
 intro q y;obtain⟨j,A,x⟩:=P1.1 (h q _ (Po y));have u:=C j A;rw[Pn,Po u,Qn]at x;have:j=q:=by
  have B:=Qx.1 hn;rcases RC j q with g|g|g
  .exact absurd x (B j q u y g)
  .exact g
  .exact absurd x.symm (B q j y u g)
 exact this▸A
theorem vJ{n:Nat}{vs:List Nat}(hn:vs.Nodup)(b: ∀j∈vs,j<n)(h: ∀q,q<n->q∈vs):vs.Perm (PY n):=
 (Q4 hn List.nodup_range).2 fun q=>⟨fun m=>QQ.2 (b q m),fun m=>h q (QQ.1 m)⟩
theorem yR{n:Nat}{vs:List Nat}(hn:vs.Nodup)(u: ∀j∈vs,j<n):vs.length<=n:=by
 have:=QH hn (l₂:=PY n) (fun i b=>QQ.2 (u i b));simpa using this
theorem fL{α:Type}(m:List α)(d:α):(PY m.length).map (fun j=>m.getD j d)=m:=by
 refine List.ext_getElem (by simp) fun i h1 b=>?_;simp[Po b]
theorem Et{α:Type}{m:List α}{d:α}{bs vs:List Nat}(hl:bs.length=m.length)(hn:bs.Nodup)(h1:vs.Nodup)(x: ∀j∈vs,j<m.length)(h: ∀(q b:Nat),bs[q]? =io b->b∈jW bs vs):(vs.map fun j=>m.getD j d).Perm m:=by
 have:=(vJ h1 (fun j u=>x j u) fun q y=>DE hn (fun j u=>by rw[hl];exact x j u) h q (by rw[hl];exact y)).map fun j=>m.getD j d;rwa[fL]at this
theorem uI{bs vs:List Nat}{b:Nat}:(jW bs vs++ [b]).getLast? =io b:=by simp
theorem pH{bs vs:List Nat}{q b:Nat}(hb:bs[q]? =io b):jW bs (vs++ [q])=jW bs vs++ [b]:=by
 unfold jW;rw[PH,List.map_singleton,Pn,hb];rfl
section
variable {P:Program} {nt:Nat} {Q:AQ} {k:List KI} {s:AS}
theorem Bk{body:Code}(n:Nat)(I:List Nat->AS)(J:List Nat->Prop)(B:List Nat)(R:J [])(h0:Wk s.nx B s (I []))
  (x: ∀vs:List Nat,vs.Nodup->(∀j∈vs,j<n)->J vs->GO P nt (.code body:: .lp (fun t=> ∃j,j<n∧j∉vs∧J (vs++ [j])∧ ∃L,Wk s.nx L t (I (vs++ [j])))::k) Q (I vs)):GO P nt (.code (.loop body)::k) Q s:=by
 refine gu (σ:={vs:List Nat//vs.Nodup∧(∀j∈vs,j<n)∧J vs}) (fun v=>I v.1) (fun v=>n-v.1.length) ⟨[],Qa,by simp,R⟩ B h0 fun v=>?_;obtain⟨vs,h1,C,D⟩:=v;refine ll ?_ (x vs h1 C D)
 rintro t ⟨j,g1,g2,g3,L,g4⟩;have u: ∀i∈vs++ [j],i<n:=by
  intro i hi;rcases PI.1 hi with hi|hi
  .exact C i hi
  .rw[PA.1 hi];exact g1
 have A:(vs++ [j]).Nodup:=by
  rw[QX];refine⟨h1,by simp,fun a G b hb=>?_⟩;rw[PA.1 hb];intro e;exact g2 (e▸G)
 have y:(vs++ [j]).length<=n:=by
  have:=QH A (l₂:=PY n) (fun i hi=>QQ.2 (u i hi));simpa using this
 refine⟨⟨vs++ [j],A,u,g3⟩,L,?_,g4⟩;show n-(vs++ [j]).length<n-vs.length;simp only[Pp,Qq]at y ⊢;omega
end
section
variable {n i:Nat} {σ:Nat->Nat} {h r:AH}
theorem oG{V:Type}{kc:KC}{ev:V->IV}{z:V}{u:Value}{b:PV->V}{m j:List (kc.K×V)}{bs:List Nat}{clock:Nat}(ho:h.get (σ i)=io (.gf kc ev z u b m bs clock))(he:m=j)(hi:PL i n=jp)(hr:mP n σ h r):mP n σ h ((i,io (.map kc ev z u b j))::r):=
 ⟨⟨_,ho,by subst he;exact IF⟩,Pj hi,ac,hr⟩
end
theorem rf{l:List Nat}(hn:l.Nodup){q j:Nat}(h:l[q]? =io j):l.eraseIdx q=l.filter fun x=>!(x==j):=by
 induction l generalizing q with
 |nil=>simp at h
 |cons y r ih=>
  rw[P2]at hn;cases q with
  |zero=>
   simp at h;subst h;rw[List.eraseIdx_zero,List.tail_cons,Rf];simp only[beq_self_eq_true,RR,Rb,if_false]
   symm
   rw[R2];intro x A;have: ¬x=y:=fun e=>hn.1 (e▸A)
   simpa using this
  |succ q=>
   have b:r[q]? =io j:=by simpa using h
   have u:j∈r:=P0 b;have: ¬y=j:=fun e=>hn.1 (e▸u);rw[List.eraseIdx_cons_succ,ih hn.2 b,Rf,am (by simpa using this)]
theorem j6{α β:Type}(f:α->β): ∀(l:List α) (q:Nat),(l.map f).eraseIdx q=(l.eraseIdx q).map f
 | [],_=>rfl
 |_::_,0=>rfl
 |x::r,q+1=>by simp[List.eraseIdx,j6 f r q]
def fV(n:Nat)(dl:Nat->Bool)(vs:List Nat):List Nat:=(PY n).filter fun j=>!(lc (j∈vs)&&dl j)
section
variable {n:Nat} {dl:Nat->Bool} {vs:List Nat}
theorem vd:fV n dl []=PY n:=by
 unfold fV;rw[R2];intro j _;simp
theorem yk:(fV n dl vs).Nodup:=RH _ List.nodup_range
theorem yl: ∀j∈fV n dl vs,j<n:=fun _ b=>QQ.1 (PZ.1 b).1
theorem zx{j:Nat}(h:dl j=kw):fV n dl (vs++ [j])=fV n dl vs:=by
 unfold fV;refine Rt fun i _=>?_;by_cases e:i=j
 .subst e;simp[h]
 .simp[e]
theorem CD{j q:Nat}(h:dl j=jp)(b:(fV n dl vs)[q]? =io j):fV n dl (vs++ [j])=(fV n dl vs).eraseIdx q:=by
 rw[rf yk b];unfold fV;rw[List.filter_filter];refine Rt fun i _=>?_;by_cases e:i=j
 .subst e;simp[h]
 .simp[e]
theorem CE(h: ∀j∈fV n dl vs,j∈vs):fV n dl vs=(PY n).filter fun j=>!dl j:=by
 unfold fV at*
 refine Rt fun i b=>?_;by_cases e:i∈vs
 .simp[e]
 .have:i∈(PY n).filter fun j=>!(lc (j∈vs)&&dl j):=PZ.2 ⟨b,by simp[e]⟩
  exact absurd (h i this) e
end
abbrev mr{α:Type}(m:List α)(d:α)(dl:Nat->Bool)(vs:List Nat):List α:=(fV m.length dl vs).map fun j=>m.getD j d
abbrev nA(n:Nat)(bs:List Nat)(dl:Nat->Bool)(vs:List Nat):List Nat:=(fV n dl vs).map fun j=>bs.getD j 0
section
variable {α:Type} {m:List α} {d:α} {dl:Nat->Bool} {vs:List Nat} {bs:List Nat}
theorem Cx:mr m d dl []=m:=by unfold mr;rw[vd,fL]
theorem Cw:(mr m d dl vs).Sublist m:=by
 have h:((fV m.length dl vs).map fun j=>m.getD j d).Sublist ((PY m.length).map fun j=>m.getD j d):=List.Sublist.map _ List.filter_sublist;rwa[fL]at h
theorem Cy(h:bs.length=m.length):nA m.length bs dl []=bs:=by unfold nA;rw[vd,<-h,fL]
theorem left_at{q b:Nat}{x:α}(hl:bs.length=m.length)(h1:(mr m d dl vs)[q]? =io x)(y:(nA m.length bs dl vs)[q]? =io b): ∃j,(fV m.length dl vs)[q]? =io j∧m[j]? =io x∧bs[j]? =io b∧j<m.length:=by
 rw[Ps,Pu]at h1 y;obtain⟨j,g1,g2⟩:=h1;obtain⟨A,g3,g4⟩:=y;rw[g1]at g3;cases g3;have u:=yl j (P0 g1);refine⟨j,g1,?_,?_,u⟩
 .rw[<-g2,Pn,Po u];rfl
 .rw[<-g4,Pn,Po (by rw[hl];exact u)];rfl
theorem Ex{q j:Nat}(h:dl j=jp)(b:(fV m.length dl vs)[q]? =io j):mr m d dl (vs++ [j])=(mr m d dl vs).eraseIdx q∧nA m.length bs dl (vs++ [j])=(nA m.length bs dl vs).eraseIdx q:=by
 unfold mr nA;rw[CD h b,j6,j6];exact⟨rfl,rfl⟩
theorem Ey(hl:bs.length=m.length)(hn:bs.Nodup)(J: ∀j∈vs,j<m.length)(D:α->Bool)(B: ∀j,dl j=D (m.getD j d))(h: ∀(q b:Nat),(nA m.length bs dl vs)[q]? =io b->b∈jW bs vs):mr m d dl vs=m.filter fun e=>!D e:=by
 have key: ∀j∈fV m.length dl vs,j∈vs:=by
  intro j y;obtain⟨q,I⟩:=Qd y;have G:=yl j y;have hb:=h q (bs.getD j 0) (by unfold nA;rw[Ps,I];rfl);obtain⟨i,x,u⟩:=P1.1 hb;have C:=J i x;rw[Pn,Pn,Po (by omega:i<bs.length),Po (by omega:j<bs.length),Qn,Qn]at u;have A:=Qx.1 hn;rcases RC i j with g|g|g
  .exact absurd u (A i j (by omega) (by omega) g)
  .exact g▸x
  .exact absurd u.symm (A j i (by omega) (by omega) g)
 unfold mr;rw[CE key];have:=congrArg (List.filter fun e=>!D e) (fL m d);rw[<-this,List.filter_map];congr 1;refine Rt fun i _=>?_;simp[B]
end
theorem Bu{kc:KC}{V:Type}: ∀{m:List (kc.K×V)} {q:Nat} {x:kc.K×V},(m.map (·.1)).Nodup->m[q]? =io x->jn kc m x.1=io q
 | [],q,x,_,h=>by simp at h
 |(a,b)::r,0,x,_,h=>by
  simp at h;subst h;simp[jn]
 |(a,b)::r,q+1,x,hn,h=>by
  rw[PB,P2]at hn;have j:r[q]? =io x:=by simpa using h
  have: ¬a=x.1:=fun e=>hn.1 (P1.2 ⟨x,P0 j,e.symm⟩);simp[jn,this,Bu hn.2 j]
def Nm.one(b e:Nat):Nm:=⟨fun _=>b,fun _=>e⟩
inductive SB:Type 1 where
 |obj (o:AO) (e:Nat)
 |out (i e:Nat)
abbrev bn:=Nat->Option SB
def bn.nil:bn:=fun _=>is
def bn.put(X:bn)(b:Nat)(x:SB):bn:=fun c=>if c=b then io x else X c
def bn.still(X:bn):Prop:= ∀b i e,X b≠io (.out i e)
theorem bn.eQ(X:bn)(b:Nat)(x:SB):X.put b x b=io x:=by simp[bn.put]
theorem bn.iA(X:bn){b c:Nat}(x:SB)(h:c≠b):X.put b x c=X c:=by simp[bn.put,h]
theorem bn.Hz(X:bn)(b:Nat)(x y:SB):(X.put b x).put b y=X.put b y:=by
 funext c;simp only[bn.put];split<;>rfl
structure ef (M:Mem) (N:Nm) (n:Nat) (h:AH) (X:bn) (w:World):Prop where
 real: ∀b o e,X b=io (.obj o e)->o.real=jp
 obj: ∀b o e,X b=io (.obj o e)->OR M (Nm.one b e) (fun _=>False) w 0 o
 eh: ∀b o e,X b=io (.obj o e)->M b=is
 apart: ∀b o e,X b=io (.obj o e)-> ∀i p,h.get i=io p->p.real=jp->N.ay i≠b
 out: ∀b i e,X b=io (.out i e)->i<n∧N.ay i=b∧N.ext i=e
def AO.all(G:PV->Prop):AO->Prop
 | .cells cs _=> ∀p∈cs,G p
 | .row _ es=> ∀e∈es,∀p∈e,G p
 | .dP q _ _=>G q
 |_=>True
theorem AO.all_true(o:AO):o.all fun _=>True:=by cases o<;>simp[AO.all]
theorem OR.move{M J:Mem}{N B:Nm}{U U':Nat->Prop}{w I:World}{i D:Nat}{o:AO}{G:PV->Prop}(hM:M.le J)(Y:o.all G)(hV: ∀p x,G p->VR M N U p x->VR J B U' p x)
  (hb:B.ay D=N.ay i) (he:B.ext D=N.ext i) (hw:I.heap[N.ay i]? =w.heap[N.ay i]?) (h:OR M N U w i o):OR J B U' I D o:=by
 cases o with
 |cells cs T0=>
  obtain⟨c,T,h1,u,y,A,R⟩:=h;exact⟨c,T,by rw[hb,hw,h1],by rw[he,u],y,fun j p C=>hV _ _ (Y p (P0 C)) (A j p C),R⟩
 |row sz es=>
  rcases h with h|⟨h0,c,T,h1,u,y,A,R⟩
  .exact .inl h
  exact .inr ⟨h0,c,T,by rw[hb,hw,h1],by rw[he,u],y,A,fun k e j p hk C=>hV _ _ (Y e (P0 hk) p (P0 C)) (R k e j p hk C)⟩
 |bp l T=>
  rcases h with h|⟨c,h1,u,y,A⟩
  .exact .inl h
  exact .inr ⟨c,by rw[hb,hw,h1],by rw[he,u],y,A⟩
 |eC=>show I.heap[B.ay D]? =_;rw[hb,hw];exact h
 |map kc ev z zv dv m=>
  obtain⟨e,cl,h1,u,y⟩:=h;exact⟨e,cl,by rw[hb,hw,h1],u.mono hM,y.mono hM⟩
 |bL kc ev m l cu=>
  rcases h with⟨h1,u,y,A⟩|⟨b,e,cl,se,h1,u,y,A⟩
  .exact .inl ⟨h1,u,y,by rw[hb,hw,A]⟩
  .exact .inr ⟨b,e,cl,se,by rw[hb,hw,h1],hM _ _ u,y.mono hM,A⟩
 |dK s p=>show I.heap[B.ay D]? =_;rw[hb,hw];exact h
 |gf kc ev z zv dv m bs c=>
  obtain⟨e,h1,u,y,A⟩:=h;exact⟨e,by rw[hb,hw,h1],u.mono hM,y.mono hM,A⟩
 |dP q c l=>
  obtain⟨b,h1,u⟩:=h;exact⟨b,hV _ _ Y h1,by rw[hb,hw,u]⟩
theorem VR.AY{M b:Mem}{N j:Nm}{u:Nat->Prop}(hM:M.le b){p:PV}{x:Value}(h:VR M N (fun _=>False) p x):VR b j u p x:=
 h.mono hM ⟨fun _ h=>h.elim,fun _ h=>h.elim⟩ (fun _ h=>h.elim)
def PV.flat:PV->Prop
 | .iv _=>True
 | .kb _=>True
 | .any=>True
 |_=>False
theorem VR.G0{M:Mem}{N j:Nm}{U u:Nat->Prop}{p:PV}{x:Value}(hp:p.flat)(h:VR M N U p x):VR M j u p x:=by
 cases h with
 |iv x y h=>exact .iv _ _ h
 |kb b=>exact .kb _
 |any x=>exact .any _
 |_=>exact hp.elim
def Own(N:Nm)(h:AH)(X:bn)(b:Nat):Prop:=(∃i o,h.get i=io o∧o.real=jp∧N.ay i=b)∨ ∃o e,X b=io (.obj o e)
structure jx (M:Mem) (N:Nm) (n:Nat) (h:AH) (X:bn) (w:World) (M':Mem) (N':Nm) (n':Nat) (h':AH) (X':bn) (w':World):Prop where
 os:w'.os=w.os
 tape:w'.tape=w.tape
 output:qZ w w'
 size:w.heap.size<=w'.heap.size
 fP: ∀b,b<w.heap.size-> ¬Own N h X b->w'.heap[b]? =w.heap[b]?
 oF:M.le M'
 gE: ∀b c,M b=is->M' b=io c->w.heap.size<=b∨Own N h X b
 nm:N.agree N' (· <n)
 ule:n<=n'
 fM: ∀b,Own N' h' X' b->w.heap.size<=b∨Own N h X b
theorem jx.refl(M:Mem)(N:Nm)(n:Nat)(h:AH)(X:bn)(w:World):jx M N n h X w M N n h X w:=
 ⟨rfl,rfl,⟨rfl,Pv _⟩,Pv _,fun _ _ _=>rfl,.refl _,fun b c h1 j=>by simp[h1]at j,.refl _ _,Pv _,fun _ h=> .inr h⟩
theorem jx.trans{M u x:Mem}{N y A:Nm}{n I J:Nat}{h h1 D:AH}{X B C:bn}{w R Y:World}
  (a:jx M N n h X w u y I h1 B R) (b:jx u y I h1 B R x A J D C Y):jx M N n h X w x A J D C Y where
 os:=b.os.trans a.os
 tape:=b.tape.trans a.tape
 output:=b.output.trans a.output
 size:=P9 a.size b.size
 fP:=fun k hk G=>by
  rw[b.fP k (Rn hk a.size) (fun ho=>?_),a.fP k hk G];rcases a.fM k ho with h3|h3
  .omega
  .exact G h3
 oF:=a.oF.trans b.oF
 gE:=fun k c h3 h4=>by
  cases h5:u k with
  |some c'=>exact a.gE k c' h3 h5
  |none=>
   rcases b.gE k c h5 h4 with h6|h6
   .exact .inl (P9 a.size h6)
   .exact a.fM k h6
 nm:=⟨fun i j=>(b.nm.ay i (Rn j a.ule)).trans (a.nm.ay i j),fun i j=>(b.nm.ext i (Rn j a.ule)).trans (a.nm.ext i j)⟩
 ule:=P9 a.ule b.ule
 fM:=fun k hk=>by
  rcases b.fM k hk with h3|h3
  .exact .inl (P9 a.size h3)
  .exact a.fM k h3
theorem jx.frame{M R:Mem}{N Y:Nm}{n J:Nat}{h h':AH}{X:bn}{w w':World}(x:Ext M N (· <n) h w R Y (· <J) h' w')(hs:ef M N n h X w):
  jx M N n h X w R Y J h' X w'∧ef R Y J h' X w':=by
 have D: ∀b o e,X b=io (.obj o e)->b<w.heap.size:=fun b o e hb=>(hs.obj b o e hb).lt (hs.real b o e hb);have B:n<=J:=Ro fun hh=>absurd (x.ule J hh) (SM _);refine⟨⟨x.os,x.tape,x.output,x.size,fun b hb hn=>x.fP b hb fun i o hi I he=>hn (.inl ⟨i,o,hi,I,he⟩),x.oF,fun b c h1 h2=>?_,x.nm,B,fun b hb=>?_⟩,hs.real,fun b o e hb=>?_,fun b o e hb=>?_,fun b o e hb i p hi I a0=>?_,fun b i e hb=>?_⟩
 .rcases x.gE b c h1 h2 with u|⟨i,o,u,C,A⟩
  .exact .inl u
  .exact .inr (.inl ⟨i,o,u,C,A⟩)
 .rcases hb with⟨i,o,u,C,A⟩|hb
  .rcases x.fM i o u C with h6|⟨j,p,h6,h7,h8⟩
   .exact .inl (A▸h6)
   .exact .inr (.inl ⟨j,p,h6,h7,h8.trans A⟩)
  .exact .inr (.inr hb)
 .refine OR.move (G:=fun _=>True) x.oF (AO.all_true o) (fun p y _ hv=>hv.AY x.oF) Z Z ?_ (hs.obj b o e hb);exact x.fP b (D b o e hb) (hs.apart b o e hb)
 .cases hM:R b with
  |none=>rfl
  |some c=>
   rcases x.gE b c (hs.eh b o e hb) hM with u|⟨i,p,u,C,A⟩
   .have:=D b o e hb;omega
   .exact absurd A (hs.apart b o e hb i p u C)
 .rcases x.fM i p hi I with u|⟨j,q,u,C,A⟩
  .have:=D b o e hb;omega
  .exact hs.apart b o e hb j q u C (A.trans a0)
 .obtain⟨h1,h2,u⟩:=hs.out b i e hb;exact⟨Rn h1 B,(x.nm.ay i h1).trans h2,(x.nm.ext i h1).trans u⟩
theorem jx.KX{M B:Mem}{N C:Nm}{n G:Nat}{h D:AH}{J:bn}{w I:World}(x:jx M N n h bn.nil w B C G D J I):Ext M N (· <n) h w B C (· <G) D I:=by
 have j: ∀b,Own N h bn.nil b-> ∃i o,h.get i=io o∧o.real=jp∧N.ay i=b:=fun b hb=>by
  rcases hb with hb|⟨o,e,hb⟩
  .exact hb
  .cases hb
 refine⟨x.os,x.tape,x.output,x.size,fun b hb Y=>x.fP b hb fun ho=>?_,x.oF,fun b c h1 u=>?_,x.nm,fun i y=>Rn y x.ule,fun i o y A=>?_⟩
 .obtain⟨i,o,h1,u,R⟩:=j b ho;exact Y i o h1 u R
 .exact(x.gE b c h1 u).imp id (j b)
 .exact(x.fM _ (.inl ⟨i,o,y,A,rfl⟩)).imp id (j _)
theorem ef.nil(M:Mem)(N:Nm)(n:Nat)(h:AH)(w:World):ef M N n h bn.nil w:=⟨nofun,nofun,nofun,nofun,nofun⟩
abbrev XQ:=Exit->AS->bn->Prop
def mO(nt:Nat)(M:Mem)(N:Nm)(s:AS)(X:bn)(w:World)(R:XQ):Exit->Act->World->Prop:=fun e y x=>
 ∃b j s' u,jx M N s.nx s.h X w b j s'.nx s'.h u x∧Fits b j s' nt y x∧ef b j s'.nx s'.h u x∧R e s' u
theorem mO.later{nt:Nat}{M b:Mem}{N j:Nm}{s s':AS}{X u:bn}{w y:World}{R:XQ}{e:Exit}{a:Act}{A:World}
  (x:jx M N s.nx s.h X w b j s'.nx s'.h u y) (h:mO nt b j s' u y R e a A):mO nt M N s X w R e a A:=by
 obtain⟨B,C,I,D,h1,G⟩:=h;exact⟨B,C,I,D,x.trans h1,G⟩
theorem mO.now{nt:Nat}{M:Mem}{N:Nm}{s:AS}{X:bn}{w:World}{R:XQ}{e:Exit}{a:Act}(hf:Fits M N s nt a w)(hs:ef M N s.nx s.h X w)(h:R e s X):mO nt M N s X w R e a w:=
 ⟨M,N,s,X,.refl _ _ _ _ _ _,hf,hs,h⟩
def AX(P:Program)(nt:Nat)(c:Code)(R:XQ)(s:AS)(X:bn):Prop:= ∀M N a w,Fits M N s nt a w->ef M N s.nx s.h X w->c.wp P (mO nt M N s X w R) a w
def ALX(P:Program)(nt:Nat)(all rest:List Oper)(R:XQ)(s:AS)(X:bn):Prop:= ∀M N a w,Fits M N s nt a w->ef M N s.nx s.h X w->wpList P all.toArray (mO nt M N s X w R) rest a w
def SLX(P:Program)(nt:Nat)(all rest:List Oper)(R:XQ)(s:AS)(X:bn):Prop:= ∀M N a w,Fits M N s nt a w->ef M N s.nx s.h X w->
 wpStill P all.toArray w (fun b=>mO nt M N s X w R .normal b w) rest a
inductive XI where
 |q6 (all rest:List Oper)
 |code (c:Code)
 |ay (id:Nat)
 |ops (all rest:List Oper)
 |lp (R:AS->bn->Prop)
 |C6
def kx(P:Program)(nt:Nat):List XI->XQ->XQ
 | [],Q=>Q
 | .code c::k,Q=>fun e s X=>match e with| .normal=>AX P nt c (kx P nt k Q) s X|e=>kx P nt k Q e s X
 | .ops all rest::k,Q=>fun e s X=>match e with| .normal=>ALX P nt all rest (kx P nt k Q) s X|e=>kx P nt k Q e s X
 | .q6 all rest::k,Q=>fun e s X=>match e with| .normal=>SLX P nt all rest (kx P nt k Q) s X|e=>kx P nt k Q e s X
 | .lp R::k,Q=>fun e s X=>match e with| .normal=>R s X|e=>kx P nt k Q e s X
 | .ay id::k,Q=>fun e s X=>match e with| .exit j=>if j=id then kx P nt k Q .normal s X else kx P nt k Q (.exit j) s X|e=>kx P nt k Q e s X
 | .C6::k,Q=>fun e s X=>match e with| .goto _=>False|e=>kx P nt k Q e s X
def GX(P:Program)(nt:Nat)(k:List XI)(Q:XQ)(s:AS)(X:bn):Prop:=kx P nt k Q .normal s X
section
variable {P:Program} {nt:Nat} {Q:XQ} {k:List XI} {s:AS} {X:bn}
theorem AX.then{c:Code}{R:XQ}(h:AX P nt c R s X){M:Mem}{N:Nm}{a:Act}{w:World}(hf:Fits M N s nt a w)(hs:ef M N s.nx s.h X w){Z:Exit->Act->World->Prop}
  (A: ∀e y b j u s' x,jx M N s.nx s.h X w j u s'.nx s'.h x b->Fits j u s' nt y b->ef j u s'.nx s'.h x b->R e s' x->Z e y b):c.wp P Z a w:=
 wp_mono (h M N a w hf hs) fun e y b ⟨j,u,s',x,h1,h2,h3,h4⟩=>A e y b j u s' x h1 h2 h3 h4
theorem NK{j:AQ}{k0:List KI}{c:Code}(h:GX P nt [.code c] (fun e t _=>kp P nt k0 j e t) s bn.nil):GO P nt (.code c::k0) j s:=by
 intro M N a w y;exact AX.then h y (.nil ..) fun e D G u x s' C B b _ A=>⟨u,x,s',B.KX,b,A⟩
theorem jg{c:Code}(h:GO P nt [.code c] (fun e u=>kx P nt k Q e u X) s):GX P nt (.code c::k) Q s X:=by
 intro M N a w A hs;refine AW.then h A fun e D G j x s' C b B=>?_;obtain⟨h1,y⟩:=jx.frame C hs;exact⟨j,x,s',X,h1,b,y,B⟩
theorem cT{x y:Code}(h:GX P nt (.code x:: .code y::k) Q s X):GX P nt (.code (.seq x y)::k) Q s X:=by
 intro M N a w hf hs;refine wp_seq (AX.then h hf hs fun e a' w' I R s' X' G b j D=>?_);cases e with
 |normal=>exact AX.then D b j fun e a2 w2 J Y s2 X2 C u B A=>⟨J,Y,s2,X2,G.trans C,u,B,A⟩
 |_=>exact⟨I,R,s',X',G,b,j,D⟩
theorem rC(h:GX P nt k Q s X):GX P nt (.code .skip::k) Q s X:=fun _ _ _ _ b hs=>wp_skip (.now b hs h)
theorem rE{id:Nat}(h:kx P nt k Q (.exit id) s X):GX P nt (.code (.exit id)::k) Q s X:=fun _ _ _ _ b hs=>wp_exit (.now b hs h)
theorem EH{id:Nat}(h:GX P nt k Q s X):GX P nt (.ay id::k) Q s X:=h
theorem ij{id:Nat}{x:Code}(h:GX P nt (.code x:: .ay id::k) Q s X):GX P nt (.code (.block id x)::k) Q s X:=by
 intro M N a w I hs;refine wp_block (AX.then h I hs fun e J R A B s' C G b u y=>?_);cases e with
 |exit j=>
  simp only[kx]at y;simp only[Exit.inBlock];split
  .rename_i D;rw[am D]at y;exact⟨A,B,s',C,G,b,u,y⟩
  .rename_i D;rw[be D]at y;exact⟨A,B,s',C,G,b,u,y⟩
 |_=>exact⟨A,B,s',C,G,b,u,y⟩
theorem vf{id:Nat}{ops:Array Oper}(h:GX P nt (.ops ops.toList ops.toList::k) Q s X):GX P nt (.code (.region id ops kw)::k) Q s X:=by
 intro M N a w b hs;refine wp_region_list ?_;have:=h M N a w b hs;simpa using this
theorem s7{all:List Oper}(h:GX P nt k Q s X):GX P nt (.ops all []::k) Q s X:=fun _ _ _ _ b hs=>wpList_nil (mO.now b hs h)
theorem rF{c:Operand}{x y:Code}{t:Bool}(hc:ev s.f c= .iv (.v (.bool t)))(h1:t=jp->GX P nt (.code x::k) Q s X)(u:t=kw->GX P nt (.code y::k) Q s X):
  GX P nt (.code (.cond c x y)::k) Q s X:=by
 intro M N a w b hs;refine wp_cond_split (b.bool hc) (fun j=>?_) (fun j=>?_)
 .exact h1 j M N a w b hs
 .exact u j M N a w b hs
theorem wh{o:Oper}{a:Act}{w:World}{K K':Act->World->Prop}{Q j:Exit->Act->World->Prop}(h: ∀a w,K a w->K' a w)(u: ∀e a w,e≠ .normal->Q e a w->j e a w)(hh:o.wp P a w K Q):o.wp P a w K' j:=by
 have hl:LetsOut Q->LetsOut j:=fun⟨a,w,x⟩=>⟨a,w,u _ _ _ (by simp) x⟩
 unfold Oper.wp at*
 generalize(execOp a.eval o).run P w=r at*
 cases r with
 |ok n w'=>
  cases n<;>simp only[Oper.upon]at hh ⊢ <;>
   first
    |exact h _ _ hh
    |exact Calls.mono hh (fun e y b=>by cases e<;>first|exact h _ _ b|exact hl b|exact u _ _ _ (by simp) b)
    |exact Rows.mono hh (fun _ _ b=>h _ _ b)
 |halt x w'=>cases x<;>simp only[Oper.upon]at hh ⊢ <;>exact u _ _ _ (by simp) hh
theorem nK{ops:Array Oper}{u x:Exit->Act->World->Prop}(j:List Oper)(y: ∀a w,u .normal a w->wpList P ops x j a w)(b: ∀e a w,e≠ .normal->u e a w->x e a w): ∀(l:List Oper) (a:Act) (w:World),wpList P ops u l a w->wpList P ops x (l++j) a w
 | [],a,w,h=>y _ _ h
 |o::r,a,w,h=>by
  rw[QR];rw[wpList]at h ⊢;split
  .rename_i A;rw[am A]at h;exact h.imp (wh (nK j y b r) b) (fun⟨h3,a1,w1,h4⟩=>⟨h3,a1,w1,b _ _ _ (by simp) h4⟩)
  .rename_i A;rw[be A]at h;exact nK j y b r _ _ h
theorem CG{all I j:List Oper}(h:GO P nt [.ops all I] (fun e u=>kx P nt (.ops all j::k) Q e u X) s):GX P nt (.ops all (I++j)::k) Q s X:=by
 intro M N a w Y hs;refine nK j (fun A J C=>?_) (fun e A J R C=>?_) I a w (h M N a w Y)
 .obtain⟨x,y,s',G,b,D⟩:=C;obtain⟨h1,B⟩:=jx.frame G hs;have:=D x y A J b B;exact eI (fun _ _ _=>mO.later h1) j A J this
 .obtain⟨x,y,s',G,b,D⟩:=C;obtain⟨h1,B⟩:=jx.frame G hs;refine⟨x,y,s',X,h1,b,B,?_⟩;cases e with
  |normal=>exact absurd Z R
  |_=>exact D
theorem rD{all rest:List Oper}(m:Nat)(h:GO P nt [.ops all (rest.take m)] (fun e u=>kx P nt (.ops all (rest.drop m)::k) Q e u X) s):GX P nt (.ops all rest::k) Q s X:=by
 have:=CG h;rwa[RS]at this
def SX(nt:Nat)(s:AS)(X:bn)(T:AS->bn->Prop):Prop:= ∀M N a w,Fits M N s nt a w->ef M N s.nx s.h X w->
 ∃b j t Y,jx M N s.nx s.h X w b j t.nx t.h Y w∧Fits b j t nt a w∧ef b j t.nx t.h Y w∧T t Y
theorem J1{c:Code}{T:AS->bn->Prop}(h:SX nt s X T)(hk: ∀t Y,T t Y->GX P nt (.code c::k) Q t Y):GX P nt (.code c::k) Q s X:=by
 intro M N a w I hs;obtain⟨R,N',t,Y,h1,C,D,G⟩:=h M N a w I hs;exact AX.then (hk t Y G) C D fun e a2 w2 y A J B x b u j=>⟨y,A,J,B,h1.trans x,b,u,j⟩
theorem wD{all rest:List Oper}{T:AS->bn->Prop}(h:SX nt s X T)(hk: ∀t Y,T t Y->GX P nt (.ops all rest::k) Q t Y):GX P nt (.ops all rest::k) Q s X:=by
 intro M N a w A hs;obtain⟨b,j,t,Y,h1,u,x,y⟩:=h M N a w A hs;exact eI (fun _ _ _=>mO.later h1) rest a w (hk t Y y b j a w u x)
theorem NJ{body:Code}{σ:Type 1}(I:σ->AS)(J:σ->bn)(μ:σ->Nat)(i0:σ)(L0:List Nat)(h0:Wk s.nx L0 s (I i0))(A:J i0=X)(j0: ∀i,(J i).still)
  (B: ∀i,GX P nt (.code body:: .lp (fun t Y=> ∃j L,μ j<μ i∧Wk s.nx L t (I j)∧Y=J j)::k) Q (I i) (J i)):GX P nt (.code (.loop body)::k) Q s X:=by
 intro R N0 a0 w0 d0 g0
 let K:Act->World->Nat->Prop:=fun a w n=> ∃i M N,μ i=n∧jx R N0 s.nx s.h X w0 M N (I i).nx (I i).h (J i) w∧Fits M N (I i) nt a w∧ef M N (I i).nx (I i).h (J i) w
 have c0:K a0 w0 (μ i0):=by
  obtain⟨h1,h2⟩:=jx.frame (h0.ext (.refl R N0 (· <s.nx) s.h w0)) g0;exact⟨i0,R,N0.comp (sg s.nx L0),rfl,by rw[A];exact h1,h0.fits d0,by rw[A];exact h2⟩
 refine wp_loop (fun a w=> ∃n,K a w n) (fun a w=>by classical exact if h: ∃n,K a w n then RY (cU h) else 0) ⟨_,c0⟩ fun a w b0=>?_;obtain⟨⟨i,M,N,y,hx,hf,hs⟩,e0⟩:=Rm (cU b0);refine AX.then (B i) hf hs fun e a' w' M' N' s' X' D C x hr=>?_
 cases e with
 |normal=>
  obtain⟨j,L,hj,G,hY⟩:=hr
  have A:K a' w' (μ j):=⟨j,M',N'.comp (sg s.nx L),rfl,by
   have u:=hx.trans D;rw[hY]at u x;refine⟨u.os,u.tape,u.output,u.size,u.fP,u.oF,u.gE,⟨fun i y=>?_,fun i y=>?_⟩,by have:=G.nx;omega,fun b hb=>u.fM b ?_⟩
   .simp only[Nm.comp,fj y];exact u.nm.ay i y
   .simp only[Nm.comp,fj y];exact u.nm.ext i y
   .rcases hb with⟨i,o,h3,h4,h5⟩|hb
    .obtain⟨⟨o',g1,g2⟩,_⟩:=gV G.h i o h3;exact .inl ⟨_,o',g1,g2.real ((AO.bW _ o).trans h4),h5⟩
    .exact .inr hb,G.fits C,by
   rw[hY]at x;refine⟨x.real,x.obj,x.eh,fun b o e hb i p y f0=>?_,fun b i e hb=>?_⟩
   .obtain⟨⟨o',g1,g2⟩,_⟩:=gV G.h i p y;exact x.apart b o e hb _ o' g1 (g2.real ((AO.bW _ p).trans f0))
   .exact absurd hb (j0 j b i e)⟩
  refine⟨⟨_,A⟩,?_⟩;simp only[dif_pos b0,dif_pos (⟨_,A⟩: ∃n,K a' w' n)];rw[<-y];exact SP ((Rm (cU (⟨_,A⟩: ∃n,K a' w' n))).2 _ A) hj
 |_=>exact⟨M',N',s',X',hx.trans D,C,x,hr⟩
theorem K2{b e d:Nat}{o:AO}{p:PV}(hX:X b=io (.obj o e))(hp: ∀(M:Mem) (N:Nm) (U:Nat->Prop) (x:Value),U s.nx->N.ay s.nx=b->N.ext s.nx=e->VR M N U (s.f.get d) x->VR M N U p x):
  SX nt s X (fun t Y=>t=⟨(d,p)::s.f,(s.nx,io o)::s.h,s.nx+1⟩∧Y=X.put b (.out s.nx e)):=by
 intro M N a w hf hs;obtain⟨f,h,n⟩:=s
 let N':Nm:=⟨fun j=>if j=n then b else N.ay j,fun j=>if j=n then e else N.ext j⟩
 have A:N.agree N' (· <n):=⟨fun i D=>be (Sx D),fun i D=>be (Sx D)⟩
 have I:N'.ay n=b:=am Z;have a0:N'.ext n=e:=am Z;have hU: ∀i,i<n->i<n+1:=fun i D=>QW D;have c0:=hs.real b o e hX
 have C: ∀i q,AH.get ((n,io o)::h) i=io q->(i=n∧q=o)∨(i<n∧h.get i=io q):=by
  intro i q D;rw[AH.ax]at D;split at D
  .rename_i b0;exact .inl ⟨b0,by simpa using D.symm⟩
  .exact .inr ⟨hf.1.used i q D,D⟩
 refine⟨M,N',⟨(d,p)::f,(n,io o)::h,n+1⟩,X.put b (.out n e),⟨rfl,rfl,⟨rfl,Pv _⟩,Pv _,fun _ _ _=>rfl,.refl _,fun c m h1 h2=>by simp[h1]at h2,A,QZ _,fun c B=> .inr ?_⟩,⟨⟨hf.1.eh,fun i q D=>?_,fun i q D hr=>?_,fun i q D=>?_,fun i j q r D hj hq hr he=>?_⟩,fun k=>?_,hf.2.2⟩,⟨fun c q g B=>?_,fun c q g B=>?_,fun c q g B=>?_,fun c q g B i r D hr=>?_,fun c i g B=>?_⟩,rfl,rfl⟩
 .rcases B with⟨i,q,h1,h2,h3⟩|⟨q,g,h1⟩
  .rcases C i q h1 with⟨rfl,rfl⟩|⟨J,R⟩
   .rw[I]at h3;subst h3;exact .inr ⟨_,_,hX⟩
   .exact .inl ⟨i,q,R,h2,by rw[<-h3];exact(A.ay i J).symm⟩
  .by_cases u:c=b
   .subst u;rw[bn.eQ]at h1;cases h1
   .rw[bn.iA _ _ u]at h1;exact .inr ⟨q,g,h1⟩
 .rcases C i q D with⟨rfl,rfl⟩|⟨J,_⟩
  .exact Rc _
  .exact hU i J
 .rcases C i q D with⟨rfl,rfl⟩|⟨J,R⟩
  .rw[I];exact hs.eh _ _ _ hX
  .rw[A.ay i J];exact hf.1.dN i q R hr
 .rcases C i q D with⟨rfl,rfl⟩|⟨J,R⟩
  .exact OR.move (G:=fun _=>True) (.refl _) (AO.all_true _) (fun p y _ hv=>hv.AY (.refl _)) I a0 Z (hs.obj b _ e hX)
  .exact(hf.1.obj i q R).mono (.refl _) A hU J Z
 .rcases C i q D with⟨rfl,rfl⟩|⟨J,R⟩<;>rcases C j r hj with⟨h6,rfl⟩|⟨h6,h7⟩
  .exact h6.symm
  .rw[I,A.ay j h6]at he;exact absurd he.symm (hs.apart b _ e hX j r h7 hr)
  .subst h6;rw[I,A.ay i J]at he;exact absurd he (hs.apart b _ e hX i q R hq)
  .rw[A.ay i J,A.ay j h6]at he;exact hf.1.inj i j q r R h7 hq hr he
 .rw[AF.ax];split
  .rename_i hk;subst hk;exact hp M N' _ _ (Rc _) I a0 ((hf.2.1 k).mono (.refl _) A hU)
  .exact(hf.2.1 k).mono (.refl _) A hU
 all_goals by_cases u:c=b
 .subst u;rw[bn.eQ]at B;cases B
 .rw[bn.iA _ _ u]at B;exact hs.real c q g B
 .subst u;rw[bn.eQ]at B;cases B
 .rw[bn.iA _ _ u]at B;exact hs.obj c q g B
 .subst u;rw[bn.eQ]at B;cases B
 .rw[bn.iA _ _ u]at B;exact hs.eh c q g B
 .subst u;rw[bn.eQ]at B;cases B
 .rw[bn.iA _ _ u]at B;rcases C i r D with⟨rfl,rfl⟩|⟨J,R⟩
  .rw[I];exact fun e=>u e.symm
  .rw[A.ay i J];exact hs.apart c q g B i r R hr
 .subst u;rw[bn.eQ]at B;cases B;exact⟨Rc _,I,a0⟩
 .rw[bn.iA _ _ u]at B;obtain⟨h1,h2,h3⟩:=hs.out c i g B;exact⟨hU i h1,(A.ay i h1).trans h2,(A.ext i h1).trans h3⟩
theorem BU{b e d:Nat}{o:AO}(u:X b=io (.obj o e))(hd:s.f.get d= .iv (.v (.map (io b)))):
  SX nt s X (fun t Y=>t=⟨(d,.mp s.nx)::s.f,(s.nx,io o)::s.h,s.nx+1⟩∧Y=X.put b (.out s.nx e)):=
 K2 u fun M N U x hu hb hE j=>by
  rw[hd]at j;cases j with
  |iv _ _ hi=>cases hi with
   |v=>
    have:=VR.mp (M:=M) (N:=N) s.nx hu;rw[hb]at this;exact this
theorem Rel.drop{M:Mem}{N:Nm}{n:Nat}{h:AH}{w:World}(hr:Rel M N (· <n) h w)(i:Nat):Rel M N (· <n) ((i,is)::h) w:=
 ⟨hr.eh,fun j o b=>hr.used j o (bc j o b).2,fun j o b u=>hr.dN j o (bc j o b).2 u,fun j o b=>hr.obj j o (bc j o b).2,fun j l o p b hl y A x=>hr.inj j l o p (bc j o b).2 (bc l p hl).2 y A x⟩
theorem AA{M:Mem}{N:Nm}{n:Nat}{h:AH}{w:World}(hr:Rel M N (· <n) h w)(hs:ef M N n h X w){i:Nat}{o:AO}(hi:h.get i=io o)(A:o.real=jp)(D:o.all PV.flat):
  jx M N n h X w M N n ((i,is)::h) (X.put (N.ay i) (.obj o (N.ext i))) w∧ef M N n ((i,is)::h) (X.put (N.ay i) (.obj o (N.ext i))) w:=by
 refine⟨⟨rfl,rfl,⟨rfl,Pv _⟩,Pv _,fun _ _ _=>rfl,.refl _,fun b c h1 B=>by simp[h1]at B,.refl _ _,Pv _,fun c y=> .inr ?_⟩,fun c q g y=>?_,fun c q g y=>?_,fun c q g y=>?_,fun c q g y j r I C=>?_,fun c j g y=>?_⟩
 .rcases y with⟨j,q,h1,B,J⟩|⟨q,g,h1⟩
  .exact .inl ⟨j,q,(bc j q h1).2,B,J⟩
  .by_cases u:c=N.ay i
   .exact .inl ⟨i,o,hi,A,u.symm⟩
   .rw[bn.iA _ _ u]at h1;exact .inr ⟨q,g,h1⟩
 all_goals by_cases u:c=N.ay i
 .subst u;rw[bn.eQ]at y;cases y;exact A
 .rw[bn.iA _ _ u]at y;exact hs.real c q g y
 .subst u;rw[bn.eQ]at y;cases y;exact OR.move (G:=PV.flat) (N:=N) (i:=i) (.refl _) D (fun p x R Y=>Y.G0 R) Z Z Z (hr.obj i o hi)
 .rw[bn.iA _ _ u]at y;exact hs.obj c q g y
 .subst u;exact hr.dN i o hi A
 .rw[bn.iA _ _ u]at y;exact hs.eh c q g y
 .obtain⟨h1,B⟩:=bc j r I;subst u;exact fun e=>h1 (hr.inj j i r o B hi C A e)
 .rw[bn.iA _ _ u]at y;exact hs.apart c q g y j r (bc j r I).2 C
 .subst u;rw[bn.eQ]at y;cases y
 .rw[bn.iA _ _ u]at y;exact hs.out c j g y
theorem Na{b e i:Nat}{o:AO}(B:X b=io (.out i e))(hi:s.h.get i=io o)(x:o.real=jp)(u:o.all PV.flat):
  SX nt s X (fun t Y=>t=⟨s.f,(i,is)::s.h,s.nx⟩∧Y=X.put b (.obj o e)):=by
 intro M N a w j hs;obtain⟨h1,rfl,rfl⟩:=hs.out b i e B;obtain⟨y,A⟩:=AA j.1 hs hi x u;exact⟨M,N,⟨s.f,(i,is)::s.h,s.nx⟩,_,y,⟨j.1.drop i,j.2⟩,A,rfl,rfl⟩
theorem K4{i d:Nat}{o:AO}{G:Nat->Nat->PV->Prop}(C:X.still)(hi:s.h.get i=io o)(A:o.real=jp)(B:o.all PV.flat)
  (hq: ∀(M:Mem) (N:Nm) (U:Nat->Prop) (x:Value),VR M N U (s.f.get d) x-> ∃q,G (N.ay i) (N.ext i) q∧VR M N U q x):
  SX nt s X (fun t Y=> ∃b e q,X b=is∧G b e q∧t=⟨(d,q)::s.f,(i,is)::s.h,s.nx⟩∧Y=X.put b (.obj o e)):=by
 intro M N a w u hs;obtain⟨D,I⟩:=AA u.1 hs hi A B;obtain⟨q,J,R⟩:=hq M N _ _ (u.2.1 d);refine⟨M,N,⟨(d,q)::s.f,(i,is)::s.h,s.nx⟩,_,D,⟨u.1.drop i,fun k=>?_,u.2.2⟩,I,N.ay i,N.ext i,q,?_,J,rfl,rfl⟩
 .rw[AF.ax];split
  .rename_i hk;subst hk;exact R
  .exact u.2.1 k
 .cases hx:X (N.ay i) with
  |none=>rfl
  |some y=>
   cases y with
   |obj p g=>exact absurd Z (hs.apart _ p g hx i o hi A)
   |out j g=>exact absurd hx (C _ _ _)
theorem BV{i d:Nat}{o:AO}(y:X.still)(hi:s.h.get i=io o)(u:o.real=jp)(j:o.all PV.flat)(hd:s.f.get d= .mp i):
  SX nt s X (fun t Y=> ∃b e,X b=is∧t=⟨(d,.iv (.v (.map (io b))))::s.f,(i,is)::s.h,s.nx⟩∧Y=X.put b (.obj o e)):=by
 intro M N a w hf hs
 obtain⟨B,C,t,Y,h1,D,I,b,e,q,J,rfl,R,h9⟩:=K4 (G:=fun b e q=>q= .iv (.v (.map (io b)))) (d:=d) y hi u j (fun M N U x A=>by
  rw[hd]at A;cases A with
  |mp _ hu=>exact⟨_,rfl,.iv _ _ (.v _)⟩) M N a w hf hs
 exact⟨B,C,t,Y,h1,D,I,b,e,J,R,h9⟩
inductive Up (X:bn):Value->IV->Prop
 | row (b len cap sz e:Nat) (es:List (List PV)) (el:Nat->List IV) (hX:X b=io (.obj (.row sz es) e)) (hn:len=es.length) (hl:len<=cap) (hc:cap<=maxLen) (hel: ∀k e,es[k]? =io e->e=(el k).map .iv):
   Up X (.slice (io ⟨b,0,is⟩) len cap) (.cB sz len el)
 |map {V:Type} (b e:Nat) (kc:KC) (ev:V->IV) (z:V) (zv:Value) (dv:PV->V) (m:List (kc.K×V)) (hX:X b=io (.obj (.map kc ev z zv dv m) e)):Up X (.map (io b)) (.dR kc ev z zv m)
 |eC {V:Type} (b e:Nat) (kc:KC) (ev:V->IV) (z:V) (zv:Value) (hX:X b=io (.obj .eC e)) (hz: ∀M,IR M (ev z) zv):Up X (.map (io b)) (.dR kc ev z zv [])
 |Nz (y:Value):Up X y (.v y)
 |nil (sz:Nat) (el:Nat->List IV) (a:Option Addr) (cap:Nat):Up X (.slice a 0 cap) (.cB sz 0 el)
theorem DD{M:Mem}{N:Nm}{n:Nat}{h:AH}{w:World}(hr:Rel M N (· <n) h w)(hs:ef M N n h X w):
  ∃x:Mem,M.le x∧jx M N n h X w x N n h bn.nil w∧Rel x N (· <n) h w∧ ∀y p,Up X y p->IR x p y:=by
 let x:Mem:=⟨fun b=>match X b with
  |some (.obj _ _)=>(match w.heap[b]? with|some (.cells c _ _)=>io (.cells c)|some (.map es cl)=>io (.map es cl)|_=>is)
  |_=>M.fn b,fun b c hb=>by
   have:=M.Ii b c hb;cases u:X b with
   |none=>simpa using this
   |some y=>cases y with
    |obj o e=>exact absurd (this.symm.trans (hs.eh b o e u)) (by simp)
    |out i e=>simpa using this⟩
 have A: ∀b,(∀o e,X b≠io (.obj o e))->x b=M b:=fun b hb=>by
  show(match X b with|some (.obj _ _)=>_|_=>M.fn b)=M.fn b;cases u:X b with
  |none=>rfl
  |some y=>cases y with
   |obj o e=>exact absurd u (hb o e)
   |out i e=>rfl
 have D: ∀b o e,X b=io (.obj o e)->x b=(match w.heap[b]? with|some (.cells c _ _)=>io (MB.cells c)|some (.map es cl)=>io (MB.map es cl)|_=>is):=fun b o e hb=>by
  show(match X b with|some (.obj _ _)=>_|_=>M.fn b)=_;rw[hb]
 have B:M.le x:=fun b c hb=>by
  rw[A b fun o e u=>absurd (hb.symm.trans (hs.eh b o e u)) (by simp)];exact hb
 refine⟨x,B,⟨rfl,rfl,⟨rfl,Pv _⟩,Pv _,fun _ _ _=>rfl,B,fun b c h1 G=>?_,.refl _ _,Pv _,fun c I=> .inr ?_⟩,⟨fun b c hb=>?_,hr.used,fun i o hi b0=>?_,fun i o hi=>(hr.obj i o hi).mono B (.refl _ _) (fun _ h=>h) (hr.used i o hi) Z,hr.inj⟩,fun y p hu=>?_⟩
 .cases u:X b with
  |none=>rw[A b (by simp[u]),h1]at G;cases G
  |some y=>cases y with
   |obj o e=>exact .inr (.inr ⟨o,e,u⟩)
   |out i e=>rw[A b (by simp[u]),h1]at G;cases G
 .rcases I with I|⟨o,e,I⟩
  .exact .inl I
  .cases I
 .cases u:X b with
  |none=>rw[A b (by simp[u])]at hb;exact hr.eh b c hb
  |some y=>cases y with
   |out i e=>rw[A b (by simp[u])]at hb;exact hr.eh b c hb
   |obj o e=>
    rw[D b o e u]at hb;split at hb
    .rename_i hh;cases hb;exact⟨_,_,hh⟩
    .rename_i hh;cases hb;exact hh
    .cases hb
 .rw[A _ fun q e u=>hs.apart _ q e u i o hi b0 Z];exact hr.dN i o hi b0
 .cases hu with
  |Nz=>exact .v _
  |nil=>exact .fu _ _ _ _
  |eC b e kc ev z zv hX hz=>
   have h1:=hs.obj b _ e hX;have G:x b=io (.map #[] 0):=by rw[D b _ e hX];rw[show w.heap[b]? =io (.map #[] 0) from h1]
   exact .dR _ _ _ _ _ b #[] 0 G Z (by simp) (by simp) (hz x) (by simp) (by simp)
  |map b e kc ev z zv dv m hX=>
   obtain⟨ents,cl,h1,G,h3⟩:=hs.obj b _ e hX;have h4:x b=io (.map ents cl):=by rw[D b _ e hX];rw[show w.heap[b]? =io (.map ents cl) from h1]
   have Y:=G.mono B;exact .dR _ _ _ _ _ b ents cl h4 Y.size Y.key Y.val (h3.mono B) Y.inj Y.lt
  |row b len cap sz e es el hX hn hl I hel=>
   rcases hs.obj b _ e hX with h0|⟨h0,c,T,g1,g2,g3,g4,g5⟩
   .have:=hs.real b _ e hX;rw[h0]at this;cases this
   have h4:x b=io (.cells c):=by rw[D b _ e hX];rw[show w.heap[b]? =io (.cells c T (0,0)) from g1]
   have C: ∀o,x.cell b o=c[o]? :=fun o=>by simp only[Mem.cell,h4]
   have a0: ∀k,k<len-> ∃e,es[k]? =io e:=fun k hk=>⟨_,Po (by omega)⟩
   have c0: ∀k j,k<len->j<sz->k*sz+j<c.size:=fun k j hk hj=>by
    have:(k+1)*sz<=es.length*sz:=PQ _ (by omega);rw[Qr]at this;omega
   refine .cB _ _ _ _ _ _ hl I (fun k hk=>?_) (fun k j hk hj=>?_) (fun k j p hk hp=>?_)
   .obtain⟨e,J⟩:=a0 k hk;have:=g4 _ e J;rw[hel _ e J]at this;simpa using this
   .rw[C,PT];simp[c0 k j hk hj]
   .obtain⟨e,J⟩:=a0 k hk;have h9:=g4 _ e J;have R:=hel _ e J;have hj:j<sz:=by rw[<-h9,R,PX];exact(Pm.1 hp).1
    have:=g5 _ e j (.iv p) J (by rw[R,Ps,hp];rfl);rw[C,PT];rw[Pk]at this;cases this with
    |iv _ _ h=>exact h.mono B
def Up1(X:bn)(p b:PV):Prop:=b=p∨ ∃y q,p= .iv (.v y)∧b= .iv q∧Up X y q
inductive Kc (X:bn):AO->AO->Prop
 | row (sz:Nat) (es es':List (List PV)) (hl:es'.length=es.length) (h: ∀(k:Nat) (e':List PV),es'[k]? =io e'-> ∃e,es[k]? =io e∧e'.length=e.length∧ ∀(j:Nat) (p':PV),e'[j]? =io p'-> ∃p,e[j]? =io p∧Up1 X p p'):
   Kc X (.row sz es) (.row sz es')
 | map {V V':Type} (kc:KC) (ev:V->IV) (z:V) (zv:Value) (dv:PV->V) (m:List (kc.K×V)) (ev':V'->IV) (z':V') (dv':PV->V') (m':List (kc.K×V')) (hl:m'.length=m.length)
   (h: ∀(j:Nat) (x':kc.K×V'),m'[j]? =io x'-> ∃x y,m[j]? =io x∧x'.1=x.1∧ev x.2= .v y∧Up X y (ev' x'.2)) (hz: ∀M,IR M (ev' z') zv):Kc X (.map kc ev z zv dv m) (.map kc ev' z' zv dv' m')
theorem Kc.or{M A:Mem}{N:Nm}{U:Nat->Prop}{w:World}{i:Nat}{o o':AO}(J:M.le A)(hu: ∀y p,Up X y p->IR A p y)(h:Kc X o o')(ho:OR M N U w i o):OR A N U w i o':=by
 have hv: ∀p C x,Up1 X p C->VR M N U p x->VR A N U C x:=by
  rintro p C x (rfl|⟨y,q,rfl,rfl,B⟩) hx
  .exact hx.mono J (.refl _ _) (fun _ h=>h)
  .cases hx with
   |iv _ _ hi=>cases hi with
    |v=>exact .iv _ _ (hu _ _ B)
 cases h with
 |row sz es es' hl h=>
  rcases ho with rfl|⟨h0,c,T,g1,g2,g3,g4,g5⟩
  .left;exact QY.1 hl
  .refine .inr ⟨h0,c,T,g1,g2,by rw[hl];exact g3,fun k D b=>?_,fun k D j C b R=>?_⟩
   .obtain⟨e,h1,G,_⟩:=h k D b;rw[G];exact g4 k e h1
   .obtain⟨e,h1,_,B⟩:=h k D b;obtain⟨p,I,h5⟩:=B j C R;exact hv _ _ _ h5 (g5 k e j p h1 I)
 |map kc ev z zv dv m ev' z' dv' m' hl h hz=>
  obtain⟨ents,cl,g1,g2,g3⟩:=ho;refine⟨ents,cl,g1,⟨g2.size.trans hl.symm,fun j Y u=>?_,fun j Y u=>?_,g2.inj,g2.lt⟩,hz A⟩
  .obtain⟨x,y,h1,G,_⟩:=h j Y u;rw[G];exact g2.key j x h1
  .obtain⟨x,y,h1,_,B,I⟩:=h j Y u;have:=g2.val j x h1;rw[B]at this;generalize(ents.getD j co).val=v at this ⊢;cases this with
   |v=>exact hu _ _ I
theorem Kc.real{o o':AO}(h:Kc X o o'):o'.real=o.real:=by
 cases h with
 |row sz es es' hl h=>cases es<;>cases es'<;>first|rfl|simp at hl
 |map=>rfl
theorem K6{i:Nat}{o o':AO}(hi:s.h.get i=io o)(hu:Kc X o o'):SX nt s X (fun t Y=>t=⟨s.f,(i,io o')::s.h,s.nx⟩∧Y=bn.nil):=by
 intro M N a w B hs;obtain⟨I,h1,A,C,J⟩:=DD B.1 hs;have u: ∀j q,AH.get ((i,io o')::s.h) j=io q-> ∃y,s.h.get j=io y∧q.real=y.real∧(q=y∨(j=i∧q=o')):=by
  intro j q x;rw[AH.ax]at x;split at x
  .rename_i D;subst D;cases x;exact⟨o,hi,hu.real,.inr ⟨rfl,rfl⟩⟩
  .exact⟨q,x,rfl,.inl Z⟩
 refine⟨I,N,⟨s.f,(i,io o')::s.h,s.nx⟩,bn.nil,?_,⟨⟨C.eh,fun j q x=>?_,fun j q x G=>?_,fun j q x=>?_,fun j k q r x hk hq G R=>?_⟩,fun k=>(B.2.1 k).mono h1 (.refl _ _) (fun _ h=>h),B.2.2⟩,.nil ..,rfl,rfl⟩
 .exact⟨A.os,A.tape,A.output,A.size,A.fP,A.oF,A.gE,A.nm,A.ule,fun b hb=> .inr<|by
   rcases hb with⟨j,q,g1,g2,g3⟩|⟨q,g,g1⟩
   .obtain⟨y,g4,g5,_⟩:=u j q g1;exact .inl ⟨j,y,g4,g5▸g2,g3⟩
   .cases g1⟩
 .obtain⟨y,g4,_⟩:=u j q x;exact B.1.used j y g4
 .obtain⟨y,g4,g5,_⟩:=u j q x;exact C.dN j y g4 (g5▸G)
 .obtain⟨y,g4,_,rfl|⟨rfl,rfl⟩⟩:=u j q x
  .exact C.obj j _ g4
  .exact hu.or h1 J (B.1.obj j o hi)
 .obtain⟨y,g4,g5,_⟩:=u j q x;obtain⟨r',g6,g7,_⟩:=u k r hk;exact B.1.inj j k y r' g4 g6 (g5▸hq) (g7▸G) R
end
section
variable {P:Program}
section
variable {nt:Nat} {Q:XQ} {k0:List XI} {s:AS} {X:bn}
theorem G3{t:AS}(hh:t.h=s.h)(hn:t.nx=s.nx)(h: ∀M N a w,Fits M N s nt a w->ef M N s.nx s.h X w->FR M N (· <s.nx) t.f a.tmps):SX nt s X (fun j Y=>j=t∧Y=X):=by
 intro M N a w b hs;obtain⟨f,u,n⟩:=t;simp only at hh hn;subst hh;subst hn;exact⟨M,N,⟨f,s.h,s.nx⟩,X,.refl _ _ _ _ _ _,⟨b.1,h M N a w b hs,b.2.2⟩,hs,rfl,rfl⟩
theorem Dt{b j e d:Nat}{p:PV}(B:X b=io (.out j e))(hp: ∀(M:Mem) (N:Nm) (U:Nat->Prop) (x:Value),U j->N.ay j=b->N.ext j=e->VR M N U (s.f.get d) x->VR M N U p x):
  SX nt s X (fun t Y=>t=⟨(d,p)::s.f,s.h,s.nx⟩∧Y=X):=
 G3 Z Z fun M N a w u hs k=>by
  obtain⟨h1,y,A⟩:=hs.out b j e B;rw[AF.ax];split
  .rename_i hk;subst hk;exact hp M N _ _ h1 y A (u.2.1 k)
  .exact u.2.1 k
theorem y9{M:Mem}{N:Nm}{n:Nat}{h:AH}{w:World}(hr:Rel M N (· <n) h w){i:Nat}{o o':AO}(hi:h.get i=io o)(B:o'.real=jp->o.real=jp)(ho:OR M N (· <n) w i o'):Rel M N (· <n) ((i,io o')::h) w:=by
 have b: ∀j q,AH.get ((i,io o')::h) j=io q->(j=i∧q=o')∨(j≠i∧h.get j=io q):=by
  intro j q x;rw[AH.ax]at x;split at x
  .rename_i A;exact .inl ⟨A,by simpa using x.symm⟩
  .rename_i A;exact .inr ⟨A,x⟩
 refine⟨hr.eh,fun j q x=>?_,fun j q x u=>?_,fun j q x=>?_,fun j k q r x hk G u D=>?_⟩
 .rcases b j q x with⟨rfl,rfl⟩|⟨_,y⟩
  .exact hr.used j o hi
  .exact hr.used j q y
 .rcases b j q x with⟨rfl,rfl⟩|⟨_,y⟩
  .exact hr.dN j o hi (B u)
  .exact hr.dN j q y u
 .rcases b j q x with⟨rfl,rfl⟩|⟨_,y⟩
  .exact ho
  .exact hr.obj j q y
 .rcases b j q x with⟨rfl,rfl⟩|⟨g1,y⟩<;>rcases b k r hk with⟨g2,C⟩|⟨g2,C⟩
  .exact g2.symm
  .exact hr.inj j k o r hi C (B G) u D
  .subst g2;subst C;exact hr.inj j k q o y hi G (B u) D
  .exact hr.inj j k q r y C G u D
theorem K3{i:Nat}{o o':AO}(hi:s.h.get i=io o)(A:o'.real=jp->o.real=jp)(ho: ∀M N w,ef M N s.nx s.h X w->OR M N (· <s.nx) w i o->OR M N (· <s.nx) w i o'):
  SX nt s X (fun t Y=>t=⟨s.f,(i,io o')::s.h,s.nx⟩∧Y=X):=by
 intro M N a w D hs;have u: ∀j q,AH.get ((i,io o')::s.h) j=io q->q.real=jp-> ∃y,s.h.get j=io y∧y.real=jp:=by
  intro j q x B;rw[AH.ax]at x;split at x
  .rename_i G;subst G;cases x;exact⟨o,hi,A B⟩
  .exact⟨q,x,B⟩
 refine⟨M,N,⟨s.f,(i,io o')::s.h,s.nx⟩,X,⟨rfl,rfl,⟨rfl,Pv _⟩,Pv _,fun _ _ _=>rfl,.refl _,fun b c h1 C=>by simp[h1]at C,.refl _ _,Pv _,fun b hb=> .inr ?_⟩,
  ⟨y9 D.1 hi A (ho M N w hs (D.1.obj i o hi)),D.2⟩,⟨hs.real,hs.obj,hs.eh,fun b p e hb j q x B=>?_,hs.out⟩,rfl,rfl⟩
 .rcases hb with⟨j,q,h1,C,I⟩|hb
  .obtain⟨y,g1,g2⟩:=u j q h1 C;exact .inl ⟨j,y,g1,g2,I⟩
  .exact .inr hb
 .obtain⟨y,g1,g2⟩:=u j q x B;exact hs.apart b p e hb j y g1 g2
theorem K5{i:Nat}{o o':AO}(hi:s.h.get i=io o)(b:dV o o'):SX nt s X (fun t Y=>t=⟨s.f,(i,io o')::s.h,s.nx⟩∧Y=X):=
 K3 hi b.1 fun M N w _ h=>b.2 M N _ w i h
end
end
section
variable {P:Program} {nt:Nat} {Q:XQ} {k0:List XI} {s:AS} {X:bn} {ty:Ty}
theorem zw{c:Code}{R u:AS->bn->Prop}(h: ∀t Y,R t Y->u t Y)(hg:GX P nt (.code c:: .lp R::k0) Q s X):GX P nt (.code c:: .lp u::k0) Q s X:=by
 intro M N a w C hs;refine AX.then hg C hs fun e G I y A s' B D b j x=>⟨y,A,s',B,D,b,j,?_⟩
 cases e with
 |normal=>exact h _ _ x
 |_=>exact x
theorem wE{body:Code}{σ:Type 1}(i0 n:Nat)(y:i0<=n)(I:Nat->σ->AS)(J:Nat->σ->bn->Prop)(B:σ)(C:List Nat)(G:J i0 B X)(h0:Wk s.nx C s (I i0 B))(A: ∀i x Y,J i x Y->Y.still)
  (b: ∀i x Y,i<=n->J i x Y->GX P nt (.code body:: .lp (fun t u=>i<n∧ ∃j L,J (i+1) j u∧Wk s.nx L t (I (i+1) j))::k0) Q (I i x) Y):GX P nt (.code (.loop body)::k0) Q s X:=by
 refine NJ (σ:={p:Nat×σ×bn//p.1<=n∧J p.1 p.2.1 p.2.2}) (fun p=>I p.1.1 p.1.2.1) (fun p=>p.1.2.2) (fun p=>n-p.1.1) ⟨(i0,B,X),y,G⟩ C h0 Z (fun p=>A _ _ _ p.2.2) fun p=>?_;obtain⟨⟨i,x,Y⟩,h1,D⟩:=p;refine zw ?_ (b i x Y h1 D)
 rintro t u ⟨h3,j,L,h4,h5⟩;exact⟨⟨(i+1,j,u),h3,h4⟩,L,by show n-(i+1)<n-i;omega,h5,rfl⟩
end
section
variable {P:Program} {nt:Nat} {Q:XQ} {k:List XI} {s:AS} {X:bn}
def GoW(P:Program)(nt:Nat)(k:List XI)(Q:XQ)(X:bn)(n0:Nat)(t:AS):AQ:=fun e u=>(e= .normal∧ ∃L,Wk n0 L u t)∨(e≠ .normal∧kx P nt k Q e u X)
theorem vg{n0:Nat}{t u:AS}(L:List Nat)(h:Wk n0 L u t):GoW P nt k Q X n0 t .normal u:= .inl ⟨rfl,L,h⟩
theorem s9{c:Code}(t:AS)(h1:GO P nt [.code c] (GoW P nt k Q X s.nx t) s)(C:GX P nt k Q t X):GX P nt (.code c::k) Q s X:=by
 intro M N a w D hs;refine AW.then h1 D fun e G I x B u A b j=>?_;rcases j with⟨rfl,L,y⟩|⟨_,j⟩
 .obtain⟨g1,g2⟩:=jx.frame (y.ext A) hs;exact⟨x,_,t,X,g1,y.fits b,g2,C⟩
 .obtain⟨g1,g2⟩:=jx.frame A hs;exact⟨x,B,u,X,g1,b,g2,j⟩
end
def To(s t:AS):Prop:= ∀M N (nt:Nat) a w,Fits M N s nt a w-> ∃b j,Ext M N (· <s.nx) s.h w b j (· <t.nx) t.h w∧Fits b j t nt a w
theorem To.refl(s:AS):To s s:=fun M N _ _ _ b=>⟨M,N,.refl _ _ _ _ _,b⟩
theorem To.trans{s t u:AS}(h:To s t)(g:To t u):To s u:=fun M N nt a w A=>by
 obtain⟨b,x,B,f1⟩:=h M N nt a w A;obtain⟨j,y,C,f2⟩:=g b x nt a w f1;exact⟨j,y,B.trans C,f2⟩
theorem To.wk{s t:AS}{L:List Nat}(hw:Wk s.nx L s t):To s t:=fun M N _ _ _ b=>⟨M,_,hw.ext (.refl _ _ _ _ _),hw.fits b⟩
theorem To.row{s:AS}(i:Nat){sz:Nat}{es:List (List PV)}(el:Nat->List IV)(hi:s.h.get i=io (.row sz es))(a0: ∀k e,es[k]? =io e->e=(el k).map .iv)
  (hf:s.f.q9 i sz es.length) (hh:s.h.uc i sz es.length):To s ⟨s.f.jj i sz el,(i,is)::s.h.ji i sz el,s.nx⟩:=by
 intro M N nt a w b;obtain⟨J,h1,u,h4⟩:=wH b.1 hi a0;have B: ∀j o,AH.get ((i,is)::s.h.ji i sz el) j=io o-> ∃p,AH.get ((i,is)::s.h) j=io p∧s.h.get j=io p∧o=p.ji i sz el:=by
  intro j o x;obtain⟨g1,g2⟩:=bc j o x;rw[AH.qi,Pu]at g2;obtain⟨p,g3,g4⟩:=g2;exact⟨p,by rw[AH.ax,be g1];exact g3,g3,g4.symm⟩
 have hE:Ext M N (· <s.nx) s.h w J N (· <s.nx) ((i,is)::s.h.ji i sz el) w:=⟨h1.os,h1.tape,h1.output,h1.size,h1.fP,h1.oF,h1.gE,h1.nm,h1.ule,fun j o x y=>by
  obtain⟨p,g1,_,rfl⟩:=B j o x;rw[AO.ot]at y
  exact h1.fM j p g1 y⟩
 have hR:Rel J N (· <s.nx) ((i,is)::s.h.ji i sz el) w:=by
  refine⟨u.eh,fun j o x=>?_,fun j o x y=>?_,fun j o x=>?_,fun j k o p x hk ho D=>?_⟩
  .obtain⟨p,g1,_,rfl⟩:=B j o x;exact u.used j p g1
  .obtain⟨p,g1,_,rfl⟩:=B j o x;rw[AO.ot]at y;exact u.dN j p g1 y
  .obtain⟨p,g1,g2,rfl⟩:=B j o x;cases p with
   |cells cs T0=>
    obtain⟨c,T,q1,q2,q3,q4,q5⟩:=b.1.obj j _ g2;have hok:=AH.oW hh j _ g2;refine⟨c,T,q1,q2,by simpa[gx]using q3,fun k q hq=>?_,q5⟩;rw[gx,Ps,Pu]at hq;obtain⟨Y,I,rfl⟩:=hq;exact h4 _ _ (q4 k Y I) (gP hok k Y I)
   |row s2 es2=>
    have hok:=AH.oW hh j _ g2;rcases b.1.obj j _ g2 with rfl|⟨Y,c,T,q1,q2,q3,q4,q5⟩
    .exact .inl Z
    .refine .inr ⟨Y,c,T,q1,q2,by simpa using q3,fun k e C=>?_,fun k e j2 p C D=>?_⟩
     .rw[Ps,Pu]at C;obtain⟨R,A,rfl⟩:=C;rw[gx,PX];exact q4 k R A
     .rw[Ps,Pu]at C;obtain⟨R,A,rfl⟩:=C;rw[gx,Ps,Pu]at D;obtain⟨p0,G,rfl⟩:=D;exact h4 _ _ (q5 k R j2 p0 A G) (gP (hok R (P0 A)) j2 p0 G)
   |bp=>exact u.obj j _ g1
   |eC=>exact u.obj j _ g1
   |map=>exact u.obj j _ g1
   |bL=>exact u.obj j _ g1
   |dK=>exact u.obj j _ g1
   |gf=>exact u.obj j _ g1
   |dP=>exact u.obj j _ g1
  .obtain⟨o',g1,_,rfl⟩:=B j o x;obtain⟨p',g2,_,rfl⟩:=B k p hk;rw[AO.ot]at ho D;exact u.inj j k o' p' g1 g2 ho D
 have b0:Fits J N ⟨s.f.jj i sz el,(i,is)::s.h.ji i sz el,s.nx⟩ nt a w:=⟨hR,fun d=>by
  rw[AF.jh];exact h4 _ _ (b.2.1 d) (AF.kV hf d),b.2.2⟩
 exact⟨J,N,hE,b0⟩
section
variable {P:Program} {nt:Nat} {Q:AQ} {k:List KI} {s t:AS}
theorem zP{all rest:List Oper}(y:To s t)(h:GO P nt (.ops all rest::k) Q t):GO P nt (.ops all rest::k) Q s:=by
 intro M N a w x;obtain⟨j,u,A,b⟩:=y M N nt a w x;exact eI (fun e a2 B ⟨M2,N2,s2,hx2,hf2,hr2⟩=>⟨M2,N2,s2,A.trans hx2,hf2,hr2⟩) _ _ _ (h j u a w b)
end
end
end Go.Al
namespace Go.Proofs.YtllkaddcplhklaaGreatDoor
open Go Go.Al Go.Proofs.Tryz
def ty2:bG:=⟨.aO (.int .i64),1,8,.int .i64 (0),kw⟩
theorem Mw:ai prog 2 ty2:=⟨ad (by kernel_rfl),⟨underlying2,rfl⟩,fun h=>nomatch h⟩
def ty3:bG:=⟨.aO (.int .i64),1,8,.int .i64 (0),kw⟩
theorem Mv:ai prog 3 ty3:=⟨ad (by kernel_rfl),⟨underlying3,rfl⟩,fun h=>nomatch h⟩
def ty4:bG:=⟨.aO (.bool),1,1,.bool kw,kw⟩
theorem Mu:ai prog 4 ty4:=⟨ad (by kernel_rfl),⟨underlying4,rfl⟩,fun h=>nomatch h⟩
def ty5:bG:=⟨.aO (.int .u8),1,1,.int .u8 (0),kw⟩
theorem Mt:ai prog 5 ty5:=⟨ad (by kernel_rfl),⟨underlying5,rfl⟩,fun h=>nomatch h⟩
def ty9:bG:=⟨.aO (.string),1,16,.string Pt,kw⟩
theorem Ms:ai prog 9 ty9:=⟨ad (by kernel_rfl),⟨underlying9,rfl⟩,fun h=>nomatch h⟩
def M5:bG:=⟨.aO (.int .i32),1,4,.int .i32 (0),kw⟩
theorem KS:ai prog 21 M5:=⟨ad (by kernel_rfl),⟨underlying21,rfl⟩,fun h=>nomatch h⟩
def M4:bG:=⟨.aO (.pointer 70),1,8,.pointer is,kw⟩
theorem KR:ai prog 23 M4:=⟨ad (by kernel_rfl),⟨underlying23,rfl⟩,fun h=>nomatch h⟩
def M3:bG:=⟨.aO (.int .i64),1,8,.int .i64 (0),kw⟩
theorem KQ:ai prog 24 M3:=⟨ad (by kernel_rfl),⟨underlying24,rfl⟩,fun h=>nomatch h⟩
def MZ:bG:=⟨.aO (.slice 3),1,24,.slice is 0 0,kw⟩
theorem KP:ai prog 27 MZ:=⟨ad (by kernel_rfl),⟨underlying27,rfl⟩,fun h=>nomatch h⟩
def MY:bG:=⟨.cO [(0,3),(1,3)],2,16,.agg #[.int .i64 (0),.int .i64 (0)],jp⟩
theorem KO:ai prog 29 MY:=⟨ad (by kernel_rfl),⟨_,underlying29,rfl⟩,fun _=>cm underlying29 Tryz.stoodInHeld29 Tryz.eqGuardType29 (by decide)⟩
def MX:bG:=⟨.cO [(0,9),(1,27),(2,29)],4,56,.agg #[.string Pt,.slice is 0 0,.int .i64 (0),.int .i64 (0)],jp⟩
theorem KN:ai prog 31 MX:=⟨ad (by kernel_rfl),⟨_,underlying31,rfl⟩,fun _=>cm underlying31 Tryz.stoodInHeld31 Tryz.eqGuardType31 (by decide)⟩
def MW:bG:=⟨.aO (.slice 31),1,24,.slice is 0 0,kw⟩
theorem KL:ai prog 32 MW:=⟨ad (by kernel_rfl),⟨underlying32,rfl⟩,fun h=>nomatch h⟩
def MV:bG:=⟨.aO (.slice 99),1,24,.slice is 0 0,kw⟩
theorem KK:ai prog 33 MV:=⟨ad (by kernel_rfl),⟨underlying33,rfl⟩,fun h=>nomatch h⟩
def MU:bG:=⟨.cO [(0,32),(1,33)],2,48,.agg #[.slice is 0 0,.slice is 0 0],jp⟩
theorem KJ:ai prog 35 MU:=⟨ad (by kernel_rfl),⟨_,underlying35,rfl⟩,fun _=>cm underlying35 Tryz.stoodInHeld35 Tryz.eqGuardType35 (by decide)⟩
def MT:bG:=⟨.aO (.slice 42),1,24,.slice is 0 0,kw⟩
theorem KH:ai prog 36 MT:=⟨ad (by kernel_rfl),⟨underlying36,rfl⟩,fun h=>nomatch h⟩
def MS:bG:=⟨.aO (.slice 72),1,24,.slice is 0 0,kw⟩
theorem KG:ai prog 37 MS:=⟨ad (by kernel_rfl),⟨underlying37,rfl⟩,fun h=>nomatch h⟩
def MR:bG:=⟨.cO [(0,9),(1,37)],2,40,.agg #[.string Pt,.slice is 0 0],jp⟩
theorem KF:ai prog 39 MR:=⟨ad (by kernel_rfl),⟨_,underlying39,rfl⟩,fun _=>cm underlying39 Tryz.stoodInHeld39 Tryz.eqGuardType39 (by decide)⟩
def MQ:bG:=⟨.cO [(0,4),(1,39)],3,48,.agg #[.bool kw,.string Pt,.slice is 0 0],jp⟩
theorem KE:ai prog 42 MQ:=⟨ad (by kernel_rfl),⟨_,underlying42,rfl⟩,fun _=>cm underlying42 Tryz.stoodInHeld42 Tryz.eqGuardType42 (by decide)⟩
def MP:bG:=⟨.aO (.slice 39),1,24,.slice is 0 0,kw⟩
theorem KD:ai prog 48 MP:=⟨ad (by kernel_rfl),⟨underlying48,rfl⟩,fun h=>nomatch h⟩
def MO:bG:=⟨.aO (.func #[39,39] #[4] kw),1,8,.nilFunc,kw⟩
theorem KB:ai prog 61 MO:=⟨ad (by kernel_rfl),⟨underlying61,rfl⟩,fun h=>nomatch h⟩
def MN:bG:=⟨.cO [(0,24),(1,29)],3,24,.agg #[.int .i64 (0),.int .i64 (0),.int .i64 (0)],jp⟩
theorem KA:ai prog 63 MN:=⟨ad (by kernel_rfl),⟨_,underlying63,rfl⟩,fun _=>cm underlying63 Tryz.stoodInHeld63 Tryz.eqGuardType63 (by decide)⟩
def MM:bG:=⟨.aO (.map 78 39),1,8,.map is,kw⟩
theorem Kz:ai prog 65 MM:=⟨ad (by kernel_rfl),⟨underlying65,rfl⟩,fun h=>nomatch h⟩
def ML:bG:=⟨.cO [(0,65)],1,8,.agg #[.map is],jp⟩
theorem Ky:ai prog 67 ML:=⟨ad (by kernel_rfl),⟨_,underlying67,rfl⟩,fun _=>cm underlying67 Tryz.stoodInHeld67 Tryz.eqGuardType67 (by decide)⟩
def MK:bG:=⟨.cO [(0,67),(1,35),(3,3)],4,64,.agg #[.map is,.slice is 0 0,.slice is 0 0,.int .i64 (0)],jp⟩
theorem Kx:ai prog 70 MK:=⟨ad (by kernel_rfl),⟨_,underlying70,rfl⟩,fun _=>cm underlying70 Tryz.stoodInHeld70 Tryz.eqGuardType70 (by decide)⟩
def MJ:bG:=⟨.cO [(0,3),(1,3),(2,9)],3,32,.agg #[.int .i64 (0),.int .i64 (0),.string Pt],jp⟩
theorem Kw:ai prog 72 MJ:=⟨ad (by kernel_rfl),⟨_,underlying72,rfl⟩,fun _=>cm underlying72 Tryz.stoodInHeld72 Tryz.eqGuardType72 (by decide)⟩
def MI:bG:=⟨.aO (.map 78 42),1,8,.map is,kw⟩
theorem Kv:ai prog 73 MI:=⟨ad (by kernel_rfl),⟨underlying73,rfl⟩,fun h=>nomatch h⟩
def MH:bG:=⟨.arr 8 72,24,256,.agg #[.int .i64 (0),.int .i64 (0),.string Pt,.int .i64 (0),.int .i64 (0),.string Pt,.int .i64 (0),.int .i64 (0),.string Pt,.int .i64 (0),.int .i64 (0),.string Pt,.int .i64 (0),.int .i64 (0),.string Pt,.int .i64 (0),.int .i64 (0),.string Pt,.int .i64 (0),.int .i64 (0),.string Pt,.int .i64 (0),.int .i64 (0),.string Pt],kw⟩
theorem Ku:ai prog 76 MH:=⟨ad (by kernel_rfl),underlying76,fun h=>nomatch h⟩
def fm:bG:=⟨.cO [(0,9),(1,3),(2,76)],26,280,.agg #[.string Pt,.int .i64 (0),.int .i64 (0),.int .i64 (0),.string Pt,.int .i64 (0),.int .i64 (0),.string Pt,.int .i64 (0),.int .i64 (0),.string Pt,.int .i64 (0),.int .i64 (0),.string Pt,.int .i64 (0),.int .i64 (0),.string Pt,.int .i64 (0),.int .i64 (0),.string Pt,.int .i64 (0),.int .i64 (0),.string Pt,.int .i64 (0),.int .i64 (0),.string Pt],jp⟩
theorem Kt:ai prog 78 fm:=⟨ad (by kernel_rfl),⟨_,underlying78,rfl⟩,fun _=>cm underlying78 Tryz.stoodInHeld78 Tryz.eqGuardType78 (by decide)⟩
def MG:bG:=⟨.aO (.pointer 67),1,8,.pointer is,kw⟩
theorem Ks:ai prog 81 MG:=⟨ad (by kernel_rfl),⟨underlying81,rfl⟩,fun h=>nomatch h⟩
def MF:bG:=⟨.aO (.func #[39,39] #[3] kw),1,8,.nilFunc,kw⟩
theorem Kr:ai prog 85 MF:=⟨ad (by kernel_rfl),⟨underlying85,rfl⟩,fun h=>nomatch h⟩
def ME:bG:=⟨.aO (.map 9 92),1,8,.map is,kw⟩
theorem Kq:ai prog 88 ME:=⟨ad (by kernel_rfl),⟨underlying88,rfl⟩,fun h=>nomatch h⟩
def MD:bG:=⟨.aO (.map 9 92),1,8,.map is,kw⟩
theorem Kp:ai prog 89 MD:=⟨ad (by kernel_rfl),⟨underlying89,rfl⟩,fun h=>nomatch h⟩
def MC:bG:=⟨.aO (.map 9 3),1,8,.map is,kw⟩
theorem Ko:ai prog 92 MC:=⟨ad (by kernel_rfl),⟨underlying92,rfl⟩,fun h=>nomatch h⟩
def MA:bG:=⟨.aO (.slice 104),1,24,.slice is 0 0,kw⟩
theorem Kn:ai prog 94 MA:=⟨ad (by kernel_rfl),⟨underlying94,rfl⟩,fun h=>nomatch h⟩
def Mz:bG:=⟨.cO [(0,9),(1,94)],2,40,.agg #[.string Pt,.slice is 0 0],jp⟩
theorem Km:ai prog 96 Mz:=⟨ad (by kernel_rfl),⟨_,underlying96,rfl⟩,fun _=>cm underlying96 Tryz.stoodInHeld96 Tryz.eqGuardType96 (by decide)⟩
def My:bG:=⟨.aO (.slice 128),1,24,.slice is 0 0,kw⟩
theorem Kl:ai prog 97 My:=⟨ad (by kernel_rfl),⟨underlying97,rfl⟩,fun h=>nomatch h⟩
def Mx:bG:=⟨.cO [(0,96),(2,97),(3,29)],5,80,.agg #[.string Pt,.slice is 0 0,.slice is 0 0,.int .i64 (0),.int .i64 (0)],jp⟩
theorem Kk:ai prog 99 Mx:=⟨ad (by kernel_rfl),⟨_,underlying99,rfl⟩,fun _=>cm underlying99 Tryz.stoodInHeld99 Tryz.eqGuardType99 (by decide)⟩
def JP:bG:=⟨.cO [(0,3),(1,9),(2,72)],5,56,.agg #[.int .i64 (0),.string Pt,.int .i64 (0),.int .i64 (0),.string Pt],jp⟩
theorem GY:ai prog 104 JP:=⟨ad (by kernel_rfl),⟨_,underlying104,rfl⟩,fun _=>cm underlying104 Tryz.stoodInHeld104 Tryz.eqGuardType104 (by decide)⟩
def JO:bG:=⟨.aO (.func #[78,42] #[4] kw),1,8,.nilFunc,kw⟩
theorem GW:ai prog 111 JO:=⟨ad (by kernel_rfl),⟨underlying111,rfl⟩,fun h=>nomatch h⟩
def JN:bG:=⟨.aO (.func #[42,42] #[3] kw),1,8,.nilFunc,kw⟩
theorem GV:ai prog 114 JN:=⟨ad (by kernel_rfl),⟨underlying114,rfl⟩,fun h=>nomatch h⟩
def JM:bG:=⟨.aO (.slice 124),1,24,.slice is 0 0,kw⟩
theorem GU:ai prog 122 JM:=⟨ad (by kernel_rfl),⟨underlying122,rfl⟩,fun h=>nomatch h⟩
def JL:bG:=⟨.cO [(0,3),(1,9),(2,72),(5,3),(6,122)],7,88,.agg #[.int .i64 (0),.string Pt,.int .i64 (0),.int .i64 (0),.string Pt,.int .i64 (0),.slice is 0 0],jp⟩
theorem GS:ai prog 124 JL:=⟨ad (by kernel_rfl),⟨_,underlying124,rfl⟩,fun _=>cm underlying124 Tryz.stoodInHeld124 Tryz.eqGuardType124 (by decide)⟩
def JK:bG:=⟨.cO [(0,3),(1,9),(2,124),(9,97)],10,136,.agg #[.int .i64 (0),.string Pt,.int .i64 (0),.string Pt,.int .i64 (0),.int .i64 (0),.string Pt,.int .i64 (0),.slice is 0 0,.slice is 0 0],jp⟩
theorem GR:ai prog 126 JK:=⟨ad (by kernel_rfl),⟨_,underlying126,rfl⟩,fun _=>cm underlying126 Tryz.stoodInHeld126 Tryz.eqGuardType126 (by decide)⟩
def JJ:bG:=⟨.cO [(0,3),(1,96),(3,3),(4,124),(11,124),(18,126),(28,29)],30,384,.agg #[.int .i64 (0),.string Pt,.slice is 0 0,.int .i64 (0),.int .i64 (0),.string Pt,.int .i64 (0),.int .i64 (0),.string Pt,.int .i64 (0),.slice is 0 0,.int .i64 (0),.string Pt,.int .i64 (0),.int .i64 (0),.string Pt,.int .i64 (0),.slice is 0 0,.int .i64 (0),.string Pt,.int .i64 (0),.string Pt,.int .i64 (0),.int .i64 (0),.string Pt,.int .i64 (0),.slice is 0 0,.slice is 0 0,.int .i64 (0),.int .i64 (0)],jp⟩
theorem GQ:ai prog 128 JJ:=⟨ad (by kernel_rfl),⟨_,underlying128,rfl⟩,fun _=>cm underlying128 Tryz.stoodInHeld128 Tryz.eqGuardType128 (by decide)⟩
def JI:bG:=⟨.aO (.slice 9),1,24,.slice is 0 0,kw⟩
theorem GP:ai prog 129 JI:=⟨ad (by kernel_rfl),⟨underlying129,rfl⟩,fun h=>nomatch h⟩
def JH:bG:=⟨.aO (.func #[63] #[4] kw),1,8,.nilFunc,kw⟩
theorem GN:ai prog 132 JH:=⟨ad (by kernel_rfl),⟨underlying132,rfl⟩,fun h=>nomatch h⟩
def JG:bG:=⟨.aO (.func #[9] #[3] kw),1,8,.nilFunc,kw⟩
theorem GL:ai prog 133 JG:=⟨ad (by kernel_rfl),⟨underlying133,rfl⟩,fun h=>nomatch h⟩
def JF:bG:=⟨.aO (.pointer 128),1,8,.pointer is,kw⟩
theorem GK:ai prog 139 JF:=⟨ad (by kernel_rfl),⟨underlying139,rfl⟩,fun h=>nomatch h⟩
def JE:bG:=⟨.aO (.map 9 31),1,8,.map is,kw⟩
theorem GJ:ai prog 142 JE:=⟨ad (by kernel_rfl),⟨underlying142,rfl⟩,fun h=>nomatch h⟩
def JD:bG:=⟨.aO (.int .u64),1,8,.int .u64 (0),kw⟩
theorem GI:ai prog 147 JD:=⟨ad (by kernel_rfl),⟨underlying147,rfl⟩,fun h=>nomatch h⟩
def JC:bG:=⟨.aO (.func #[72,72] #[3] kw),1,8,.nilFunc,kw⟩
theorem GH:ai prog 151 JC:=⟨ad (by kernel_rfl),⟨underlying151,rfl⟩,fun h=>nomatch h⟩
def JB:bG:=⟨.aO (.map 9 3),1,8,.map is,kw⟩
theorem GG:ai prog 155 JB:=⟨ad (by kernel_rfl),⟨underlying155,rfl⟩,fun h=>nomatch h⟩
def JA:bG:=⟨.aO (.func #[124] #[4] kw),1,8,.nilFunc,kw⟩
theorem GF:ai prog 157 JA:=⟨ad (by kernel_rfl),⟨underlying157,rfl⟩,fun h=>nomatch h⟩
def Jz:bG:=⟨.aO (.func #[126] #[4] kw),1,8,.nilFunc,kw⟩
theorem GD:ai prog 158 Jz:=⟨ad (by kernel_rfl),⟨underlying158,rfl⟩,fun h=>nomatch h⟩
def Jy:bG:=⟨.aO (.func #[128] #[4] kw),1,8,.nilFunc,kw⟩
theorem GC:ai prog 162 Jy:=⟨ad (by kernel_rfl),⟨underlying162,rfl⟩,fun h=>nomatch h⟩
def Jx:bG:=⟨.aO (.int .i64),1,8,.int .i64 (0),kw⟩
theorem GB:ai prog 167 Jx:=⟨ad (by kernel_rfl),⟨underlying167,rfl⟩,fun h=>nomatch h⟩
def Jw:bG:=⟨.aO (.int .u32),1,4,.int .u32 (0),kw⟩
theorem GA:ai prog 175 Jw:=⟨ad (by kernel_rfl),⟨underlying175,rfl⟩,fun h=>nomatch h⟩
def Jv:bG:=⟨.aO (.int .u64),1,8,.int .u64 (0),kw⟩
theorem Gz:ai prog 177 Jv:=⟨ad (by kernel_rfl),⟨underlying177,rfl⟩,fun h=>nomatch h⟩
def Ju:bG:=⟨.aO (.func #[3] #[4] kw),1,8,.nilFunc,kw⟩
theorem Gy:ai prog 185 Ju:=⟨ad (by kernel_rfl),⟨underlying185,rfl⟩,fun h=>nomatch h⟩
def Jt:bG:=⟨.aO (.pointer 229),1,8,.pointer is,kw⟩
theorem Gx:ai prog 189 Jt:=⟨ad (by kernel_rfl),⟨underlying189,rfl⟩,fun h=>nomatch h⟩
def Js:bG:=⟨.aO (.slice 96),1,24,.slice is 0 0,kw⟩
theorem Gw:ai prog 192 Js:=⟨ad (by kernel_rfl),⟨underlying192,rfl⟩,fun h=>nomatch h⟩
def Jr:bG:=⟨.aO (.func #[96] #[4] kw),1,8,.nilFunc,kw⟩
theorem Gv:ai prog 194 Jr:=⟨ad (by kernel_rfl),⟨underlying194,rfl⟩,fun h=>nomatch h⟩
def Jq:bG:=⟨.cO [(0,24),(1,185)],2,16,.agg #[.int .i64 (0),.nilFunc],jp⟩
theorem Gu:ai prog 195 Jq:=⟨ad (by kernel_rfl),⟨_,underlying195,rfl⟩,fun _=>cm underlying195 Tryz.stoodInHeld195 Tryz.eqGuardType195 (by decide)⟩
def Jp:bG:=⟨.aO (.pointer 238),1,8,.pointer is,kw⟩
theorem Gt:ai prog 197 Jp:=⟨ad (by kernel_rfl),⟨underlying197,rfl⟩,fun h=>nomatch h⟩
def Jo:bG:=⟨.aO (.slice 195),1,24,.slice is 0 0,kw⟩
theorem Gs:ai prog 199 Jo:=⟨ad (by kernel_rfl),⟨underlying199,rfl⟩,fun h=>nomatch h⟩
def Jn:bG:=⟨.aO (.func #[72] #[4] kw),1,8,.nilFunc,kw⟩
theorem Gr:ai prog 209 Jn:=⟨ad (by kernel_rfl),⟨underlying209,rfl⟩,fun h=>nomatch h⟩
def Jm:bG:=⟨.aO (.int .u64),1,8,.int .u64 (0),kw⟩
theorem Gq:ai prog 210 Jm:=⟨ad (by kernel_rfl),⟨underlying210,rfl⟩,fun h=>nomatch h⟩
def Jl:bG:=⟨.aO (.pointer 3),1,8,.pointer is,kw⟩
theorem Gp:ai prog 214 Jl:=⟨ad (by kernel_rfl),⟨underlying214,rfl⟩,fun h=>nomatch h⟩
def Jk:bG:=⟨.aO (.pointer 225),1,8,.pointer is,kw⟩
theorem Gn:ai prog 219 Jk:=⟨ad (by kernel_rfl),⟨underlying219,rfl⟩,fun h=>nomatch h⟩
def Jj:bG:=⟨.aO (.pointer 223),1,8,.pointer is,kw⟩
theorem Gm:ai prog 220 Jj:=⟨ad (by kernel_rfl),⟨underlying220,rfl⟩,fun h=>nomatch h⟩
def Ji:bG:=⟨.aO (.slice 5),1,24,.slice is 0 0,kw⟩
theorem Gl:ai prog 221 Ji:=⟨ad (by kernel_rfl),⟨underlying221,rfl⟩,fun h=>nomatch h⟩
def Jh:bG:=⟨.cO [(0,220),(1,221)],2,32,.agg #[.pointer is,.slice is 0 0],jp⟩
theorem Gk:ai prog 223 Jh:=⟨ad (by kernel_rfl),⟨_,underlying223,rfl⟩,fun _=>cm underlying223 Tryz.stoodInHeld223 Tryz.eqGuardType223 (by decide)⟩
def Jg:bG:=⟨.cO [(0,223),(2,4),(3,3)],4,48,.agg #[.pointer is,.slice is 0 0,.bool kw,.int .i64 (0)],jp⟩
theorem Gj:ai prog 225 Jg:=⟨ad (by kernel_rfl),⟨_,underlying225,rfl⟩,fun _=>cm underlying225 Tryz.stoodInHeld225 Tryz.eqGuardType225 (by decide)⟩
def Jf:bG:=⟨.cO [(0,99),(5,155)],6,88,.agg #[.string Pt,.slice is 0 0,.slice is 0 0,.int .i64 (0),.int .i64 (0),.map is],jp⟩
theorem Gi:ai prog 229 Jf:=⟨ad (by kernel_rfl),⟨_,underlying229,rfl⟩,fun _=>cm underlying229 Tryz.stoodInHeld229 Tryz.eqGuardType229 (by decide)⟩
def Je:bG:=⟨.aO (.func #[104] #[4] kw),1,8,.nilFunc,kw⟩
theorem Gh:ai prog 233 Je:=⟨ad (by kernel_rfl),⟨underlying233,rfl⟩,fun h=>nomatch h⟩
def Jd:bG:=⟨.aO (.map 244 244),1,8,.map is,kw⟩
theorem Gg:ai prog 234 Jd:=⟨ad (by kernel_rfl),⟨underlying234,rfl⟩,fun h=>nomatch h⟩
def Jc:bG:=⟨.aO (.map 244 3),1,8,.map is,kw⟩
theorem Gf:ai prog 235 Jc:=⟨ad (by kernel_rfl),⟨underlying235,rfl⟩,fun h=>nomatch h⟩
def Jb:bG:=⟨.aO (.slice 246),1,24,.slice is 0 0,kw⟩
theorem Ge:ai prog 236 Jb:=⟨ad (by kernel_rfl),⟨underlying236,rfl⟩,fun h=>nomatch h⟩
def Ja:bG:=⟨.cO [(0,189),(1,234),(2,236),(3,235)],4,48,.agg #[.pointer is,.map is,.slice is 0 0,.map is],jp⟩
theorem Gd:ai prog 238 Ja:=⟨ad (by kernel_rfl),⟨_,underlying238,rfl⟩,fun _=>cm underlying238 Tryz.stoodInHeld238 Tryz.eqGuardType238 (by decide)⟩
def I9:bG:=⟨.cO [(0,9),(1,3)],2,24,.agg #[.string Pt,.int .i64 (0)],jp⟩
theorem Gc:ai prog 244 I9:=⟨ad (by kernel_rfl),⟨_,underlying244,rfl⟩,fun _=>cm underlying244 Tryz.stoodInHeld244 Tryz.eqGuardType244 (by decide)⟩
def I8:bG:=⟨.cO [(0,3),(1,244),(3,3),(4,3)],5,48,.agg #[.int .i64 (0),.string Pt,.int .i64 (0),.int .i64 (0),.int .i64 (0)],jp⟩
theorem Gb:ai prog 246 I8:=⟨ad (by kernel_rfl),⟨_,underlying246,rfl⟩,fun _=>cm underlying246 Tryz.stoodInHeld246 Tryz.eqGuardType246 (by decide)⟩
def I7:bG:=⟨.aO (.func #[21] #[4] kw),1,8,.nilFunc,kw⟩
theorem Ga:ai prog 256 I7:=⟨ad (by kernel_rfl),⟨underlying256,rfl⟩,fun h=>nomatch h⟩
def I6:bG:=⟨.aO (.pointer 210),1,8,.pointer is,kw⟩
theorem F9:ai prog 258 I6:=⟨ad (by kernel_rfl),⟨underlying258,rfl⟩,fun h=>nomatch h⟩
def I5:bG:=⟨.arr 7 9,7,112,.agg #[.string Pt,.string Pt,.string Pt,.string Pt,.string Pt,.string Pt,.string Pt],kw⟩
theorem F8:ai prog 266 I5:=⟨ad (by kernel_rfl),underlying266,fun h=>nomatch h⟩
def I4:bG:=⟨.aO (.pointer 5),1,8,.pointer is,kw⟩
theorem F7:ai prog 281 I4:=⟨ad (by kernel_rfl),⟨underlying281,rfl⟩,fun h=>nomatch h⟩
def I3:bG:=⟨.arr 5 9,5,80,.agg #[.string Pt,.string Pt,.string Pt,.string Pt,.string Pt],kw⟩
theorem F6:ai prog 283 I3:=⟨ad (by kernel_rfl),underlying283,fun h=>nomatch h⟩
def I2:bG:=⟨.aO (.unsafePointer),1,8,.pointer is,kw⟩
theorem F5:ai prog 291 I2:=⟨ad (by kernel_rfl),⟨underlying291,rfl⟩,fun h=>nomatch h⟩
def I1:bG:=⟨.arr 24 5,24,24,.agg (.replicate 24 (.int .u8 (0))),kw⟩
theorem F4:ai prog 295 I1:=⟨ad (by kernel_rfl),underlying295,fun h=>nomatch h⟩
def I0:bG:=⟨.arr 20 177,20,160,.agg (.replicate 20 (.int .u64 (0))),kw⟩
theorem F3:ai prog 300 I0:=⟨ad (by kernel_rfl),underlying300,fun h=>nomatch h⟩
def IZ:bG:=⟨.arr 65 5,65,65,.agg (.replicate 65 (.int .u8 (0))),kw⟩
theorem F2:ai prog 301 IZ:=⟨ad (by kernel_rfl),underlying301,fun h=>nomatch h⟩
def IY:bG:=⟨.arr 32 5,32,32,.agg (.replicate 32 (.int .u8 (0))),kw⟩
theorem F1:ai prog 302 IY:=⟨ad (by kernel_rfl),underlying302,fun h=>nomatch h⟩
def IX:bG:=⟨.arr 64 5,64,64,.agg (.replicate 64 (.int .u8 (0))),kw⟩
theorem F0:ai prog 303 IX:=⟨ad (by kernel_rfl),underlying303,fun h=>nomatch h⟩
def Dl:TT:=(.node (.node (.node (.node (.node (.node (.node .leaf 2 ty2 .leaf) 3 ty3 .leaf) 4 ty4 (.node (.node .leaf 5 ty5 .leaf) 9 ty9 .leaf)) 21 M5 (.node (.node (.node .leaf 23 M4 .leaf) 24 M3 .leaf) 27 MZ (.node (.node .leaf 29 MY .leaf) 31 MX .leaf))) 32 MW (.node (.node (.node (.node .leaf 33 MV .leaf) 35 MU .leaf) 36 MT (.node (.node .leaf 37 MS .leaf) 39 MR .leaf)) 42 MQ (.node (.node (.node .leaf 48 MP .leaf) 61 MO .leaf) 63 MN (.node (.node .leaf 65 MM .leaf) 67 ML .leaf)))) 70 MK (.node (.node (.node (.node (.node .leaf 72 MJ .leaf) 73 MI .leaf) 76 MH (.node (.node .leaf 78 fm .leaf) 81 MG .leaf)) 85 MF (.node (.node (.node .leaf 88 ME .leaf) 89 MD .leaf) 92 MC (.node (.node .leaf 94 MA .leaf) 96 Mz .leaf))) 97 My (.node (.node (.node (.node .leaf 99 Mx .leaf) 104 JP .leaf) 111 JO (.node (.node .leaf 114 JN .leaf) 122 JM .leaf)) 124 JL (.node (.node (.node .leaf 126 JK .leaf) 128 JJ .leaf) 129 JI (.node .leaf 132 JH .leaf))))) 133 JG (.node (.node (.node (.node (.node (.node .leaf 139 JF .leaf) 142 JE .leaf) 147 JD (.node (.node .leaf 151 JC .leaf) 155 JB .leaf)) 157 JA (.node (.node (.node .leaf 158 Jz .leaf) 162 Jy .leaf) 167 Jx (.node (.node .leaf 175 Jw .leaf) 177 Jv .leaf))) 185 Ju (.node (.node (.node (.node .leaf 189 Jt .leaf) 192 Js .leaf) 194 Jr (.node (.node .leaf 195 Jq .leaf) 197 Jp .leaf)) 199 Jo (.node (.node (.node .leaf 209 Jn .leaf) 210 Jm .leaf) 214 Jl (.node .leaf 219 Jk .leaf)))) 220 Jj (.node (.node (.node (.node (.node .leaf 221 Ji .leaf) 223 Jh .leaf) 225 Jg (.node (.node .leaf 229 Jf .leaf) 233 Je .leaf)) 234 Jd (.node (.node (.node .leaf 235 Jc .leaf) 236 Jb .leaf) 238 Ja (.node (.node .leaf 244 I9 .leaf) 246 I8 .leaf))) 256 I7 (.node (.node (.node (.node .leaf 258 I6 .leaf) 266 I5 .leaf) 281 I4 (.node (.node .leaf 283 I3 .leaf) 291 I2 .leaf)) 295 I1 (.node (.node (.node .leaf 300 I0 .leaf) 301 IZ .leaf) 302 IY (.node .leaf 303 IX .leaf))))))
theorem yT:Dl.Oo (ai prog):=⟨GL,⟨Kx,⟨KL,⟨KS,⟨Mu,⟨Mv,⟨Mw,ac,ac⟩,ac⟩,⟨Ms,⟨Mt,ac,ac⟩,ac⟩⟩,⟨KP,⟨KQ,⟨KR,ac,ac⟩,ac⟩,⟨KN,⟨KO,ac,ac⟩,ac⟩⟩⟩,⟨KE,⟨KH,⟨KJ,⟨KK,ac,ac⟩,ac⟩,⟨KF,⟨KG,ac,ac⟩,ac⟩⟩,⟨KA,⟨KB,⟨KD,ac,ac⟩,ac⟩,⟨Ky,⟨Kz,ac,ac⟩,ac⟩⟩⟩⟩,⟨Kl,⟨Kr,⟨Ku,⟨Kv,⟨Kw,ac,ac⟩,ac⟩,⟨Ks,⟨Kt,ac,ac⟩,ac⟩⟩,⟨Ko,⟨Kp,⟨Kq,ac,ac⟩,ac⟩,⟨Km,⟨Kn,ac,ac⟩,ac⟩⟩⟩,⟨GS,⟨GW,⟨GY,⟨Kk,ac,ac⟩,ac⟩,⟨GU,⟨GV,ac,ac⟩,ac⟩⟩,⟨GP,⟨GQ,⟨GR,ac,ac⟩,ac⟩,⟨GN,ac,ac⟩⟩⟩⟩⟩,⟨Gm,⟨Gy,⟨GF,⟨GI,⟨GJ,⟨GK,ac,ac⟩,ac⟩,⟨GG,⟨GH,ac,ac⟩,ac⟩⟩,⟨GB,⟨GC,⟨GD,ac,ac⟩,ac⟩,⟨Gz,⟨GA,ac,ac⟩,ac⟩⟩⟩,⟨Gs,⟨Gv,⟨Gw,⟨Gx,ac,ac⟩,ac⟩,⟨Gt,⟨Gu,ac,ac⟩,ac⟩⟩,⟨Gp,⟨Gq,⟨Gr,ac,ac⟩,ac⟩,⟨Gn,ac,ac⟩⟩⟩⟩,⟨Ga,⟨Gg,⟨Gj,⟨Gk,⟨Gl,ac,ac⟩,ac⟩,⟨Gh,⟨Gi,ac,ac⟩,ac⟩⟩,⟨Gd,⟨Ge,⟨Gf,ac,ac⟩,ac⟩,⟨Gb,⟨Gc,ac,ac⟩,ac⟩⟩⟩,⟨F4,⟨F7,⟨F8,⟨F9,ac,ac⟩,ac⟩,⟨F5,⟨F6,ac,ac⟩,ac⟩⟩,⟨F1,⟨F2,⟨F3,ac,ac⟩,ac⟩,⟨F0,ac,ac⟩⟩⟩⟩⟩⟩
def nN:Ty:=Dl.find
theorem ab:bz prog nN:=TT.tm yT
theorem LI:prog.follows .mixedOrders=jp:=rfl
theorem fk{Q:AQ}{nt:Nat}{k:List KI}{s:AS}{C:Prop}{b:Nat}{st:Stop}(h:bw nN ⟨fun _=>is,0,kw⟩ 400 nt k s True=io (C,b,st))(hC:C)(hg:ew prog b Q st):GO prog nt k Q s:=zQ LI ab 400 h hC hg
theorem gA{Q:AQ}{nt:Nat}{k:List KI}{s:AS}{C:Prop}{b:Nat}{st:Stop}(h:bw nN ⟨fun _=>is,0,kw⟩ 400 nt k s True=io (C,b,st))(hg:ew prog b Q st)
  (hC:C:=by(repeat' (first|exact ac|exact rfl|exact an.refl _|exact an.bk (by assumption)|apply Pq))<;>first|omega|exact fZ (fun _=>rfl) _|(simp only[Pr];omega)|(simp;done)|(simp;omega)):GO prog nt k Q s:=zQ LI ab 400 h hC hg
theorem gM(N:Nat){Q:AQ}{nt:Nat}{k:List KI}{s:AS}{C:Prop}{b:Nat}{st:Stop}(h:bw nN ⟨fun _=>is,0,kw⟩ N nt k s True=io (C,b,st))(hg:ew prog b Q st)
  (hC:C:=by(repeat' (first|exact ac|exact rfl|exact an.refl _|exact an.bk (by assumption)|apply Pq))<;>first|omega|exact fZ (fun _=>rfl) _|(simp only[Pr];omega)|(simp;done)|(simp;omega)):GO prog nt k Q s:=zQ LI ab N h hC hg
theorem zp{nt:Nat}{Q:AQ}{k:List KI}{s:AS}{all rest:List Oper}{o:Oper}{c:Call}{g:FuncId}{args:List PV}{r:PV}{s':AS}(hc:Al.Pure prog g args r)(h:GO prog nt (.ops all rest::k) Q s')(ho:o.op= .call c:=by exact rfl)(hg:o.guard=is:=by exact rfl)(ha:bR s.f c=io (g,args):=by exact rfl)(hl:bj 0 args=jp:=by exact rfl)(hr:r.low 0=jp:=by exact rfl)(hp:putDst nt o r s=io s':=by exact rfl):GO prog nt (.ops all (o::rest)::k) Q s:=aC hc ho hg ha hl hr hp h
theorem zL{ty:Ty}{j:List ResultVar}{e:Exit}{s:AS}{r r0:PV}(b:an r0 r)(he:e= .normal∨e= .ret:=by first|exact .inr Z|exact .inl Z)(h:iZ ty s j=io r0:=by exact rfl):C5 ty j r e s:=aN he h b
theorem zq{nt:Nat}{Q:AQ}{k:List KI}{s:AS}{all rest:List Oper}{o:Oper}{c:Call}{g:FuncId}{u args:List PV}{os:List AO}{r:PV}{y:AH}{A:Nat}{s':AS}(L:List Nat)(hc:bF prog g args os r y A)(h:GO prog nt (.ops all rest::k) Q s')(ho:o.op= .call c:=by exact rfl)(hg:o.guard=is:=by exact rfl)(ha:bR s.f c=io (g,u):=by exact rfl)(hn:cF L=jp:=by exact rfl)(hl:L.all (fun j=>PL j s.nx)=jp:=by exact rfl)(x:L.map s.h.get=os.map fun o=>io (o.cx (sig L s.nx)):=by exact rfl)(b:u=dA (sig L s.nx) args:=by exact rfl)(hp:putDst nt o (r.cx (sig L s.nx)) (aZ s L y A)=io s':=by exact rfl):GO prog nt (.ops all (o::rest)::k) Q s:=bx L hc ho hg ha hn hl x b hp h
theorem zd{nt:Nat}{Q:AQ}{k:List KI}{s:AS}{all:List Oper}{todo pend:List (Nat×Oper)}{j:Nat}{o:Oper}{c:Call}{g:FuncId}{u args:List PV}{os:List AO}{r:PV}{C:AH}{D:Nat}{s':AS}{B A:Prop}(L:List Nat)(hc:bF prog g args os r C D)(h:GO prog nt (.bX all (todo.filter fun x=>!PM x.1 j) (a7 pend o)::k) Q s')(hrd:eN todo=[(j,o)]:=by exact rfl)(ho:o.op= .call c:=by exact rfl)(ha:bR s.f c=io (g,u):=by exact rfl)(hn:cF L=jp:=by exact rfl)(hl:L.all (fun j=>PL j s.nx)=jp:=by exact rfl)(y:L.map s.h.get=os.map fun o=>io (o.cx (sig L s.nx)):=by exact rfl)(b:u=dA (sig L s.nx) args:=by exact rfl)(hp:putDst nt o (r.cx (sig L s.nx)) (aZ s L C D)=io s':=by exact rfl)(hg:bY nt all s.f o=io jp:=by exact rfl)(hpb:ib all pend o=jp:=by exact rfl)(hE:nk todo [j]=jp:=by exact rfl)(hag:nn nN nt all s todo pend=io B:=by exact rfl)(hCA:B:=by(repeat' (first|exact ac|exact rfl|exact an.refl _|exact an.bk (by assumption)|apply Pq))<;>first|omega|(simp only[Pr];omega)|(simp;done)|(simp;omega))(hag2:dF nN nt all s' (a7 pend o)=io A:=by exact rfl)(hC2:A:=by(repeat' (first|exact ac|exact rfl|exact an.refl _|exact an.bk (by assumption)|apply Pq))<;>first|omega|(simp only[Pr];omega)|(simp;done)|(simp;omega)):GO prog nt (.bX all todo pend::k) Q s:=bD ab L hc hrd ho ha hn hl y b hp hg hpb hE hag hCA hag2 hC2 h
theorem Ak{nt:Nat}{Q:AQ}{k:List KI}{s:AS}{all:List Oper}{todo pend:List (Nat×Oper)}{j:Nat}{o:Oper}{c:Call}{g:FuncId}{u args:List PV}{r:PV}{s':AS}{A y:Prop}(hc:Al.Pure prog g args r)(h:GO prog nt (.bX all (todo.filter fun x=>!PM x.1 j) (a7 pend o)::k) Q s')(hrd:eN todo=[(j,o)]:=by exact rfl)(ho:o.op= .call c:=by exact rfl)(ha:bR s.f c=io (g,u):=by exact rfl)(b:u=dA (sig [] s.nx) args:=by exact rfl)(hp:putDst nt o (r.cx (sig [] s.nx)) (aZ s [] [] 0)=io s':=by exact rfl)(hg:bY nt all s.f o=io jp:=by exact rfl)(hpb:ib all pend o=jp:=by exact rfl)(hE:nk todo [j]=jp:=by exact rfl)(hag:nn nN nt all s todo pend=io A:=by exact rfl)(hCA:A:=by(repeat' (first|exact ac|exact rfl|exact an.refl _|exact an.bk (by assumption)|apply Pq))<;>first|omega|(simp only[Pr];omega)|(simp;done)|(simp;omega))(hag2:dF nN nt all s' (a7 pend o)=io y:=by exact rfl)(hC2:y:=by(repeat' (first|exact ac|exact rfl|exact an.refl _|exact an.bk (by assumption)|apply Pq))<;>first|omega|(simp only[Pr];omega)|(simp;done)|(simp;omega)):GO prog nt (.bX all todo pend::k) Q s:=bD ab [] hc.rN hrd ho ha Z Z Z b hp hg hpb hE hag hCA hag2 hC2 h
theorem zW{n0:Nat}{L:List Nat}{s t:AS}(hh:mP t.nx (sg n0 L) s.h t.h)(h1:PM t.nx (n0+L.length)=jp:=by exact rfl)(b:Ry n0 s.nx=jp:=by exact rfl)(u:L.all (fun j=>PL j s.nx)=jp:=by exact rfl)(hf:Dc t.nx (sg n0 L) s.f t.f:=by repeat' (first|exact ac|exact an.refl _|exact rfl|apply Pq))(x:cF (en (sg n0 L) t.h)=jp:=by exact rfl):Wk n0 L s t:=wk h1 b u hf hh x
theorem zM{n0:Nat}{L:List Nat}{s t:AS}(hf:Dc t.nx (sg n0 L) s.f t.f)(hh:mP t.nx (sg n0 L) s.h t.h)(h1:PM t.nx (n0+L.length)=jp:=by exact rfl)(b:Ry n0 s.nx=jp:=by exact rfl)(u:L.all (fun j=>PL j s.nx)=jp:=by exact rfl)(x:cF (en (sg n0 L) t.h)=jp:=by exact rfl):Wk n0 L s t:=wk h1 b u hf hh x
theorem zK{n i:Nat}{σ:Nat->Nat}{h r:AH}{cs:List PV}{b:Option TypeId}{c:List IV}(hr:mP n σ h r)(ho:h.get (σ i)=io (.cells cs b):=by exact rfl)(he:cs=c.map .iv:=by exact rfl)(hi:PL i n=jp:=by exact rfl):mP n σ h ((i,io (az c))::r):=hC ho he hi hr
theorem zS{n i:Nat}{σ:Nat->Nat}{h r:AH}{α:Type}{sz:Nat}{es:List (List PV)}{l:List α}{f:α->List IV}(hr:mP n σ h r)(ho:h.get (σ i)=io (.row sz es):=by exact rfl)(he:es=l.map fun x=>(f x).map .iv:=by exact rfl)(hi:PL i n=jp:=by exact rfl):mP n σ h ((i,io (aF sz l f))::r):=hR ho he hi hr
theorem zI{a b:Prop}(l:a)(r:b):a∧b:=⟨l,r⟩
theorem zO{n i:Nat}{σ:Nat->Nat}{h r:AH}{o:AO}(hr:mP n σ h r)(he: ∃p,h.get (σ i)=io p∧dV p (o.cx σ):=by exact⟨_,rfl,.of_eq Z⟩)(hi:i<n:=by exact Pj Z)(hl:o.low n:=by exact rfl):mP n σ h ((i,io o)::r):=⟨he,hi,hl,hr⟩
theorem zD{ty:Ty}{s:AS}{l:List ResultVar}{m:Nat}{r r0:PV}{h:AH}{n:Nat}{e:Exit}(L:List Nat)(hr:iZ ty s l=io r0)(hw:Wk m L ⟨[(0,r0)],s.h,s.nx⟩ ⟨[(0,r)],h,n⟩)(he:e= .normal∨e= .ret:=by first|exact .inr Z|exact .inl Z):Aj ty l m r h n e s:=bd L he hr hw
theorem zU{ty:Ty}{j:List ResultVar}{nt:Nat}{k:List KI}{s s':AS}{e:Exit}{C:Prop}{b:Nat}{r r0:PV}(h:bw nN ⟨fun _=>is,0,kw⟩ 400 nt k s True=io (C,b,.fin e s'))(hr:r0=r:=by exact rfl)(he:e= .normal∨e= .ret:=by first|exact .inr Z|exact .inl Z)(h1:iZ ty s' j=io r0:=by exact rfl)(hC:C:=by(repeat' (first|exact ac|exact rfl|exact an.refl _|exact an.bk (by assumption)|apply Pq))<;>first|omega|exact fZ (fun _=>rfl) _|(simp only[Pr];omega)|(simp;done)|(simp;omega)):GO prog nt k (C5 ty j r) s:=gA h (aN he h1 (.of_eq hr)) hC
theorem zC{n i:Nat}{σ:Nat->Nat}{h r:AH}{V:Type}{kc:KC}{ev:V->IV}{z:V}{u:Value}{b:PV->V}{m j:List (kc.K×V)}(hr:mP n σ h r)(ho:h.get (σ i)=io (.map kc ev z u b m):=by exact rfl)(he:m=j:=by exact rfl)(hi:PL i n=jp:=by exact rfl):mP n σ h ((i,io (.map kc ev z u b j))::r):=hM ho he hi hr
theorem zJ{Q:AQ}{nt:Nat}{k:List KI}{s:AS}{C:Prop}{j:Nat}{st:Stop}{a b:Prop}(h:bw nN ⟨fun _=>is,0,kw⟩ 400 nt k s True=io (C,j,st))(e:ew prog j Q st=(a∧b))(l:a)(r:b)(hC:C:=by(repeat' (first|exact ac|exact rfl|exact an.refl _|exact an.bk (by assumption)|apply Pq))<;>first|omega|exact fZ (fun _=>rfl) _|(simp only[Pr];omega)|(simp;done)|(simp;omega)):GO prog nt k Q s:=gA h (e.mpr ⟨l,r⟩) hC
theorem zE{Q:AQ}{nt:Nat}{k:List KI}{s:AS}{C:Prop}{j:Nat}{st:Stop}{a b:Prop}(h:bw nN ⟨fun _=>is,0,kw⟩ 400 nt k s True=io (C,j,st))(e:ew prog j Q st=(a∧b))(r:b)(l:a)(hC:C:=by(repeat' (first|exact ac|exact rfl|exact an.refl _|exact an.bk (by assumption)|apply Pq))<;>first|omega|exact fZ (fun _=>rfl) _|(simp only[Pr];omega)|(simp;done)|(simp;omega)):GO prog nt k Q s:=gA h (e.mpr ⟨l,r⟩) hC
theorem zT{p:Prop}[Decidable p](h:decide p=jp):p:=of_decide_eq_true h
theorem zF{p:Prop}[Decidable p](h:decide p=kw): ¬p:=of_decide_eq_false h
theorem zN{a b:Nat}(h:lc ((a:Int)<(b:Int))=jp):a<b:=Int.ofNat_lt.1 (of_decide_eq_true h)
theorem zG{a b:Nat}(h:lc ((a:Int)<(b:Int))=kw):b<=a:=Ro fun hh=>absurd (Int.ofNat_lt.2 hh) (of_decide_eq_false h)
end Go.Proofs.YtllkaddcplhklaaGreatDoor
namespace Go.Proofs.YtllkaddcplhklaaGreatDoor
open Go Go.Al
abbrev ak:=ByteArray
structure dU where
 kind:Int
 num:Int
 sym:ak
 deriving Inhabited,DecidableEq
structure Term where
 kind:Int
 var:ak
 val:dU
 deriving Inhabited,DecidableEq
inductive Expr where
 |mk (kind:Int) (var:ak) (val:dU) (op:Int) (args:List Expr)
instance:Inhabited Expr:=⟨.mk 0 Pt ⟨0,0,Pt⟩ 0 []⟩
def Expr.kind:Expr->Int| .mk k _ _ _ _=>k
def Expr.var:Expr->ak| .mk _ v _ _ _=>v
def Expr.val:Expr->dU| .mk _ _ v _ _=>v
def Expr.op:Expr->Int| .mk _ _ _ o _=>o
def Expr.args:Expr->List Expr| .mk _ _ _ _ a=>a
structure Atom where
 rel:ak
 aj:List Term
 deriving Inhabited,DecidableEq
structure Pos where
 line:Int
 FT:Int
 deriving Inhabited,DecidableEq
inductive Lit where
 |mk (kind:Int) (atom:Atom) (op:Int) (left right:Expr) (dT:Int) (bC:ak) (jB:Expr) (ar:List Lit) (at_:Pos)
instance:Inhabited Lit:=⟨.mk 0 co 0 co co 0 Pt co [] ⟨0,0⟩⟩
def Lit.kind:Lit->Int| .mk k _ _ _ _ _ _ _ _ _=>k
def Lit.atom:Lit->Atom| .mk _ a _ _ _ _ _ _ _ _=>a
def Lit.op:Lit->Int| .mk _ _ o _ _ _ _ _ _ _=>o
def Lit.left:Lit->Expr| .mk _ _ _ l _ _ _ _ _ _=>l
def Lit.right:Lit->Expr| .mk _ _ _ _ r _ _ _ _ _=>r
def Lit.dT:Lit->Int| .mk _ _ _ _ _ f _ _ _ _=>f
def Lit.bC:Lit->ak| .mk _ _ _ _ _ _ v _ _ _=>v
def Lit.jB:Lit->Expr| .mk _ _ _ _ _ _ _ o _ _=>o
def Lit.ar:Lit->List Lit| .mk _ _ _ _ _ _ _ _ b _=>b
def Lit.at:Lit->Pos| .mk _ _ _ _ _ _ _ _ _ p=>p
structure fC where
 func:Int
 var:ak
 iF:Expr
 body:List Lit
 deriving Inhabited
def Lit.agg(l:Lit):fC:=⟨l.dT,l.bC,l.jB,l.ar⟩
structure aw where
 head:Atom
 body:List Lit
 at_:Pos
 deriving Inhabited
structure Decl where
 name:ak
 types:List Int
 at_:Pos
 deriving Inhabited
structure Prog where
 aS:List Decl
 rules:List aw
 deriving Inhabited
structure Fact where
 rel:ak
 args:List dU
 deriving Inhabited
def dU.c(v:dU):List IV:=[iI v.kind,iI v.num,iS v.sym]
def Term.c(t:Term):List IV:=[iI t.kind,iS t.var,iI t.val.kind,iI t.val.num,iS t.val.sym]
def cW(s:ak):List IV:=[iS s]
def j3(n:Int):List IV:=[iI n]
abbrev strs(l:List ak):IV:=bu 1 l cW
def Atom.c(a:Atom):List IV:=[iS a.rel,bu 5 a.aj Term.c]
mutual
def Expr.cr:Expr->List IV
 | .mk k v val op args=> [iI k,iS v,iI val.kind,iI val.num,iS val.sym,iI op,.cB 7 args.length (fun j=>(Expr.wL args).getD j [])]
def Expr.wL:List Expr->List (List IV)
 | []=> []
 |e::r=>e.cr::Expr.wL r
end
def Expr.c(e:Expr):List IV:=[iI e.kind,iS e.var,iI e.val.kind,iI e.val.num,iS e.val.sym,iI e.op,.cB 7 e.args.length (fun j=>(Expr.wL e.args).getD j [])]
def Expr.c1(e:Expr):List IV:=[iI e.kind,iS e.var,iI e.val.kind,iI e.val.num,iS e.val.sym,iI e.op,bu 7 e.args Expr.c]
theorem Expr.Fl(e:Expr):e.cr=e.c:=by cases e;rfl
theorem Expr.oy: ∀(l:List Expr) (k:Nat),k<l.length->(Expr.wL l).getD k []=(l.getD k co).c
 |e::r,0,_=>by simp[Expr.wL,Expr.Fl]
 |e::r,k+1,h=>by simpa[Expr.wL]using Expr.oy r k (by simpa using h)
 | [],k,h=>by simp at h
theorem LZ(e:Expr):jC (.cB 7 e.args.length (fun j=>(Expr.wL e.args).getD j [])) (bu 7 e.args Expr.c):= .cB Z (Expr.oy e.args)
theorem Bx(e:Expr):jC (bu 7 e.args Expr.c) (.cB 7 e.args.length (fun j=>(Expr.wL e.args).getD j [])):= .cB Z (fun k hk=>(Expr.oy e.args k hk).symm)
mutual
def Lit.cr:Lit->List IV
 | .mk kind atom op left right dT bC jB ar at_=>
  iI kind::(atom.c++(iI op::(left.c++(right.c++(iI dT::iS bC::(jB.c++ [.cB 30 ar.length (fun j=>(Lit.wL ar).getD j []),iI at_.line,iI at_.FT]))))))
def Lit.wL:List Lit->List (List IV)
 | []=> []
 |e::r=>e.cr::Lit.wL r
end
def Lit.cw(l:Lit)(b:IV):List IV:=
 [iI l.kind,iS l.atom.rel,bu 5 l.atom.aj Term.c,iI l.op,
  iI l.left.kind,iS l.left.var,iI l.left.val.kind,iI l.left.val.num,iS l.left.val.sym,iI l.left.op,.cB 7 l.left.args.length (fun j=>(Expr.wL l.left.args).getD j []),
  iI l.right.kind,iS l.right.var,iI l.right.val.kind,iI l.right.val.num,iS l.right.val.sym,iI l.right.op,.cB 7 l.right.args.length (fun j=>(Expr.wL l.right.args).getD j []),
  iI l.dT,iS l.bC,
  iI l.jB.kind,iS l.jB.var,iI l.jB.val.kind,iI l.jB.val.num,iS l.jB.val.sym,iI l.jB.op,.cB 7 l.jB.args.length (fun j=>(Expr.wL l.jB.args).getD j []),
  b,iI l.at.line,iI l.at.FT]
def tA(l:List Lit):IV:= .cB 30 l.length (fun j=>(Lit.wL l).getD j [])
def Lit.c(l:Lit):List IV:=l.cw (tA l.ar)
abbrev lits(l:List Lit):IV:=bu 30 l Lit.c
def Lit.c1(l:Lit):List IV:=l.cw (lits l.ar)
theorem Lit.Fl(e:Lit):e.cr=e.c:=by cases e;rfl
theorem Lit.oy: ∀(l:List Lit) (k:Nat),k<l.length->(Lit.wL l).getD k []=(l.getD k co).c
 |e::r,0,_=>by simp[Lit.wL,Lit.Fl]
 |e::r,k+1,h=>by simpa[Lit.wL]using Lit.oy r k (by simpa using h)
 | [],k,h=>by simp at h
theorem mq(l:List Lit):jC (tA l) (lits l):= .cB Z (Lit.oy l)
theorem zl(l:List Lit):jC (lits l) (tA l):= .cB Z (fun k hk=>(Lit.oy l k hk).symm)
def fC.cw(a:fC)(b:IV):List IV:=[iI a.func,iS a.var,iI a.iF.kind,iS a.iF.var,iI a.iF.val.kind,iI a.iF.val.num,iS a.iF.val.sym,iI a.iF.op,.cB 7 a.iF.args.length (fun j=>(Expr.wL a.iF.args).getD j []),b]
def fC.c(a:fC):List IV:=a.cw (tA a.body)
def fC.c1(a:fC):List IV:=a.cw (lits a.body)
def aw.c(r:aw):List IV:=[iS r.head.rel,bu 5 r.head.aj Term.c,lits r.body,iI r.at_.line,iI r.at_.FT]
def Decl.c(r:Decl):List IV:=[iS r.name,bu 1 r.types j3,iI r.at_.line,iI r.at_.FT]
def Prog.c(p:Prog):List IV:=[bu 4 p.aS Decl.c,bu 5 p.rules aw.c]
def Fact.c(f:Fact):List IV:=[iS f.rel,bu 3 f.args dU.c]
theorem Expr.A4(e:Expr):an (ag e.c) (ag e.c1):= .agg ⟨.refl _,.refl _,.refl _,.refl _,.refl _,.refl _,.iv (LZ e),ac⟩
theorem Expr.HY(e:Expr):an (ag e.c1) (ag e.c):= .agg ⟨.refl _,.refl _,.refl _,.refl _,.refl _,.refl _,.iv (Bx e),ac⟩
theorem Lit.BC(l:Lit){b j:IV}(h:jC b j):an (ag (l.cw b)) (ag (l.cw j)):=
 .agg ⟨.refl _,.refl _,.refl _,.refl _,.refl _,.refl _,.refl _,.refl _,.refl _,.refl _,.refl _,.refl _,.refl _,.refl _,.refl _,.refl _,.refl _,.refl _,.refl _,.refl _,.refl _,.refl _,.refl _,.refl _,.refl _,.refl _,.refl _,.iv h,.refl _,.refl _,ac⟩
theorem Lit.A4(l:Lit):an (ag l.c) (ag l.c1):=l.BC (mq _)
theorem fC.BC(l:fC){b j:IV}(h:jC b j):an (ag (l.cw b)) (ag (l.cw j)):=
 .agg ⟨.refl _,.refl _,.refl _,.refl _,.refl _,.refl _,.refl _,.refl _,.refl _,.iv h,ac⟩
theorem fC.A4(l:fC):an (ag l.c) (ag l.c1):=l.BC (mq _)
theorem fC.HY(l:fC):an (ag l.c1) (ag l.c):=l.BC (zl _)
mutual
def Expr.size:Expr->Nat
 | .mk _ _ _ _ args=>1+Expr.aB args
def Expr.aB:List Expr->Nat
 | []=>0
 |e::r=>e.size+Expr.aB r
end
mutual
def Lit.size:Lit->Nat
 | .mk _ a _ l r _ _ o b _=>2+a.aj.length+l.size+r.size+o.size+Lit.aB b
def Lit.aB:List Lit->Nat
 | []=>0
 |e::r=>e.size+Lit.aB r
end
theorem Expr.size_eq(e:Expr):e.size=1+Expr.aB e.args:=by cases e;rfl
theorem Lit.size_eq(l:Lit):l.size=2+l.atom.aj.length+l.left.size+l.right.size+l.jB.size+Lit.aB l.ar:=by cases l;rfl
theorem Expr.bU: ∀(l:List Expr) (k:Nat),k<l.length->(l.getD k co).size<=Expr.aB l
 |e::r,0,_=>by simp[Expr.aB]
 |e::r,k+1,h=>by
  have:=Expr.bU r k (by simpa using h);simp only[QM,Expr.aB];omega
 | [],k,h=>by simp at h
theorem Lit.bU: ∀(l:List Lit) (k:Nat),k<l.length->(l.getD k co).size<=Lit.aB l
 |e::r,0,_=>by simp[Lit.aB]
 |e::r,k+1,h=>by
  have:=Lit.bU r k (by simpa using h);simp only[QM,Lit.aB];omega
 | [],k,h=>by simp at h
theorem Expr.size_pos(e:Expr):1<=e.size:=by rw[e.size_eq];omega
theorem Lit.size_pos(e:Lit):2<=e.size:=by rw[e.size_eq];omega
theorem Expr.aG: ∀(l:List Expr),l.length<=Expr.aB l
 | []=>Pv _
 |e::r=>by have:=e.size_pos;have:=Expr.aG r;simp only[PO,Expr.aB];omega
theorem Lit.aG: ∀(l:List Lit),l.length<=Lit.aB l
 | []=>Pv _
 |e::r=>by have:=e.size_pos;have:=Lit.aG r;simp only[PO,Lit.aB];omega
def aw.size(r:aw):Nat:=r.head.aj.length+Lit.aB r.body
def dx(l:List ak)(s:ak):Bool:=l.any fun x=>lc (x=s)
def dI(s:ak)(a:List ak×Bool)(x:ak):List ak×Bool:=
 if(a.2||decide (x=s))=kw∧(!(Op.bytesLess x.toList s.toList||decide (x=s)))=jp then(a.1++ [s]++ [x],jp) else(a.1++ [x],a.2||decide (x=s))
def fS(l:List ak)(s:ak):List ak:=
 let r:=l.foldl (dI s) ([],kw)
 if r.2 then r.1 else r.1++ [s]
def mQ(l m:List ak):List ak:=m.foldl fS l
def yU(a:List ak)(t:Term):List ak:=if t.kind=1 then fS a t.var else a
def px(a:Atom):List ak:=a.aj.foldl yU []
theorem Lit.sj: ∀(l:List Lit) (i:Nat),Lit.aB (l.take i)<=Lit.aB l
 | [],i=>by simp
 |e::r,0=>by simp[Lit.aB]
 |e::r,i+1=>by have:=Lit.sj r i;simp only[QS,Lit.aB];omega
theorem Expr.dy: ∀(l:List Expr) (i:Nat),i<l.length->Expr.aB (l.take i)+(l.getD i co).size<=Expr.aB l
 |e::r,0,_=>by simp[Expr.aB]
 |e::r,i+1,h=>by have:=Expr.dy r i (by simpa using h);simp only[QS,QM,Expr.aB];omega
 | [],i,h=>by simp at h
theorem Lit.dy: ∀(l:List Lit) (i:Nat),i<l.length->Lit.aB (l.take i)+(l.getD i co).size<=Lit.aB l
 |e::r,0,_=>by simp[Lit.aB]
 |e::r,i+1,h=>by have:=Lit.dy r i (by simpa using h);simp only[QS,QM,Lit.aB];omega
 | [],i,h=>by simp at h
def fC.size(a:fC):Nat:=a.iF.size+Lit.aB a.body
section
def w5(n:Int):IV:= .v (.int .i64 n)
def OG(p:PV):Int:=match p with
 | .iv (.v (.int _ n))=>n
 |_=>0
abbrev NM:=List ((KC.str).K×Int)
abbrev cI(m:NM):AO:= .map .str w5 0 (.int .i64 0) OG m
abbrev xZ(m:NM):IV:= .dR .str w5 0 (.int .i64 0) m
theorem fa: ∀M,IR M (w5 0) (.int .i64 0):=fun _=> .v _
def bump(m:NM)(s:ak):NM:=cD .str m s (dw .str m s 0+1)
def aE(l:List ak):NM:=l.foldl bump []
theorem c5(l:List ak)(s:ak):aE (l++ [s])=bump (aE l) s:=by simp[aE]
section
variable {V:Type}
theorem kB{m:List ((KC.str).K×V)}{s t:ak}{v z:V}:dw .str (cD .str m s v) t z=if s=t then v else dw .str m t z:=by
 induction m with
 |nil=>simp only[cD,dw]
 |cons x r ih=>
  obtain⟨a,b⟩:=x;simp only[cD];by_cases h:a=s
  .rw[am h];simp only[dw];by_cases j:s=t
   .simp[j]
   .have: ¬a=t:=fun e=>j (h▸e)
    rw[be j,be j,be this]
  .rw[be h];simp only[dw,ih];by_cases j:a=t
   .have: ¬s=t:=fun e=>h (j.trans e.symm)
    simp[j,this]
   .simp[j]
theorem yp{m:List ((KC.str).K×V)}{t:ak}:c8 .str m t=jp↔t∈m.map Qk:=by
 induction m with
 |nil=>simp[c8]
 |cons x r ih=>
  obtain⟨a,b⟩:=x;simp only[c8,PB,Px];by_cases h:a=t
  .simp[h]
  .have: ¬t=a:=fun e=>h e.symm
   simp[h,this,ih]
theorem o9{m:List ((KC.str).K×V)}{s:ak}{v:V}(h:s∈m.map Qk):(cD .str m s v).map Qk=m.map Qk:=by
 induction m with
 |nil=>simp at h
 |cons x r ih=>
  obtain⟨a,b⟩:=x;simp only[cD];by_cases j:a=s
  .rw[am j];simp[j]
  .have: ¬s=a:=fun e=>j e.symm
   rw[be j,PB,ih (by simpa[this]using h)];rfl
theorem dC{m:List ((KC.str).K×V)}{s:ak}{v:V}(h:s∉m.map Qk):(cD .str m s v).map Qk=m.map Qk++ [s]:=by
 induction m with
 |nil=>simp[cD]
 |cons x r ih=>
  obtain⟨a,b⟩:=x;simp only[PB,Px,not_or]at h;have: ¬a=s:=fun e=>h.1 e.symm;simp only[cD,be this,PB,ih h.2];rfl
theorem zk{m:List ((KC.str).K×V)}{t:ak}{z:V}(h:t∉m.map Qk):dw .str m t z=z:=by
 induction m with
 |nil=>rfl
 |cons x r ih=>
  obtain⟨a,b⟩:=x;simp only[PB,Px,not_or]at h;have: ¬a=t:=fun e=>h.1 e.symm;simp only[dw,be this];exact ih h.2
end
theorem oN{α:Type}{p:List α->Prop}(h0:p [])(h1: ∀l a,p l->p (l++ [a]))(l:List α):p l:=by
 have key: ∀r:List α,p r.reverse:=by
  intro r
  induction r with
  |nil=>exact h0
  |cons a r ih=>rw[List.reverse_cons];exact h1 _ _ ih
 simpa using key l.reverse
def oz(l:List ak)(t:ak):Nat:=(l.filter fun x=>lc (x=t)).length
theorem yD(l m:List ak)(t:ak):oz (l++m) t=oz l t+oz m t:=by simp[oz]
theorem fG(l:List ak)(t:ak):oz l t<=l.length:=QK _ _
theorem tt{l:List ak}{t:ak}:0<oz l t↔t∈l:=by
 rw[oz,List.length_pos_iff_exists_mem];constructor
 .rintro⟨x,hx⟩;obtain⟨h1,b⟩:=PZ.1 hx;exact(zT b)▸h1
 .exact fun h=>⟨t,PZ.2 ⟨h,by simp⟩⟩
theorem qp{l:List ak}{t:ak}:oz l t=0↔t∉l:=by
 rw[<-tt];omega
theorem bA(l:List ak)(t:ak):dw .str (aE l) t 0=(oz l t:Int):=by
 induction l using oN with
 |h0=>rfl
 |h1 l s ih=>
  rw[c5,bump,kB,yD];by_cases h:s=t
  .subst h;rw[ih];simp[oz]
  .rw[be h,ih];simp[h,oz]
theorem dM(l:List ak):((aE l).map Qk).Nodup∧ ∀t:ak,t∈(aE l).map Qk↔t∈l:=by
 induction l using oN with
 |h0=>simp[aE]
 |h1 l s ih=>
  rw[c5,bump];obtain⟨h1,j⟩:=ih;by_cases h:s∈(aE l).map Qk
  .rw[o9 h];refine⟨h1,fun t=>?_⟩;rw[j,PI,PA];exact⟨.inl,fun u=>u.elim id fun e=>e▸(j s).1 h⟩
  .rw[dC h];refine⟨?_,fun t=>by rw[PI,j,PI]⟩;rw[QX];refine⟨h1,P2.2 ⟨Se,Qa⟩,fun a x b hb e=>?_⟩;rw[PA]at hb;exact h ((e.trans hb)▸x)
def cH(a:Atom):List ak:=a.aj.flatMap fun t=>if t.kind=1 then[t.var] else[]
theorem bQ{α β:Type}[Inhabited α]{l:List α}{f:α->List β}{i:Nat}(h:i<l.length):(l.take (i+1)).flatMap f=(l.take i).flatMap f++f (l.getD i co):=by
 rw[ct h,R3];simp
theorem sa: ∀l:List Term,(l.flatMap fun t=>if t.kind=1 then[t.var] else[]).length<=l.length
 | []=>by simp
 |t::r=>by
  have:=sa r;have b:(if t.kind=1 then[t.var] else[]).length<=1:=by split<;>simp
  rw[Qv,Pp,PO];omega
theorem iu(a:Atom):(cH a).length<=a.aj.length:=sa a.aj
theorem d88(occ:List ak)(a:Atom)(hb:occ.length+a.aj.length<=1000000000000):bF Tryz.prog 135 [.mp 0,ag a.c] [cI (aE occ)] (.bm []) [(0,io (cI (aE (occ++cH a))))] 1:=by
 refine au ab Tryz.func135 Z (by decide) Tryz.ntmps135 Z (by simp) ?_;refine gA Z ?_;refine aJ 0 a.aj.length (PC _) (fun i=>⟨[(0,.mp 0),(3,.ptr 1 0),(7,.iv (bu 5 a.aj Term.c)),(8,pI a.aj.length),(9,pI i)],[(0,io (cI (aE (occ++(a.aj.take i).flatMap fun t=>if t.kind=1 then[t.var] else[]))))],2⟩) (fun _=>True) [] ac
  (zW (hM Z (by simp) Z trivial)) fun i y _=>?_
 have hl:=sa (a.aj.take i);simp only[QI]at hl;refine zJ Z Z (fun h1=>?_) fun h1=>?_
 .have h1:i<a.aj.length:=by simpa using h1
  have hs:=bQ (f:=fun t:Term=>if t.kind=1 then[t.var] else[]) h1;have x:=bA (occ++(a.aj.take i).flatMap fun t=>if t.kind=1 then[t.var] else[]) (a.aj.getD i co).var;have j:=fG (occ++(a.aj.take i).flatMap fun t=>if t.kind=1 then[t.var] else[]) (a.aj.getD i co).var;rw[Pp]at j;refine zJ Z Z (fun b=>?_) fun b=>?_
  .have b:(a.aj.getD i co).kind=1:=by simpa using b
   rw[am b]at hs;refine gA Z ⟨h1,ac,[],zW (hM Z (by rw[hs,<-PK,c5];rfl) Z ac)⟩
  .have b: ¬(a.aj.getD i co).kind=1:=by simpa using b
   rw[be b,Qp]at hs;refine gA Z ⟨h1,ac,[],zW (hM Z (by rw[hs]) Z ac)⟩
 .have h1:a.aj.length<=i:=by simpa using h1
  have u:a.aj.take i=a.aj:=PJ h1;refine gA Z (zD [] Z (zW (hM Z (by rw[u];rfl) Z ac)))
end
end Go.Proofs.YtllkaddcplhklaaGreatDoor
namespace Go.Proofs.YtllkaddcplhklaaGreatDoor
open Go Go.Al Go.Proofs.Tryz
mutual
def ck:Expr->List ak
 | .mk k v _ _ args=>if k=1 then[v] else if k=4 then jo args else[]
def jo:List Expr->List ak
 | []=> []
 |e::r=>ck e++jo r
end
theorem mB: ∀l:List Expr,jo l=l.flatMap ck
 | []=>rfl
 |e::r=>by simp only[jo,Qv,mB r]
theorem z6(e:Expr):ck e=if e.kind=1 then[e.var] else if e.kind=4 then e.args.flatMap ck else[]:=by
 cases e with
 |mk k v val op args=>simp only[ck,Expr.kind,Expr.var,Expr.args,mB];rfl
mutual
theorem fX: ∀e:Expr,(ck e).length<=e.size
 | .mk k v _ _ args=>by
  have:=lv args;simp only[ck,Expr.size];split
  .simp
  .split
   .omega
   .simp
theorem lv: ∀l:List Expr,(jo l).length<=Expr.aB l
 | []=>by simp[jo]
 |e::r=>by
  have h1:=fX e;have b:=lv r;simp only[jo,Expr.aB,Pp];omega
end
theorem d135: ∀(n:Nat) (e:Expr) (occ:List ak),e.size<=n->occ.length+e.size<=1000000000000->bF prog 193 [.mp 0,ag e.c] [cI (aE occ)] (.bm []) [(0,io (cI (aE (occ++ck e))))] 1
 |0,e,_,h,_=>by have:=e.size_pos;omega
 |n+1,e,occ,h,hb=>by
  refine bF.le (args:=[.mp 0,ag e.c1]) ?_ ⟨.refl _,e.A4,ac⟩;have u:=z6 e;have C:=e.size_eq;have B:=bA occ e.var;have A:=fG occ e.var;refine au ab func193 Z (by decide) ntmps193 Z (by simp) ?_;refine zJ Z Z (fun h1=>?_) fun h1=>?_
  .have h1:e.kind=1:=by simpa using h1
   rw[am h1]at u;refine gA Z (zD [] Z (zW (hM Z (by rw[u,c5];rfl) Z ac)))
  have h1: ¬e.kind=1:=by simpa using h1
  rw[be h1]at u;refine zJ Z Z (fun j=>?_) fun j=>?_
  .have j:e.kind=4:=by simpa using j
   rw[am j]at u;refine gA Z ?_;refine aJ 0 e.args.length (PC _) (fun i=>⟨[(0,.mp 0),(3,.ptr 1 0),(18,.iv (bu 7 e.args Expr.c)),(19,pI e.args.length),(20,pI i)],[(0,io (cI (aE (occ++(e.args.take i).flatMap ck))))],2⟩) (fun _=>True) [] ac
    (zW (hM Z (by simp) Z trivial)) fun i G _=>?_
   have y:=Expr.aG e.args;refine zJ Z Z (fun b=>?_) fun b=>?_
   .have b:i<e.args.length:=by simpa using b
    have hs:=bQ (f:=ck) b;have I:=Expr.dy e.args i b;have D:=lv (e.args.take i);rw[mB]at D;refine gA Z (bx [0] (d135 n (e.args.getD i co) _ (by omega) (by rw[Pp];omega)) Z Z Z Z Z Z Z Z ?_);refine gA Z ⟨b,ac,[],zW (hM Z (by rw[hs,PK]) Z ac)⟩
   .have b:e.args.length<=i:=by simpa using b
    have x:e.args.take i=e.args:=PJ b;refine gA Z (zD [] Z (zW (hM Z (by rw[u,x]) Z ac)))
  .have j: ¬e.kind=4:=by simpa using j
   rw[be j]at u;refine gA Z (zD [] Z (zW (hM Z (by rw[u,Qp]) Z ac)))
theorem Fj(e:Expr)(occ:List ak)(hb:occ.length+e.size<=1000000000000):bF prog 193 [.mp 0,ag e.c] [cI (aE occ)] (.bm []) [(0,io (cI (aE (occ++ck e))))] 1:=d135 e.size e occ (Pv _) hb
def cJ(l:Lit):List ak:=if l.kind=1∨l.kind=2 then cH l.atom else if l.kind=3 then ck l.left++ck l.right else[]
theorem lg(l:Lit):(cJ l).length+2<=l.size:=by
 have h1:=iu l.atom;have b:=fX l.left;have j:=fX l.right;rw[l.size_eq];unfold cJ;split
 .omega
 .split
  .rw[Pp];omega
  .simp;omega
theorem d89(l:Lit)(occ:List ak)(hb:occ.length+l.size<=1000000000000):bF prog 156 [.mp 0,ag l.c] [cI (aE occ)] (.bm []) [(0,io (cI (aE (occ++cJ l))))] 1:=by
 have A:=l.size_eq;have B:=fX l.left;refine au ab func156 Z (by decide) ntmps156 Z (by simp) ?_;refine zJ Z Z (fun j=>?_) fun j=>?_
 .have j:l.kind=1:=zT j;have y:cJ l=cH l.atom:=am (.inl j);refine gA Z (zq [0] (d88 occ l.atom (by omega)) ?_);refine gA Z (zD [] Z (zW (hM Z (by rw[y]) Z ac)))
 have j: ¬l.kind=1:=zF j;refine zJ Z Z (fun u=>?_) fun u=>?_
 .have u:l.kind=2:=zT u;have y:cJ l=cH l.atom:=am (.inr u);refine gA Z (zq [0] (d88 occ l.atom (by omega)) ?_);refine gA Z (zD [] Z (zW (hM Z (by rw[y]) Z ac)))
 have u: ¬l.kind=2:=zF u;have b:cJ l=if l.kind=3 then ck l.left++ck l.right else[]:=be (by simp[j,u]);refine zJ Z Z (fun x=>?_) fun x=>?_
 .have x:l.kind=3:=zT x;rw[am x]at b;refine gA Z (zq [0] (Fj l.left occ (by omega)) ?_);refine gA Z (bx [0] (Fj l.right _ (by rw[Pp];omega)) Z Z Z Z Z Z Z Z ?_);refine gA Z (zD [] Z (zW (hM Z (by rw[b,PK]) Z ac)))
 .have x: ¬l.kind=3:=zF x;rw[be x]at b;refine gA Z (zD [] Z (zW (hM Z (by rw[b,Qp]) Z ac)))
def bb(a:fC):List ak:=(if a.func=1 then[] else ck a.iF)++a.body.flatMap cJ
theorem jL: ∀l:List Lit,(l.flatMap cJ).length<=Lit.aB l
 | []=>by simp
 |e::r=>by
  have h1:=lg e;have b:=jL r;rw[Qv,Pp];simp only[Lit.aB];omega
theorem J8(e:Expr)(hb:e.size<=1000000000000):bF prog 193 [.mp 0,ag e.c] [.eC] (.bm []) [(0,io (cI (aE (ck e))))] 1:=
 (Fj e [] (by simpa using hb)).J0 ⟨⟨id,fun M N U w j b=>⟨#[],0,b,⟨rfl,by simp[aE],by simp[aE],by simp,by simp⟩,fa M⟩⟩,ac⟩
theorem OK(a:Atom)(hb:a.aj.length<=1000000000000):bF prog 135 [.mp 0,ag a.c] [.eC] (.bm []) [(0,io (cI (aE (cH a))))] 1:=
 (d88 [] a (by simpa using hb)).J0 ⟨⟨id,fun M N U w j b=>⟨#[],0,b,⟨rfl,by simp[aE],by simp[aE],by simp,by simp⟩,fa M⟩⟩,ac⟩
theorem d127(a:fC)(hb:a.size<=1000000000000):bF prog 162 [ag a.c] [] (.mp 0) [(0,io (cI (aE (bb a))))] 1:=by
 refine bF.le (args:=[ag a.c1]) ?_ ⟨a.A4,ac⟩;unfold fC.size at hb;have y:=fX a.iF;have x:=Lit.aG a.body;refine au ab func162 Z (by decide) ntmps162 Z (by simp) ?_;refine zJ Z Z (fun h1=>?_) fun h1=>?_
 .have h1: ¬a.func=1:=by simpa using h1
  have j:bb a=ck a.iF++a.body.flatMap cJ:=by unfold bb;rw[be h1]
  refine gA Z (zq [1] (J8 a.iF (by omega)) ?_);refine gA Z ?_;refine aJ 0 a.body.length (PC _) (fun i=>⟨[(3,.mp 1),(15,.iv (lits a.body)),(16,pI a.body.length),(17,pI i)],[(1,io (cI (aE (ck a.iF++(a.body.take i).flatMap cJ))))],2⟩) (fun _=>True) [] ac
   (zW (hM Z (by simp) Z trivial)) fun i A _=>?_
  refine zJ Z Z (fun b=>?_) fun b=>?_
  .have b:i<a.body.length:=by simpa using b
   have hs:=bQ (f:=cJ) b;have B:=Lit.dy a.body i b;have C:=jL (a.body.take i);refine gA Z (bx [1] (d89 (a.body.getD i co) _ (by rw[Pp];omega)) Z Z Z Z Z Z Z Z ?_);refine gA Z ⟨b,ac,[],zW (hM Z (by rw[hs,PK]) Z ac)⟩
  .have b:a.body.length<=i:=by simpa using b
   have u:a.body.take i=a.body:=PJ b;refine gA Z (zD [1] Z (zW (hM Z (by rw[u,j]) Z ac)))
 .have h1:a.func=1:=by simpa using h1
  have j:bb a=a.body.flatMap cJ:=by unfold bb;rw[am h1];rfl
  refine gA Z ?_;refine aJ 0 a.body.length (PC _) (fun i=>⟨[(3,.mp 1),(15,.iv (lits a.body)),(16,pI a.body.length),(17,pI i)],[(1,io (cI (aE ((a.body.take i).flatMap cJ))))],2⟩) (fun _=>True) [] ac
   (zW (LO Z fa Z trivial)) fun i A _=>?_
  refine zJ Z Z (fun b=>?_) fun b=>?_
  .have b:i<a.body.length:=by simpa using b
   have hs:=bQ (f:=cJ) b;have B:=Lit.dy a.body i b;have C:=jL (a.body.take i);refine gA Z (bx [1] (d89 (a.body.getD i co) _ (by omega)) Z Z Z Z Z Z Z Z ?_);refine gA Z ⟨b,ac,[],zW (hM Z (by rw[hs]) Z ac)⟩
  .have b:a.body.length<=i:=by simpa using b
   have u:a.body.take i=a.body:=PJ b;refine gA Z (zD [1] Z (zW (hM Z (by rw[u,j]) Z ac)))
end Go.Proofs.YtllkaddcplhklaaGreatDoor
namespace Go.Proofs.YtllkaddcplhklaaGreatDoor
open Go Go.Al
def ins:List ak->ak->List ak
 | [],s=> [s]
 |x::r,s=>if x=s then x::r else if Op.bytesLess x.toList s.toList=jp then x::ins r s else s::x::r
theorem jl(s:ak): ∀(l a:List ak),l.foldl (dI s) (a,jp)=(a++l,jp)
 | [],a=>by simp
 |x::r,a=>by
  have:dI s (a,jp) x=(a++ [x],jp):=by simp[dI]
  rw[Qg,this,jl s r];simp
theorem vm(s:ak): ∀(l a:List ak),(if(l.foldl (dI s) (a,kw)).2 then(l.foldl (dI s) (a,kw)).1 else(l.foldl (dI s) (a,kw)).1++ [s])=a++ins l s
 | [],a=>by simp[ins]
 |x::r,a=>by
  by_cases h1:x=s
  .have:dI s (a,kw) x=(a++ [x],jp):=by simp[dI,h1]
   rw[Qg,this,jl];simp[ins,h1]
  .cases h2:Op.bytesLess x.toList s.toList with
   |true=>
    have:dI s (a,kw) x=(a++ [x],kw):=by simp[dI,h1,h2]
    rw[Qg,this,vm s r];simp[ins,h1,h2]
   |false=>
    have:dI s (a,kw) x=(a++ [s]++ [x],jp):=by simp[dI,h1,h2]
    rw[Qg,this,jl];simp[ins,h1,h2]
theorem uw(l:List ak)(s:ak):fS l s=ins l s:=by
 have:=vm s l [];simpa[fS]using this
theorem kY{x:ak}: ∀{l:List ak} {s:ak},x∈ins l s↔x∈l∨x=s
 | [],s=>by simp[ins]
 |y::r,s=>by
  simp only[ins];split
  .rename_i h;subst h;simp;exact fun h=> .inl h
  .split
   .simp[kY (l:=r),or_assoc]
   .simp;constructor
    .rintro(h|h|h)
     .exact .inr h
     .exact .inl (.inl h)
     .exact .inl (.inr h)
    .rintro((h|h)|h)
     .exact .inr (.inl h)
     .exact .inr (.inr h)
     .exact .inl h
theorem dd{x s:ak}{l:List ak}:x∈fS l s↔x∈l∨x=s:=by rw[uw];exact kY
theorem qH{x:ak}: ∀{m l:List ak},x∈mQ l m↔x∈l∨x∈m
 | [],l=>by simp[mQ]
 |y::r,l=>by
  have h:=qH (x:=x) (m:=r) (l:=fS l y);simp only[mQ,Qg]at h ⊢;rw[h,dd,Px,or_assoc]
theorem bB{l:List ak}{s:ak}:dx l s=jp↔s∈l:=by
 simp[dx]
theorem eB{l:List ak}{s:ak}:dx l s=kw↔s∉l:=by
 rw[<-Bool.not_eq_true,bB]
end Go.Proofs.YtllkaddcplhklaaGreatDoor
