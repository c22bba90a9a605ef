/-
  What the proofs of the claims need: part 2 of 5.
-/
import Derived.Test.YtllkaddcplhklaaGreatDoorPart1
import Derived.Deep.Slices
import Derived.ReadAgain
import Derived.ChangeStays
import Derived.ChangeSame
import Derived.WideShapes
import Derived.RowKit
import Derived.Lib.AppendStr
import Derived.Laws.IdiomStrings
import Derived.Laws.BytesArg
import Derived.Laws.MakeOwn
import Derived.Laws.Slices
import Derived.Lib.SliceRun
import Derived.Shelf.GgSortFunc.RowK
import Derived.StillTail
import Derived.KernelRfl
import Derived.Test.YtllkaddcplhklaaGreatDoorProg
open And renaming intro→Oz
open Array renaming eq_empty_of_size_eq_zero→P2,extract_size→RQ,getD_eq_getD_getElem?→Ot,getElem?_append_left→Pa,getElem?_append_right→QT,getElem?_eq_getElem→O2,getElem?_eq_none→QM,getElem?_eq_some_iff→Pz,getElem?_map→QJ,getElem?_modify→O8,getElem?_push→QE,getElem?_setIfInBounds→O0,getElem?_toList→O1,length_toList→Qm,mem_filter→Ra,range→Rq,size_append→Qw
open Bool renaming and_eq_true→Pk,eq_false_iff→QQ,false_eq_true→PX,not_eq_true'→Py,not_false→Q7,not_true→QC,or_eq_false_iff→Qx,or_eq_true→Qu
open ByteArray renaming empty→OB
open Classical renaming choose→QV,choose_spec→Qa
open Int renaming toNat_natCast→OA
open List.Nodup renaming length_le_of_subset→PG
open List.Pairwise renaming filter→QB
open List renaming all_eq_true→Pc,any_eq_false→Ps,any_eq_true→PI,append_assoc→OS,append_nil→Pt,cons_append→PO,eq_nil_of_length_eq_zero→Pn,ext_getElem→Rb,ext_getElem?→Qy,filter_congr→Qj,filter_cons→P3,filter_eq_self→QY,flatMap_append→QZ,flatMap_cons→PB,foldl_cons→Pl,getD_cons_succ→PK,getD_cons_zero→Ql,getD_eq_getElem?_getD→Ow,getElem?_append_left→OQ,getElem?_append_right→OO,getElem?_drop→Pr,getElem?_eq_getElem→Ox,getElem?_eq_some_iff→Ov,getElem?_map→OC,getElem?_of_mem→Pj,getElem?_range→RK,getElem?_set→P8,getElem?_take→Ph,getElem?_toArray→Po,getElem_map→PQ,getElem_mem→Pg,length_append→Oy,length_cons→O6,length_eq_zero_iff→PW,length_filter_le→PJ,length_map→O3,length_nil→P0,length_pos_iff→PD,length_replicate→Q9,length_singleton→Pu,length_take→PF,map_append→OM,map_congr_left→QF,map_cons→OU,map_map→PT,mem_append→ON,mem_append_left→Pb,mem_append_right→P4,mem_cons→OG,mem_cons_of_mem→OF,mem_cons_self→OH,mem_filter→O5,mem_flatMap→Rh,mem_map→OZ,mem_of_getElem?→O9,mem_range→PA,mem_singleton→OI,nil_append→P9,nodup_append→PU,nodup_cons→O7,nodup_nil→Pe,not_mem_nil→Rf,pairwise_cons→Pd,pairwise_iff_getElem→PH,pairwise_map→QA,perm_ext_iff_of_nodup→PZ,range→O4,replicate→Qp,take_of_length_le→OP,take_succ_cons→PR,take_succ_eq_append_getElem→Qz
open Nat renaming add_mul→Pv,add_zero→Qf,beq→OW,ble→Qr,ble_eq_true_of_le→Pp,blt→OV,eq_of_beq_eq_true→OK,le_add_right→Rc,le_of_ble_eq_true→Oq,le_of_not_lt→Qc,le_refl→OJ,le_succ→QH,le_trans→Pm,lt_irrefl→RN,lt_of_le_of_lt→RP,lt_of_lt_of_le→Qb,lt_or_ge→Pw,lt_succ_of_lt→PS,lt_succ_self→P7,lt_trichotomy→QR,mul_comm→RR,mul_le_mul_right→OX,mul_one→Rj,ne_of_lt→Rx,sub_zero→Q6,succ_mul→P1,zero_add→OY,zero_le→OL,zero_mul→Qn
open Option renaming getD_some→Px,map_eq_some_iff→OD,map_none→QO,map_some→PC
open Option.some renaming inj→Pf,injEq→Ou
open Prod renaming fst→Pq
open Prod.mk renaming injEq→OE
set_option maxRecDepth 100000
open Bool renaming false→jp,true→is
open Decidable renaming decide→kw
open Inhabited renaming default→ci
open Option renaming none→io,some→co
namespace Go.Al
section
def xz:Op->Bool
  | .binOp .add _ _ _ _=>is
  | .binOp .sub _ _ _ _=>is
  | .binOp .mul _ _ _ _=>is
  | .binOp .rem _ _ _ _=>is
  | .binOp .quo _ _ _ _=>is
  | .indexAddr ..=>is
  | .index ..=>is
  | .slice ..=>is
  |_=>jp
theorem vM{ty:Ty}{s:AS}{o:Op}{p:PV}{C:Prop}(h:gu ty s o=co (p,C))(ho:xz o=jp):C:=by
  cases o with
  | binOp op t x y t'=>
    simp only[gu]at h;split at h
    · unfold A8 at h
      split at h
      · split at h<;>first|(cases h;done)|(simp only[Ou,OE]at h;rw[<-h.2];trivial)
      · split at h<;>first|(cases h;done)|(simp only[Ou,OE]at h;rw[<-h.2];trivial)
      · cases h
    unfold wy at h;split at h
    · split at h
      · unfold yZ at h
        split at h
        · unfold ql at h
          split at h<;>first
            |(cases h;done)
            |(split at h<;>first|(cases h;done)|(simp only[Ou,OE]at h;rw[<-h.2];trivial))
        · unfold ql at h
          split at h<;>first
            |(cases h;done)
            |(split at h<;>first|(cases h;done)|(simp only[Ou,OE]at h;rw[<-h.2];trivial))
        unfold Ax at h;split at h<;>first|(cases h;done)|(simp[xz]at ho;done)|(simp only[Ou,OE]at h;rw[<-h.2];trivial)
      · unfold ql at h
        split at h<;>first
          |(cases h;done)
          |(split at h<;>first|(cases h;done)|(simp only[Ou,OE]at h;rw[<-h.2];trivial))
    · unfold zA at h
      split at h<;>first|(cases h;done)|(simp[xz]at ho;done)|(simp only[Ou,OE]at h;rw[<-h.2];trivial)
    · split at h
      all_goals first
        |(cases h;done)
        | (unfold mq at h
           split at h
           · split at h<;>first|(cases h;done)|(simp only[Ou,OE]at h;rw[<-h.2];trivial)
           · cases h)
    · split at h
      all_goals first
        |(cases h;done)
        | (unfold mq at h
           split at h
           · split at h<;>first|(cases h;done)|(simp only[Ou,OE]at h;rw[<-h.2];trivial)
           · cases h)
    all_goals first
      |(cases h;done)
      | (unfold sr at h
         split at h
         · split at h<;>first|(cases h;done)|(simp only[Ou,OE]at h;rw[<-h.2];trivial)
         · cases h)
  |indexAddr t x i=>simp[xz]at ho
  |index t x i=>simp[xz]at ho
  |slice t x lo hi mx=>simp[xz]at ho
  | call c=>
    obtain⟨callee,args,j⟩:=c;cases callee with
    | builtin b=>
      cases b with
      | len=>
        simp only[gu]at h;split at h
        · split at h
          · split at h<;>first|(cases h;done)|(simp only[tQ,Ou,OE]at h;rw[<-h.2];trivial)
          · split at h<;>first|(cases h;done)|(simp only[tQ,Ou,OE]at h;rw[<-h.2];trivial)
          · split at h
            · simp only[Ou,OE]at h;rw[<-h.2];trivial
            · split at h<;>first|(cases h;done)|(simp only[Ou,OE]at h;rw[<-h.2];trivial)
            · cases h
          · cases h
        · cases h
      | max=>
        simp only[gu]at h;split at h
        · split at h<;>first|(cases h;done)|(simp only[Ou,OE]at h;rw[<-h.2];trivial)
        · cases h
      | min=>
        simp only[gu]at h;split at h
        · split at h<;>first|(cases h;done)|(simp only[Ou,OE]at h;rw[<-h.2];trivial)
        · cases h
      |_=>simp[gu]at h
    |_=>simp[gu]at h
  | unOp op t x=>
    cases op with
    |not=>simp only[gu]at h;split at h<;>first|(cases h;done)|(simp only[Ou,OE]at h;rw[<-h.2];trivial)
    |_=>simp[gu]at h
  | lookup t x i ok=>
    have key: ∀{kc:KC} {V:Type} {e:V->IV} {z:V} {u:Value} {m:List (kc.K×V)},sy ty t ok kc e z u m (ev s.f i)=co (p,C)->C:=by
      intro kc V e z u m h;unfold sy at h;split at h
      · split at h
        · split at h
          · split at h<;>(simp only[Ou,OE]at h;rw[<-h.2];trivial)
          · cases h
        · cases h
      · cases h
    simp only[gu]at h;split at h
    · exact key h
    · split at h
      · exact key h
      · cases h
    · cases h
  | _=>
    simp only[gu]at h
    repeat' (first|(cases h;done)|(simp only[force_eq,Ou,OE]at h;rw[<-h.2];trivial)|split at h)
inductive Fe where
  |read (i:Nat) (o:Oper) (p:PV) (C:Prop)
  |skip (i:Nat) (o:Oper)
  |split (d:Nat) (t:Bool)
def j5(ty:Ty)(nt:NT)(s:AS)(all:List Oper)(todo pend:List (Nat×Oper)):List (Nat×Oper)->Option Fe
  | []=>io
  | (i,o)::r=>match todo.any (fun y=>waits o y.1)||aM o with
    |true=>j5 ty nt s all todo pend r
    | false=>match bV nt all s.f o with
      | some is=>match gu ty s o.op with
        | some (p,C)=>match ub all pend o with
          |true=>co (.read i o p C)
          |false=>j5 ty nt s all todo pend r
        |none=>j5 ty nt s all todo pend r
      | some jp=>match ub all pend o with
        |true=>co (.skip i o)
        |false=>j5 ty nt s all todo pend r
      | none=>match o.guard with
        | some (g,_)=>match guardOf all s.f g with
          |some (d,.iv (.v (.bool t)))=>co (.split d t)
          |_=>j5 ty nt s all todo pend r
        |none=>j5 ty nt s all todo pend r
def dD(ty:Ty)(nt:NT)(all:List Oper)(s:AS):List (Nat×Oper)->Option Prop
  | []=>co True
  | (_,o)::r=>match dD ty nt all s r with
    |none=>io
    | some R=>match bV nt all s.f o with
      | some is=>match gu ty s o.op with
        | some (p,C)=>match o.dst with
          |some d=>bif OV d nt then co ((an p (s.f.get d)∧C)∧R) else io
          |none=>co (C∧R)
        |none=>io
      | some jp=>match o.dst with
        |some d=>co (s.f.get d= .iv (.v (.tuple #[]))∧R)
        |none=>co R
      |none=>io
def eJ(todo:List (Nat×Oper)):List (Nat×Oper):=todo.filter fun x=>!(aM x.2||todo.any fun y=>waits x.2 y.1)
def mV(ty:Ty)(nt:NT)(all:List Oper)(s:AS)(todo pend:List (Nat×Oper)):Option Prop:=
  match todo.any fun y=>aM y.2 with
  |true=>dD ty nt all s pend
  |false=>co True
def my(all:List Oper)(i:Nat)(o:Oper):Nat->List Oper->Bool
  |_,[]=>is
  |k,q::r=>(OW k i||((waits q i||!looks all q o)&&(match o.dst,q.dst with|some d,co e=>!OW d e|_,_=>is)))&&my all i o (k+1) r
def jm(ty:Ty)(nt:NT)(all:List Oper):Nat->List Oper->Bool
  |_,[]=>is
  | i,o::r=>(match o.op with
    | .alloc t=>match o.guard,o.dst,ty t with
      |none,co d,co _=>OV d nt&&((o.after.toList.all fun e=>!Region.binds .any e)&&my all i o 0 all)
      |_,_,_=>jp
    |_=>is)&&jm ty nt all (i+1) r
def xw(todo:List (Nat×Oper)):List (Nat×Oper)->Option (Nat×Oper)
  | []=>io
  | (i,o)::r=>match aM o,wC todo i with
    |true,is=>co (i,o)
    |_,_=>xw todo r
inductive Stop where
  |fin (e:Exit) (s:AS)
  |cond (c:Operand) (t:Bool) (x y:Code) (k:List KI) (s:AS)
  |guard (all rest:List Oper) (o:Oper) (d:Nat) (want t:Bool) (k:List KI) (s:AS)
  |op (all rest:List Oper) (o:Oper) (k:List KI) (s:AS)
  |loop (b:Code) (k:List KI) (s:AS)
  |draw (id:Nat) (ops:Array Oper) (k:List KI) (s:AS)
  |again (R:AS->Prop) (s:AS)
  |Kq (all rest:List Oper) (o:Oper) (d:Nat) (want t:Bool) (k:List KI) (s:AS)
  |ED (all:List Oper) (todo pend:List (Nat×Oper)) (d:Nat) (t:Bool) (k:List KI) (s:AS)
  |EG (all:List Oper) (todo pend:List (Nat×Oper)) (k:List KI) (s:AS)
  |bad (why:Nat) (k:List KI) (s:AS)
  |out (k:List KI) (s:AS)
def lO(id:Nat):List KI->Option (List KI)
  | []=>io
  | .az j::k=>bif OW id j then co k else lO id k
  | .code _::k=>lO id k
  | .ops _ _::k=>lO id k
  | .lp _::k=>lO id k
  | .qR _ _::k=>lO id k
  | .bU _ _ _::k=>lO id k
  | .Bb _ _::k=>lO id k
  | .Cr::k=>lO id k
  | .HE ..::_=>io
  | .HF ..::_=>io
def fo:List KI->Option (List KI)
  | []=>io
  | .az _::k=>fo k
  | .code _::k=>fo k
  | .ops _ _::k=>fo k
  | .lp _::k=>fo k
  | .qR _ _::k=>fo k
  | .bU _ _ _::k=>fo k
  | .Bb _ _::k=>fo k
  | .Cr::k=>fo k
  |k=>co k
structure Oo where
  nt:Nat
  res:List ResultVar
  body:Code
abbrev Nv:=Nat->Option Oo
def Fc(P:Program)(b:Nv):Prop:= ∀g e,b g=co e-> ∃fn,P.funcs[g]? =co fn∧fn.body=co e.body∧(fn.name== "runtime.NumGoroutine")=jp∧fn.ntmps=e.nt∧fn.results.toList=e.res
def ym{α:Type _}:Nat->List PV->(AF->α)->α
  |_,[],k=>k []
  |n,p::r,k=>sU p fun b=>ym (n+1) r fun f=>k ((n,b)::f)
theorem tj{α:Type _}: ∀(l:List PV) (n:Nat) (k:AF->α),ym n l k=k (mv n l)
  | [],_,_=>rfl
  |p::r,n,k=>by simp only[ym,dc,tj r,mv]
def callee(b:Nv)(s:AS):Op->Option (Oo×List PV)
  | .call c=>match bM s.f c with
    | some (g,asv)=>match b g with
      | some e=>match Qr asv.length e.nt with
        |true=>co (e,asv)
        |false=>io
      |none=>io
    |none=>io
  |_=>io
structure Way where
  fns:Nv
  un:Nat
  cl:Bool
def bp(ty:Ty)(y:Way):Nat->NT->List KI->AS->Prop->Option (Prop×NT×Stop)
  |0,nt,k,s,C=>co (C,nt,.out k s)
  |_+1,nt,[],s,C=>co (C,nt,.fin .normal s)
  |n+1,nt,.az _::k,s,C=>bp ty y n nt k s C
  |_+1,nt,.lp R::_,s,C=>co (C,nt,.again R s)
  |n+1,nt,.Cr::k,s,C=>bp ty y n nt k s C
  |n+1,nt,.code (.scope b)::k,s,C=>bp ty y n nt (.code b:: .Cr::k) s C
  | n+1,nt,.Bb b m::k,s,C=>match m with
    |0=>co (C,nt,.bad 2 k s)
    |m+1=>bp ty y n nt (.code b:: .Bb b m::k) s C
  | n+1,_,.HE nt f res o all rest::k,s,C=>match res s with
    |none=>co (C,nt,.bad 3 k s)
    | some r=>match putDst nt o r ⟨f,s.h,s.nx⟩ with
      |none=>co (C,nt,.bad 4 k s)
      |some s'=>bp ty y n nt (.ops all rest::k) s' C
  | n+1,_,.HF nt f res j o all todo pend::k,s,C=>match res s with
    |none=>co (C,nt,.bad 5 k s)
    | some r=>match putDst nt o r ⟨f,s.h,s.nx⟩ with
      |none=>co (C,nt,.bad 6 k s)
      | some s'=>match dD ty nt all s' (aZ pend o) with
        |none=>co (C,nt,.bad 7 k s)
        |some C''=>bp ty y n nt (.bU all (todo.filter fun x=>!OW x.1 j) (aZ pend o)::k) s' (C∧C'')
  |n+1,nt,.code .skip::k,s,C=>bp ty y n nt k s C
  |n+1,nt,.code (.label _)::k,s,C=>bp ty y n nt k s C
  |n+1,nt,.code (.seq a b)::k,s,C=>bp ty y n nt (.code a:: .code b::k) s C
  |n+1,nt,.code (.block id b)::k,s,C=>bp ty y n nt (.code b:: .az id::k) s C
  | n+1,nt,.code (.region id ops d)::k,s,C=>match d with
    |false=>bp ty y n nt (.ops ops.toList ops.toList::k) s C
    | true=>match sq ops.toList,gm 0 ops.toList,jm ty nt ops.toList 0 ops.toList with
      |true,is,is=>bp ty y n nt (.bU ops.toList (gY 0 ops.toList) []::k) s C
      |_,_,_=>co (C,nt,.draw id ops k s)
  |n+1,nt,.bU _ [] _::k,s,C=>bp ty y n nt k s C
  | n+1,nt,.bU all (x::todo) pend::k,s,C=>match j5 ty nt s all (x::todo) pend (x::todo) with
    | some (.read i o p C')=>match putDst nt o p s with
      |none=>co (C,nt,.bad 8 k s)
      | some s'=>match xz o.op with
        |true=>bp ty y n nt (.bU all ((x::todo).filter fun x=>!OW x.1 i) ((i,o)::pend)::k) s' (C∧C')
        |false=>bp ty y n nt (.bU all ((x::todo).filter fun x=>!OW x.1 i) ((i,o)::pend)::k) s' C
    |some (.skip i o)=>bp ty y n nt (.bU all ((x::todo).filter fun x=>!OW x.1 i) ((i,o)::pend)::k) (fE o s) C
    | some (.split d _)=>match s.f.get d with
      | .iv (.v (.bool t'))=>match y.cl with
        |false=>co (C,nt,.ED all (x::todo) pend d t' k s)
        | true=>match t' with
          |true=>bp ty y n nt (.bU all (x::todo) pend::k) (setBool s (.tmp d) is) C
          |false=>bp ty y n nt (.bU all (x::todo) pend::k) (setBool s (.tmp d) jp) C
      |_=>co (C,nt,.bad 9 k s)
    | none=>match eJ (x::todo) with
      | [(j,o)]=>match bV nt all s.f o,gW all pend o,mU (x::todo) [j] with
        | some is,is,is=>match mV ty nt all s (x::todo) pend with
          |none=>co (C,nt,.bad 101 k s)
          | some CA=>match gu ty s o.op with
            | some (p,C')=>match putDst nt o p s with
              |none=>co (C,nt,.bad 102 k s)
              | some s'=>match dD ty nt all s' (aZ pend o) with
                |none=>co (C,nt,.bad 103 k s)
                |some C''=>bp ty y n nt (.bU all ((x::todo).filter fun x=>!OW x.1 j) (aZ pend o)::k) s' (C∧(CA∧C'∧C''))
            | none=>match DT ty s o.op with
              | none=>match callee y.fns s o.op with
                | none=>match No ty s o.op with
                  |none=>co (C,nt,.EG all (x::todo) pend k s)
                  | some (C',p,s1)=>match putDst nt o p s1 with
                    |none=>co (C,nt,.bad 109 k s)
                    | some s'=>match dD ty nt all s' (aZ pend o) with
                      |none=>co (C,nt,.bad 110 k s)
                      |some C''=>bp ty y n nt (.bU all ((x::todo).filter fun x=>!OW x.1 j) (aZ pend o)::k) s' (C∧(CA∧C'∧C''))
                |some (e,asv)=>ym 0 asv fun f=>bp ty y n e.nt (.code e.body:: .HF nt s.f (iT ty · e.res) j o all (x::todo) pend::k) ⟨f,s.h,s.nx⟩ (C∧CA)
              | some (p,s1)=>match putDst nt o p s1 with
                |none=>co (C,nt,.bad 104 k s)
                | some s'=>match dD ty nt all s' (aZ pend o) with
                  |none=>co (C,nt,.bad 105 k s)
                  |some C''=>bp ty y n nt (.bU all ((x::todo).filter fun x=>!OW x.1 j) (aZ pend o)::k) s' (C∧(CA∧C''))
        |_,_,_=>co (C,nt,.EG all (x::todo) pend k s)
      | []=>match xw (x::todo) (x::todo) with
        |none=>co (C,nt,.EG all (x::todo) pend k s)
        | some (i,o)=>match o.op,o.dst with
          | .alloc t,co d=>match ty t with
            |none=>co (C,nt,.bad 106 k s)
            | some e=>force (aI e.zero) fun A=>match dD ty nt all s pend,dD ty nt all (jn s d A) pend with
              |some C1,co C2=>bp ty y n nt (.bU all ((x::todo).filter fun x=>!OW x.1 i) pend::k) (jn s d A) (C∧(C1∧C2))
              |_,_=>co (C,nt,.bad 107 k s)
          |_,_=>co (C,nt,.bad 108 k s)
      |_=>co (C,nt,.EG all (x::todo) pend k s)
  | n+1,nt,.code (.cond c u v)::k,s,C=>match ev s.f c with
    | .iv (.v (.bool t))=>match y.cl with
      |false=>co (C,nt,.cond c t u v k s)
      | true=>match t with
        |true=>bp ty y n nt (.code u::k) s C
        |false=>bp ty y n nt (.code v::k) s C
    | .kb is=>bp ty y n nt (.code u::k) s C
    | .kb jp=>bp ty y n nt (.code v::k) s C
    |_=>co (C,nt,.bad 14 k s)
  | n+1,nt,.code .ret::k,s,C=>match fo k with
    |some k'=>bp ty y n nt k' s C
    |none=>co (C,nt,.fin .ret s)
  | n+1,nt,.code (.exit id)::k,s,C=>match lO id k with
    |some k'=>bp ty y n nt k' s C
    |none=>co (C,nt,.bad 15 k s)
  | n+1,nt,.code (.loop b)::k,s,C=>match y.un with
    |0=>co (C,nt,.loop b k s)
    |u+1=>bp ty y n nt (.code b:: .Bb b u::k) s C
  |_+1,nt,.code _::k,s,C=>co (C,nt,.bad 16 k s)
  |_+1,nt,.qR _ _::k,s,C=>co (C,nt,.bad 17 k s)
  |n+1,nt,.ops _ []::k,s,C=>bp ty y n nt k s C
  | n+1,nt,.ops all (o::r)::k,s,C=>match o.guard with
    | some (j,want)=>match guardOf all s.f j with
      | some (d,.iv (.v (.bool t)))=>bif OV d nt then(match y.cl with
        |false=>co (C,nt,.guard all r o d want t k s)
        | true=>match t with
          |true=>bp ty y n nt (.ops all (o::r)::k) (setBool s (.tmp d) is) C
          |false=>bp ty y n nt (.ops all (o::r)::k) (setBool s (.tmp d) jp) C) else co (C,nt,.bad 18 k s)
      | some (d,.kb t)=>bif OV d nt then(match t,want,o with
        |true,is,⟨a1,a2,a3,a4,a5,_⟩=>bp ty y n nt (.ops all (⟨a1,a2,a3,a4,a5,io⟩::r)::k) s C
        |false,jp,⟨a1,a2,a3,a4,a5,_⟩=>bp ty y n nt (.ops all (⟨a1,a2,a3,a4,a5,io⟩::r)::k) s C
        |_,_,o=>bp ty y n nt (.ops all r::k) (fE o s) C) else co (C,nt,.bad 19 k s)
      |some (_,.iv (.v (.tuple _)))=>bp ty y n nt (.ops all r::k) (fE o s) C
      |_=>co (C,nt,.bad 20 k s)
    | none=>match gu ty s o.op with
      | none=>match DT ty s o.op with
        | none=>match callee y.fns s o.op with
          | none=>match No ty s o.op with
            |none=>co (C,nt,.op all r o k s)
            | some (C',p,s1)=>match putDst nt o p s1 with
              |none=>co (C,nt,.bad 111 k s)
              |some s'=>bp ty y n nt (.ops all r::k) s' (C∧C')
          |some (e,asv)=>ym 0 asv fun f=>bp ty y n e.nt (.code e.body:: .HE nt s.f (iT ty · e.res) o all r::k) ⟨f,s.h,s.nx⟩ C
        | some (p,s1)=>match putDst nt o p s1 with
          |none=>co (C,nt,.bad 21 k s)
          |some s'=>bp ty y n nt (.ops all r::k) s' C
      | some (p,C')=>match putDst nt o p s with
        |none=>co (C,nt,.bad 22 k s)
        | some s'=>match xz o.op with
          |true=>bp ty y n nt (.ops all r::k) s' (C∧C')
          |false=>bp ty y n nt (.ops all r::k) s' C
def ej(P:Program)(nt:NT)(Q:AQ):Stop->Prop
  | .fin e s=>Q e s
  | .cond c t x y k s=>(t=is->GO P nt (.code x::k) Q (setBool s c is))∧(t=jp->GO P nt (.code y::k) Q (setBool s c jp))
  | .guard all r o d want t k s=>(t=want->GO P nt (.ops all ({o with guard:=io}::r)::k) Q (setBool s (.tmp d) want))∧(t=!want->GO P nt (.ops all r::k) Q (fE o (setBool s (.tmp d) (!want))))
  | .op all r o k s=>GO P nt (.ops all (o::r)::k) Q s
  | .loop b k s=>GO P nt (.code (.loop b)::k) Q s
  | .draw id ops k s=>GO P nt (.code (.region id ops is)::k) Q s
  | .again R s=>R s
  | .Kq all r o d want t k s=>(t=want->GO P nt (.qR all ({o with guard:=io}::r)::k) Q (setBool s (.tmp d) want))∧(t=!want->GO P nt (.qR all r::k) Q (fE o (setBool s (.tmp d) (!want))))
  | .ED all todo pend d t k s=>(t=is->GO P nt (.bU all todo pend::k) Q (setBool s (.tmp d) is))∧(t=jp->GO P nt (.bU all todo pend::k) Q (setBool s (.tmp d) jp))
  | .EG all todo pend k s=>GO P nt (.bU all todo pend::k) Q s
  | .bad _ _ _=>False
  | .out k s=>GO P nt k Q s
section
variable {P:Program} {ty:Ty} {nt:NT} {Q:AQ}
theorem kV: ∀(k:List KI) {nt:NT} {s:AS},fo k=io->Q .ret s->kp P nt k Q .ret s
  | [],_,_,_,h=>h
  | .code _::k,_,_,g,h=>kV k g h
  | .az _::k,_,_,g,h=>kV k g h
  | .ops _ _::k,_,_,g,h=>kV k g h
  | .lp _::k,_,_,g,h=>kV k g h
  | .qR _ _::k,_,_,g,h=>kV k g h
  | .bU _ _ _::k,_,_,g,h=>kV k g h
  | .Bb _ _::k,_,_,g,h=>kV k g h
  | .Cr::k,_,_,g,h=>kV k g h
  | .HE ..::_,_,_,g,_=>by simp[fo]at g
  | .HF ..::_,_,_,g,_=>by simp[fo]at g
theorem dh: ∀(k:List KI) {nt:NT} {s:AS} {b:List KI},fo k=co b->GO P nt b Q s->kp P nt k Q .ret s
  | [],_,_,_,g,_=>by simp[fo]at g
  | .code _::k,_,_,_,g,h=>dh k g h
  | .az _::k,_,_,_,g,h=>dh k g h
  | .ops _ _::k,_,_,_,g,h=>dh k g h
  | .lp _::k,_,_,_,g,h=>dh k g h
  | .qR _ _::k,_,_,_,g,h=>dh k g h
  | .bU _ _ _::k,_,_,_,g,h=>dh k g h
  | .Bb _ _::k,_,_,_,g,h=>dh k g h
  | .Cr::k,_,_,_,g,h=>dh k g h
  | .HE ..::_,_,_,_,g,h=>by
    simp only[fo,Ou]at g;subst g;exact⟨.inr Z,h.2⟩
  | .HF ..::_,_,_,_,g,h=>by
    simp only[fo,Ou]at g;subst g;exact⟨.inr Z,h.2⟩
theorem cS{id:Nat}: ∀(k:List KI) {nt:NT} {b:List KI} {s:AS},lO id k=co b->GO P nt b Q s->kp P nt k Q (.exit id) s
  | [],_,_,_,h,_=>by cases h
  | .code _::k,_,_,_,h,g=>cS k h g
  | .ops _ _::k,_,_,_,h,g=>cS k h g
  | .lp _::k,_,_,_,h,g=>cS k h g
  | .qR _ _::k,_,_,_,h,g=>cS k h g
  | .bU _ _ _::k,_,_,_,h,g=>cS k h g
  | .Bb _ _::k,_,_,_,h,g=>cS k h g
  | .Cr::k,_,_,_,h,g=>cS k h g
  | .HE ..::_,_,_,_,h,_=>by cases h
  | .HF ..::_,_,_,_,h,_=>by cases h
  | .az j::k,nt,b,s,h,g=>by
    simp only[lO]at h;show if id=j then _ else _;cases hb:OW id j with
    | true=>
      simp only[hb,cond_true,Ou]at h;subst h;rw[am (OK hb)];exact g
    | false=>
      simp only[hb,cond_false]at h;rw[be (fun e=>by subst e;simp at hb)];exact cS k h g
theorem rZ(j:bq P ty){s s':AS}{o:Oper}{p:PV}{C:Prop}(h:gu ty s o.op=co (p,C))(hC:C)(hp:putDst nt o p s=co s'):OT P nt o s (fun t=>t=s'):=by
  intro M N a w b K Z hk;obtain⟨x,y,u⟩:=pC j b h hC;unfold Oper.wp;rw[y];simp only[Oper.upon];cases hd:o.dst with
  | none=>
    have:=eP hp hd;subst this;exact hk M N s' _ w (.refl _ _ _ _ _) b rfl
  | some d=>
    obtain⟨h1,rfl⟩:=eO hp hd;exact hk M N {s with f:=(d,p)::s.f} _ w (.refl _ _ _ _ _) (b.put d p x h1 u) rfl
theorem mH(j:bq P ty){s s':AS}{o:Oper}{p:PV}{C:Prop}(h:gu ty s o.op=co (p,C))(hC:C)(hp:putDst nt o p s=co s'):
    (s'.h=s.h∧s'.nx=s.nx)∧ ∀M N a w,Fits M N s nt a w-> ∃x,(execOp a.eval o).run P w= .ok (.value x) w∧Fits M N s' nt (a.put o.dst x) w:=by
  cases hd:o.dst with
  | none=>
    have:=eP hp hd;subst this;exact⟨⟨rfl,rfl⟩,fun M N a w b=>let ⟨x,hx,_⟩:=pC j b h hC;⟨x,hx,b⟩⟩
  | some d=>
    obtain⟨h1,rfl⟩:=eO hp hd;exact⟨⟨rfl,rfl⟩,fun M N a w b=>let ⟨x,hx,hv⟩:=pC j b h hC;⟨x,hx,b.put d p x h1 hv⟩⟩
theorem r9{s:AS}{all:List Oper}{todo pend:List (Nat×Oper)}: ∀{l:List (Nat×Oper)} {i:Nat} {o:Oper},(∀x∈l,x∈todo)->
    ((∀{p C},j5 ty nt s all todo pend l=co (.read i o p C)->(i,o)∈todo∧aM o=jp∧(∀x∈todo,waits o x.1=jp)∧bV nt all s.f o=co is∧ub all pend o=is∧gu ty s o.op=co (p,C))∧
     (j5 ty nt s all todo pend l=co (.skip i o)->(i,o)∈todo∧aM o=jp∧(∀x∈todo,waits o x.1=jp)∧bV nt all s.f o=co jp∧ub all pend o=is))
  | [],i,o,_=>⟨fun h=>by simp[j5]at h,fun h=>by simp[j5]at h⟩
  | (j,q)::r,i,o,hl=>by
    have b:=r9 (s:=s) (all:=all) (todo:=todo) (pend:=pend) (l:=r) (i:=i) (o:=o) (fun x G=>hl x (OF _ G));have u:(todo.any (fun y=>waits q y.1)||aM q)=jp->aM q=jp∧ ∀x∈todo,waits q x.1=jp:=fun h=>by
      simp only[Qx,Ps]at h;exact⟨h.2,fun x G=>by simpa using h.1 x G⟩
    constructor
    · intro p C h
      simp only[j5]at h;split at h
      · exact b.1 h
      · rename_i A
        split at h
        · rename_i D
          split at h
          · rename_i I
            split at h
            · rename_i B
              simp only[Ou,Fe.read.injEq]at h;obtain⟨rfl,rfl,rfl,rfl⟩:=h;exact⟨hl _ (by simp),(u A).1,(u A).2,D,B,I⟩
            · exact b.1 h
          · exact b.1 h
        · split at h
          · cases h
          · exact b.1 h
        · split at h
          · split at h
            · cases h
            · exact b.1 h
          · exact b.1 h
    · intro h
      simp only[j5]at h;split at h
      · exact b.2 h
      · rename_i A
        split at h
        · split at h
          · split at h
            · cases h
            · exact b.2 h
          · exact b.2 h
        · rename_i D
          split at h
          · rename_i B
            simp only[Ou,Fe.skip.injEq]at h;obtain⟨rfl,rfl⟩:=h;exact⟨hl _ (by simp),(u A).1,(u A).2,D,B⟩
          · exact b.2 h
        · split at h
          · split at h
            · cases h
            · exact b.2 h
          · exact b.2 h
theorem tp{s s1:AS}{o:Oper}{d:Nat}{p:PV}(hd:o.dst=co d)(hs:s1={s with f:=(d,p)::s.f})(hp:an p (s.f.get d)){M:Mem}{N:Nm}{a:Act}{w:World}(hf:Fits M N s1 nt a w):Fits M N s nt a w:=by
  subst hs;refine⟨hf.1,fun k=>?_,hf.2.2⟩;have:=hf.2.1 k;rw[AF.aw]at this;split at this
  · rename_i hk;subst hk;exact hp _ _ _ _ this
  · exact this
theorem dd(u:bq P ty){all:List Oper}{s:AS}: ∀{l:List (Nat×Oper)} {C:Prop},dD ty nt all s l=co C->C-> ∀x∈l,eE P nt all s x.2
  | [],_,_,_,x,hx=>(nomatch hx)
  | (i,o)::r,C,h,hC,x,hx=>by
    simp only[dD]at h;split at h
    · cases h
    · rename_i R hR
      have key:R->(∀M N b w,Fits M N s nt b w-> ∃v,YieldsAt P all.toArray w o v b∧Fits M N s nt (b.put o.dst v) w)->eE P nt all s x.2:=by
        intro B hh;rcases OG.1 hx with rfl|hx
        · exact hh
        · exact dd u hR B x hx
      split at h
      · rename_i y
        split at h
        · rename_i p Y B
          split at h
          · rename_i d hd
            cases hb:OV d nt with
            |false=>simp[hb]at h
            | true=>
              simp only[hb,cond_true,Ou]at h;subst h;obtain⟨⟨h1,I⟩,J⟩:=hC;refine key J fun M N b w j=>?_;obtain⟨v,G,A⟩:=pC u j B I;refine⟨v,.inl ⟨eT y j,.inl G⟩,?_⟩;rw[hd];exact tp hd Z h1 (j.put d p v (Oq hb) A)
          · rename_i hd
            simp only[Ou]at h;subst h;refine key hC.2 fun M N b w j=>?_;obtain⟨v,G,A⟩:=pC u j B hC.1;exact⟨v,.inl ⟨eT y j,.inl G⟩,by rw[hd];exact j⟩
        · cases h
      · rename_i y
        have D: ∀d,o.dst=co d->s.f.get d= .iv (.v (.tuple #[]))-> ∀M N b w,Fits M N s nt b w-> ∃v,YieldsAt P all.toArray w o v b∧Fits M N s nt (b.put o.dst v) w:=fun d hd h1 M N b w j=>by
          refine⟨undef,.inr ⟨eT y j,rfl⟩,?_⟩;have:=j.skip o;unfold fE at this;rw[hd]at this ⊢;exact tp hd Z (h1▸an.refl _) this
        split at h
        · rename_i d hd
          simp only[Ou]at h;subst h;exact key hC.2 (D d hd hC.1)
        · rename_i hd
          simp only[Ou]at h;subst h;exact key hC fun M N b w j=>⟨undef,.inr ⟨eT y j,rfl⟩,by rw[hd];exact j⟩
      · cases h
theorem AI{all:List Oper}{o:Oper}{r:List Oper}{d:Nat}{t:Bool}{k:List KI}{s:AS}{c:Bool}(hc:c=t)(u:s.f.get d= .iv (.v (.bool t)))(h:GO P nt (.ops all (o::r)::k) Q (setBool s (.tmp d) c)):GO P nt (.ops all (o::r)::k) Q s:=by
  subst hc;intro M N a w j;have b:=j.setBool (c:= .tmp d) u;exact AL.same (s:=s) h (iE _ _ _) b
theorem sS{c:Operand}{u v:Code}{t:Bool}{k:List KI}{s:AS}(hc:ev s.f c= .iv (.v (.bool t)))(h:GO P nt (.code (bif t then u else v)::k) Q s):GO P nt (.code (.cond c u v)::k) Q s:=by
  intro M N a w b;refine wp_cond (b.bool hc) ?_;cases t
  · exact h M N a w b
  · exact h M N a w b
theorem qD{all:List Oper}{f:AF}{j d:Nat}{p:PV}(h:guardOf all f j=co (d,p)):f.get d=p:=by
  unfold guardOf at h;split at h
  · split at h
    · simp only[Ou,OE]at h;rw[<-h.1];exact h.2
    · cases h
  · cases h
theorem xv{todo:List (Nat×Oper)}: ∀{l:List (Nat×Oper)} {i:Nat} {o:Oper},(∀x∈l,x∈todo)->xw todo l=co (i,o)->(i,o)∈todo∧wC todo i=is
  | [],_,_,_,h=>by simp[xw]at h
  | (j,q)::r,i,o,hl,h=>by
    simp only[xw]at h;split at h
    · rename_i b
      simp only[Ou,OE]at h;obtain⟨rfl,rfl⟩:=h;exact⟨hl _ (by simp),b⟩
    · exact xv (fun x u=>hl x (OF _ u)) h
theorem qN{all:List Oper}{i:Nat}{o:Oper}: ∀{l:List Oper} {n:Nat},my all i o n l=is-> ∀k q,l[k]? =co q->n+k≠i->(waits q i=is∨looks all q o=jp)∧ ∀d,o.dst=co d->q.dst≠co d
  | [],_,_,k,q,hk,_=>by simp at hk
  | c::l,n,h,k,q,hk,hne=>by
    simp only[my,Pk,Qu,Py]at h;cases k with
    | zero=>
      simp at hk;subst hk;rcases h.1 with h1|⟨h1,u⟩
      · exact absurd (OK h1) (by simpa using hne)
      · refine⟨h1,fun d b j=>?_⟩
        rw[b,j]at u;simp at u
    |succ k=>exact qN h.2 k q (by simpa using hk) (by omega)
theorem ua(y:bq P ty){all:List Oper}(h:jm ty nt all 0 all=is):il P nt all:=by
  have key: ∀(l:List Oper) (n:Nat),jm ty nt all n l=is-> ∀k o,l[k]? =co o->aM o=is->
      o.guard=io∧(∃d,o.dst=co d∧d<nt)∧(∃t v,o.op= .alloc t∧ ∀w,(zeroValue t).run P w= .ok v w)∧(∀k,waits o k=jp)∧my all (n+k) o 0 all=is:=by
    intro l
    induction l with
    |nil=>intro n _ k o hk;simp at hk
    | cons c l ih=>
      intro n h k o hk b;simp only[jm,Pk]at h;cases k with
      | zero=>
        simp at hk;subst hk;have h1:=h.1;split at h1
        · rename_i t x
          split at h1
          · rename_i d e G hd j
            simp only[Pk]at h1;refine⟨G,⟨d,hd,Oq h1.1⟩,⟨t,_,x,fun w=>c4 (y _ _ j)⟩,fun k=>?_,h1.2.2⟩;unfold waits;refine Ps.2 fun e j=>?_;have:=Pc.1 h1.2.1 e j;simp only[Py]at this;simp[this]
          · cases h1
        · rename_i u
          unfold aM at b;split at b
          · rename_i t x;exact absurd x (u t)
          · cases b
      | succ k=>
        have:=ih (n+1) h.2 k o (by simpa using hk) b;rw[show n+(k+1)=n+1+k by omega];exact this
  intro i o J b;obtain⟨h1,B,C,D,A⟩:=key all 0 h i o J b;refine⟨h1,B,C,D,fun k q hk I=>?_⟩;rw[OY]at A;exact qN A k q hk (by omega)
theorem vd{j:Nv}(u:Fc P j){s:AS}{o:Op}{e:Oo}{b:List PV}(h:callee j s o=co (e,b)):
    ∃g c fn,o= .call c∧bM s.f c=co (g,b)∧b.length<=e.nt∧P.funcs[g]? =co fn∧fn.body=co e.body∧(fn.name== "runtime.NumGoroutine")=jp∧fn.ntmps=e.nt∧fn.results.toList=e.res:=by
  unfold callee at h;split at h
  · rename_i c
    split at h
    · rename_i g x D
      split at h
      · rename_i I G
        split at h
        · rename_i hb
          simp only[Ou,OE]at h;obtain⟨rfl,rfl⟩:=h;obtain⟨fn,h1,y,A,B,C⟩:=u _ _ G;exact⟨g,c,fn,rfl,D,Oq hb,h1,y,A,B,C⟩
        · cases h
      · cases h
    · cases h
  · cases h
theorem KG(hm:P.follows .mixedOrders=is)(B:bq P ty){y:Way}(x0:Fc P y.fns): ∀(n:Nat) (nt:NT) (k:List KI) (s:AS) (C0 C:Prop) (J:NT) (st:Stop),bp ty y n nt k s C0=co (C,J,st)->(C->C0)∧(C->ej P J Q st->GO P nt k Q s):=by
  intro n
  induction n with
  | zero=>
    intro nt k s C0 C J st h;simp only[bp,Ou,OE]at h;obtain⟨rfl,rfl,rfl⟩:=h;exact⟨fun h=>h,fun _ g=>g⟩
  | succ n ih=>
    intro nt k s C0 C J st h;have A: ∀{Y:NT} {k2:List KI} {s2:AS},bp ty y n Y k2 s2 C0=co (C,J,st)->(GO P Y k2 Q s2->GO P nt k Q s)->(C->C0)∧(C->ej P J Q st->GO P nt k Q s):=
      fun h f=>have:=ih _ _ _ _ _ _ _ h;⟨this.1,fun hC g=>f (this.2 hC g)⟩
    have G: ∀{Y:NT} {k2:List KI} {s2:AS} {C1:Prop},bp ty y n Y k2 s2 (C0∧C1)=co (C,J,st)->(C1->GO P Y k2 Q s2->GO P nt k Q s)->(C->C0)∧(C->ej P J Q st->GO P nt k Q s):=
      fun h f=>have:=ih _ _ _ _ _ _ _ h;⟨fun hC=>(this.1 hC).1,fun hC g=>f (this.1 hC).2 (this.2 hC g)⟩
    have D: ∀{v0:Stop},co (C0,nt,v0)=co (C,J,st)->(ej P nt Q v0->GO P nt k Q s)->(C->C0)∧(C->ej P J Q st->GO P nt k Q s):=by
      intro v0 h f;simp only[Ou,OE]at h;obtain⟨rfl,rfl,rfl⟩:=h;exact⟨fun h=>h,fun _ g=>f g⟩
    have a0: ∀{Y:NT} {z0:Nat} {k2:List KI} {s2:AS},co (C0,Y,Stop.bad z0 k2 s2)=co (C,J,st)->(C->C0)∧(C->ej P J Q st->GO P nt k Q s):=by
      intro Y z0 k2 s2 h;simp only[Ou,OE]at h;obtain⟨rfl,rfl,rfl⟩:=h;exact⟨fun h=>h,fun _ g=>g.elim⟩
    cases k with
    |nil=>simp only[bp]at h;exact D h fun g=>g
    | cons i k=>
      cases i with
      |lp R=>simp only[bp]at h;exact D h fun g=>g
      |az id=>simp only[bp]at h;exact A h K6
      |Cr=>simp only[bp]at h;exact A h fun g=>g
      | Bb b m=>
        simp only[bp]at h;split at h
        · exact a0 h
        · exact A h go_round
      | HE Y f res o all rest=>
        simp only[bp]at h;split at h
        · exact a0 h
        · rename_i r hr
          split at h
          · exact a0 h
          · rename_i s' I
            exact A h fun g=>⟨.inl Z,r,s',hr,I,g⟩
      | HF Y f res j o all todo pend=>
        simp only[bp]at h;split at h
        · exact a0 h
        · rename_i r hr
          split at h
          · exact a0 h
          · rename_i s' I
            split at h
            · exact a0 h
            · rename_i n0 d0
              exact G h fun hC g=>⟨.inl Z,r,s',hr,I,dd B d0 hC,g⟩
      | code c=>
        cases c with
        |skip=>simp only[bp]at h;exact A h go_skip
        |scope b=>simp only[bp]at h;exact A h Ef
        |label l=>simp only[bp]at h;exact A h Ei
        |seq a b=>simp only[bp]at h;exact A h K3
        |block id b=>simp only[bp]at h;exact A h Em
        | region id ops d=>
          cases d with
          |false=>simp only[bp]at h;exact A h go_region
          | true=>
            simp only[bp]at h;split at h
            · rename_i h1 h2 h3
              exact A h (El hm (BM h1) h2 (ua B h3))
            · exact D h fun g=>g
        | cond c u v=>
          simp only[bp]at h;split at h
          · rename_i t he
            split at h
            · exact D h fun g=>HA he g.1 g.2
            · split at h
              · exact A h (sS he)
              · exact A h (sS he)
          · rename_i he
            exact A h (sR he)
          · rename_i he
            exact A h (sR he)
          · exact a0 h
        | ret=>
          simp only[bp]at h;split at h
          · rename_i k' I
            exact A h fun g=>go_ret (dh k I g)
          · rename_i I
            exact D h fun g=>go_ret (kV k I g)
        | exit id=>
          simp only[bp]at h;split at h
          · rename_i k' I
            exact A h fun g=>Hx (cS k I g)
          · exact a0 h
        | loop b=>
          simp only[bp]at h;split at h
          · exact D h fun g=>g
          · exact A h n9
        |_=>simp only[bp]at h;exact a0 h
      |qR all rest=>simp only[bp]at h;exact a0 h
      | bU all todo pend=>
        cases todo with
        |nil=>simp only[bp]at h;exact A h x7
        | cons x todo=>
          have g0: ∀{j:Nat} {o:Oper},eJ (x::todo)=[(j,o)]->(j,o)∈(x::todo)∧aM o=jp∧ ∀y∈(x::todo),waits o y.1=jp:=by
            intro j o h1;have h2:(j,o)∈eJ (x::todo):=by rw[h1];simp
            obtain⟨h3,h4⟩:=O5.1 h2;simp only[Py,Qx,Ps]at h4;exact⟨h3,h4.1,fun y hy=>by simpa using h4.2 y hy⟩
          have b0: ∀{CA:Prop},mV ty nt all s (x::todo) pend=co CA->CA-> ∀y∈(x::todo),aM y.2=is-> ∀y∈pend,eE P nt all s y.2:=by
            intro CA h1 f0 y hy k1;unfold mV at h1;split at h1
            · exact dd B h1 f0
            · rename_i h2
              have:=Ps.1 h2 y hy;rw[k1]at this;exact absurd Z this
          have e0: ∀{j:Nat} {o:Oper} {s':AS},eJ (x::todo)=[(j,o)]->bV nt all s.f o=co is->gW all pend o=is->mU (x::todo) [j]=is->(∀y∈(x::todo),aM y.2=is-> ∀y∈pend,eE P nt all s y.2)->OT P nt o s (fun t=>t=s')->
              (∀y∈aZ pend o,eE P nt all s' y.2)->GO P nt (.bU all ((x::todo).filter fun x=>!OW x.1 j) (aZ pend o)::k) Q s'->GO P nt (.bU all (x::todo) pend::k) Q s:=by
            intro j o s' h1 h2 h3 h4 ha h5 h6 h7;obtain⟨c0,r0,t0⟩:=g0 h1;refine rv h4 ⟨_,c0,r0⟩ ha fun j' o' hj _ hu=>?_;simp only[OI]at hj;subst hj;have:=hu o c0;subst this;exact⟨r0,fun y hy _=>t0 y hy,h3,h2,_,h5,fun t ht=>by subst ht;exact⟨h6,h7⟩⟩
          simp only[bp]at h;split at h
          · rename_i i o p C' s0
            obtain⟨g1,ga,gb,g2,g3,g4⟩:=(r9 (fun _ h=>h)).1 s0;split at h
            · exact a0 h
            · rename_i s' I
              split at h
              · exact G h fun hC g=>sP g1 ga gb g2 g3 (mH B g4 hC I).1 (mH B g4 hC I).2 g
              · rename_i ho
                exact A h fun g=>sP g1 ga gb g2 g3 (mH B g4 (vM g4 ho) I).1 (mH B g4 (vM g4 ho) I).2 g
          · rename_i i o s0
            obtain⟨g1,ga,gb,g2,g3⟩:=(r9 (fun _ h=>h)).2 s0;exact A h (Ek g1 ga gb g2 g3)
          · split at h
            · rename_i t' hy
              split at h
              · exact D h fun g=>pV hy g.1 g.2
              · split at h
                · exact A h fun g=>pV hy (fun _=>g) (fun h=>by cases h)
                · exact A h fun g=>pV hy (fun h=>by cases h) (fun _=>g)
            · exact a0 h
          · split at h
            · rename_i j o m0
              split at h
              · rename_i i0 j0 k0
                split at h
                · exact a0 h
                · rename_i CA f0
                  split at h
                  · rename_i p C' hr
                    split at h
                    · exact a0 h
                    · rename_i s' I
                      split at h
                      · exact a0 h
                      · rename_i n0 d0
                        exact G h fun hC g=>e0 m0 i0 j0 k0 (b0 f0 hC.1) (rZ B hr hC.2.1 I) (dd B d0 hC.2.2) g
                  · split at h
                    · split at h
                      · split at h
                        · exact D h fun g=>g
                        · rename_i C' p s1 o0
                          split at h
                          · exact a0 h
                          · rename_i s' I
                            split at h
                            · exact a0 h
                            · rename_i n0 d0
                              exact G h fun hC g=>e0 m0 i0 j0 k0 (b0 f0 hC.1) (Cw B o0 hC.2.1 I) (dd B d0 hC.2.2) g
                      · rename_i e b1 p0
                        rw[tj]at h;obtain⟨g,c,fn,ho,ha,he,h1,h2,h3,h4,h5⟩:=vd x0 p0;obtain⟨c0,r0,t0⟩:=g0 m0;exact G h fun hC gg=>Hz B c0 k0 t0 (b0 f0 hC) j0 i0 ho ha h1 h2 h3 h4 h5 he gg
                    · rename_i p s1 q0
                      split at h
                      · exact a0 h
                      · rename_i s' I
                        split at h
                        · exact a0 h
                        · rename_i n0 d0
                          exact G h fun hC g=>e0 m0 i0 j0 k0 (b0 f0 hC.1) (DS B q0 I) (dd B d0 hC.2) g
              · exact D h fun g=>g
            · split at h
              · exact D h fun g=>g
              · rename_i i o j1
                split at h
                · rename_i t d i1 f1
                  split at h
                  · exact a0 h
                  · rename_i e he
                    rw[force_eq]at h;split at h
                    · rename_i C1 C2 d1 e1
                      obtain⟨m1,m2⟩:=xv (fun _ h=>h) j1;exact G h fun hC g=>B7 m1 i1 (fun w=>c4 (B _ _ he)) f1 m2 (dd B d1 hC.1) (dd B e1 hC.2) g
                    · exact a0 h
                · exact a0 h
            · exact D h fun g=>g
      | ops all rest=>
        cases rest with
        |nil=>simp only[bp]at h;exact A h y4
        | cons o r=>
          simp only[bp]at h;split at h
          · rename_i j w0 hg
            split at h
            · rename_i d t hy
              cases hb:OV d nt with
              |false=>simp only[hb,cond_false]at h;exact a0 h
              | true=>
                simp only[hb,cond_true]at h;split at h
                · exact D h fun g=>Ej hg hy (Oq hb) g.1 g.2
                · split at h
                  · exact A h (AI Z (qD hy))
                  · exact A h (AI Z (qD hy))
            · rename_i d t hy
              cases hb:OV d nt with
              |false=>simp only[hb,cond_false]at h;exact a0 h
              | true=>
                simp only[hb,cond_true]at h;obtain⟨a1,a2,a3,a4,a5,a6⟩:=o;cases t<;>cases w0<;>simp only at h
                all_goals exact A h fun g=>x6 hg hy (Oq hb) g
            · rename_i d vs hy
              exact A h fun g=>x5 hg hy g
            · exact a0 h
          · rename_i hg
            split at h
            · split at h
              · split at h
                · split at h
                  · exact D h fun g=>g
                  · rename_i C' p s1 o0
                    split at h
                    · exact a0 h
                    · rename_i s' I
                      exact G h fun hC g=>cM hg (Cw B o0 hC I) fun t ht=>by subst ht;exact g
                · rename_i e b1 p0
                  rw[tj]at h;obtain⟨g,c,fn,ho,ha,he,h1,h2,h3,h4,h5⟩:=vd x0 p0;exact A h fun gg=>K4 B hg ho ha h1 h2 h3 h4 h5 he gg
              · rename_i p s1 q0
                split at h
                · exact a0 h
                · rename_i s' I
                  exact A h fun g=>cM hg (DS B q0 I) fun t ht=>by subst ht;exact g
            · rename_i p C' hr
              split at h
              · exact a0 h
              · rename_i s' I
                split at h
                · exact G h fun hC g=>cM hg (rZ B hr hC I) fun t ht=>by subst ht;exact g
                · rename_i ho
                  exact A h fun g=>cM hg (rZ B hr (vM hr ho) I) fun t ht=>by subst ht;exact g
theorem KT:Fc P (fun _=>io):=fun _ _ h=>nomatch h
theorem y3(hm:P.follows .mixedOrders=is)(j:bq P ty)(n:Nat){k:List KI}{s:AS}{C:Prop}{b:NT}{st:Stop}(h:bp ty ⟨fun _=>io,0,jp⟩ n nt k s True=co (C,b,st))(hC:C)(hg:ej P b Q st):GO P nt k Q s:=
  (KG hm j KT n nt k s True C b st h).2 hC hg
end
mutual
def PV.low(n:Nat):PV->Bool
 | .iv _=>is
 | .agg cs=>bd n cs
 | .bf cs=>bd n cs
 | .ptr i _=>OV i n
 | .cJ i _ _ _=>OV i n
 | .ei _ i=>OV i n
 | .mN i _ _=>OV i n
 | .sl i _ _ _=>OV i n
 | .mp i=>OV i n
 | .b4 _ first caps=>match bd n first with
  |true=>bd n caps
  |false=>jp
 | .kb _=>is
 | .any=>is
def bd(n:Nat):List PV->Bool
 | []=>is
 |p::r=>match PV.low n p with
  |true=>bd n r
  |false=>jp
end
theorem fN{n:Nat}: ∀{l:List PV},bd n l=is-> ∀(j:Nat) (p:PV),l[j]? =co p->p.low n=is
 | [],_,j,p,h=>by simp at h
 |c::l,hb,j,p,h=>by
  simp only[bd]at hb;split at hb
  .rename_i b;cases j with
   |zero=>simp at h;subst h;exact b
   |succ j=>exact fN hb j p (by simpa using h)
  .cases hb
def AO.low(n:Nat):AO->Prop
 | .cells cs _=>bd n cs=is
 | .row _ es=> ∀(k:Nat) (e:List PV),es[k]? =co e->bd n e=is
 | .bh _ _=>True
 | .fg=>True
 | .map ..=>True
 | .bF ..=>True
 | .dJ _ _=>True
 | .ig ..=>True
 | .dT q _ _=>q.low n=is
section
variable {M:Mem} {N:Nm} {U:Nat->Prop} {n:Nat}
theorem VR.down{p:PV}{x:Value}(h:VR M N U p x):p.low n=is->VR M N (· <n) p x:=by
 induction h with
 |iv x y h=>exact fun _=> .iv x y h
 |agg cs ys hl hr ih=>exact fun hb=> .agg _ _ hl fun j p u=>ih j p u (fN hb j p u)
 |bf cs ys hl hr ih=>exact fun hb=> .bf _ _ hl fun j p u=>ih j p u (fN hb j p u)
 |ptr i off h=>exact fun hb=> .ptr i off (Oq hb)
 |cJ i sz k off h=>exact fun hb=> .cJ i sz k off (Oq hb)
 |ei z i h=>exact fun hb=> .ei z i (Oq hb)
 |mN i o m h=>exact fun hb=> .mN i o m (Oq hb)
 |sl i off len sz cap h A hl hc he=>exact fun hb=> .sl i off len sz cap (Oq hb) A hl hc he
 |lK i sz h=>exact fun hb=> .lK i sz (Oq hb)
 |sle i sz cap h hc he=>exact fun hb=> .sle i sz cap (Oq hb) hc he
 |mp i h=>exact fun hb=> .mp i (Oq hb)
 |b4 fn first caps f' c' h1 h2 hr1 hr2 ih1 ih2=>
  intro hb;simp only[PV.low]at hb;split at hb
  .rename_i A;exact .b4 _ _ _ _ _ h1 h2 (fun j p u=>ih1 j p u (fN A j p u)) (fun j p u=>ih2 j p u (fN hb j p u))
  .cases hb
 |kb b=>exact fun _=> .kb b
 |any x=>exact fun _=> .any x
theorem OR.down{w:World}{i:Nat}{o:AO}(h:OR M N U w i o)(hb:o.low n):OR M N (· <n) w i o:=by
 cases o with
 |cells cs T0=>obtain⟨c,T,h1,u,x,y,A⟩:=h;exact⟨c,T,h1,u,x,fun j p C=>(y j p C).down (fN hb j p C),A⟩
 |row sz es=>
  rcases h with h|⟨G,c,T,h1,u,x,y,A⟩
  .exact .inl h
  exact .inr ⟨G,c,T,h1,u,x,y,fun k e j p B D=>(A k e j p B D).down (fN (hb k e B) j p D)⟩
 |bh l T=>exact h
 |fg=>exact h
 |map kc ev z zv dv m=>exact h
 |bF kc ev m l cu=>exact h
 |dJ s p=>exact h
 |ig kc ev z zv dv m bs c=>exact h
 |dT q c l=>obtain⟨b,h1,u⟩:=h;exact⟨b,h1.down hb,u⟩
end
def H8(n:Nat)(f:AF):AF->Prop
 | []=>True
 |(d,p)::r=>f.get d=p∧p.low n=is∧H8 n f r
def zr(n:Nat)(h:AH):AH->Prop
 | []=>True
 |(_,io)::r=>zr n h r
 |(i,co o)::r=>h.get i=co o∧i<n∧o.low n∧zr n h r
structure Nj (s t:AS):Prop where
 nx:t.nx<=s.nx
 f:H8 t.nx s.f t.f
 h:zr t.nx s.h t.h
theorem pn{n:Nat}{h:AH}: ∀{g:AH},zr n h g-> ∀i o,g.get i=co o->h.get i=co o∧i<n∧o.low n
 | [],_,i,o,hi=>by simp[AH.get]at hi
 |(k,io)::r,hw,i,o,hi=>by
  rw[AH.aw]at hi;split at hi
  .cases hi
  .exact pn (g:=r) hw i o hi
 |(k,co p)::r,hw,i,o,hi=>by
  obtain⟨h1,b,j,u⟩:=hw;rw[AH.aw]at hi;split at hi
  .rename_i e;subst e;simp only[Ou]at hi;subst hi;exact⟨h1,b,j⟩
  .exact pn u i o hi
theorem Nj.ext{s t:AS}(hw:Nj s t){M x:Mem}{N y:Nm}{n:Nat}{h:AH}{w A:World}(b:Ext M N (· <n) h w x y (· <s.nx) s.h A)(hn:n<=t.nx):Ext M N (· <n) h w x y (· <t.nx) t.h A:=
 ⟨b.os,b.tape,b.output,b.size,b.fL,b.ot,b.gq,b.nm,fun _ j=>Qb j hn,fun i o j u=>b.fI i o (pn hw.h i o j).1 u⟩
theorem cQ{p:Nat->Prop}(h: ∃n,p n): ∃n,p n∧ ∀m,p m->n<=m:=by
 obtain⟨n,u⟩:=h
 induction n using Nat.strongRecOn with
 |_ n ih=>
  by_cases j: ∃m,m<n∧p m
  .obtain⟨m,h1,b⟩:=j;exact ih m h1 b
  .exact⟨n,u,fun m b=>Qc fun h1=>j ⟨m,h1,b⟩⟩
section
variable {P:Program} {nt:NT} {Q:AQ} {k:List KI} {s:AS}
end
section
variable {P:Program}
def Pure(P:Program)(k:FuncId)(args:List PV)(r:PV):Prop:=Fn P k args [] fun q h n=>q=r∧h=[]∧n=0
end
mutual
theorem PV.jA(σ:Nat->Nat): ∀p:PV,p.low 0=is->p.cq σ=p
 | .iv _,_=>rfl
 | .agg cs,h=>by simp only[PV.cq];rw[fY σ cs (by simpa[PV.low]using h)]
 | .bf cs,h=>by simp only[PV.cq];rw[fY σ cs (by simpa[PV.low]using h)]
 | .ptr i o,h=>by simp[PV.low,OV]at h
 | .cJ i _ _ o,h=>by simp[PV.low,OV]at h
 | .ei _ i,h=>by simp[PV.low,OV]at h
 | .mN i _ _,h=>by simp[PV.low,OV]at h
 | .sl i _ _ _,h=>by simp[PV.low,OV]at h
 | .mp i,h=>by simp[PV.low,OV]at h
 | .b4 fn a b,h=>by
  simp only[PV.low]at h;simp only[PV.cq];split at h
  .rename_i j;rw[fY σ a j,fY σ b h]
  .cases h
 | .kb _,_=>rfl
 | .any,_=>rfl
theorem fY(σ:Nat->Nat): ∀l:List PV,bd 0 l=is->dy σ l=l
 | [],_=>rfl
 |p::r,h=>by
  simp only[bd]at h;split at h
  .rename_i b;simp only[dy];rw[PV.jA σ p b,fY σ r h]
  .cases h
end
section
variable {P:Program} {nt:NT} {Q:AQ} {k:List KI} {s:AS}
theorem aB{all rest:List Oper}{o:Oper}{c:Call}{g:FuncId}{args:List PV}{r:PV}{s':AS}(hc:Pure P g args r)(ho:o.op= .call c)(hg:o.guard=io)(ha:bM s.f c=co (g,args))(hl:bd 0 args=is)
  (hr:r.low 0=is) (hp:putDst nt o r s=co s') (h:GO P nt (.ops all rest::k) Q s'):GO P nt (.ops all (o::rest)::k) Q s:=by
 refine cM (R:=fun t=>t=s') hg ?_ (fun t b=>by subst b;exact h);refine ll ho ha hc (L:=[]) (by simp) (by simp) Z (fY _ _ hl).symm ?_;rintro q j u ⟨rfl,rfl,rfl⟩;exact⟨s',by rw[PV.jA _ _ hr];exact hp,rfl⟩
end
def dR(o q:AO):Prop:=(q.real=is->o.real=is)∧ ∀(M:Mem) (N:Nm) (U:Nat->Prop) (w:World) (i:Nat),OR M N U w i o->OR M N U w i q
theorem an.of_eq{p q:PV}(h:p=q):an p q:=h▸ .refl p
theorem kD.refl(p:IV):kD p p:=fun _ _ h=>h
theorem kD.of_eq{p q:IV}(h:p=q):kD p q:=h▸ .refl p
theorem dR.refl(o:AO):dR o o:=⟨id,fun _ _ _ _ _ h=>h⟩
theorem dR.of_eq{o q:AO}(h:o=q):dR o q:=h▸ .refl o
theorem dR.trans{o q r:AO}(a:dR o q)(b:dR q r):dR o r:=⟨fun h=>a.1 (b.1 h),fun M N U w i h=>b.2 M N U w i (a.2 M N U w i h)⟩
theorem an.iv{p q:IV}(h:kD p q):an (.iv p) (.iv q):=fun M N U x b=>by
 cases b with
 |iv _ _ hi=>exact .iv _ _ (h M x hi)
theorem kD.nil(sz:Nat)(el:Nat->List IV):kD (.v (.slice io 0 0)) (.ck sz 0 el):=fun M x h=>by
 cases h;exact .fM _ _ _ _
theorem an.nil(sz:Nat)(el:Nat->List IV):an (.iv (.v (.slice io 0 0))) (.iv (.ck sz 0 el)):= .iv (.nil sz el)
theorem an.kb(b:Bool):an (.kb b) (.iv (.v (.bool b))):=fun M N U x h=>by
 cases h;exact .iv _ _ (.v _)
theorem kD.ck{sz n y:Nat}{el u:Nat->List IV}(hn:n=y)(h: ∀k,k<n->el k=u k):kD (.ck sz n el) (.ck sz y u):=by
 subst hn;intro M x B;cases B with
 |fM=>exact .fM _ _ _ _
 |ck _ _ _ b off cap hn hc hl hm hr=>
  exact .ck _ _ _ _ _ _ hn hc (fun k hk=>by rw[<-h k hk];exact hl k hk) hm (fun k j p hk A=>hr k j p hk (by rw[h k hk];exact A))
theorem an.ck{sz n j:Nat}{el b:Nat->List IV}(hn:n=j)(h: ∀k,k<n->el k=b k):an (.iv (.ck sz n el)) (.iv (.ck sz j b)):= .iv (.ck hn h)
def fV:List PV->List PV->Prop
 | [],[]=>True
 |p::r,q::s=>an p q∧fV r s
 |_,_=>False
theorem fV.length: ∀{a b:List PV},fV a b->a.length=b.length
 | [],[],_=>rfl
 |_::_,_::_,h=>congrArg (· +1) (fV.length h.2)
 | [],_::_,h=>h.elim
 |_::_,[],h=>h.elim
theorem fV.get: ∀{a b:List PV},fV a b-> ∀(j:Nat) (q:PV),b[j]? =co q-> ∃p,a[j]? =co p∧an p q
 | [],[],_,j,q,h=>by simp at h
 |p::r,q0::s,hh,j,q,h=>by
  cases j with
  |zero=>simp at h;subst h;exact⟨p,rfl,hh.1⟩
  |succ j=>simpa using fV.get hh.2 j q (by simpa using h)
 | [],_::_,hh,_,_,_=>hh.elim
 |_::_,[],hh,_,_,_=>hh.elim
theorem an.agg{a b:List PV}(h:fV a b):an (.agg a) (.agg b):=fun M N U x y=>by
 cases y with
 |agg _ ys hl hr=>exact .agg _ _ (h.length▸hl) fun j q u=>let ⟨p,hp,hle⟩:=h.get j q u;hle M N U _ (hr j p hp)
theorem an.bf{a b:List PV}(h:fV a b):an (.bf a) (.bf b):=fun M N U x y=>by
 cases y with
 |bf _ ys hl hr=>exact .bf _ _ (h.length▸hl) fun j q u=>let ⟨p,hp,hle⟩:=h.get j q u;hle M N U _ (hr j p hp)
theorem dR.cells{a b:List PV}{u:Option TypeId}(h:fV a b):dR (.cells a u) (.cells b u):=⟨fun h=>h,fun M N U w i ⟨c,T,h1,h2,h3,h4,h5⟩=>
 ⟨c,T,h1,h2,h.length▸h3,fun j q x=>let ⟨p,hp,hle⟩:=h.get j q x;hle M N U _ (h4 j p hp),h5⟩⟩
theorem dR.Lz(a:List PV)(b:Option TypeId):dR (.cells a b) (.cells a):=⟨fun h=>h,fun M N U w i ⟨c,T,h1,h2,h3,h4,_⟩=>⟨c,T,h1,h2,h3,h4,.none _⟩⟩
theorem Fn.le{P:Program}{k:FuncId}{aa args:List PV}{os:List AO}{R:PV->AH->Nat->Prop}(h:Fn P k args os R)(b:fV aa args):Fn P k aa os R:=
 ⟨h.1,fun M N w vs x hl y=>h.2 M N w vs x (by rw[<-b.length];exact hl) fun j q u=>let ⟨p,hp,hpq⟩:=b.get j q u;hpq M N _ _ (y j p hp)⟩
theorem Pure.le{P:Program}{k:FuncId}{aa args:List PV}{r:PV}(h:Pure P k args r)(b:fV aa args):Pure P k aa r:=Fn.le h b
def sg(n0:Nat)(L:List Nat)(i:Nat):Nat:=bif OV i n0 then i else L.getD (i-n0) 0
theorem fj{n0:Nat}{L:List Nat}{i:Nat}(h:i<n0):sg n0 L i=i:=by
 have:OV i n0=is:=Pp h;simp[sg,this]
def Cy(n:Nat)(σ:Nat->Nat)(f:AF):AF->Prop
 | []=>True
 |(d,p)::r=>an (f.get d) (p.cq σ)∧p.low n=is∧Cy n σ f r
def mA(n:Nat)(σ:Nat->Nat)(h:AH):AH->Prop
 | []=>True
 |(_,io)::r=>mA n σ h r
 |(i,co o)::r=>(∃b,h.get (σ i)=co b∧dR b (o.cq σ))∧i<n∧o.low n∧mA n σ h r
def eh(σ:Nat->Nat):AH->List Nat
 | []=> []
 |(_,io)::r=>eh σ r
 |(i,co _)::r=>σ i::eh σ r
structure Wk (n0:Nat) (L:List Nat) (s t:AS):Prop where
 nx:t.nx=n0+L.length
 ns:n0<=s.nx
 lt: ∀j∈L,j<s.nx
 f:Cy t.nx (sg n0 L) s.f t.f
 h:mA t.nx (sg n0 L) s.h t.h
 inj:(eh (sg n0 L) t.h).Nodup
theorem zo{n:Nat}{σ:Nat->Nat}{f:AF}: ∀{g:AF},Cy n σ f g-> ∀d,g.get d= .any∨(an (f.get d) ((g.get d).cq σ)∧(g.get d).low n=is)
 | [],_,_=> .inl Z
 |(k,p)::r,h,d=>by
  obtain⟨h1,b,j⟩:=h;rw[AF.aw];by_cases hd:d=k
  .subst hd;rw[am Z];exact .inr ⟨h1,b⟩
  .rw[be hd];exact zo j d
theorem gI{n:Nat}{σ:Nat->Nat}{h:AH}: ∀{g:AH},mA n σ h g-> ∀i o,g.get i=co o->(∃b,h.get (σ i)=co b∧dR b (o.cq σ))∧i<n∧o.low n
 | [],_,i,o,hi=>by simp[AH.get]at hi
 |(k,io)::r,hw,i,o,hi=>by
  rw[AH.aw]at hi;split at hi
  .cases hi
  .exact gI (g:=r) hw i o hi
 |(k,co p)::r,hw,i,o,hi=>by
  obtain⟨h1,j,u,x⟩:=hw;rw[AH.aw]at hi;split at hi
  .rename_i e;subst e;simp only[Ou]at hi;subst hi;exact⟨h1,j,u⟩
  .exact gI x i o hi
theorem iH{σ:Nat->Nat}: ∀{g:AH} {i:Nat} {o:AO},g.get i=co o->σ i∈eh σ g
 | [],i,o,h=>by simp[AH.get]at h
 |(k,io)::r,i,o,h=>by
  rw[AH.aw]at h;split at h
  .cases h
  .exact iH (g:=r) h
 |(k,co p)::r,i,o,h=>by
  rw[AH.aw]at h;split at h
  .rename_i e;subst e;simp[eh]
  .exact OF _ (iH h)
theorem kI{σ:Nat->Nat}: ∀{g:AH},(eh σ g).Nodup-> ∀i j o p,g.get i=co o->g.get j=co p->σ i=σ j->i=j
 | [],_,i,j,o,p,h,_,_=>by simp[AH.get]at h
 |(k,io)::r,hn,i,j,o,p,hi,hj,he=>by
  rw[AH.aw]at hi hj;split at hi
  .cases hi
  .split at hj
   .cases hj
   .exact kI (g:=r) hn i j o p hi hj he
 |(k,co q)::r,hn,i,j,o,p,hi,hj,he=>by
  rw[AH.aw]at hi hj;simp only[eh,O7]at hn;split at hi
  .rename_i u;split at hj
   .rename_i b;rw[u,b]
   .subst u;exact absurd (he▸iH hj) hn.1
  .split at hj
   .rename_i b;subst b;exact absurd (he▸iH hi) hn.1
   .exact kI hn.2 i j o p hi hj he
section
variable {n0:Nat} {L:List Nat} {s t:AS} {M:Mem} {N:Nm} {w:World}
theorem dR.real{o q:AO}(h:dR o q)(b:q.real=is):o.real=is:=h.1 b
theorem Wk.fits(hw:Wk n0 L s t){nt:NT}{a:Act}(hf:Fits M N s nt a w):Fits M (N.comp (sg n0 L)) t nt a w:=by
 refine⟨⟨hf.1.dZ,fun i o b=>(gI hw.h i o b).2.1,fun i o b A=>?_,fun i o b=>?_,fun i j o p b C G I D=>?_⟩,fun d=>?_,hf.2.2⟩
 .obtain⟨⟨B,h1,u⟩,y,x⟩:=gI hw.h i o b;exact hf.1.dM _ B h1 (u.real ((AO.bT _ o).trans A))
 .obtain⟨⟨B,h1,u⟩,y,x⟩:=gI hw.h i o b;exact(OR.qg (u.2 M N _ w _ (hf.1.obj _ _ h1))).down x
 .obtain⟨⟨B,h1,u⟩,_⟩:=gI hw.h i o b;obtain⟨⟨J,y,x⟩,_⟩:=gI hw.h j p C;have:=hf.1.inj _ _ _ _ h1 y (u.real ((AO.bT _ o).trans G)) (x.real ((AO.bT _ p).trans I)) D;exact kI hw.inj i j o p b C this
 .rcases zo hw.f d with h|⟨h1,u⟩
  .rw[h];exact .any _
  .exact((h1 M N _ _ (hf.2.1 d)).qg Z).down u
theorem Wk.ext(hw:Wk n0 L s t){x:Mem}{y:Nm}{h0:AH}{A:World}(b:Ext x y (· <n0) h0 A M N (· <s.nx) s.h w):Ext x y (· <n0) h0 A M (N.comp (sg n0 L)) (· <t.nx) t.h w:=by
 refine⟨b.os,b.tape,b.output,b.size,b.fL,b.ot,b.gq,⟨fun i j=>?_,fun i j=>?_⟩,fun i j=>by have:=hw.nx;omega,fun i o j u=>?_⟩
 .simp only[Nm.comp,fj j];exact b.nm.az i j
 .simp only[Nm.comp,fj j];exact b.nm.ext i j
 .obtain⟨⟨C,h1,B⟩,_⟩:=gI hw.h i o j;exact b.fI _ C h1 (B.real ((AO.bT _ o).trans u))
end
theorem kW{P:Program}{nt:NT}{Q:AQ}{k:List KI}{s:AS}{c:Code}{R j:AS->Prop}(h: ∀t,R t->j t)(hg:GO P nt (.code c:: .lp R::k) Q s):GO P nt (.code c:: .lp j::k) Q s:=by
 intro M N a w A;refine AW.then hg A fun e C D x y s' B b u=>⟨x,y,s',B,b,?_⟩
 cases e with
 |normal=>exact h _ u
 |_=>exact u
section
variable {P:Program} {nt:NT} {Q:AQ} {k:List KI} {s:AS}
theorem ae{L:List Nat}{t:AS}{c:Code}(hw:Wk s.nx L s t)(h:GO P nt (.code c::k) Q t):GO P nt (.code c::k) Q s:=by
 intro M N a w A;exact AW.then h (hw.fits A) fun e a2 C x y B u b j=>⟨x,y,B,(hw.ext (.refl _ _ _ _ _)).trans u,b,j⟩
theorem gi{body:Code}{σ:Type}(I:σ->AS)(μ:σ->Nat)(i0:σ)(G:List Nat)(h0:Wk s.nx G s (I i0))
  (b: ∀i,GO P nt (.code body:: .lp (fun t=> ∃j L,μ j<μ i∧Wk s.nx L t (I j))::k) Q (I i)):GO P nt (.code (.loop body)::k) Q s:=by
 intro Y N0 a0 w0 C
 let J:Act->World->Nat->Prop:=fun a w n=> ∃i M N,μ i=n∧Ext Y N0 (· <s.nx) s.h w0 M N (· <(I i).nx) (I i).h w∧Fits M N (I i) nt a w
 have B:J a0 w0 (μ i0):=⟨i0,Y,N0.comp (sg s.nx G),rfl,h0.ext (.refl _ _ _ _ _),h0.fits C⟩
 refine wp_loop (fun a w=> ∃n,J a w n) (fun a w=>by classical exact if h: ∃n,J a w n then QV (cQ h) else 0) ⟨_,B⟩ fun a w b0=>?_;obtain⟨⟨i,M,N,hi,hx,hf⟩,c0⟩:=Qa (cQ b0);refine AW.then (b i) hf fun e A D R N' s' x u hr=>?_
 cases e with
 |normal=>
  obtain⟨j,L,hj,hw⟩:=hr;have y:J A D (μ j):=⟨j,R,N'.comp (sg s.nx L),rfl,hw.ext (hx.trans x),hw.fits u⟩
  refine⟨⟨_,y⟩,?_⟩;simp only[dif_pos b0,dif_pos (⟨_,y⟩: ∃n,J A D n)];rw[<-hi];exact RP ((Qa (cQ (⟨_,y⟩: ∃n,J A D n))).2 _ y) hj
 |_=>exact⟨R,N',s',hx.trans x,u,hr⟩
end
section
variable {P:Program} {nt:NT} {Q:AQ} {k:List KI} {s:AS}
theorem aK{body:Code}(i0 n:Nat)(j:i0<=n)(I:Nat->AS)(J:Nat->Prop)(u:List Nat)(y:J i0)(h0:Wk s.nx u s (I i0))
  (b: ∀i,i<=n->J i->GO P nt (.code body:: .lp (fun t=>i<n∧J (i+1)∧ ∃L,Wk s.nx L t (I (i+1)))::k) Q (I i)):GO P nt (.code (.loop body)::k) Q s:=by
 refine gi (σ:={i:Nat//i<=n∧J i}) (fun i=>I i.1) (fun i=>n-i.1) ⟨i0,j,y⟩ u h0 fun i=>?_;obtain⟨i,h1,x⟩:=i;have:=b i h1 x;refine kW ?_ this
 rintro t ⟨h3,h4,L,h5⟩;exact⟨⟨i+1,h3,h4⟩,L,by show n-(i+1)<n-i;omega,h5⟩
end
theorem kY{P:Program}{nt:NT}{Q:AQ}{k:List KI}{s:AS}{c:Code}(t sz:Nat)(B:s.f.get t= .iv (.v (.slice io 0 0)))(h:GO P nt (.code c::k) Q (rK s t sz)):GO P nt (.code c::k) Q s:=by
 intro M N a w b;obtain⟨R,Y,sn⟩:=s;obtain⟨h1,G⟩:=b.1.Fj sz;have j:Fits M N (rK ⟨R,Y,sn⟩ t sz) nt a w:=by
  refine⟨G,fun k=>?_,b.2.2⟩;simp only[rK];rw[AF.aw];split
  .rename_i x;subst x;have:=b.2.1 k;simp only at B this;rw[B]at this;generalize a.tmps.getD k undef=v at this;cases this with
   |iv _ _ h=>cases h with
    |v=>exact .lK _ _ (P7 _)
  .exact(b.2.1 k).mono (.refl _) (.refl _ _) (fun i I=>PS I)
 exact AW.then h j fun e a2 w2 C D J A u y=>⟨C,D,J,h1.trans A,u,y⟩
mutual
def PV.dZ(i sz:Nat)(el:Nat->List IV):PV->PV
 | .iv x=> .iv x
 | .agg cs=> .agg (p4 i sz el cs)
 | .bf cs=> .bf (p4 i sz el cs)
 | .sl j off len sz'=>bif OW j i then .iv (.ck sz len (fun k=>el (off+k))) else .sl j off len sz'
 | .ptr j o=> .ptr j o
 | .cJ j a b c=> .cJ j a b c
 | .ei z j=> .ei z j
 | .mN j o n=> .mN j o n
 | .mp j=> .mp j
 | .b4 fn a b=> .b4 fn a b
 | .kb b=> .kb b
 | .any=> .any
def p4(i sz:Nat)(el:Nat->List IV):List PV->List PV
 | []=> []
 |p::r=>PV.dZ i sz el p::p4 i sz el r
end
theorem gk(i sz:Nat)(el:Nat->List IV): ∀l:List PV,p4 i sz el l=l.map (PV.dZ i sz el)
 | []=>rfl
 |p::r=>by simp[p4,gk i sz el r]
mutual
def PV.cF(i sz n:Nat):PV->Prop
 | .agg cs=>c7 i sz n cs
 | .bf cs=>c7 i sz n cs
 | .sl j off len sz'=>if j=i then sz'=sz∧off+len<=n else True
 |_=>True
def c7(i sz n:Nat):List PV->Prop
 | []=>True
 |p::r=>PV.cF i sz n p∧c7 i sz n r
end
theorem gE{i sz n:Nat}: ∀{l:List PV},c7 i sz n l-> ∀(j:Nat) (p:PV),l[j]? =co p->p.cF i sz n
 | [],_,j,p,h=>by simp at h
 |c::l,hh,j,p,h=>by
  cases j with
  |zero=>simp at h;subst h;exact hh.1
  |succ j=>exact gE hh.2 j p (by simpa using h)
theorem wi{M:Mem}{N:Nm}{n:Nat}{h:AH}{w:World}(hr:Rel M N (· <n) h w){i sz:Nat}{es:List (List PV)}(hi:h.get i=co (.row sz es)){el:Nat->List IV}
  (g0: ∀k e,es[k]? =co e->e=(el k).map .iv): ∃A,Ext M N (· <n) h w A N (· <n) ((i,io)::h) w∧Rel A N (· <n) ((i,io)::h) w∧
   ∀p x,VR M N (· <n) p x->p.cF i sz es.length->VR A N (· <n) (p.dZ i sz el) x:=by
 have key: ∀A:Mem,M.le A->(∀a0 len b0 b,a0+len<=es.length->0<len->len<=b0->b0<=maxLen->b=N.az i->IR A (.ck sz len (fun k=>el (a0+k))) (.slice (co ⟨b,a0*sz,io⟩) len b0))->
   ∀p x,VR M N (· <n) p x->p.cF i sz es.length->VR A N (· <n) (p.dZ i sz el) x:=by
  intro A hM hs p x hx
  induction hx with
  |iv x y h=>exact fun _=> .iv _ _ (h.mono hM)
  |agg cs ys hl hr ih=>
   intro C;refine .agg _ _ (by simpa[gk]using hl) fun j q hq=>?_;rw[gk,OC,OD]at hq;obtain⟨q0,G,rfl⟩:=hq
   exact ih j q0 G (gE (by simpa[PV.cF]using C) j q0 G)
  |bf cs ys hl hr ih=>
   intro C;refine .bf _ _ (by simpa[gk]using hl) fun j q hq=>?_;rw[gk,OC,OD]at hq;obtain⟨q0,G,rfl⟩:=hq
   exact ih j q0 G (gE (by simpa[PV.cF]using C) j q0 G)
  |ptr i a0 h=>exact fun _=> .ptr _ _ h
  |cJ i sz k a0 h=>exact fun _=> .cJ _ _ _ _ h
  |ei z i h=>exact fun _=> .ei _ _ h
  |mN i o n h=>exact fun _=> .mN _ _ _ h
  |sl j a0 len sz' b0 h h0 hl hc R=>
   intro C;simp only[PV.cF]at C;simp only[PV.dZ];by_cases u:j=i
   .subst u;rw[am Z]at C;obtain⟨rfl,C⟩:=C;have:OW j j=is:=by simp
    rw[this,cond_true];exact .iv _ _ (hs a0 len b0 _ C h0 hl hc Z)
   .have:OW j i=jp:=QQ.2 (fun e=>u (OK e));rw[this,cond_false];exact .sl _ _ _ _ _ h h0 hl hc R
  |lK j sz' h=>
   intro C;simp only[PV.dZ];cases hb:OW j i with
   |true=>exact .iv _ _ (.fM _ _ _ _)
   |false=>exact .lK _ _ h
  |sle j sz' b0 h hc R=>
   intro C;simp only[PV.dZ];cases hb:OW j i with
   |true=>exact .iv _ _ (.fM _ _ _ _)
   |false=>exact .sle _ _ _ h hc R
  |mp i h=>exact fun _=> .mp _ h
  |b4 fn first caps f' c' h1 J hr1 hr2 ih1 ih2=>exact fun _=> .b4 _ _ _ _ _ h1 J (fun j p u=>(hr1 j p u).mono hM (.refl _ _) (fun _ h=>h)) (fun j p u=>(hr2 j p u).mono hM (.refl _ _) (fun _ h=>h))
  |kb b=>exact fun _=> .kb _
  |any x=>exact fun _=> .any _
 rcases hr.obj i _ hi with h0|⟨h0,c,T,h1,J,h3,h4,h5⟩
 .subst h0;exact⟨M,(Ext.refl _ _ _ _ _).del i,hr.del i,key M (.refl _) fun a0 len b0 b h1 J=>by simp at h1;omega⟩
 .have c0:es≠ []∨es=[]:=by cases es<;>simp
  rcases c0 with c0|rfl;rotate_left
  .exact⟨M,(Ext.refl _ _ _ _ _).del i,hr.del i,key M (.refl _) fun a0 len b0 b h1 J=>by simp at h1;omega⟩
  have I:(AO.row sz es).real=is:=by cases es with
   |nil=>exact absurd Z c0
   |cons=>rfl
  have e0:=hr.dM i _ hi I
  let A:Mem:=M.set (N.az i) (.cells c) e0
  have hM:M.le A:=fun b d hb=>by
   simp only[A,Mem.set];by_cases B:b=N.az i
   .rw[B,e0]at hb;cases hb
   .rw[be B];exact hb
  have hnew: ∀b d,M b=io->A b=co d->b=N.az i:=fun b d h1 J=>by
   simp only[A,Mem.set]at J;by_cases B:b=N.az i
   .exact B
   .rw[be B,h1]at J;cases J
  refine⟨A,?_,?_,key A hM fun a0 len b0 b hb h6 h7 h8 i0=>?_⟩
  .exact⟨rfl,rfl,⟨rfl,OJ _⟩,OJ _,fun _ _ _=>rfl,hM,fun b d h1 J=> .inr ⟨i,_,hi,I,(hnew b d h1 J).symm⟩,.refl _ _,fun _ h=>h,fun j o u I=> .inr ⟨j,o,(a8 j o u).2,I,rfl⟩⟩
  .refine⟨fun b d hb=>?_,fun j o u=>hr.used j o (a8 j o u).2,fun j o u Y=>?_,fun j o u=>?_,fun j k o p u hk=>hr.inj j k o p (a8 j o u).2 (a8 k p hk).2⟩
   .simp only[A,Mem.set]at hb;by_cases B:b=N.az i
    .rw[am B]at hb;cases hb;exact⟨T,(0,0),by rw[B,h1]⟩
    .rw[be B]at hb;exact hr.dZ b d hb
   .obtain⟨g1,g2⟩:=a8 j o u;simp only[A,Mem.set];rw[be fun e=>g1 (hr.inj j i o _ g2 hi Y I e)];exact hr.dM j o g2 Y
   .obtain⟨g1,g2⟩:=a8 j o u;exact(hr.obj j o g2).mono hM (.refl _ _) (fun _ h=>h) (hr.used j o g2) Z
  .subst i0;have D: ∀o,A.cell (N.az i) o=c[o]? :=fun o=>by simp[Mem.cell,A,Mem.set]
   have j0: ∀k j,k<len->j<sz->a0*sz+k*sz+j<c.size:=by
    intro k j hk u;have:(a0+k+1)*sz<=es.length*sz:=OX _ (by omega);rw[Pv,Pv]at this;omega
   have f0: ∀k,k<len-> ∃e,es[a0+k]? =co e:=fun k hk=>⟨_,Ox (by omega)⟩
   refine .ck _ _ _ _ _ _ h7 h8 (fun k hk=>?_) (fun k j hk u=>?_) (fun k j p hk C=>?_)
   .obtain⟨e,R⟩:=f0 k hk;have:=h4 _ e R;rw[g0 _ e R]at this;simpa using this
   .rw[D];simp[j0 k j hk u]
   .obtain⟨e,R⟩:=f0 k hk;have h9:=h4 _ e R;have d0:=g0 _ e R;have u:j<sz:=by rw[<-h9,d0,O3];exact(Ov.1 C).1
    have:=h5 _ e j (.iv p) R (by rw[d0,OC,C];rfl);rw[D];have e2:a0*sz+k*sz+j=(a0+k)*sz+j:=by rw[Pv]
    rw[e2];rw[Ot]at this;cases this with
    |iv _ _ h=>exact h.mono hM
def iB(h:AH)(n:Nat)(r:PV)(K:AH->PV->Prop):Prop:= ∀M N w,Rel M N (· <n) h w-> ∃b j u,Ext M N (· <n) h w b N (· <n) j w∧Rel b N (· <n) j w∧(∀x,VR M N (· <n) r x->VR b N (· <n) u x)∧K j u
theorem iB.done{h:AH}{n:Nat}{r:PV}{K:AH->PV->Prop}(hk:K h r):iB h n r K:=fun M N w b=>⟨M,h,r,.refl _ _ _ _ _,b,fun _ h=>h,hk⟩
theorem iB.row{h:AH}{n:Nat}{r:PV}{K:AH->PV->Prop}(i:Nat){sz:Nat}{es:List (List PV)}(el:Nat->List IV)(hi:h.get i=co (.row sz es))(b: ∀k e,es[k]? =co e->e=(el k).map .iv)
  (j:r.cF i sz es.length) (hk:iB ((i,io)::h) n (r.dZ i sz el) K):iB h n r K:=by
 intro M N w D;obtain⟨u,h1,B,C⟩:=wi D hi b;obtain⟨y,A,I,g1,g2,g3,g4⟩:=hk u N w B;exact⟨y,A,I,h1.trans g1,g2,fun x G=>g3 x (C _ _ G j),g4⟩
def H5(ty:Ty)(l:List ResultVar)(m:Nat)(R:PV->AH->Nat->Prop):AQ:=fun e s=>
 (e= .normal∨e= .ret)∧ ∃u,iT ty s l=co u∧iB s.h s.nx u fun x y=> ∃r b j L,R r b j∧Wk m L ⟨[(0,y)],x,s.nx⟩ ⟨[(0,r)],b,j⟩
section
variable {P:Program}
theorem od {ty:Ty} (Y:bq P ty) {k:FuncId} {fn:Func} {c:Code} (hf:P.funcs[k]? =co fn) (hb:fn.body=co c) (hn:(fn.name== "runtime.NumGoroutine")=jp) {nt:Nat} (J:fn.ntmps=nt)
  {l:List ResultVar} (hl:fn.results.toList=l) {args:List PV} (I:args.length<=nt) {os:List AO} {R:PV->AH->Nat->Prop}
  (h:GO P nt [.code c] (H5 ty l os.length R) ⟨mv 0 args,c5 0 os,os.length⟩):Fn P k args os R:=by
 have key:Fn P k args os (fun r0 h0 n0=>iB h0 n0 r0 fun b r2=> ∃r B C L,R r B C∧Wk os.length L ⟨[(0,r2)],b,n0⟩ ⟨[(0,r)],B,C⟩):=by
  refine y7 Y hf hb hn J hl I ?_;intro M N a w u;refine wp_mono (h M N a w u) fun e a' w' hp=>?_;obtain⟨D,A,s',h1,b,h3⟩:=hp;refine⟨D,A,s',h1,b,?_⟩;simp only[kp]at h3 ⊢;obtain⟨he,r,g1,g2⟩:=h3;exact⟨he,r,g1,g2⟩
 refine⟨key.1,fun M N w vs hr y hv=>(key.2 M N w vs hr y hv).mono ?_⟩;rintro e w' ⟨x,D,A,r0,h0,n0,rfl,hF,hx,hr',hvr⟩;obtain⟨M2,b,r2,g1,g2,g3,r,B,C,L,hR,hw⟩:=hF D A w' hr'
 have G:Fits M2 A ⟨[(0,r2)],b,n0⟩ ⟨1,[]⟩ ⟨#[x],[]⟩ w':=⟨g2,fun d=>by
  rw[AF.aw];by_cases hd:d=0
  .subst hd;rw[am Z];exact g3 x hvr
  .rw[be hd];exact .any _,rfl,rfl⟩
 have j:=hw.fits G;refine⟨x,M2,_,r,B,C,rfl,hR,hw.ext (hx.trans g1),j.1,?_⟩;have:=j.2.1 0;exact this
def Cq(ty:Ty)(l:List ResultVar)(r:PV):AQ:=fun e s=>
 (e= .normal∨e= .ret)∧ ∃b,iT ty s l=co b∧iB s.h s.nx b fun _ j=>an j r
theorem ai {ty:Ty} (y:bq P ty) {k:FuncId} {fn:Func} {c:Code} (hf:P.funcs[k]? =co fn) (hb:fn.body=co c) (hn:(fn.name== "runtime.NumGoroutine")=jp) {nt:Nat} (x:fn.ntmps=nt)
  {l:List ResultVar} (hl:fn.results.toList=l) {args:List PV} (u:args.length<=nt) {r:PV} (hlow:r.low 0=is)
  (h:GO P nt [.code c] (Cq ty l r) ⟨mv 0 args,[],0⟩):Pure P k args r:=by
 refine od y hf hb hn x hl u ?_;intro M N a w b;refine wp_mono (h M N a w b) fun e a' w' I=>?_;obtain⟨B,D,s',h1,j,A⟩:=I;refine⟨B,D,s',h1,j,?_⟩;simp only[kp]at A ⊢;obtain⟨G,r0,g1,g2⟩:=A;refine⟨G,r0,g1,fun M N w J=>?_⟩;obtain⟨C,j,r2,R,Y,q3,q4⟩:=g2 M N w J;refine⟨C,j,r2,R,Y,q3,r,[],0,[],⟨rfl,rfl,rfl⟩,rfl,OL _,by simp,⟨?_,hlow,ac⟩,ac,Pe⟩;rw[PV.jA _ _ hlow];exact q4
theorem aT{ty:Ty}{l:List ResultVar}{r r0:PV}{e:Exit}{s:AS}(he:e= .normal∨e= .ret)(h:iT ty s l=co r0)(b:an r0 r):Cq ty l r e s:=⟨he,r0,h,.done b⟩
end
section
variable {P:Program}
theorem Eu{k:FuncId}{args:List PV}{os:List AO}{R:PV->AH->Nat->Prop}(hc:ik P k){n:Nat}(hn: ∃sz u,PV.iv (.ck sz n u)∈args)(h:n<=maxLen->Fn P k args os R):Fn P k args os R:=by
 refine⟨hc,fun M N w vs A hl x=>?_⟩;obtain⟨sz,u,hn⟩:=hn;obtain⟨j,y⟩:=Pj hn;have:=x j _ y;have b:n<=maxLen:=by
  generalize vs.getD j undef=v at this;cases this with
  |iv _ _ hi=>cases hi with
   |fM=>exact OL _
   |ck=>omega
 exact(h b).2 M N w vs A hl x
theorem Dx{k:FuncId}{args:List PV}{r:PV}(hc:ik P k){n:Nat}(hn: ∃sz b,PV.iv (.ck sz n b)∈args)(h:n<=maxLen->Pure P k args r):Pure P k args r:=Eu hc hn h
end
abbrev iI(n:Int):IV:= .v (.int .i64 n)
abbrev iS(s:ByteArray):IV:= .v (.string s)
abbrev pI(n:Int):PV:= .iv (iI n)
abbrev pS(s:ByteArray):PV:= .iv (iS s)
abbrev pB(b:Bool):PV:= .iv (.v (.bool b))
abbrev ag(l:List IV):PV:= .agg (l.map .iv)
abbrev bw{α:Type}[Inhabited α](sz:Nat)(l:List α)(f:α->List IV):IV:= .ck sz l.length (fun k=>f (l.getD k ci))
def aP{α:Type}(sz:Nat)(l:List α)(f:α->List IV):AO:= .row sz (l.map fun x=>(f x).map .iv)
theorem mI(σ:Nat->Nat): ∀l:List IV,dy σ (l.map .iv)=l.map .iv
 | []=>rfl
 |x::r=>by simp only[OU,dy,PV.cq,mI σ r]
theorem qc(n:Nat): ∀l:List IV,bd n (l.map .iv)=is
 | []=>rfl
 |x::r=>by simp only[OU,bd,PV.low,qc n r]
section
variable {α:Type} {sz:Nat} {l:List α} {f:α->List IV}
theorem b5(σ:Nat->Nat):(aP sz l f).cq σ=aP sz l f:=by
 simp only[aP,AO.cq,PT];congr 1;exact QF fun x _=>mI σ _
theorem dK(n:Nat):(aP sz l f).low n:=by
 intro k e b;rw[OC,OD]at b;obtain⟨x,_,rfl⟩:=b;exact qc n _
theorem Ab{es:List (List PV)}(σ:Nat->Nat)(h:es=l.map fun x=>(f x).map .iv):dR (.row sz es) ((aP sz l f).cq σ):=by
 rw[b5];exact .of_eq (by rw[h];rfl)
theorem dG[Inhabited α]{es:List (List PV)}(h:es=l.map fun x=>(f x).map .iv): ∀k e,es[k]? =co e->e=(f (l.getD k ci)).map .iv:=by
 subst h;intro k e b;rw[OC,OD]at b;obtain⟨x,j,rfl⟩:=b;rw[Ow,j];rfl
theorem vz[Inhabited α](l:List α)(f:α->List IV):(O4 l.length).map (fun k=>(f (l.getD k ci)).map PV.iv)=l.map fun x=>(f x).map .iv:=by
 apply Qy;intro k;rw[OC,OC];rcases Pw k l.length with h|h
 .rw[RK h,Ox h];simp[Ow,h]
 .simp[h]
theorem qO(h: ∀x,eB ((f x).map .iv)=is)(l:List α):allOnes (l.map fun x=>(f x).map .iv)=is:=by
 induction l with
 |nil=>rfl
 |cons x r ih=>simp only[OU,allOnes,h x,ih]
theorem fT[Inhabited α](h: ∀x,eB ((f x).map .iv)=is)(l:List α):allOnes ((O4 l.length).map (fun k=>(f (l.getD k ci)).map PV.iv))=is:=by
 rw[vz];exact qO h l
end
def ay(l:List IV):AO:= .cells (l.map .iv)
theorem zi(σ:Nat->Nat)(l:List IV):(ay l).cq σ=ay l:=by
 simp only[ay,AO.cq,mI]
theorem Cj{cs:List PV}{b:Option TypeId}{l:List IV}(σ:Nat->Nat)(h:cs=l.map .iv):dR (.cells cs b) ((ay l).cq σ):=by
 rw[zi];exact .trans (.Lz cs b) (.of_eq (by rw[h];rfl))
def cx:List Nat->Bool
 | []=>is
 |x::r=>!r.elem x&&cx r
theorem ff: ∀{l:List Nat},cx l=is->l.Nodup
 | [],_=>Pe
 |x::r,h=>by
  simp only[cx,Pk,Py,List.elem_eq_mem,decide_eq_false_iff_not]at h;exact O7.2 ⟨h.1,ff h.2⟩
theorem wk{n0:Nat}{L:List Nat}{s t:AS}(h1:OW t.nx (n0+L.length)=is)(b:Qr n0 s.nx=is)(u:L.all (fun j=>OV j s.nx)=is)(hf:Cy t.nx (sg n0 L) s.f t.f)(hh:mA t.nx (sg n0 L) s.h t.h)
  (x:cx (eh (sg n0 L) t.h)=is):Wk n0 L s t:=
 ⟨OK h1,Oq b,fun j y=>Oq (Pc.1 u j y),hf,hh,ff x⟩
theorem wk0{n0:Nat}{s t:AS}(h1:t.nx=n0)(b:Qr n0 s.nx=is)(hf:Cy t.nx (sg n0 []) s.f t.f)(hh:t.h=[]):Wk n0 [] s t:=
 ⟨by simpa using h1,Oq b,by simp,hf,by rw[hh];trivial,by rw[hh];exact Pe⟩
section
variable {n i:Nat} {σ:Nat->Nat} {h r:AH}
theorem hC{cs:List PV}{b:Option TypeId}{c:List IV}(ho:h.get (σ i)=co (.cells cs b))(he:cs=c.map .iv)(hi:OV i n=is)(hr:mA n σ h r):mA n σ h ((i,co (ay c))::r):=
 ⟨⟨_,ho,Cj σ he⟩,Oq hi,qc n c,hr⟩
theorem hR{α:Type}{sz:Nat}{es:List (List PV)}{l:List α}{f:α->List IV}(ho:h.get (σ i)=co (.row sz es))(he:es=l.map fun x=>(f x).map .iv)(hi:OV i n=is)(hr:mA n σ h r):mA n σ h ((i,co (aP sz l f))::r):=
 ⟨⟨_,ho,Ab σ he⟩,Oq hi,dK n,hr⟩
theorem hM{V:Type}{kc:KC}{ev:V->IV}{z:V}{u:Value}{b:PV->V}{m j:List (kc.K×V)}(ho:h.get (σ i)=co (.map kc ev z u b m))(he:m=j)(hi:OV i n=is)(hr:mA n σ h r):mA n σ h ((i,co (.map kc ev z u b j))::r):=
 ⟨⟨_,ho,.of_eq (by rw[he];rfl)⟩,Oq hi,ac,hr⟩
theorem K1{V:Type}{kc:KC}{ev:V->IV}{z:V}{b:Value}{u:PV->V}(ho:h.get (σ i)=co .fg)(y: ∀M,IR M (ev z) b)(hi:OV i n=is)(hr:mA n σ h r):mA n σ h ((i,co (.map kc ev z b u []))::r):=
 ⟨⟨_,ho,id,fun M N U w j x=>⟨#[],0,x,⟨rfl,by simp,by simp,by simp,by simp⟩,y M⟩⟩,Oq hi,ac,hr⟩
theorem hI{V:Type}{kc:KC}{ev:V->IV}{m:List (kc.K×V)}{vs y:List Nat}{C u:Option (kc.K×V)}(ho:h.get (σ i)=co (.bF kc ev m vs C))(he:vs=y)(hc:u=C∨u=io)(hi:OV i n=is)(hr:mA n σ h r):mA n σ h ((i,co (.bF kc ev m y u))::r):=by
 refine⟨⟨_,ho,id,fun M N U w j D=>?_⟩,Oq hi,ac,hr⟩;subst he;rcases hc with rfl|rfl
 .exact D
 .rcases D with⟨h1,A,_,B⟩|⟨b,ents,clock,x,h1,A,G,B,I,J,R⟩
  .exact .inl ⟨h1,A,rfl,B⟩
  .exact .inr ⟨b,ents,clock,x,h1,A,G,B,I,J,by simp⟩
end
theorem dq{ty:Ty}{b:List ResultVar}{e:Exit}{s:AS}{α:Type}[Inhabited α]{i n sz:Nat}{es:List (List PV)}{L:List α}{f:α->List IV}(he:e= .normal∨e= .ret)(h:iT ty s b=co (.sl i 0 n sz))(hi:s.h.get i=co (.row sz es))
  (hes:es=L.map fun x=>(f x).map .iv) (hn:n=L.length):Cq ty b (.iv (bw sz L f)) e s:=by
 refine⟨he,_,h,.row i (fun k=>f (L.getD k ci)) hi (dG hes) ?_ (.done ?_)⟩
 .subst hes;subst hn;simp[PV.cF]
 .have:OW i i=is:=by simp
  simp only[PV.dZ,this,cond_true,OY];subst hn;exact .refl _
theorem an.bk{b c:Bool}(h:b=c):an (pB b) (.kb c):=fun _ _ _ _ j=>by
 subst h;cases j with
 |iv _ _ h=>cases h;exact .kb _
theorem an.row{i n m sz:Nat}(h:n=m):an (.sl i 0 n sz) (.sl i 0 m sz):= .of_eq (by rw[h])
section
variable {α:Type} [Inhabited α] {l:List α} {f:α->Bool} {i:Nat}
theorem cI(h:(l.take i).any f=jp)(hi:i<l.length):((l.take (i+1)).any f=jp↔f (l.getD i ci)=jp):=by
 rw[Qz hi,List.any_append,h,Ow,Ox hi];simp
theorem A7(hi:i<l.length)(h:f (l.getD i ci)=is):l.any f=is:=by
 rw[Ow,Ox hi]at h;exact PI.2 ⟨_,Pg hi,h⟩
omit [Inhabited α] in
theorem any_none(h:(l.take i).any f=jp)(hi:l.length<=i):l.any f=jp:=by
 rwa[OP hi]at h
theorem ch(hi:i<l.length):l.take (i+1)=l.take i++ [l.getD i ci]:=by
 rw[Qz hi,Ow,Ox hi];rfl
theorem gF{β:Type}{g:β->α->β}{b:β}(hi:i<l.length):(l.take (i+1)).foldl g b=g ((l.take i).foldl g b) (l.getD i ci):=by
 rw[ch hi,List.foldl_append];rfl
end
theorem eU{P:Program}{nt:NT}{Q:AQ}{k:List KI}{s:AS}{body:Code}{K:Type}(m:List K)(I:List Nat->AS)(J:List Nat->Prop)(B:List Nat)(R:J [])(h0:Wk s.nx B s (I []))
  (u: ∀vs:List Nat,J vs->GO P nt (.code body:: .lp (fun t=> ∃j x,m[j]? =co x∧j∉vs∧J (j::vs)∧ ∃L,Wk s.nx L t (I (j::vs)))::k) Q (I vs)):GO P nt (.code (.loop body)::k) Q s:=by
 refine gi (σ:={vs:List Nat//vs.Nodup∧(∀j∈vs,j<m.length)∧J vs}) (fun v=>I v.1) (fun v=>m.length-v.1.length) ⟨[],Pe,by simp,R⟩ B h0 fun v=>?_;obtain⟨vs,h1,C,D⟩:=v;refine kW ?_ (u vs D)
 rintro t ⟨j,x,g1,g2,g3,L,g4⟩;have G:j<m.length:=(Ov.1 g1).1;have b: ∀i∈j::vs,i<m.length:=by
  intro i hi;rcases OG.1 hi with rfl|hi
  .exact G
  .exact C i hi
 have A:(j::vs).Nodup:=O7.2 ⟨g2,h1⟩;have y:(j::vs).length<=m.length:=by
  have:=PG A (l₂:=O4 m.length) (fun i hi=>PA.2 (b i hi));simpa using this
 refine⟨⟨j::vs,A,b,g3⟩,L,?_,g4⟩;show m.length-(j::vs).length<m.length-vs.length;simp only[O6]at y ⊢;omega
def bC(P:Program)(k:FuncId)(args:List PV)(os:List AO)(r:PV)(h:AH)(n:Nat):Prop:=Fn P k args os fun q b j=>q=r∧b=h∧j=n
def pg:List AO->List AO->Prop
 | [],[]=>True
 |p::r,q::s=>dR p q∧pg r s
 |_,_=>False
theorem pg.length: ∀{a b:List AO},pg a b->a.length=b.length
 | [],[],_=>rfl
 |_::_,_::_,h=>congrArg (· +1) (pg.length h.2)
 | [],_::_,h=>h.elim
 |_::_,[],h=>h.elim
theorem pg.get: ∀{a b:List AO},pg a b-> ∀(j:Nat) (q:AO),b[j]? =co q-> ∃p,a[j]? =co p∧dR p q
 | [],[],_,j,q,h=>by simp at h
 |p::r,q0::s,hh,j,q,h=>by
  cases j with
  |zero=>simp at h;subst h;exact⟨p,rfl,hh.1⟩
  |succ j=>simpa using pg.get hh.2 j q (by simpa using h)
 | [],_::_,hh,_,_,_=>hh.elim
 |_::_,[],hh,_,_,_=>hh.elim
theorem Fn.Jk{P:Program}{k:FuncId}{args:List PV}{os ps:List AO}{R:PV->AH->Nat->Prop}(h:Fn P k args os R)(G:pg ps os):Fn P k args ps R:=by
 have I:=G.length;have u: ∀i o,(c5 0 os).get i=co o-> ∃p,(c5 0 ps).get i=co p∧dR p o:=by
  intro i o y;rw[pU,am (OL _)]at y ⊢;exact G.get _ _ y
 refine⟨h.1,fun M N w vs C hl hv=>?_⟩;rw[I]at C hv ⊢;have a0:Rel M N (· <os.length) (c5 0 os) w:=by
  refine⟨C.dZ,fun i o y=>?_,fun i o y b0=>?_,fun i o y=>?_,fun i j o p y hj J hp he=>?_⟩
  .obtain⟨p,h1,A⟩:=u i o y;exact C.used i p h1
  .obtain⟨p,h1,A⟩:=u i o y;exact C.dM i p h1 (A.1 b0)
  .obtain⟨p,h1,A⟩:=u i o y;exact A.2 _ _ _ _ _ (C.obj i p h1)
  .obtain⟨o',h1,A⟩:=u i o y;obtain⟨p',B,D⟩:=u j p hj;exact C.inj i j o' p' h1 B (A.1 J) (D.1 hp) he
 refine(h.2 M N w vs a0 hl hv).mono ?_;rintro e w' ⟨x,M',N',r,h',n',rfl,hR,hx,hrr,hvr⟩;refine⟨x,M',N',r,h',n',rfl,hR,⟨hx.os,hx.tape,hx.output,hx.size,fun b hb hn=>hx.fL b hb fun i o y J=>?_,hx.ot,fun b c h1 A=>?_,hx.nm,hx.ule,fun i o y J=>?_⟩,hrr,hvr⟩
 .obtain⟨p,h1,A⟩:=u i o y;exact hn i p h1 (A.1 J)
 .rcases hx.gq b c h1 A with B|⟨i,o,B,D,Y⟩
  .exact .inl B
  .obtain⟨p,g1,g2⟩:=u i o B;exact .inr ⟨i,p,g1,g2.1 D,Y⟩
 .rcases hx.fI i o y J with B|⟨j,q,B,D,Y⟩
  .exact .inl B
  .obtain⟨p,g1,g2⟩:=u j q B;exact .inr ⟨j,p,g1,g2.1 D,Y⟩
theorem bC.Jk{P:Program}{k:FuncId}{args:List PV}{os j:List AO}{r:PV}{h:AH}{n:Nat}(hc:bC P k args os r h n)(b:pg j os):bC P k args j r h n:=Fn.Jk hc b
theorem bC.le{P:Program}{k:FuncId}{aa args:List PV}{os:List AO}{r:PV}{h:AH}{n:Nat}(hc:bC P k args os r h n)(b:fV aa args):bC P k aa os r h n:=Fn.le hc b
theorem Pure.tC{P:Program}{k:FuncId}{args:List PV}{r:PV}(h:Pure P k args r):bC P k args [] r [] 0:=h
section
variable {P:Program} {ty:Ty} {nt:NT} {Q:AQ} {k:List KI} {s:AS}
theorem ze{o:Oper}{c:Call}{g:FuncId}{u args:List PV}{os:List AO}{r:PV}{y:AH}{A:Nat}{s':AS}(L:List Nat)(hc:bC P g args os r y A)(ho:o.op= .call c)(ha:bM s.f c=co (g,u))
  (hn:cx L=is) (hl:L.all (fun j=>OV j s.nx)=is) (x:L.map s.h.get=os.map fun o=>co (o.cq (sig L s.nx))) (b:u=dy (sig L s.nx) args) (hp:putDst nt o (r.cq (sig L s.nx)) (aX s L y A)=co s'):
  OT P nt o s (fun t=>t=s'):=
 ll ho ha hc (ff hn) (fun j B=>Oq (Pc.1 hl j B)) x b (by rintro q C n0 ⟨rfl,rfl,rfl⟩;exact⟨s',hp,rfl⟩)
theorem bJ{all rest:List Oper}{o:Oper}{c:Call}{g:FuncId}{u args:List PV}{os:List AO}{r:PV}{y:AH}{A:Nat}{s':AS}(L:List Nat)(hc:bC P g args os r y A)(ho:o.op= .call c)(hg:o.guard=io)(ha:bM s.f c=co (g,u))
  (hn:cx L=is) (hl:L.all (fun j=>OV j s.nx)=is) (x:L.map s.h.get=os.map fun o=>co (o.cq (sig L s.nx))) (b:u=dy (sig L s.nx) args) (hp:putDst nt o (r.cq (sig L s.nx)) (aX s L y A)=co s')
  (h:GO P nt (.ops all rest::k) Q s'):GO P nt (.ops all (o::rest)::k) Q s:=
 cM hg (ze L hc ho ha hn hl x b hp) fun t B=>by subst B;exact h
theorem kZ(A:bq P ty){all:List Oper}{todo pend:List (Nat×Oper)}{j:Nat}{o:Oper}{s':AS}{J I:Prop}(hrd:eJ todo=[(j,o)])(hg:bV nt all s.f o=co is)(hpb:gW all pend o=is)(hE:mU todo [j]=is)
  (hag:mV ty nt all s todo pend=co J) (hCA:J) (C:OT P nt o s (fun t=>t=s')) (hag2:dD ty nt all s' (aZ pend o)=co I) (hC2:I)
  (h:GO P nt (.bU all (todo.filter fun x=>!OW x.1 j) (aZ pend o)::k) Q s'):GO P nt (.bU all todo pend::k) Q s:=by
 have u:(j,o)∈eJ todo:=by rw[hrd];simp
 obtain⟨R,B⟩:=O5.1 u;simp only[Py,Qx,Ps]at B;have b: ∀y∈todo,aM y.2=is-> ∀y∈pend,eE P nt all s y.2:=by
  intro y D G;unfold mV at hag;split at hag
  .exact dd A hag hCA
  .rename_i h2;have:=Ps.1 h2 y D;rw[G]at this;exact absurd Z this
 refine rv hE ⟨_,R,B.1⟩ b fun j' o' Y _ hu=>?_;simp only[OI]at Y;subst Y;have:=hu o R;subst this;exact⟨B.1,fun y D _=>by simpa using B.2 y D,hpb,hg,_,C,fun t ht=>by subst ht;exact⟨dd A hag2 hC2,h⟩⟩
theorem bA(A:bq P ty){all:List Oper}{todo pend:List (Nat×Oper)}{j:Nat}{o:Oper}{c:Call}{g:FuncId}{u args:List PV}{os:List AO}{r:PV}{D:AH}{G:Nat}{s':AS}{C B:Prop}(L:List Nat)(hc:bC P g args os r D G)
  (hrd:eJ todo=[(j,o)]) (ho:o.op= .call c) (ha:bM s.f c=co (g,u))
  (hn:cx L=is) (hl:L.all (fun j=>OV j s.nx)=is) (y:L.map s.h.get=os.map fun o=>co (o.cq (sig L s.nx))) (b:u=dy (sig L s.nx) args) (hp:putDst nt o (r.cq (sig L s.nx)) (aX s L D G)=co s')
  (hg:bV nt all s.f o=co is) (hpb:gW all pend o=is) (hE:mU todo [j]=is)
  (hag:mV ty nt all s todo pend=co C) (hCA:C) (hag2:dD ty nt all s' (aZ pend o)=co B) (hC2:B)
  (h:GO P nt (.bU all (todo.filter fun x=>!OW x.1 j) (aZ pend o)::k) Q s'):GO P nt (.bU all todo pend::k) Q s:=
 kZ A hrd hg hpb hE hag hCA (ze L hc ho ha hn hl y b hp) hag2 hC2 h
def zl(ty:Ty)(l:List ResultVar)(m:Nat)(r:PV)(h:AH)(n:Nat):AQ:=H5 ty l m fun q b j=>q=r∧b=h∧j=n
theorem au {nt:Nat} (x:bq P ty) {g:FuncId} {fn:Func} {c:Code} (hf:P.funcs[g]? =co fn) (hb:fn.body=co c) (hn:(fn.name== "runtime.NumGoroutine")=jp) (u:fn.ntmps=nt)
  {l:List ResultVar} (hl:fn.results.toList=l) {args:List PV} (j:args.length<=nt) {os:List AO} {r:PV} {h:AH} {n:Nat}
  (b:GO P nt [.code c] (zl ty l os.length r h n) ⟨mv 0 args,c5 0 os,os.length⟩):bC P g args os r h n:=od x hf hb hn u hl j b
theorem aY{l:List ResultVar}{m:Nat}{r r0:PV}{h:AH}{n:Nat}{e:Exit}(L:List Nat)(he:e= .normal∨e= .ret)(hr:iT ty s l=co r0)(hw:Wk m L ⟨[(0,r0)],s.h,s.nx⟩ ⟨[(0,r)],h,n⟩):zl ty l m r h n e s:=
 ⟨he,r0,hr,.done ⟨r,h,n,L,⟨rfl,rfl,rfl⟩,hw⟩⟩
end
theorem iB.map{h:AH}{n:Nat}{r:PV}{K:AH->PV->Prop}(i:Nat){kc:KC}{V:Type}{e:V->IV}{z:V}{b:Value}{y:PV->V}{m:List (kc.K×V)}(hi:h.get i=co (.map kc e z b y m))
  (hk:iB ((i,io)::h.eV i (.dO kc e z b m)) n (r.eV i (.dO kc e z b m)) K):iB h n r K:=by
 intro M N w D;obtain⟨j,h1,B,_,C⟩:=oX D hi;obtain⟨u,A,I,g1,g2,g3,g4⟩:=hk j N w B;exact⟨u,A,I,h1.trans g1,g2,fun x G=>g3 x (C _ _ G),g4⟩
mutual
def PV.Et(i:Nat)(l:List IV):PV->PV
 | .iv x=> .iv x
 | .agg cs=> .agg (yb i l cs)
 | .bf cs=> .bf (yb i l cs)
 | .ptr j o=>bif OW j i then .iv (.ju (l.drop o)) else .ptr j o
 | .sl j off len sz'=> .sl j off len sz'
 | .cJ j a b c=> .cJ j a b c
 | .ei z j=> .ei z j
 | .mN j o n=> .mN j o n
 | .mp j=> .mp j
 | .b4 fn a b=> .b4 fn a b
 | .kb b=> .kb b
 | .any=> .any
def yb(i:Nat)(l:List IV):List PV->List PV
 | []=> []
 |p::r=>PV.Et i l p::yb i l r
end
theorem l0(i:Nat)(x:List IV): ∀l:List PV,yb i x l=l.map (PV.Et i x)
 | []=>rfl
 |p::r=>by simp[yb,l0 i x r]
theorem B9{M:Mem}{N:Nm}{n:Nat}{h:AH}{w:World}(hr:Rel M N (· <n) h w){i:Nat}{l:List IV}{cs:List PV}{T0:Option TypeId}(hi:h.get i=co (.cells cs T0))(a0:cs=l.map .iv):
  ∃B,Ext M N (· <n) h w B N (· <n) ((i,io)::h) w∧Rel B N (· <n) ((i,io)::h) w∧ ∀p x,VR M N (· <n) p x->VR B N (· <n) (p.Et i l) x:=by
 subst a0;have R:=hr.dM i _ hi Z;obtain⟨c,T,h1,G,h3,h4,h5⟩:=hr.obj i _ hi
 let B:Mem:=M.set (N.az i) (.cells c) R
 have hM:M.le B:=fun b d hb=>by
  simp only[B,Mem.set];by_cases u:b=N.az i
  .rw[u,R]at hb;cases hb
  .rw[be u];exact hb
 have hnew: ∀b d,M b=io->B b=co d->b=N.az i:=fun b d h1 G=>by
  simp only[B,Mem.set]at G;by_cases u:b=N.az i
  .exact u
  .rw[be u,h1]at G;cases G
 have C: ∀o,B.cell (N.az i) o=c[o]? :=fun o=>by simp[Mem.cell,B,Mem.set]
 refine⟨B,?_,?_,fun p x hx=>?_⟩
 .exact⟨rfl,rfl,⟨rfl,OJ _⟩,OJ _,fun _ _ _=>rfl,hM,fun b d h1 G=> .inr ⟨i,_,hi,rfl,(hnew b d h1 G).symm⟩,.refl _ _,fun _ h=>h,fun j o A b0=> .inr ⟨j,o,(a8 j o A).2,b0,rfl⟩⟩
 .refine⟨fun b d hb=>?_,fun j o A=>hr.used j o (a8 j o A).2,fun j o A I=>?_,fun j o A=>?_,fun j k o p A hk=>hr.inj j k o p (a8 j o A).2 (a8 k p hk).2⟩
  .simp only[B,Mem.set]at hb;by_cases u:b=N.az i
   .rw[am u]at hb;cases hb;exact⟨T,(0,0),by rw[u];exact h1⟩
   .rw[be u]at hb;exact hr.dZ b d hb
  .obtain⟨g1,g2⟩:=a8 j o A;simp only[B,Mem.set];rw[be fun e=>g1 (hr.inj j i o _ g2 hi I Z e)];exact hr.dM j o g2 I
  .obtain⟨g1,g2⟩:=a8 j o A;exact(hr.obj j o g2).mono hM (.refl _ _) (fun _ h=>h) (hr.used j o g2) Z
 .induction hx with
  |iv x y h=>exact .iv _ _ (h.mono hM)
  |agg cs ys hl _ ih=>
   refine .agg _ _ (by simpa[l0]using hl) fun j q D=>?_;rw[l0,OC,OD]at D;obtain⟨q0,J,rfl⟩:=D
   exact ih j q0 J
  |bf cs ys hl _ ih=>
   refine .bf _ _ (by simpa[l0]using hl) fun j q D=>?_;rw[l0,OC,OD]at D;obtain⟨q0,J,rfl⟩:=D
   exact ih j q0 J
  |ptr j off h=>
   simp only[PV.Et];cases hb:OW j i with
   |true=>
    have A:=OK hb;subst A;have Y:l.length=c.size:=by simpa using h3
    refine .iv _ _ (.ju _ _ _ (fun k hk=>?_) fun k q D=>?_)
    .rw[List.length_drop]at hk;rw[C];simp[show off+k<c.size by omega]
    .rw[Pr]at D;have c0:off+k<c.size:=by rw[<-Y];exact(Ov.1 D).1
     have:=h4 (off+k) (.iv q) (by rw[OC,D];rfl);rw[C];rw[Ot]at this;cases this with
     |iv _ _ h=>exact h.mono hM
   |false=>exact .ptr _ _ h
  |cJ i sz k off h=>exact .cJ _ _ _ _ h
  |ei z i h=>exact .ei _ _ h
  |mN i o n h=>exact .mN _ _ _ h
  |sl j off len sz' cap h h0 hl hc he=>exact .sl _ _ _ _ _ h h0 hl hc he
  |lK j sz' h=>exact .lK _ _ h
  |sle j sz' cap h hc he=>exact .sle _ _ _ h hc he
  |mp j h=>exact .mp _ h
  |b4 fn first caps f' c' h1 G hr1 hr2 _ _=>exact .b4 _ _ _ _ _ h1 G (fun j p A=>(hr1 j p A).mono hM (.refl _ _) (fun _ h=>h)) (fun j p A=>(hr2 j p A).mono hM (.refl _ _) (fun _ h=>h))
  |kb b=>exact .kb _
  |any x=>exact .any _
theorem iB.cells{h:AH}{n:Nat}{r:PV}{K:AH->PV->Prop}(i:Nat)(l:List IV){cs:List PV}{y:Option TypeId}(hi:h.get i=co (.cells cs y))(b:cs=l.map .iv)(hk:iB ((i,io)::h) n (r.Et i l) K):iB h n r K:=by
 intro M N w D;obtain⟨j,h1,B,C⟩:=B9 D hi b;obtain⟨u,A,I,g1,g2,g3,g4⟩:=hk j N w B;exact⟨u,A,I,h1.trans g1,g2,fun x G=>g3 x (C _ _ G),g4⟩
theorem lg{ty:Ty}{l:List ResultVar}{r r0:PV}{e:Exit}{s:AS}(he:e= .normal∨e= .ret)(h:iT ty s l=co r0)(hk:iB s.h s.nx r0 fun _ b=>an b r):Cq ty l r e s:=⟨he,r0,h,hk⟩
section
variable {P:Program} {ty:Ty} {nt:NT} {Q:AQ} {k:List KI} {s:AS}
theorem oW{all rest:List Oper}{o:Oper}{c:Call}{g:FuncId}{u args:List PV}{os:List AO}{R:PV->AH->Nat->Prop}(L:List Nat)(hc:Fn P g args os R)(ho:o.op= .call c)(hg:o.guard=io)(ha:bM s.f c=co (g,u))
  (hn:cx L=is) (hl:L.all (fun j=>OV j s.nx)=is) (x:L.map s.h.get=os.map fun o=>co (o.cq (sig L s.nx))) (b:u=dy (sig L s.nx) args)
  (h: ∀r y A,R r y A-> ∃s',putDst nt o (r.cq (sig L s.nx)) (aX s L y A)=co s'∧GO P nt (.ops all rest::k) Q s'):GO P nt (.ops all (o::rest)::k) Q s:=
 cM (R:=fun t=>GO P nt (.ops all rest::k) Q t) hg (ll ho ha hc (ff hn) (fun j B=>Oq (Pc.1 hl j B)) x b h) fun t C=>C
theorem ry{R:PV->AH->Nat->Prop}{l:List ResultVar}{m:Nat}{r r0:PV}{h:AH}{n:Nat}{e:Exit}(L:List Nat)(he:e= .normal∨e= .ret)(hr:iT ty s l=co r0)(hR:R r h n)(hw:Wk m L ⟨[(0,r0)],s.h,s.nx⟩ ⟨[(0,r)],h,n⟩):H5 ty l m R e s:=
 ⟨he,r0,hr,.done ⟨r,h,n,L,hR,hw⟩⟩
end
theorem oU{P:Program}{nt:NT}{Q:AQ}{k:List KI}{s:AS}{c:Code}(i j sz:Nat){cs:List PV}{u:Option TypeId}(hi:s.h.get i=co (.cells cs u))(hj:cs[j]? =co (.iv (.v (.slice io 0 0))))
  (h:GO P nt (.code c::k) Q ⟨s.f,(i,co (.cells (cs.set j (.sl s.nx 0 0 sz)) u))::(s.nx,co (.row sz []))::s.h,s.nx+1⟩):GO P nt (.code c::k) Q s:=by
 intro M N a w A;obtain⟨sf,sh,y⟩:=s;obtain⟨h1,Y⟩:=A.1.Fj sz;have D:i≠y:=fun e=>by have:=A.1.used i _ hi;simp only at this;omega
 have b:AH.get ((y,co (AO.row sz []))::sh) i=co (.cells cs u):=by
  rw[AH.aw,be D];exact hi
 obtain⟨J,T,e1,e2,e3,R,e5⟩:=Y.obj i _ b
 obtain⟨g1,g2⟩:=Y.write (i:=i) (o0:= .cells cs u) b Z w (.cells (cs.set j (.sl y 0 0 sz)) u) Z Z Z Z (fun _ _=>rfl) ⟨J,T,e1,e2,by rw[List.length_set];exact e3,fun k p x=>by
  rw[P8]at x;split at x
  .rename_i hk;subst hk;split at x
   .cases x;have:=R j _ hj;generalize J.getD j undef=v at this ⊢;cases this with
    |iv _ _ h=>cases h with
     |v=>exact .lK _ _ (P7 _)
   .cases x
  .exact R k p x,e5⟩
 have B:Fits M N ⟨sf,(i,co (.cells (cs.set j (.sl y 0 0 sz)) u))::(y,co (.row sz []))::sh,y+1⟩ nt a w:=
  ⟨g2,fun k=>(A.2.1 k).mono (.refl _) (.refl _ _) (fun i hi=>PS hi),A.2.2⟩
 exact AW.then h B fun e a2 w2 M2 N2 s2 I C G=>⟨M2,N2,s2,(h1.trans g1).trans I,C,G⟩
theorem iB.Dm{h:AH}{n:Nat}{r:PV}{K:AH->PV->Prop}{α:Type}[Inhabited α](i:Nat){sz:Nat}{es:List (List PV)}(L:List α)(f:α->List IV)(hi:h.get i=co (.row sz es))(hes:es=L.map fun x=>(f x).map .iv)
  (b:r.cF i sz L.length) (hk:iB ((i,io)::h) n (r.dZ i sz fun k=>f (L.getD k ci)) K):iB h n r K:=
 .row i (fun k=>f (L.getD k ci)) hi (dG hes) (by subst hes;simpa using b) hk
def AO.je(i sz:Nat)(el:Nat->List IV):AO->AO
 | .cells cs T=> .cells (p4 i sz el cs) T
 |o=>o
def AO.oq(i sz n:Nat):AO->Prop
 | .cells cs _=>c7 i sz n cs
 | .row _ es=> ∀(k:Nat) (e:List PV) (j:Nat) (p:PV),es[k]? =co e->e[j]? =co p-> ∃y,p= .iv y
 |_=>True
def AH.je(i sz:Nat)(el:Nat->List IV):AH->AH
 | []=> []
 |(k,io)::r=>(k,io)::AH.je i sz el r
 |(k,co o)::r=>(k,co (o.je i sz el))::AH.je i sz el r
def AH.oq(i sz n:Nat):AH->Prop
 | []=>True
 |(_,io)::r=>AH.oq i sz n r
 |(_,co o)::r=>o.oq i sz n∧AH.oq i sz n r
def AF.je(i sz:Nat)(el:Nat->List IV):AF->AF
 | []=> []
 |(d,p)::r=>(d,p.dZ i sz el)::AF.je i sz el r
def AF.oq(i sz n:Nat):AF->Prop
 | []=>True
 |(_,p)::r=>p.cF i sz n∧AF.oq i sz n r
theorem AH.jc(i sz:Nat)(el:Nat->List IV): ∀(h:AH) (j:Nat),(AH.je i sz el h).get j=(h.get j).map (AO.je i sz el)
 | [],_=>rfl
 |(k,io)::r,j=>by
  simp only[AH.je,AH.aw,AH.jc i sz el r j];split<;>rfl
 |(k,co o)::r,j=>by
  simp only[AH.je,AH.aw,AH.jc i sz el r j];split<;>rfl
theorem AH.kJ{i sz n:Nat}: ∀{h:AH} (_:h.oq i sz n) (j:Nat) (o:AO),h.get j=co o->o.oq i sz n
 | [],_,j,o,ho=>nomatch ho
 |(k,io)::r,hh,j,o,ho=>by
  rw[AH.aw]at ho;split at ho
  .cases ho
  .exact AH.kJ (h:=r) hh j o ho
 |(k,co q)::r,hh,j,o,ho=>by
  rw[AH.aw]at ho;split at ho
  .cases ho;exact hh.1
  .exact AH.kJ (h:=r) hh.2 j o ho
theorem AF.jc(i sz:Nat)(el:Nat->List IV): ∀(f:AF) (d:Nat),(AF.je i sz el f).get d=(f.get d).dZ i sz el
 | [],_=>rfl
 |(k,p)::r,d=>by
  simp only[AF.je,AF.aw,AF.jc i sz el r d];split<;>rfl
theorem AF.kJ{i sz n:Nat}: ∀{f:AF} (_:f.oq i sz n) (d:Nat),(f.get d).cF i sz n
 | [],_,d=>trivial
 |(k,p)::r,h,d=>by
  rw[AF.aw];split
  .exact h.1
  .exact AF.kJ (f:=r) h.2 d
theorem AO.pY(i sz:Nat)(el:Nat->List IV)(o:AO):(o.je i sz el).real=o.real:=by
 cases o<;>rfl
theorem we{P:Program}{nt:NT}{Q:AQ}{k:List KI}{s:AS}{c:Code}(i:Nat){sz:Nat}{es:List (List PV)}(el:Nat->List IV)(hi:s.h.get i=co (.row sz es))(D: ∀k e,es[k]? =co e->e=(el k).map .iv)
  (hf:s.f.oq i sz es.length) (hh:s.h.oq i sz es.length) (h:GO P nt (.code c::k) Q ⟨s.f.je i sz el,(i,io)::s.h.je i sz el,s.nx⟩):GO P nt (.code c::k) Q s:=by
 intro M N a w b;obtain⟨C,h1,u,Y⟩:=wi b.1 hi D;have hM:M.le C:=h1.ot;have A: ∀j o,AH.get ((i,io)::s.h.je i sz el) j=co o-> ∃p,AH.get ((i,io)::s.h) j=co p∧s.h.get j=co p∧o=p.je i sz el:=by
  intro j o x;obtain⟨g1,g2⟩:=a8 j o x;rw[AH.jc,OD]at g2;obtain⟨p,g3,g4⟩:=g2;exact⟨p,by rw[AH.aw,be g1];exact g3,g3,g4.symm⟩
 have hE:Ext M N (· <s.nx) s.h w C N (· <s.nx) ((i,io)::s.h.je i sz el) w:=⟨h1.os,h1.tape,h1.output,h1.size,h1.fL,h1.ot,h1.gq,h1.nm,h1.ule,fun j o x y=>by
  obtain⟨p,g1,_,rfl⟩:=A j o x;rw[AO.pY]at y
  exact h1.fI j p g1 y⟩
 have hR:Rel C N (· <s.nx) ((i,io)::s.h.je i sz el) w:=by
  refine⟨u.dZ,fun j o x=>?_,fun j o x y=>?_,fun j o x=>?_,fun j k o p x hk ho hp=>?_⟩
  .obtain⟨p,g1,_,rfl⟩:=A j o x;exact u.used j p g1
  .obtain⟨p,g1,_,rfl⟩:=A j o x;rw[AO.pY]at y;exact u.dM j p g1 y
  .obtain⟨p,g1,g2,rfl⟩:=A j o x;cases p with
   |cells cs T0=>
    obtain⟨c,T,q1,q2,q3,q4,q5⟩:=b.1.obj j _ g2;have hok:=AH.kJ hh j _ g2;refine⟨c,T,q1,q2,by simpa[gk]using q3,fun k q hq=>?_,q5⟩;rw[gk,OC,OD]at hq;obtain⟨q0,B,rfl⟩:=hq;exact Y _ _ (q4 k q0 B) (gE hok k q0 B)
   |row=>exact u.obj j _ g1
   |bh=>exact u.obj j _ g1
   |fg=>exact u.obj j _ g1
   |map=>exact u.obj j _ g1
   |bF=>exact u.obj j _ g1
   |dJ=>exact u.obj j _ g1
   |ig=>exact u.obj j _ g1
   |dT=>exact u.obj j _ g1
  .obtain⟨o',g1,_,rfl⟩:=A j o x;obtain⟨p',g2,_,rfl⟩:=A k p hk;rw[AO.pY]at ho hp;exact u.inj j k o' p' g1 g2 ho hp
 have G:Fits C N ⟨s.f.je i sz el,(i,io)::s.h.je i sz el,s.nx⟩ nt a w:=⟨hR,fun d=>by
  rw[AF.jc];exact Y _ _ (b.2.1 d) (AF.kJ hf d),b.2.2⟩
 exact AW.then h G fun e a2 w2 M2 N2 s2 R I J=>⟨M2,N2,s2,hE.trans R,I,J⟩
def AO.jd(i sz:Nat)(el:Nat->List IV):AO->AO
 | .cells cs T=> .cells (p4 i sz el cs) T
 | .row s es=> .row s (es.map (p4 i sz el))
 |o=>o
def AO.tN(i sz n:Nat):AO->Prop
 | .cells cs _=>c7 i sz n cs
 | .row _ es=> ∀e∈es,c7 i sz n e
 |_=>True
def AH.jd(i sz:Nat)(el:Nat->List IV):AH->AH
 | []=> []
 |(k,io)::r=>(k,io)::AH.jd i sz el r
 |(k,co o)::r=>(k,co (o.jd i sz el))::AH.jd i sz el r
def AH.tN(i sz n:Nat):AH->Prop
 | []=>True
 |(_,io)::r=>AH.tN i sz n r
 |(_,co o)::r=>o.tN i sz n∧AH.tN i sz n r
theorem AH.pZ(i sz:Nat)(el:Nat->List IV): ∀(h:AH) (j:Nat),(AH.jd i sz el h).get j=(h.get j).map (AO.jd i sz el)
 | [],_=>rfl
 |(k,io)::r,j=>by
  simp only[AH.jd,AH.aw,AH.pZ i sz el r j];split<;>rfl
 |(k,co o)::r,j=>by
  simp only[AH.jd,AH.aw,AH.pZ i sz el r j];split<;>rfl
theorem AH.oI{i sz n:Nat}: ∀{h:AH} (_:h.tN i sz n) (j:Nat) (o:AO),h.get j=co o->o.tN i sz n
 | [],_,j,o,ho=>nomatch ho
 |(k,io)::r,hh,j,o,ho=>by
  rw[AH.aw]at ho;split at ho
  .cases ho
  .exact AH.oI (h:=r) hh j o ho
 |(k,co q)::r,hh,j,o,ho=>by
  rw[AH.aw]at ho;split at ho
  .cases ho;exact hh.1
  .exact AH.oI (h:=r) hh.2 j o ho
theorem AO.oc(i sz:Nat)(el:Nat->List IV)(o:AO):(o.jd i sz el).real=o.real:=by
 cases o with
 |row s es=>cases es<;>rfl
 |_=>rfl
def Kr:List Code->Code->Code
 | [],r=>r
 |c::l,r=> .seq c (Kr l r)
def vt:Nat->Code->List Code
 |n+1,.seq a b=>a::vt n b
 |_,_=> []
def rA:Nat->Code->Code
 |n+1,.seq _ b=>rA n b
 |_,c=>c
theorem As{P:Program}{nt:NT}{R:AQ}: ∀{l:List Code} {e:Exit} {s:AS},e≠ .normal->kp P nt (l.map KI.code) R e s->R e s
 | [],_,_,_,h=>h
 |c::l,e,s,he,h=>by
  cases e with
  |normal=>exact absurd Z he
  |_=>exact As (l:=l) he h
end
end Go.Al
namespace Go.Al
open Go.ChangeShapes Go.WideShapes Go.RowKit
section
def AN(W:World)(b:Nat):Option MB:=match W.heap[b]? with
 |some (.cells c _ _)=>co (.cells c)
 |some (.map es cl)=>co (.map es cl)
 |_=>io
def vk(W:World):Prop:= ∀b c,K2 b=co c-> ∃T j,W.heap[b]? =co (.cells c T j)
def Mem.re(W:World)(h:vk W):Mem:=⟨AN W,fun b c hb=>by obtain⟨T,j,e⟩:=h b c hb;simp[AN,e]⟩
def NF:Nm:=⟨fun _=>0,fun _=>0⟩
theorem GR(W:World)(h:vk W):Rel (Mem.re W h) NF (· <0) [] W:=by
 refine⟨fun b c hb=>?_,fun i o x=>by simp[AH.get]at x,fun i o x=>by simp[AH.get]at x,fun i o x=>by simp[AH.get]at x,fun i j o p x=>by simp[AH.get]at x⟩;have u:AN W b=co c:=hb;unfold AN at u;split at u
 .rename_i A T y e;obtain rfl:=Pf u;exact⟨T,y,e⟩
 .rename_i es cl e;obtain rfl:=Pf u;exact e
 .cases u
section
variable {H:Type} {enc:TypeId×Value->H} {P:Program} {W:World} {hT:vk W} {sp:Nat->Bool} {held:Bool}
def QL{α:Type}(Q:α->DataW H->Prop)(l:List α)(d:DataW H):Prop:=
 ∃b:List (DataW H),(d= .nil∧b=[]∨ ∃sp,d= .slice b sp)∧l.length=b.length∧ ∀(i:Nat) (x:α) (e:DataW H),l[i]? =co x->b[i]? =co e->Q x e
end
section
variable {H:Type} {enc:TypeId×Value->H} {P:Program} {W W':World} {T:TypeId->Prop}
theorem Bt{W W':World}(hk: ∀b,b<W.heap.size->W'.heap[b]? =W.heap[b]?){p:MemPlace}(hp:p.block<W.heap.size):W.sameAt W' p:=by
 cases p with
 |cell b o=>exact World.cell?_of_block (a:=⟨b,o,io⟩) (hk b hp)
 |map b=>exact hk b hp
theorem mX(K:Kids P T)(A: ∀{t e},T t->P.underlying t=co (.slice e)->0<P.cellsOf e)(hk: ∀b,b<W.heap.size->W'.heap[b]? =W.heap[b]?){sp:Nat->Bool}:
  ∀{ts:List TypeId} {vs:List Value} {y:List (DataW H)} {u:List MemPlace},(∀t∈ts,T t)->DataW.TrodAll enc P W 0 (fun _=>is) is ts vs y u->(∀p∈u,p.block<W.heap.size)->(∀p∈u,sp p.block=is)->
   DataW.TrodAll enc P W' 0 sp is ts vs y u
 | [],vs,y,u,_,h,_,_=>by
  obtain⟨rfl,rfl,rfl⟩:=trodAll_nil h;exact trodAll_mk0
 |t::ts,vs,y,u,hT,h,hlt,hsp=>by
  obtain⟨v,G,d,B,p,q,rfl,rfl,rfl,⟨n,h1⟩,C⟩:=trodAll_cons h;refine⟨p,q,⟨n,DataW.trod_stays K A (fun h=>by cases h) (hT t (by simp)) h1 (fun x j=>Bt hk (hlt x (Pb _ j))) (fun x j=>hsp x (Pb _ j))⟩,?_,rfl⟩;exact mX K A hk (fun t D=>hT t (OF _ D)) C (fun x j=>hlt x (P4 _ j)) (fun x j=>hsp x (P4 _ j))
theorem Hp{W W':World}(u:W'.os=W.os)(j:W'.output=W.output)(hk: ∀b,b<W.heap.size->W'.heap[b]? =W.heap[b]?)(may:MemPlace->Prop):W.keptBut W' may:=by
 refine World.keptBut_mono (fun p x=>(x:False).elim) (World.keptBut_none_iff.2 ⟨u,j,hk⟩)
theorem vJ{f:Func}{s:ChangeSpec}{y I A again:Bool}{args:Array Value}{v:Value}{C gs:List (DataW H)}{u:List MemPlace}
  (K:Kids P T) (hz: ∀{t e},T t->P.underlying t=co (.slice e)->0<P.cellsOf e) (e0: ∀t∈f.params.toList,T t) (B:s.vars=[])
  (hW:DataW.Whole enc P f.params.toList s.vars y W args.toList C gs u) (i0:W'.os=W.os) (a0:W'.output=W.output) (hk: ∀b,b<W.heap.size->W'.heap[b]? =W.heap[b]?)
  (G: ∀(b:Nat) (sp:Nat->Bool) (hd:Bool),DataW.TrodAll enc P W' b sp hd f.resultTypes.toList (v.resultList f.resultTypes.size) (s.fn H (C++gs)).results [])
  (J:(s.fn H (C++gs)).args=C) (k0:(s.fn H (C++gs)).vars=[])
  (hok: ∀(j:Nat) (t:TypeId) (r:Value),f.resultTypes[j]? =co t->(v.resultList f.resultTypes.size)[j]? =co r->Value.okWide P W' .any 0 t r):
  s.post enc P f y I A again W args v W':=by
 have R: ∀p∈u,p.block<W.heap.size:=fun p Y=>by simpa using hW.lt p Y
 have D: ∀p∈u,(fun b=>kw (b<W.heap.size)) p.block=is:=fun p Y=>by simpa using hW.lt p Y
 obtain⟨pa,pv,hA,hV,rfl,f0,g0⟩:=id hW;rw[B]at hV;obtain⟨rfl,rfl⟩:gs=[]∧pv=[]:=by
  cases gs with
  |nil=>exact⟨rfl,hV⟩
  |cons _ _=>exact hV.elim
 rw[Pt]at R D;have x: ∀sp:Nat->Bool,(∀p∈pa,sp p.block=is)->DataW.TrodAll enc P W' 0 sp is f.params.toList args.toList (s.fn H (C++ [])).args pa:=fun sp j0=>by
  rw[J];exact mX K hz hk e0 hA R j0
 have c0: ∀sp:Nat->Bool,DataW.TrodVars enc P W' sp s.vars (s.fn H (C++ [])).vars []:=fun sp=>by
  rw[k0,B];rfl
 refine⟨C,[],pa++ [],[],pa,[],hW,G _ _ _,x _ D,c0 _,?_,fun _=>⟨hok,_,_,([]++pa)++ [],⟨[]++pa,[],trodAll_append (x _ (fun _ _=>rfl)) (G _ _ _),c0 _,rfl,?_,?_⟩,?_⟩⟩
 .exact Hp i0 a0 hk _
 .intro b d0 Y;have b0:MemPlace.cell b d0∈pa:=by simpa using Y
  have hb:=R _ b0;have:=f0 b d0 (by simpa using b0);rw[<-this];simp only[World.frozen?];rw[hk b hb]
 .intro ha;have:=g0 ha;simpa using this
 .intro p Y _;simpa using Y
end
section
variable {P:Program} {ty:Ty} {nt:NT} {s:AS} {Q:AQ} {k:List KI}
def s9(c:UInt8):List IV:=[.v (.int .u8 (c.toNat:Int))]
theorem pz(w:World)(t u D e:TypeId)(i:TypeInfo)(I:P.underlying t=co (.slice e))(hu:P.underlying u=co .string)(hi:P.info? e=co i)(C:i.size=1)(T:TypeId)
  (g iu x:Nat) (j:Array Value) (hg:w.heap[g]? =co (.cells j T (0,0))) (b:ByteArray)
  (y:iu+b.size<=x) (A:iu+b.size<=j.size):
  (Builtin.append_ #[t,u] D #[.slice (co ⟨g,0,io⟩) iu x,.string b]).run P w=
   .ok (.slice (co ⟨g,0,io⟩) (iu+b.size) x) (w.setRow g (j.toList.take iu++Lib.strCells b++j.toList.drop (iu+b.size)).toArray):=by
 have G:=Lib.run_firstCells_string (P:=P) w 1 b;have B:=run_storeCells_at P g iu T (Lib.strCells b) 0 j w hg (by simpa[Lib.strCells_length]using A) (Lib.strCells_oneCell b);simp only[Qf,Lib.strCells_length]at B;simp[Builtin.append_,run_underlying I,run_underlying hu,sizeOf,typeInfo,hi,C,Builtin.lenOf,y,G,Addr.add_lit,B]
theorem j3(w:World)(t u B e:TypeId)(i:TypeInfo)(C:P.underlying t=co (.slice e))(hu:P.underlying u=co .string)(hi:P.info? e=co i)(y:Option Addr)(iu j:Nat)(x:iu<=j)(b:ByteArray)(hb:b.size=0)(hs:y=io∨ ∃b o,y=co ⟨b,o,io⟩):
  (Builtin.append_ #[t,u] B #[.slice y iu j,.string b]).run P w= .ok (.slice y iu j) w:=by
 have A:=Lib.run_firstCells_string (P:=P) w i.size b;have D:Lib.strCells b=[]:=Pn (by rw[Lib.strCells_length];exact hb);rw[hb,D]at A;rcases hs with rfl|⟨g,o,rfl⟩
 .simp[Builtin.append_,run_underlying C,run_underlying hu,sizeOf,typeInfo,hi,Builtin.lenOf,hb,x,A]
 .simp[Builtin.append_,run_underlying C,run_underlying hu,sizeOf,typeInfo,hi,Builtin.lenOf,hb,x,A,storeCells]
def qS(s:AS)(i:Nat)(l:List UInt8)(u:TypeId):AS:=⟨s.f,(s.nx,co (.bh l u))::(i,io)::s.h,s.nx+1⟩
theorem oB{i:Nat}{l:List UInt8}{u:TypeId}{M b:Mem}{N j:Nm}{a:Act}{w x:World}(hf:Fits M N s nt a w)(y:Ext M N (· <s.nx) s.h w b j (· <s.nx+1) ((s.nx,co (.bh l u))::(i,io)::s.h) x)
  (hr:Rel b j (· <s.nx+1) ((s.nx,co (.bh l u))::(i,io)::s.h) x):
  Ext M N (· <s.nx) s.h w b j (· <(qS s i l u).nx) (qS s i l u).h x∧Fits b j (qS s i l u) nt a x:=
 ⟨y,hr,hf.2.1.ext y,hf.2.2⟩
theorem Rel.H9{M:Mem}{N:Nm}{w:World}{n:Nat}{h:AH}(hr:Rel M N (· <n) h w)(T:TypeId):Ext M N (· <n) h w M N (· <n+1) ((n,co (.bh [] T))::h) w∧Rel M N (· <n+1) ((n,co (.bh [] T))::h) w:=by
 have u: ∀i p,AH.get ((n,co (.bh [] T))::h) i=co p->(i=n∧p= .bh [] T)∨(i<n∧h.get i=co p):=by
  intro i p x;rw[AH.aw]at x;split at x
  .rename_i C;exact .inl ⟨C,by simpa using x.symm⟩
  .exact .inr ⟨hr.used i p x,x⟩
 refine⟨⟨rfl,rfl,⟨rfl,OJ _⟩,OJ _,fun _ _ _=>rfl,.refl _,fun b c h1 A=>by simp[h1]at A,.refl _ _,fun i x=>by omega,fun i p x y=>?_⟩,⟨hr.dZ,fun i p x=>?_,fun i p x y=>?_,fun i p x=>?_,fun i j p q x J D G B=>?_⟩⟩
 .rcases u i p x with⟨rfl,rfl⟩|⟨h1,A⟩
  .cases y
  .exact .inr ⟨i,p,A,y,rfl⟩
 .rcases u i p x with⟨rfl,rfl⟩|⟨h1,A⟩<;>omega
 .rcases u i p x with⟨rfl,rfl⟩|⟨h1,A⟩
  .cases y
  .exact hr.dM i p A y
 .rcases u i p x with⟨rfl,rfl⟩|⟨h1,A⟩
  .exact .inl Z
  .exact(hr.obj i p A).mono (.refl _) (.refl _ _) (fun i x=>by omega) h1 Z
 .rcases u i p x with⟨rfl,rfl⟩|⟨h1,A⟩<;>rcases u j q J with⟨rfl,rfl⟩|⟨R,I⟩
  .rfl
  .cases D
  .cases G
  .exact hr.inj i j p q A I D G B
theorem GB(x0:bq P ty){o:Oper}{x y:Operand}{t tu u:TypeId}(ho:o.op= .call ⟨.builtin .append, #[x,y], #[t,tu]⟩){e et eu:bB}(ht:ty t=co e)(hk:e.k= .aL (.slice u))(s1:ty tu=co et)(m1:et.k= .aL .string)(hu:ty u=co eu)
  {i len:Nat} {l:List UInt8} {b:ByteArray} (hx:ev s.f x= .sl i 0 len 1) (hi:s.h.get i=co (.bh l u)) (C:l.length=len) (r1:eu.size=1) (k1:eu.bytes=1) (hz:eu.zero= .int .u8 0)
  (o1:ev s.f y= .iv (.v (.string b))) (z1:len+b.size<=140737488355328)
  {s':AS} (hp:putDst nt o (.sl s.nx 0 (len+b.size) 1) (qS s i (l++b.data.toList) u)=co s'):OT P nt o s (fun t=>t=s'):=by
 refine OT.value hp fun M N a w J=>?_;obtain⟨⟨ii,g0,r0,q0,s0⟩,_⟩:=x0 u _ hu;rw[r1]at r0;rw[k1]at q0;rw[hz]at s0
 have k0:P.underlying t=co (.slice u):=by
  have:=(x0 t _ ht).2.1;rw[hk]at this;exact this.1
 have j0:P.underlying tu=co .string:=by
  have:=(x0 tu _ s1).2.1;rw[m1]at this;exact this.1
 have z0:=aG J.2.1 x;rw[hx]at z0;have a1:=aG J.2.1 y;rw[o1]at a1;have w1:a.eval y= .string b:=by
  generalize a.eval y=v at a1;cases a1 with
  |iv _ _ h=>cases h;rfl
 have A: ∀v w',(Builtin.append_ #[t,tu] o.type #[a.eval x,a.eval y]).run P w= .ok v w'->(execOp a.eval o).run P w= .ok (.value v) w':=by
  intro v w' h;simp only[execOp,ho,resolve];simp[invoke,builtin,h]
 rw[w1]at A;have a2:i<s.nx:=J.1.used i _ hi;have m0:s.nx≠i:=by omega
 have n1:=J.1.obj i _ hi;have f0:b.data.toList.length=b.size:=by simp
 have e0: ∀(j:Nat) (x:UInt8),b.data.toList[j]? =co x->(Lib.strCells b).getD j undef= .int .u8 (x.toNat:Int):=by
  intro j x hx;simp only[Lib.strCells,Ow,OC,hx,PC,Px]
 have b0: ∀z:Array Value,(∀(j:Nat) (x:UInt8),l[j]? =co x->z.getD j undef= .int .u8 (x.toNat:Int))->(∀j,j<b.size->z.getD (len+j) undef=(Lib.strCells b).getD j undef)->
   ∀(j:Nat) (x:UInt8),(l++b.data.toList)[j]? =co x->z.getD j undef= .int .u8 (x.toNat:Int):=by
  intro z h1 h2 j x D;rcases Pw j l.length with hk|hk
  .rw[OQ hk]at D;exact h1 j x D
  .rw[OO hk]at D;have t0:j-l.length<b.size:=by rw[<-f0];exact(Ov.1 D).1
   have:=h2 _ t0;rw[e0 _ _ D,show len+(j-l.length)=j by omega]at this;exact this
 have Y: ∀(G:List Value) (a0:Nat),G.length=len->(∀(j:Nat) (x:UInt8),l[j]? =co x->G.getD j undef= .int .u8 (x.toNat:Int))->len+b.size<=a0->a0<=maxLen->0<len+b.size->
   ∀z:Array Value,z=G.toArray++(Lib.strCells b).toArray++Builtin.zeroCells (Value.int .u8 0).cells (a0-(len+b.size))->
   ∃M' R,Ext M N (· <s.nx) s.h w M' R (· <(qS s i (l++b.data.toList) u).nx) (qS s i (l++b.data.toList) u).h (w.drew.alloc (.cells z u))∧Fits M' R (qS s i (l++b.data.toList) u) nt a (w.drew.alloc (.cells z u))∧
    VR M' R (· <(qS s i (l++b.data.toList) u).nx) (.sl s.nx 0 (len+b.size) 1) (.slice (co ⟨w.heap.size,0,io⟩) (len+b.size) a0):=by
  intro G a0 f1 t1 o0 l1 v0 z b1;have x1:(Value.int IntKind.u8 0).cells.size=1:=rfl;have I:z.size=a0:=by
   rw[b1,Qw,Qw,size_zeroCells,x1];simp only[List.size_toArray,f1,Lib.strCells_length];omega
  obtain⟨R,h1,h2,h3,h4,h5⟩:=J.1.drew.alloc (.cells z u) (.bh (l++b.data.toList) u) z.size (fun R g1 g2 g3=>by
   refine .inr ⟨z,by rw[g1];exact heap_alloc_new _ _,g2.symm,by rw[I,Oy,C,f0];omega,b0 z (fun j x D=>?_) (fun j D=>?_)⟩
   .have b2:=(Ov.1 D).1;have e1:z.getD j undef=G.getD j undef:=by
     rw[b1,Ot,Array.append_assoc,Pa (by simp;omega),Ow];simp
    rw[e1];exact t1 j x D
   .rw[b1,Ot,Pa (by simp[Lib.strCells_length];omega),QT (by simp;omega),Ow]
    simp[f1])
  have p1:=(h5.del i).swap (Ne.symm m0);have v1:=(((Ext.drew (M:=M) (N:=N) (U:=(· <s.nx)) (h:=s.h) (w:=w)).trans h4).del i).swap (Ne.symm m0);obtain⟨g1,g2⟩:=oB J v1 p1;refine⟨M,R,g1,g2,?_⟩;have:=VR.sl (M:=M) (N:=R) (U:=(· <s.nx+1)) s.nx 0 (len+b.size) 1 a0 (by omega) v0 o0 l1 (by rw[h2,I];simp);rw[h1,Qn]at this;exact this
 generalize a.eval x=vx at z0 A;cases z0 with
 |lK _ _ hU=>
  have he:l=[]:=Pn C;subst he;by_cases hm:b.size=0
  .have n0:b.data.toList=[]:=Pn (by rw[f0];exact hm);have B:=j3 (P:=P) w t tu o.type u ii k0 j0 g0 io 0 0 (OJ _) b hm (.inl Z);obtain⟨h1,h2⟩:=J.1.H9 u;obtain⟨g1,g2⟩:=oB (i:=i) (l:=[]) (u:=u) J ((h1.del i).swap (Ne.symm m0)) ((h2.del i).swap (Ne.symm m0));rw[n0,hm];exact⟨_,w,M,N,A _ _ B,g1,g2,.lK _ _ (by simp only[qS];omega)⟩
  .have B:=run_append_nil_string (P:=P) w t tu o.type u ii (.int .u8 0) k0 j0 g0 s0 b (by omega) (by omega) (by rw[q0];omega);have e1:(b.data.map fun b=>Value.int .u8 b.toNat)=(Lib.strCells b).toArray:=by
    apply Array.ext';simp[Lib.strCells]
   rw[e1]at B;obtain⟨M',R,g1,g2,g3⟩:=Y [] (grownCap w b.size 0 u) Z (by simp) (by simpa using grownCap_ge w b.size 0 u) (grownCap_le_maxLen w _ _ _ (by simp only[maxLen];omega)) (by omega) _ Z;simp only[OY,P9,Array.empty_append] at*
   exact⟨_,_,M',R,A _ _ B,by simpa using g1,by simpa using g2,by simpa using g3⟩
 |sl _ _ _ _ a0 hU h0 hl hc hext=>
  rcases n1 with rfl|⟨cur,q1,q2,q3,q4⟩
  .simp at C;omega
  have c0:(AO.bh l u).real=is:=by cases l with
   |nil=>simp at C;omega
   |cons=>rfl
  rw[Qn]at A;have p0:cur.size=a0:=by rw[q2,<-hext];omega
  by_cases hm:b.size=0
  .have n0:b.data.toList=[]:=Pn (by rw[f0];exact hm);have B:=j3 (P:=P) w t tu o.type u ii k0 j0 g0 (co ⟨N.az i,0,io⟩) len a0 hl b hm (.inr ⟨_,_,rfl⟩)
   obtain⟨h1,h2⟩:=J.1.move hi c0 w (.bh (l++ []) u) Z Z Z Z (fun _ _=>rfl) (by
    rw[Pt]
    exact .inr ⟨cur,by simpa using q1,by simpa using q2,q3,q4⟩)
   obtain⟨g1,g2⟩:=oB (i:=i) J h1 h2;rw[n0,hm];refine⟨_,w,M,_,A _ _ B,g1,g2,?_⟩;have:=VR.sl (M:=M) (N:=N.with s.nx (N.az i) (N.ext i)) (U:=(· <s.nx+1)) s.nx 0 len 1 a0 (by omega) h0 hl hc (by simpa using hext);simpa[qS]using this
  .by_cases d0:len+b.size<=a0
   .have B:=pz (P:=P) w t tu o.type u ii k0 j0 g0 r0 u (N.az i) len a0 cur q1 b d0 (by omega);generalize hL:(cur.toList.take len++Lib.strCells b++cur.toList.drop (len+b.size)).toArray=L at B;have d1:L.size=cur.size:=by rw[<-hL];simp[Lib.strCells_length];omega
    have w0:=setRow_heap w (N.az i) cur L u (0,0) q1;have j1: ∀j,j<len->L.getD j undef=cur.getD j undef:=by
     intro j D;rw[<-hL,Ot,Ot];simp only[Po];rw[OS,OQ (by simp;omega),Ph,am D,O1]
    have i1: ∀j,j<b.size->L.getD (len+j) undef=(Lib.strCells b).getD j undef:=by
     intro j D;rw[<-hL,Ot,Ow];simp only[Po];rw[OQ (by simp[Lib.strCells_length];omega),OO (by simp;omega)];congr 2;simp;omega
    obtain⟨h1,h2⟩:=J.1.move hi c0 (w.setRow (N.az i) L) (.bh (l++b.data.toList) u) Z Z Z (by simp) (fun b hb=>by
      simp only[World.setRow,O8]
      rw[be (fun e=>hb e.symm)]) (by
     refine .inr ⟨L,by simpa using w0,by rw[d1];simpa using q2,by rw[d1,p0,Oy,C,f0];omega,b0 L (fun j x D=>?_) i1⟩;rw[j1 j (by rw[<-C];exact(Ov.1 D).1)]
     exact q4 j x D)
    obtain⟨g1,g2⟩:=oB (i:=i) J h1 h2;refine⟨_,_,M,_,A _ _ B,g1,g2,?_⟩;have:=VR.sl (M:=M) (N:=N.with s.nx (N.az i) (N.ext i)) (U:=(· <s.nx+1)) s.nx 0 (len+b.size) 1 a0 (by omega) (by omega) d0 hc (by simpa using hext);simpa[qS]using this
   .have i0: ∀(j:Nat) (v:Value),(cur.toList.take len)[j]? =co v->w.cell? ((⟨N.az i,0,io⟩:Addr).add j)=co v:=by
     intro j v hv;rw[Ph]at hv;split at hv
     .rw[dr,OY];simp only[World.cell?,q1];simpa using hv
     .cases hv
    have B:=Lib.run_append_grow_string (P:=P) w t tu o.type u ii (.int .u8 0) k0 j0 g0 s0 ⟨N.az i,0,io⟩ len a0 (cur.toList.take len) (by rw[r0];simp;omega) i0 b (by omega) (by omega)
     (by rw[q0];exact growslice_fits (by omega) (by omega))
    obtain⟨M',R,g1,g2,g3⟩:=Y (cur.toList.take len) (grownCap w (len+b.size) a0 u) (by simp;omega) (fun j x D=>by
      have:=q4 j x D;have t0:j<len:=by rw[<-C];exact(Ov.1 D).1
      rw[Ow,Ph,am t0,O1]
      rw[Ot]at this;exact this) (grownCap_ge w _ _ _) (grownCap_le_maxLen w _ _ _ (by simp only[maxLen];omega)) (by omega) _ Z
    exact⟨_,_,M',R,A _ _ B,g1,g2,g3⟩
theorem Hs(Y:bq P ty){all rest:List Oper}{o:Oper}{x y:Operand}{t tu u d:Nat}{e et A:bB}{i len:Nat}{l:List UInt8}{b:ByteArray}(ho:o.op= .call ⟨.builtin .append, #[x,y], #[t,tu]⟩)(hg:o.guard=io)(J:ty t=co e)(hk:e.k= .aL (.slice u))(R:ty tu=co et)(D:et.k= .aL .string)(hu:ty u=co A)
  (hx:ev s.f x= .sl i 0 len 1) (hi:s.h.get i=co (.bh l u)) (I:A.size=1) (C:A.bytes=1) (hz:A.zero= .int .u8 0)
  (G:ev s.f y= .iv (.v (.string b))) (hd:o.dst=co d) (hlt:OV d nt=is) (j:l.length=len) (B:len+b.size<=140737488355328)
  (h:GO P nt (.ops all rest::k) Q ⟨(d,.sl s.nx 0 (l++b.data.toList).length 1)::s.f,(s.nx,co (.bh (l++b.data.toList) u))::(i,io)::s.h,s.nx+1⟩):GO P nt (.ops all (o::rest)::k) Q s:=by
 have e:(l++b.data.toList).length=len+b.size:=by rw[Oy,j];simp
 rw[e]at h
 exact cM hg (GB Y ho J hk R D hu hx hi j I C hz G B (s':=⟨(d,.sl s.nx 0 (len+b.size) 1)::s.f,(s.nx,co (.bh (l++b.data.toList) u))::(i,io)::s.h,s.nx+1⟩) (by
  simp only[putDst,qS,hd,hlt,cond_true,dc])) fun t J=>by subst J;exact h
theorem C6{o:Oper}{I:Operand}(ho:o.op= .next I is){i:Nat}(J:ev s.f I= .ptr i 0){b:ByteArray}{a0:Nat}(hi:s.h.get i=co (.dJ b a0)){d:Nat}(hd:o.dst=co d)(hlt:OV d nt=is):
  OT P nt o s (fun t=>(b.size<=a0∧t=⟨(d,.bf [.kb jp])::s.f,s.h,s.nx⟩)∨
   (a0<b.size∧t=⟨(d,.bf [.kb is,.iv (.v (.int .i64 (a0:Nat))),.iv (.v (.int .i32 (Utf8.decode b a0).1))])::s.f,(i,co (.dJ b (a0+(Utf8.decode b a0).2)))::s.h,s.nx⟩)):=by
 intro M N a w G K Z hk;have R:=aG G.2.1 I;rw[J]at R;have A:w.heap[N.az i]? =co (.stringIter b a0):=G.1.obj i _ hi;have B:N.az i<w.heap.size:=(Pz.1 A).1;have C:d<nt:=Oq hlt;have D:a.eval I= .pointer (co ⟨N.az i,0,io⟩):=by
  generalize a.eval I=y at R;cases R;rfl
 unfold Oper.wp;by_cases u:a0<b.size
 .have x:(execOp a.eval o).run P w= .ok (.value (.tuple #[.bool is,.int .i64 (a0:Nat),.int .i32 (Utf8.decode b a0).1])) {w with heap:=w.heap.setIfInBounds (N.az i) (.stringIter b (a0+(Utf8.decode b a0).2))}:=by
   simp only[execOp,ho,D];simp[Instr.next,getObj,setObj,Sem.run,A,u,Result.andThen,goInt]
  rw[x];simp only[Oper.upon]
  obtain⟨q1,q2⟩:=G.1.write hi rfl {w with heap:=w.heap.setIfInBounds (N.az i) (.stringIter b (a0+(Utf8.decode b a0).2))} (.dJ b (a0+(Utf8.decode b a0).2)) rfl rfl rfl (by simp) (fun c Y=>by
   show(w.heap.setIfInBounds _ _)[c]? =_
   rw[O0,be (fun e=>Y e.symm)]) (by
   show(w.heap.setIfInBounds _ _)[_]? =_
   rw[O0,am rfl,am B])
  refine hk M N _ _ _ q1 ?_ (.inr ⟨u,rfl⟩);rw[hd];refine Fits.put (s:=⟨s.f,(i,co (.dJ b (a0+(Utf8.decode b a0).2)))::s.h,s.nx⟩) ⟨q2,G.2⟩ d _ _ C (.bf _ _ rfl fun q p u=>?_)
  match q with
  |0=>simp at u;subst u;exact .kb _
  |1=>simp at u;subst u;exact .iv _ _ (.v _)
  |2=>simp at u;subst u;exact .iv _ _ (.v _)
  |q+3=>simp at u
 .have x:(execOp a.eval o).run P w= .ok (.value (.tuple #[.bool jp])) w:=by
   simp only[execOp,ho,D];simp[Instr.next,getObj,Sem.run,A,u,Result.andThen]
  rw[x];simp only[Oper.upon];refine hk M N ⟨(d,.bf [.kb jp])::s.f,s.h,s.nx⟩ _ w (.refl _ _ _ _ _) ?_ (.inl ⟨by omega,rfl⟩);rw[hd]
  exact G.put d _ _ C (.bf _ _ rfl fun j p u=>by
    match j with
    |0=>simp at u;subst u;exact .kb _
    |j+1=>simp at u)
theorem kq{all rest:List Oper}{o:Oper}{u:Operand}{i:Nat}{b:ByteArray}{a0 d:Nat}(ho:o.op= .next u is)(hg:o.guard=io)(j:ev s.f u= .ptr i 0)(hi:s.h.get i=co (.dJ b a0))(hd:o.dst=co d)(hlt:OV d nt=is)
  (h1:b.size<=a0->GO P nt (.ops all rest::k) Q ⟨(d,.bf [.kb jp])::s.f,s.h,s.nx⟩)
  (x:a0<b.size->GO P nt (.ops all rest::k) Q ⟨(d,.bf [.kb is,.iv (.v (.int .i64 (a0:Nat))),.iv (.v (.int .i32 (Utf8.decode b a0).1))])::s.f,(i,co (.dJ b (a0+(Utf8.decode b a0).2)))::s.h,s.nx⟩):
  GO P nt (.ops all (o::rest)::k) Q s:=by
 refine cM hg (C6 ho j hi hd hlt) fun t y=>?_;rcases y with⟨g1,rfl⟩|⟨g1,rfl⟩
 .exact h1 g1
 .exact x g1
theorem uY(B:bq P ty){all rest:List Oper}{o:Oper}{x:Operand}{t d:Nat}{b:ByteArray}{e:bB}(ho:o.op= .range t x)(hg:o.guard=io)(A:ty t=co e)(hk:e.k= .aL .string)(J:ev s.f x= .iv (.v (.string b)))(hd:o.dst=co d)(hlt:OV d nt=is)
  (h:GO P nt (.ops all rest::k) Q ⟨(d,.ptr s.nx 0)::s.f,(s.nx,co (.dJ b 0))::s.h,s.nx+1⟩):GO P nt (.ops all (o::rest)::k) Q s:=by
 have C:P.underlying t=co .string:=by
  have:=(B t _ A).2.1;rw[hk]at this;exact this.1
 refine cM (R:=fun t=>t=⟨(d,.ptr s.nx 0)::s.f,(s.nx,co (.dJ b 0))::s.h,s.nx+1⟩) hg (OT.value (s1:=newObj s (.dJ b 0)) (p:= .ptr s.nx 0) (by cases s;simp only[putDst,newObj,hd,hlt,cond_true,dc]) fun M N a w y=>?_) fun t A=>by subst A;exact h
 have j:=aG y.2.1 x;rw[J]at j;have D:a.eval x= .string b:=by
  generalize a.eval x=v at j;cases j with
  |iv _ _ h=>cases h;rfl
 obtain⟨u,h1,Y,h3,G,I⟩:=y.1.alloc (.stringIter b 0) (.dJ b 0) 0 (fun u g1 g2 g3=>by
  show(w.alloc _).heap[u.az s.nx]? =_
  rw[g1];exact heap_alloc_new w _)
 refine⟨.pointer (co ⟨w.heap.size,0,io⟩),_,M,u,?_,G,dB y G I,?_⟩
 .simp only[execOp,ho,D];simp[Instr.range,run_underlying C]
 .have:=VR.ptr (M:=M) (N:=u) (U:=(· <s.nx+1)) s.nx 0 (by omega);rw[h1]at this;exact this
end
section
variable {P:Program} {ty:Ty} {nt:NT} {s:AS} {Q:AQ} {k:List KI}
theorem B6(c0:bq P ty){all rest:List Oper}{o:Oper}{x:Operand}{t t' u d:Nat}{b:ByteArray}{et e0 eu:bB}(ho:o.op= .convert t t' x)(hg:o.guard=io)(ht:ty t=co et)(hk:et.k= .aL .string)(n0:ty t'=co e0)(j0:e0.k= .aL (.slice u))(hu:ty u=co eu)(k0:eu.k= .aL (.int .u8))
  (hx:ev s.f x= .iv (.v (.string b))) (hd:o.dst=co d) (hlt:OV d nt=is) (hb:b.size<=1000000)
  (h:GO P nt (.ops all rest::k) Q ⟨(d,.iv (.ck 1 b.data.toList.length fun k=>s9 (b.data.toList.getD k ci)))::s.f,s.h,s.nx⟩):GO P nt (.ops all (o::rest)::k) Q s:=by
 have hs:P.underlying t=co .string:=by have:=(c0 t _ ht).2.1;rw[hk]at this;exact this.1
 have m0:P.underlying t'=co (.slice u):=by have:=(c0 t' _ n0).2.1;rw[j0]at this;exact this.1
 have o0:P.underlying u=co (.int .u8):=by have:=(c0 u _ hu).2.1;rw[k0]at this;exact this.1
 refine cM (R:=fun t=>t=⟨(d,.iv (.ck 1 b.data.toList.length fun k=>s9 (b.data.toList.getD k ci)))::s.f,s.h,s.nx⟩) hg (OT.value (s1:=s) (p:= .iv (.ck 1 b.data.toList.length fun k=>s9 (b.data.toList.getD k ci))) (by cases s;simp only[putDst,hd,hlt,cond_true,dc]) fun M N a w D=>?_) fun t ht=>by subst ht;exact h
 have d0:=aG D.2.1 x;rw[hx]at d0;have p0:a.eval x= .string b:=by
  generalize a.eval x=v at d0;cases d0 with
  |iv _ _ h=>cases h;rfl
 have Y:=Go.run_bytes_of_string (P:=P) w t t' u b hs m0 o0;generalize hC:bytesRow b (grownCap w b.size 0 u)=C at Y;have B:M w.heap.size=io:=by
  cases hm:M w.heap.size with
  |none=>rfl
  |some c=>exact absurd (D.1.dZ _ _ hm).lt (RN _)
 have G: ∀c,c<w.heap.size->(w.drew.alloc (.cells C u (C.size,C.size+1))).heap[c]? =w.heap[c]? :=fun c A=>by
  show(w.heap.push _)[c]? =_;rw[QE,be (by omega)]
 have hnew:(w.drew.alloc (.cells C u (C.size,C.size+1))).heap[w.heap.size]? =co (.cells C u (C.size,C.size+1)):=by
  show(w.heap.push _)[w.heap.size]? =_;simp
 have f0: ∀j,j<b.data.toList.length->C[j]? =co (.int .u8 ((b.data.toList.getD j ci).toNat:Int)):=by
  intro j hj;have a0:j<b.data.size:=by simpa using hj
  rw[<-hC];simp only[bytesRow];rw[Pa (by simpa using a0)];simp[Ow];exact⟨b.data[j],O2 a0,by rw[O2 a0];rfl⟩
 have I:=grownCap_ge w b.size 0 u;refine⟨.slice (co ⟨w.heap.size,0,io⟩) b.size (grownCap w b.size 0 u),w.drew.alloc (.cells C u (C.size,C.size+1)),M.set w.heap.size (.cells C) B,N,?_,?_,?_,?_⟩
 .simp only[execOp,ho,p0];rw[Sem.run_bind,Y];rfl
 .have q1:M.le (M.set w.heap.size (.cells C) B):=fun c e A=>by
   simp only[Mem.set];rw[be fun e2=>by rw[e2,B]at A;cases A];exact A
  have q2: ∀c e,M c=io->(M.set w.heap.size (.cells C) B) c=co e->w.heap.size<=c∨ ∃i o,s.h.get i=co o∧o.real=is∧N.az i=c:=fun c e h1 h2=>by
   simp only[Mem.set]at h2;by_cases he:c=w.heap.size
   .exact .inl (by omega)
   .rw[be he,h1]at h2;cases h2
  exact⟨rfl,rfl,⟨rfl,QH _⟩,(by show w.heap.size<=(w.heap.push _).size;simp),fun c A _=>G c A,q1,q2,.refl _ _,fun _ h=>h,fun i o J y=> .inr ⟨i,o,J,y,rfl⟩⟩
 .have g0:M.le (M.set w.heap.size (.cells C) B):=fun c e A=>by
   simp only[Mem.set];rw[be fun e2=>by rw[e2,B]at A;cases A];exact A
  refine⟨⟨fun c e A=>?_,D.1.used,fun i o J y=>?_,fun i o J=>?_,D.1.inj⟩,fun i=>(D.2.1 i).mono g0 (.refl _ _) fun _ h=>h,D.2.2⟩
  .simp only[Mem.set]at A;by_cases he:c=w.heap.size
   .rw[am he]at A;cases A;exact⟨u,(C.size,C.size+1),by rw[he];exact hnew⟩
   .rw[be he]at A;exact(D.1.dZ c e A).mono (G c (D.1.dZ c e A).lt)
  .simp only[Mem.set];have:=D.1.lt J y;rw[be (by omega)];exact D.1.dM i o J y
  .cases y:o.real with
   |true=>exact(D.1.obj i o J).mono g0 (.refl _ _) (fun _ h=>h) (D.1.used i o J) (G _ (D.1.lt J y))
   |false=>
    cases o with
    |row sz es=>cases es with
     |nil=>exact .inl Z
     |cons=>cases y
    |bh l T=>cases l with
     |nil=>exact .inl Z
     |cons=>cases y
    |_=>cases y
 .have i0:b.data.toList.length=b.size:=by simp
  rw[<-i0]at I ⊢;by_cases h0:b.data.toList.length=0
  .rw[h0];exact .iv _ _ (.fM _ _ _ _)
  .refine .iv _ _ (.ck _ _ _ _ _ _ (by omega) (grownCap_le_maxLen w _ _ _ (by simp only[maxLen];omega)) (fun _ _=>rfl) (fun k j hk hj=>?_) (fun k j p hk hp=>?_))
   .have b0:j=0:=by omega
    subst b0;have:=f0 k hk;simp only[Mem.cell,Mem.set,if_true,OY,Rj,Qf,this,Option.isSome_some]
   .have b0:j=0:=by
     have:=(Ov.1 hp).1;simp[s9]at this;exact this
    subst b0;cases hp;have:=f0 k hk;simp only[Mem.cell,Mem.set,if_true,OY,Rj,Qf,this,Px];exact .v _
theorem HB(B:bq P ty)(l:List UInt8){all rest:List Oper}{o:Oper}{x:Operand}{t C u d i n:Nat}{es:List (List PV)}{et G eu:bB}(ho:o.op= .convert t C x)(hg:o.guard=io)(ht:ty t=co et)(hk:et.k= .aL (.slice u))(g0:ty C=co G)(d0:G.k= .aL .string)(hu:ty u=co eu)(e0:eu.k= .aL (.int .u8))
  (hx:ev s.f x= .sl i 0 n 1) (hi:s.h.get i=co (.row 1 es)) (hd:o.dst=co d) (hlt:OV d nt=is) (hes:es=l.map fun x=>(s9 x).map .iv) (hn:n=l.length)
  (h:GO P nt (.ops all rest::k) Q ⟨(d,.iv (.v (.string ⟨l.toArray⟩)))::s.f,s.h,s.nx⟩):GO P nt (.ops all (o::rest)::k) Q s:=by
 have hs:P.underlying C=co .string:=by have:=(B C _ g0).2.1;rw[d0]at this;exact this.1
 have a0:P.underlying t=co (.slice u):=by have:=(B t _ ht).2.1;rw[hk]at this;exact this.1
 have b0:P.underlying u=co (.int .u8):=by have:=(B u _ hu).2.1;rw[e0]at this;exact this.1
 subst hn;subst hes;refine cM (R:=fun t=>t=⟨(d,.iv (.v (.string ⟨l.toArray⟩)))::s.f,s.h,s.nx⟩) hg (OT.value (s1:=s) (p:= .iv (.v (.string ⟨l.toArray⟩))) (by cases s;simp only[putDst,hd,hlt,cond_true,dc]) fun M N a w hf=>?_) fun t ht=>by subst ht;exact h
 have b:=aG hf.2.1 x;rw[hx]at b;have Y:(convert t C (a.eval x)).run P w= .ok (.string ⟨l.toArray⟩) w:=by
  generalize a.eval x=v at b;cases hor:l with
  |nil=>
   rw[hor]at b;generalize D:PV.sl i 0 ([]:List UInt8).length 1=q at b;cases b with
   |sl _ _ _ _ _ _ h0=>cases D;simp at h0
   |lK _ _ _=>
    have:=run_convert_bytes_nil (P:=P) w t u a0 b0 0 0 C hs;exact this
   |_=>cases D
  |cons x0 r0=>
   rw[<-hor];have J:0<l.length:=by rw[hor];simp
   generalize f0:l.length=n at b J;generalize D:PV.sl i 0 n 1=q at b;cases b with
   |sl _ _ _ _ cap hU h0 hl hc he=>
    cases D;rcases hf.1.obj i _ hi with A|⟨_,c,T,q1,q2,q3,q4,q5⟩
    .rw[hor]at A;cases A
    rw[Qn,<-f0];refine run_convert_bytes_back (P:=P) w t C u ⟨N.az i,0,io⟩ cap l a0 b0 hs fun j hj=>?_;rw[dr,OY];have I:j<c.size:=by rw[O3]at q3;omega
    have:=q5 j [.iv (.v (.int .u8 (l[j].toNat:Int)))] 0 _ (by rw[OC,Ox hj];rfl) Z;rw[Rj,Qf,Ot,O2 I,Px]at this;simp only[World.cell?,q1];generalize c0:c[j]=y at this;cases this with
    |iv _ _ h=>cases h;simp[I,c0]
   |lK _ _ _=>cases D;omega
   |_=>cases D
 exact⟨_,w,M,N,by simp only[execOp,ho];exact aW Y,.refl _ _ _ _ _,hf,.iv _ _ (.v _)⟩
theorem rr(u:bq P ty){all rest:List Oper}{o:Oper}{x:Operand}{t y d:Nat}{q J:IntKind}{n:Int}{G j:bB}(ho:o.op= .convert t y x)(hg:o.guard=io)(B:ty t=co G)(hk:G.k= .aL (.int q))(C:ty y=co j)(A:j.k= .aL .string)
  (hx:ev s.f x= .iv (.v (.int J n))) (hd:o.dst=co d) (hlt:OV d nt=is)
  (h:GO P nt (.ops all rest::k) Q ⟨(d,.iv (.v (.string (Utf8.encode n))))::s.f,s.h,s.nx⟩):GO P nt (.ops all (o::rest)::k) Q s:=by
 have hs:P.underlying y=co .string:=by have:=(u y _ C).2.1;rw[A]at this;exact this.1
 have Y:P.underlying t=co (.int q):=by have:=(u t _ B).2.1;rw[hk]at this;exact this.1
 refine cM (R:=fun t=>t=⟨(d,.iv (.v (.string (Utf8.encode n))))::s.f,s.h,s.nx⟩) hg (OT.value (s1:=s) (p:= .iv (.v (.string (Utf8.encode n)))) (by cases s;simp only[putDst,hd,hlt,cond_true,dc]) fun M N a w I=>?_) fun t B=>by subst B;exact h
 have b:=aG I.2.1 x;rw[hx]at b;have D:a.eval x= .int J n:=by
  generalize a.eval x=v at b;cases b with
  |iv _ _ h=>cases h;rfl
 refine⟨_,w,M,N,?_,.refl _ _ _ _ _,I,.iv _ _ (.v _)⟩;simp only[execOp,ho,D];refine aW ?_;simp[convert,run_underlying Y,run_underlying hs,Conv.intToString]
end
def cX{kc:KC}{V:Type}(key:V->kc.K)(m:List (kc.K×V))(S:List V):Prop:= ∃T:List V,T.Perm S∧m=T.map fun v=>(key v,v)
section
variable {kc:KC} {V:Type} {key:V->kc.K}
theorem Ea(T:List V)(f:V)(b: ∀u∈T,key u=key f->u=f):cO kc (T.map fun v=>(key v,v)) (key f)=is↔f∈T:=by
 induction T with
 |nil=>simp[cO]
 |cons v r ih=>
  simp only[OU,cO];have j:=ih fun u hu=>b u (OF _ hu);by_cases e:key v=key f
  .have:=b v (OH ..) e;subst this;simp
  .rw[be e,j,OG];exact⟨.inr,fun q=>q.resolve_left fun q=>e (by rw[q])⟩
theorem vH(T:List V)(f:V)(hn: ∀u∈T,key u≠key f):ct kc (T.map fun v=>(key v,v)) (key f) f=(T++ [f]).map fun v=>(key v,v):=by
 induction T with
 |nil=>rfl
 |cons v r ih=>
  simp only[OU,ct,PO];rw[be (hn v (OH ..)),ih fun u hu=>hn u (OF _ hu)]
theorem EF[DecidableEq V](T:List V)(f:V)(b: ∀u∈T,key u=key f->u=f):jv kc (T.map fun v=>(key v,v)) (key f)=(T.erase f).map fun v=>(key v,v):=by
 induction T with
 |nil=>rfl
 |cons v r ih=>
  simp only[OU,jv];by_cases e:key v=key f
  .have:=b v (OH ..) e;subst this;rw[am Z,List.erase_cons_head]
  .have j: ¬v=f:=fun q=>e (by rw[q])
   rw[be e,ih fun u hu=>b u (OF _ hu),List.erase_cons_tail (by simpa using j),OU]
theorem cX.perm{m:List (kc.K×V)}{S b:List V}(h:cX key m S)(p:S.Perm b):cX key m b:=by
 obtain⟨T,h1,j⟩:=h;exact⟨T,h1.trans p,j⟩
theorem cX.nil:cX key ([]:List (kc.K×V)) []:=⟨[],.nil,rfl⟩
theorem cX.len{m:List (kc.K×V)}{S:List V}(h:cX key m S):m.length=S.length:=by
 obtain⟨T,h1,rfl⟩:=h;rw[O3,h1.length_eq]
theorem cX.has{m:List (kc.K×V)}{S:List V}(h:cX key m S){f:V}(b: ∀u∈S,key u=key f->u=f):cO kc m (key f)=is↔f∈S:=by
 obtain⟨T,h1,rfl⟩:=h;rw[Ea T f fun u hu=>b u (h1.mem_iff.1 hu),h1.mem_iff]
theorem cX.put{m:List (kc.K×V)}{S:List V}(h:cX key m S){f:V}(b: ∀u∈S,key u=key f->u=f)(hf:f∉S):cX key (ct kc m (key f) f) (f::S):=by
 obtain⟨T,h1,rfl⟩:=h;refine⟨T++ [f],?_,vH T f fun u hu e=>hf (b u (h1.mem_iff.1 hu) e▸h1.mem_iff.1 hu)⟩;exact(List.perm_append_comm).trans ((List.Perm.cons f h1))
theorem cX.del[DecidableEq V]{m:List (kc.K×V)}{S:List V}(h:cX key m S){f:V}(b: ∀u∈S,key u=key f->u=f):cX key (jv kc m (key f)) (S.erase f):=by
 obtain⟨T,h1,rfl⟩:=h;exact⟨T.erase f,h1.erase f,EF T f fun u hu=>b u (h1.mem_iff.1 hu)⟩
end
section
variable {P:Program} {ty:Ty} {nt:NT} {Q:AQ} {k:List KI} {s:AS}
theorem HG{o:Oper}{g:FuncId}{x y:Operand}{ts:Array TypeId}{b j v:Value}(ho:o.op= .call ⟨.value (.func g), #[x,y],ts⟩)(D:ev s.f x= .iv (.v b))(G:ev s.f y= .iv (.v j))
  (hc: ∀w,(callFunc g #[b,j]).run P w= .ok (.value v) w) {s':AS} (hp:putDst nt o (.iv (.v v)) s=co s'):OT P nt o s fun t=>t=s':=by
 refine OT.value hp fun M N a w A=>⟨v,w,M,N,?_,.refl _ _ _ _ _,A,.iv _ _ (.v _)⟩
 have h1:=aG A.2.1 x;have u:=aG A.2.1 y;rw[D]at h1;rw[G]at u;have B:a.eval x=b:=by
  generalize a.eval x=z at h1;cases h1 with
  |iv _ _ h=>cases h;rfl
 have C:a.eval y=j:=by
  generalize a.eval y=z at u;cases u with
  |iv _ _ h=>cases h;rfl
 simp only[execOp,ho,resolve,Act.eval,Deferred.ofValue,pure_bind,invoke];have: #[]++Array.map a.eval #[x,y]++ #[]= #[b,j]:=by simp[B,C]
 first
  |(rw[this];exact hc w)
  |(simp only[Act.eval] at*;simpa[B,C]using hc w)
theorem Hw{all rest:List Oper}{o:Oper}{g:FuncId}{x y:Operand}{ts:Array TypeId}{b j:Value}(v:Value)(ho:o.op= .call ⟨.value (.func g), #[x,y],ts⟩)(hg:o.guard=io)(A:ev s.f x= .iv (.v b))(B:ev s.f y= .iv (.v j))
  (hc: ∀w,(callFunc g #[b,j]).run P w= .ok (.value v) w) {s':AS} (hp:putDst nt o (.iv (.v v)) s=co s') (h:GO P nt (.ops all rest::k) Q s'):GO P nt (.ops all (o::rest)::k) Q s:=
 cM hg (HG ho A B hc hp) fun t u=>by subst u;exact h
end
theorem DE(i sz n:Nat): ∀l:List IV,c7 i sz n (l.map .iv)
 | []=>trivial
 |_::r=>⟨ac,DE i sz n r⟩
theorem G4{α:Type}(i sz n b:Nat)(l:List α)(f:α->List IV):(aP b l f).oq i sz n:=by
 intro k e j p u A;rw[OC,OD]at u;obtain⟨x,_,rfl⟩:=u;rw[OC,OD]at A;obtain⟨y,_,rfl⟩:=A;exact⟨y,rfl⟩
section
variable {P:Program} {ty:Ty} {nt:NT} {s:AS}
theorem sG{M:Mem}{N:Nm}{a:Act}{w:World}(hf:Fits M N s nt a w){x:Operand}{k:IntKind}{n:Int}(h:ev s.f x= .iv (.v (.int k n))):a.eval x= .int k n:=by
 have b:=aG hf.2.1 x;rw[h]at b;generalize a.eval x=v at b;cases b with
 |iv _ _ b=>cases b with
  |v=>rfl
theorem MK(D:bq P ty){o:Oper}{t u:TypeId}{l c:Operand}(ho:o.op= .makeSlice t l c){e b:bB}(ht:ty t=co e)(hk:e.k= .aL (.slice u))(hu:ty u=co b)
  {n m sz:Nat} {kl kc:IntKind} {ml nc:Int} (hl:ev s.f l= .iv (.v (.int kl ml))) (hc:ev s.f c= .iv (.v (.int kc nc))) (i0:ml=(m:Int)) (j0:nc=(n:Int)) (hn:0<n) (q0:n<=100000000000) (hb:b.bytes*n<=281474976710656) (n0:b.size=sz) (G:b.zero.cells.size=sz) (m0:0<sz)
  {z:List PV} (hz:z=aI b.zero) {p:PV} (C:(m=0∧p= .sl s.nx 1 0 sz)∨(m=n∧p= .sl s.nx 0 n sz))
  {s':AS} (hp:putDst nt o p (newObj s (.row sz (Qp n z)))=co s'):OT P nt o s (fun t=>t=s'):=by
 refine OT.value hp fun M N a w R=>?_;subst hz n0 i0 j0;obtain⟨⟨ii,b0,c0,a0,d0⟩,_⟩:=D u _ hu
 have o0:P.underlying t=co (.slice u):=by
  have:=(D t _ ht).2.1;rw[hk]at this;exact this.1
 have p0:m<=n:=by rcases C with⟨h,_⟩|⟨h,_⟩<;>omega
 have B:=run_make w t u ii b.zero o0 b0 d0 kl kc (m:Int) (n:Int) (by omega) (by omega) (by rw[a0];omega) (by omega);rw[OA,OA,c0]at B;have I:(aI b.zero).length=b.size:=by rw[(en (M:=M) (N:=N) (U:=(· <s.nx)) b.zero).1,G]
 have A: ∀(k:Nat) (e:List PV),(Qp n (aI b.zero))[k]? =co e->k<n∧e=aI b.zero:=by
  intro k e x;rw[List.getElem?_replicate]at x;split at x
  .exact⟨by assumption,by simpa using x.symm⟩
  .cases x
 obtain⟨J,h1,h2,h8,h9,Y⟩:=R.1.alloc (.cells (madeCells b.zero.cells (n*b.size)) u) (.row b.size (Qp n (aI b.zero))) (n*b.size) (fun J g1 g2 g3=>
  .inr ⟨m0,_,u,by rw[g1];exact heap_alloc_new w _,by rw[size_madeCells,g2],by rw[size_madeCells,Q9];exact OJ _,fun k e x=>by rw[(A k e x).2,I],fun k e j p x hj=>by
   obtain⟨f0,rfl⟩:=A k e x;have e0:j<b.size:=by rw[<-I];exact(Ov.1 hj).1
   have g0:k*b.size+j<n*b.size:=by
    have:(k+1)*b.size<=n*b.size:=OX _ f0;rw[Pv]at this;omega
   have h7:(madeCells b.zero.cells (n*b.size)).getD (k*b.size+j) undef=b.zero.cells.getD j undef:=by
    have hx:(Rq (n*b.size))[k*b.size+j]? =co (k*b.size+j):=by simp[g0]
    have hm:(k*b.size+j) % b.zero.cells.size=j:=by rw[G,Nat.add_comm,Nat.add_mul_mod_self_right,Nat.mod_eq_of_lt e0]
    rw[madeCells,Ot,QJ,hx];simp only[PC,Px,hm];rw[Ot,getElem!_pos b.zero.cells j (by omega),O2 (by omega)];rfl
   rw[h7];exact(en b.zero).2 j p hj⟩)
 refine⟨.slice (co ⟨w.heap.size,0,io⟩) m n,_,M,J,?_,h9,dB R h9 Y,?_⟩
 .simp only[execOp,ho,sG R hl,sG R hc];rw[Sem.run_bind,B];rfl
 .have k0:(newObj s (.row b.size (Qp n (aI b.zero)))).nx=s.nx+1:=by cases s;rfl
  rw[k0];have y:n<=maxLen:=by simp only[maxLen];omega
  rcases C with⟨rfl,rfl⟩|⟨rfl,rfl⟩
  .have:=VR.sle (M:=M) (N:=J) (U:=(· <s.nx+1)) s.nx b.size n (by omega) y (by rw[h2]);rw[h1]at this;exact this
  .have:=VR.sl (M:=M) (N:=J) (U:=(· <s.nx+1)) s.nx 0 m b.size m (by omega) hn (OJ _) y (by rw[h2,OY]);rw[h1,Qn]at this;exact this
theorem KV(j:bq P ty){o:Oper}{t u:TypeId}{l c:Operand}(ho:o.op= .makeSlice t l c){e y:bB}(ht:ty t=co e)(hk:e.k= .aL (.slice u))(hu:ty u=co y)
  {sz:Nat} (el:Nat->List IV) {kl kc:IntKind} {ml nc:Int} (hl:ev s.f l= .iv (.v (.int kl ml))) (hc:ev s.f c= .iv (.v (.int kc nc))) (D:ml=0) (G:nc=0)
  {s':AS} (hp:putDst nt o (.iv (.ck sz 0 el)) (newObj s (.row sz []))=co s'):OT P nt o s (fun t=>t=s'):=by
 refine OT.value hp fun M N a w x=>?_;subst D G;obtain⟨⟨Y,B,b0,a0,C⟩,_⟩:=j u _ hu
 have I:P.underlying t=co (.slice u):=by
  have:=(j t _ ht).2.1;rw[hk]at this;exact this.1
 have b:=run_make w t u Y y.zero I B C kl kc 0 0 (by omega) (by omega) (by omega) (by omega);obtain⟨J,h1,h2,h8,R,A⟩:=x.1.alloc (.cells (madeCells y.zero.cells ((0:Int).toNat*Y.size)) u) (.row sz []) 0 (fun J g1 g2 g3=> .inl Z);refine⟨.slice (co ⟨w.heap.size,0,io⟩) 0 0,_,M,J,?_,R,dB x R A,.iv _ _ (.fM _ _ _ _)⟩;simp only[execOp,ho,sG x hl,sG x hc];rw[Sem.run_bind,b];rfl
theorem Lf(B:bq P ty){o:Oper}{t u:TypeId}{x hi:Operand}(ho:o.op= .slice t x io (co hi) io){e I:bB}(ht:ty t=co e)(hk:e.k= .aL (.slice u))(hu:ty u=co I)
  {i n m sz:Nat} {kc:IntKind} {J:Int} (hx:ev s.f x= .sl i 0 n sz) (hh:ev s.f hi= .iv (.v (.int kc J))) (D:J=(m:Int)) (Y:m<=n) (hn:0<n)
  {p:PV} (G:(m=0∧p= .sl i 1 0 sz)∨(0<m∧p= .sl i 0 m sz)) {s':AS} (hp:putDst nt o p s=co s'):OT P nt o s (fun t=>t=s'):=by
 refine OT.value hp fun M N a w C=>?_;subst D
 have y:P.underlying t=co (.slice u):=by
  have:=(B t _ ht).2.1;rw[hk]at this;exact this.1
 have j:P.elem t=u:=by simp[Program.elem,y]
 have A:=aG C.2.1 x;rw[hx]at A;generalize hv:a.eval x=vx at A;cases A with
 |lK=>omega
 |sl _ _ _ _ cap hU h0 hl hc hext=>
  have b:=run_slice_h (P:=P) (w:=w) t (co ⟨N.az i,0*sz,io⟩) n cap (by rw[j];exact y) kc (m:Int) (by omega) (by omega);rw[j,aN (B u _ hu)]at b;refine⟨sliced (co ⟨N.az i,0*sz,io⟩) 0 m cap I.size,w,M,N,?_,.refl _ _ _ _ _,C,?_⟩
  .simp only[execOp,ho,hv,PC,QO,sG C hh];refine aW ?_;rw[run_sliceAt_slice w t _ _ _ _ (by rw[j];exact y),b];rfl
  .rcases G with⟨rfl,rfl⟩|⟨R,rfl⟩
   .have:=VR.sle (M:=M) (N:=N) (U:=(· <s.nx)) i sz cap hU hc (by rw[<-hext,OY]);simpa[sliced,Addr.add]using this
   .have:=VR.sl (M:=M) (N:=N) (U:=(· <s.nx)) i 0 m sz cap hU R (by omega) hc hext;simpa[sliced,Addr.add]using this
theorem HX(j0:bq P ty){o:Oper}{x y:Operand}{t u:TypeId}(ho:o.op= .call ⟨.builtin .append, #[x,y], #[t,t]⟩){e B:bB}(ht:ty t=co e)(hk:e.k= .aL (.slice u))(hu:ty u=co B)
  {i sz:Nat} {es news:List (List PV)} {py:PV} (hx:ev s.f x= .sl i 1 0 sz) (hi:s.h.get i=co (.row sz es)) (x0:B.size=sz) (b0:news.length<=es.length) (hm:0<news.length)
  (w0:ev s.f y=py) (hy:Src s.h sz py news) (e0: ∀e∈news,eB e=is)
  {s':AS} (hp:putDst nt o (.sl s.nx 0 news.length sz) (pe s i sz [] news)=co s'):OT P nt o s (fun t=>t=s'):=by
 refine OT.value hp fun M N a w hf=>?_;subst x0;obtain⟨⟨ii,r0,d0,e1,f1⟩,_⟩:=j0 u _ hu
 have z0:P.underlying t=co (.slice u):=by
  have:=(j0 t _ ht).2.1;rw[hk]at this;exact this.1
 have g0:=aG hf.2.1 x;rw[hx]at g0;have n0:=aG hf.2.1 y;rw[w0]at n0;obtain⟨I,ao,c,b1,Y⟩:=hy.ok hf n0;have C: ∀v w',(Builtin.append_ #[t,t] o.type #[a.eval x,a.eval y]).run P w= .ok v w'->(execOp a.eval o).run P w= .ok (.value v) w':=by
  intro v w' h;simp only[execOp,ho,resolve];simp[invoke,builtin,h]
 rw[b1]at C;have J:(AO.row B.size es).real=is:=by cases es with
  |nil=>exact absurd b0 (by simp only[P0];omega)
  |cons=>rfl
 rcases hf.1.obj i _ hi with rfl|⟨hsz0,cur,T,q1,q2,q3,q4,q5⟩
 .cases J
 generalize a.eval x=vx at g0 C;cases g0 with
 |sl _ _ _ _ _ _ h0=>exact absurd h0 (RN _)
 |sle _ _ cap hU hc hext=>
  have G:cur.size=cap*B.size:=by rw[q2,<-hext]
  have A:news.length<=cap:=by
   have:es.length*B.size<=cap*B.size:=by rw[<-G];exact q3
   have:=Nat.le_of_mul_le_mul_right this hsz0;omega
  obtain⟨b2,d1,p0,a0⟩:=Y (List.ne_nil_of_length_pos hm);subst p0;obtain⟨vs,k0,a1,m0⟩:=ow (s:=s) a0;have R:vs.length=news.length*B.size:=by rw[k0,ic I]
  have q0:vs.length<=cur.size:=by rw[R,G];exact OX _ A
  have c0: ∀v∈vs,v.oneCell'=is:=by
   intro v hv;obtain⟨j,hj⟩:=Pj hv;have s0:j<news.flatten.length:=by rw[<-k0];exact(Ov.1 hj).1
   have hp:=Ox s0;obtain⟨k,e,i',h1,h2,_⟩:=kv I j _ hp;have:=(m0 j _ hp).one (gG (e0 e (O9 h1)) i' _ h2);rw[Ow,hj]at this;exact this
  have D:=j4 (P:=P) (w:=w) t o.type u ii z0 r0 T (N.az i) 0 cap cur q1 ⟨b2,d1,io⟩ news.length c vs (by rw[R,d0]) a1 c0 (by omega) (by rw[d0];omega);rw[d0]at D;generalize hL:(cur.toList.take (0*B.size)++vs++cur.toList.drop (0*B.size+vs.length)).toArray=L at D;rw[OY]at D;have i0:L.size=cur.size:=by rw[<-hL];simp;omega
  have f0:=setRow_heap w (N.az i) cur L T (0,0) q1;have o0: ∀j,j<vs.length->L.getD j undef=vs.getD j undef:=by
   intro j hj;rw[<-hL,Ot,Ow];simp only[Po];rw[OQ (by simp;omega),OO (by simp)];simp
  obtain⟨h1,h2⟩:=hf.1.move hi J (w.setRow (N.az i) L) (.row B.size ([]++news)) Z Z Z (by simp) (fun b hb=>by
    simp only[World.setRow,O8]
    rw[be (fun e=>hb e.symm)]) (by
   refine .inr ⟨hsz0,L,T,by simpa using f0,by rw[i0];simpa using q2,by rw[i0,G];exact OX _ A,fun k e he=>I _ e he,fun k e j p he hj=>?_⟩;have i1:j<B.size:=by rw[<-I _ e he];exact(Ov.1 hj).1
   have t0:k<news.length:=(Ov.1 he).1;have v0:k*B.size+j<vs.length:=by
    rw[R];have:(k+1)*B.size<=news.length*B.size:=OX _ t0;rw[Pv]at this;omega
   rw[o0 _ v0]
   exact(m0 _ p (l4 I _ e j p he hj)).mono (.refl _) (N.eG _ _ _) (fun i hi=>by omega))
  obtain⟨g1,g2⟩:=mw (es:=[]) (news:=news) (i:=i) hf h1 h2;refine⟨_,_,M,_,C _ _ D,g1,g2,?_⟩;have:=VR.sl (M:=M) (N:=N.with s.nx (N.az i) (N.ext i)) (U:=(· <s.nx+1)) s.nx 0 news.length B.size cap (by omega) hm A hc (by simpa using hext);rw[jK];simpa using this
section
variable {Q:AQ} {k:List KI} {all rest:List Oper} {o:Oper} {s':AS}
theorem Eh(D:bq P ty){t u:TypeId}{l c:Operand}(n m:Nat)(hg:o.guard=io)(ho:o.op= .makeSlice t l c){e b:bB}(C:ty t=co e)(hk:e.k= .aL (.slice u))(hu:ty u=co b)
  {R kc:IntKind} {I nc:Int} (hl:ev s.f l= .iv (.v (.int R I))) (hc:ev s.f c= .iv (.v (.int kc nc))) (j:I=(m:Int)) (y:nc=(n:Int)) (hn:0<n) (x:n<=100000000000) (hb:b.bytes*n<=281474976710656) (G:b.zero.cells.size=b.size) (B:0<b.size)
  {z:List PV} (J:z=aI b.zero) {p:PV} (A:(m=0∧p= .sl s.nx 1 0 b.size)∨(m=n∧p= .sl s.nx 0 n b.size))
  (hp:putDst nt o p (newObj s (.row b.size (Qp n z)))=co s') (h:GO P nt (.ops all rest::k) Q s'):GO P nt (.ops all (o::rest)::k) Q s:=
 cM hg (MK D ho C hk hu hl hc j y hn x hb Z G B J A hp) fun t C=>by subst C;exact h
theorem Eg(y:bq P ty){t u:TypeId}{l c:Operand}(sz:Nat)(el:Nat->List IV)(hg:o.guard=io)(ho:o.op= .makeSlice t l c){e B:bB}(x:ty t=co e)(hk:e.k= .aL (.slice u))(hu:ty u=co B)
  {C kc:IntKind} {A nc:Int} (hl:ev s.f l= .iv (.v (.int C A))) (hc:ev s.f c= .iv (.v (.int kc nc))) (b:A=0) (j:nc=0)
  (hp:putDst nt o (.iv (.ck sz 0 el)) (newObj s (.row sz []))=co s') (h:GO P nt (.ops all rest::k) Q s'):GO P nt (.ops all (o::rest)::k) Q s:=
 cM hg (KV y ho x hk hu el hl hc b j hp) fun t x=>by subst x;exact h
theorem AJ(B:bq P ty){t u:TypeId}{x hi:Operand}{i n sz:Nat}(m:Nat)(hg:o.guard=io)(ho:o.op= .slice t x io (co hi) io){e D:bB}(A:ty t=co e)(hk:e.k= .aL (.slice u))(hu:ty u=co D)
  {kc:IntKind} {C:Int} (G:ev s.f x= .sl i 0 n sz) (hh:ev s.f hi= .iv (.v (.int kc C))) (b:C=(m:Int)) (j:m<=n) (hn:0<n)
  {p:PV} (y:(m=0∧p= .sl i 1 0 sz)∨(0<m∧p= .sl i 0 m sz)) (hp:putDst nt o p s=co s') (h:GO P nt (.ops all rest::k) Q s'):GO P nt (.ops all (o::rest)::k) Q s:=
 cM hg (Lf B ho A hk hu G hh b j hn y hp) fun t A=>by subst A;exact h
theorem wh(D:bq P ty){x y:Operand}{t u:TypeId}(hg:o.guard=io)(ho:o.op= .call ⟨.builtin .append, #[x,y], #[t,t]⟩){e j:bB}(C:ty t=co e)(hk:e.k= .aL (.slice u))(hu:ty u=co j)
  {i:Nat} {es news:List (List PV)} {G:PV} (I:ev s.f x= .sl i 1 0 j.size) (hi:s.h.get i=co (.row j.size es))
  (B:ev s.f y=G) (J:Kp s.h j.size G=co news) (b:news.length<=es.length) (hm:0<news.length) (A: ∀e∈news,eB e=is)
  (hp:putDst nt o (.sl s.nx 0 news.length j.size) (pe s i j.size [] news)=co s') (h:GO P nt (.ops all rest::k) Q s'):GO P nt (.ops all (o::rest)::k) Q s:=
 cM hg (HX D ho C hk hu I hi Z b hm B (gK J) A hp) fun t C=>by subst C;exact h
end
section
variable {Q:AQ} {k:List KI} {all rest:List Oper} {o:Oper} {s':AS}
end
end
theorem dR.take{sz n:Nat}{es:List (List PV)}:dR (.row sz es) (.row sz (es.take n)):=by
 refine⟨fun h=>?_,fun M N U w i h=>?_⟩
 .cases es with
  |nil=>rw[List.take_nil]at h;exact h
  |cons=>rfl
 .rcases h with h|⟨u,c,T,h1,x,y,A,B⟩
  .exact .inl (by rw[h,List.take_nil])
  .refine .inr ⟨u,c,T,h1,x,Pm (OX _ (by rw[PF];omega)) y,fun k e b=>?_,fun k e j p b C=>?_⟩
   .rw[Ph]at b;split at b
    .exact A k e b
    .cases b
   .rw[Ph]at b;split at b
    .exact B k e j p b C
    .cases b
theorem ru{P:Program}{nt:NT}{Q:AQ}{k:List KI}{s:AS}{body:Code}{σ:Type}(i0 n:Nat)(u:i0<=n)(I:Nat->σ->AS)(J:Nat->σ->Prop)(y:σ)(A:List Nat)(C:J i0 y)(h0:Wk s.nx A s (I i0 y))
  (b: ∀i x,i<=n->J i x->GO P nt (.code body:: .lp (fun t=>i<n∧ ∃j L,J (i+1) j∧Wk s.nx L t (I (i+1) j))::k) Q (I i x)):GO P nt (.code (.loop body)::k) Q s:=by
 refine gi (σ:={p:Nat×σ//p.1<=n∧J p.1 p.2}) (fun p=>I p.1.1 p.1.2) (fun p=>n-p.1.1) ⟨(i0,y),u,C⟩ A h0 fun p=>?_;obtain⟨⟨i,x⟩,h1,B⟩:=p;refine kW ?_ (b i x h1 B)
 rintro t ⟨h3,j,L,h4,h5⟩;exact⟨⟨(i+1,j),h3,h4⟩,L,by show n-(i+1)<n-i;omega,h5⟩
theorem Hu{P:Program}{ty:Ty}{nt:NT}{Q:AQ}{k:List KI}{s:AS}(j:bq P ty){all rest:List Oper}{o:Oper}{t:TypeId}{x i:Operand}(p:PV)(ho:o.op= .lookup t x i jp)(hg:o.guard=io)
  {kc:KC} {V:Type} {e:V->IV} {z:V} {y:Value} {m:List (kc.K×V)} (B:ev s.f x= .iv (.dO kc e z y m)) {q:PV} (hl:sy ty t jp kc e z y m (ev s.f i)=co (q,True)) (A:q=p)
  {s':AS} (hp:putDst nt o p s=co s') (h:GO P nt (.ops all rest::k) Q s'):GO P nt (.ops all (o::rest)::k) Q s:=by
 have b:gu ty s o.op=co (p,True):=by
  rw[ho,<-A];simp only[gu,B];exact hl
 exact cM hg (rZ j b ac hp) fun u hu=>by subst hu;exact h
section
variable {P:Program} {ty:Ty} {nt:NT} {s:AS}
theorem CZ{o:Oper}{p:PV}{s':AS}(hp:putDst nt o p s=co s')(h: ∀M N a w,Fits M N s nt a w-> ∃x,(execOp a.eval o).run P w= .ok (.value x) w∧VR M N (· <s.nx) p x):
  (s'.h=s.h∧s'.nx=s.nx)∧ ∀M N a w,Fits M N s nt a w-> ∃x,(execOp a.eval o).run P w= .ok (.value x) w∧Fits M N s' nt (a.put o.dst x) w:=by
 cases hd:o.dst with
 |none=>
  have:=eP hp hd;subst this;exact⟨⟨rfl,rfl⟩,fun M N a w b=>let ⟨x,hx,_⟩:=h M N a w b;⟨x,hx,b⟩⟩
 |some d=>
  obtain⟨h1,rfl⟩:=eO hp hd;exact⟨⟨rfl,rfl⟩,fun M N a w b=>let ⟨x,hx,hv⟩:=h M N a w b;⟨x,hx,b.put d p x h1 hv⟩⟩
theorem sQ{Q:AQ}{k:List KI}{all:List Oper}{todo pend:List (Nat×Oper)}{o:Oper}{s':AS}{p:PV}(i:Nat)(j:todo.find? (fun x=>OW x.1 i)=co (i,o))(u:aM o=jp)(y:todo.all (fun x=>!waits o x.1)=is)(hg:bV nt all s.f o=co is)(b:ub all pend o=is)
  (hp:putDst nt o p s=co s') (A: ∀M N a w,Fits M N s nt a w-> ∃x,(execOp a.eval o).run P w= .ok (.value x) w∧VR M N (· <s.nx) p x)
  (h:GO P nt (.bU all (todo.filter fun x=>!OW x.1 i) ((i,o)::pend)::k) Q s'):GO P nt (.bU all todo pend::k) Q s:=
 have g:=CZ hp A
 sP (List.mem_of_find?_eq_some j) u (fun x B=>by simpa using Pc.1 y x B) hg b g.1 g.2 h
end
section
variable {P:Program} {ty:Ty} {nt:NT} {Q:AQ} {k:List KI} {s:AS}
theorem ib{all rest:List Oper}{o:Oper}{t e:TypeId}{x:Operand}{d sz n:Nat}{el:Nat->List IV}(hg:o.guard=io)(ho:o.op= .binOp .eql t x (.const (.slice io 0 0)) t)(hd:o.dst=co d)(A:OV d nt=is)(G:P.underlying t=co (.slice e))(I:ev s.f x= .iv (.ck sz n el))
  (h: ∀b:Bool,(b=is->n=0)->GO P nt (.ops all rest::k) Q ⟨(d,pB b)::s.f,s.h,s.nx⟩):GO P nt (.ops all (o::rest)::k) Q s:=by
 refine cM (R:=fun u=> ∃b:Bool,(b=is->n=0)∧u=⟨(d,pB b)::s.f,s.h,s.nx⟩) hg (fun M N a w C K Z hk=>?_) fun u ⟨b,hb,hu⟩=>by subst hu;exact h b hb
 have y:=aG C.2.1 x;rw[I]at y;generalize B:a.eval x=v at y;have j: ∀(a0:Option Addr) (l c:Nat),v= .slice a0 l c->(execOp a.eval o).run P w= .ok (.value (.bool a0.isNone)) w:=fun a0 l c y=>by
  unfold execOp;rw[ho];simp only[B,y];exact aW (Lib.run_eql_slice_nil w t e a0 l c 0 0 G)
 have b0: ∀(b:Bool),(b=is->n=0)->(execOp a.eval o).run P w= .ok (.value (.bool b)) w->o.wp P a w K Z:=fun b hb D=>by
  unfold Oper.wp;rw[D];simp only[Oper.upon];rw[hd];exact hk M N ⟨(d,pB b)::s.f,s.h,s.nx⟩ _ w (.refl _ _ _ _ _) (C.put d (pB b) (.bool b) (Oq A) (.iv _ _ (.v _))) ⟨b,hb,rfl⟩
 cases y with
 |iv _ _ hi=>cases hi with
  |fM _ _ a0 cap=>exact b0 _ (fun _=>rfl) (j a0 0 cap rfl)
  |ck _ _ _ b off cap hn hc hl hm D=>exact b0 jp (fun h=>by cases h) (j _ n cap rfl)
theorem jG(j:bq P ty){all rest:List Oper}{o:Oper}{t u:TypeId}{d:Nat}(hg:o.guard=io)(ho:o.op= .buildSlice t 0 #[])(hd:o.dst=co d)(y:OV d nt=is){e I:bB}(ht:ty t=co e)(hk:e.k= .aL (.slice u))(hu:ty u=co I)
  (h: ∀b:Nat,GO P nt (.ops all rest::k) Q ⟨(d,.iv (.v (.slice (co ⟨b,0,io⟩) 0 0)))::s.f,(s.nx,co (.row 1 []))::s.h,s.nx+1⟩):GO P nt (.ops all (o::rest)::k) Q s:=by
 refine cM (R:=fun v=> ∃b:Nat,v=⟨(d,.iv (.v (.slice (co ⟨b,0,io⟩) 0 0)))::s.f,(s.nx,co (.row 1 []))::s.h,s.nx+1⟩) hg (fun M N a w Y K Z B=>?_) fun v ⟨b,hv⟩=>by subst hv;exact h b
 have D:P.underlying t=co (.slice u):=by
  have:=(j t _ ht).2.1;rw[hk]at this;exact this.1
 obtain⟨G,h1,h2,h8,J,x⟩:=Y.1.alloc (.cells #[] u) (.row 1 []) 0 (fun G g1 g2 g3=> .inl rfl);have hr:(execOp a.eval o).run P w= .ok (.value (.slice (co ⟨w.heap.size,0,io⟩) 0 0)) (w.alloc (.cells #[] u)):=by
  have C:=aN (w:=w) (j u I hu);simp[execOp,ho,Instr.buildSlice,Sem.run_bind,run_underlying D,Result.andThen_ok,C,newRow,Instr.fill,show Rq 0= #[] from rfl]
 have A:=dB Y J x;unfold Oper.wp;rw[hr];simp only[Oper.upon];rw[hd];exact B M G ⟨(d,.iv (.v (.slice (co ⟨w.heap.size,0,io⟩) 0 0)))::s.f,(s.nx,co (.row 1 []))::s.h,s.nx+1⟩ _ _ J (Fits.put (s:=⟨s.f,(s.nx,co (.row 1 []))::s.h,s.nx+1⟩) A d _ _ (Oq y) (.iv _ _ (.v _))) ⟨_,rfl⟩
theorem jH(d0:bq P ty){all rest:List Oper}{o:Oper}{x y:Operand}{t u:TypeId}(hg:o.guard=io)(ho:o.op= .call ⟨.builtin .append, #[x,y], #[t,t]⟩){e A:bB}(ht:ty t=co e)(hk:e.k= .aL (.slice u))(hu:ty u=co A)
  {b0 sz:Nat} {news:List (List PV)} {py:PV} (hx:ev s.f x= .iv (.v (.slice (co ⟨b0,0,io⟩) 0 0))) (v0:A.size=sz) (hz:A.zero.cells.size=sz) (t0:0<sz)
  (s0:ev s.f y=py) (hy:Src s.h sz py news) (hm:news≠ []) (hb:news.length*A.bytes<=140737488355328) (d1:news.length<=140737488355328)
  {s':AS} (hp:putDst nt o (.sl s.nx 0 news.length sz) (newObj s (.row sz news))=co s') (h:GO P nt (.ops all rest::k) Q s'):GO P nt (.ops all (o::rest)::k) Q s:=by
 refine cM hg (OT.value hp fun M N a w hf=>?_) fun v hv=>by subst hv;exact h
 subst v0;obtain⟨⟨ii,o0,p0,n0,q0⟩,_⟩:=d0 u _ hu;have w0:P.underlying t=co (.slice u):=by
  have:=(d0 t _ ht).2.1;rw[hk]at this;exact this.1
 have Y:=aG hf.2.1 x;rw[hx]at Y;have f0:=aG hf.2.1 y;rw[s0]at f0;obtain⟨D,ao,c,a1,G⟩:=hy.ok hf f0;have B: ∀v w',(Builtin.append_ #[t,t] o.type #[a.eval x,a.eval y]).run P w= .ok v w'->(execOp a.eval o).run P w= .ok (.value v) w':=by
  intro v w' h;simp only[execOp,ho,resolve];simp[invoke,builtin,h]
 rw[a1]at B;have a0: ∀vs:List Value,vs.length=news.flatten.length->vs.length=news.length*ii.size:=fun vs h=>by rw[h,ic D,p0]
 generalize a.eval x=vx at Y B;cases Y with
 |iv _ _ hi=>cases hi with
  |v=>
   obtain⟨b,b1,j0,I⟩:=G hm;subst j0;obtain⟨vs,e0,x0,z0⟩:=ow (s:=s) I;have j1:0<news.length:=PD.2 hm;have J:=run_append_grow (P:=P) w t o.type u ii A.zero w0 o0 q0 ⟨b0,0,io⟩ 0 0 [] (by simp) (fun j v hj=>by simp at hj) ⟨b,b1,io⟩ news.length c vs (a0 vs e0) x0 (by omega) (by omega) (growslice_fits (by omega) (by rw[n0,OY];exact hb));have R:vs.length=news.length*A.size:=by rw[e0,ic D]
   have c0:=grownCap_ge w (0+news.length) 0 u;have k0:=grownCap_le_maxLen w (0+news.length) 0 u (by simp only[maxLen];omega);generalize grownCap w (0+news.length) 0 u=cap at*
   generalize i0:([]:List Value).toArray++vs.toArray++Builtin.zeroCells A.zero.cells (cap-(0+news.length))=z at J;have C:z.size=cap*A.size:=by
    rw[<-i0,Qw,Qw,size_zeroCells,hz];simp only[List.size_toArray,R,P0,OY] at*
    rw[<-Pv,Nat.add_sub_cancel' c0]
   obtain⟨N',h1,h2,h3,h4,h5⟩:=hf.1.drew.alloc (.cells z u) (.row A.size news) z.size (fun N' g1 g2 g3=>by
    refine .inr ⟨t0,z,u,by rw[g1];exact heap_alloc_new _ _,g2.symm,?_,fun k e he=>D _ e he,fun k e j p he hj=>?_⟩
    .rw[C];exact OX _ (by omega)
    .have f1:j<A.size:=by rw[<-D _ e he];exact(Ov.1 hj).1
     have r0:k<news.length:=(Ov.1 he).1;have m0:=l4 D _ e j p he hj;have i1:k*A.size+j<vs.length:=by
      rw[R];have:(k+1)*A.size<=news.length*A.size:=OX _ r0;rw[Pv]at this;omega
     have:=z0 _ p m0;have e1:z.getD (k*A.size+j) undef=vs.getD (k*A.size+j) undef:=by
      rw[<-i0,Ot,Pa (by simp;omega),Ow];simp
     rw[e1];exact this.mono (.refl _) g3 (fun i hi=>by omega))
   have g0:=(Ext.drew (M:=M) (N:=N) (U:=(· <s.nx)) (h:=s.h) (w:=w)).trans h4;refine⟨_,_,M,N',B _ _ J,g0,⟨h5,hf.2.1.ext g0,hf.2.2⟩,?_⟩;have:=VR.sl (M:=M) (N:=N') (U:=(· <s.nx+1)) s.nx 0 (0+news.length) A.size cap (by omega) (by omega) c0 k0 (by rw[h2,C];simp);rw[h1,Qn,show PV.sl s.nx 0 (0+news.length) A.size=PV.sl s.nx 0 news.length A.size by rw[OY]]at this;exact(show(newObj s (.row A.size news)).nx=s.nx+1 from rfl)▸this
theorem kr(I:bq P ty){all rest:List Oper}{o:Oper}{x y:Operand}{t u:TypeId}(hg:o.guard=io)(ho:o.op= .call ⟨.builtin .append, #[x,y], #[t,t]⟩){e eu:bB}(ht:ty t=co e)(hk:e.k= .aL (.slice u))(hu:ty u=co eu)
  {Y sz:Nat} (hx:ev s.f x= .iv (.v (.slice (co ⟨Y,0,io⟩) 0 0))) (d0:eu.size=sz)
  {el:Nat->List IV} (c0:ev s.f y= .iv (.ck sz 0 el)) {el2:Nat->List IV}
  {s':AS} (hp:putDst nt o (.iv (.ck sz 0 el2)) s=co s') (h:GO P nt (.ops all rest::k) Q s'):GO P nt (.ops all (o::rest)::k) Q s:=by
 refine cM hg (OT.value hp fun M N a w hf=>?_) fun v hv=>by subst hv;exact h
 subst d0;obtain⟨⟨ii,a0,g0,f0,i0⟩,_⟩:=I u _ hu;have e0:P.underlying t=co (.slice u):=by
  have:=(I t _ ht).2.1;rw[hk]at this;exact this.1
 have B:=aG hf.2.1 x;rw[hx]at B;have C:=aG hf.2.1 y;rw[c0]at C;have j: ∀v D,(Builtin.append_ #[t,t] o.type #[a.eval x,a.eval y]).run P w= .ok v D->(execOp a.eval o).run P w= .ok (.value v) D:=by
  intro v D h;simp only[execOp,ho,resolve];simp[invoke,builtin,h]
 generalize a.eval x=vx at B j;generalize a.eval y=vy at C j;have A: ∀(G:Option Addr) (c:Nat),vx= .slice (co ⟨Y,0,io⟩) 0 0->vy= .slice G 0 c-> ∃v D J R,(execOp a.eval o).run P w= .ok (.value v) D∧Ext M N (· <s.nx) s.h w J R (· <s.nx) s.h D∧Fits J R s nt a D∧VR J R (· <s.nx) (.iv (.ck eu.size 0 el2)) v:=fun G c e1 e2=>by
  subst e1 e2;exact⟨_,w,M,N,j _ _ (iw (P:=P) (w:=w) t o.type u ii e0 a0 (co ⟨Y,0,io⟩) 0 0 (OJ _) G c (.inr ⟨_,_,rfl⟩)),.refl _ _ _ _ _,hf,.iv _ _ (.fM _ _ _ _)⟩
 cases B with
 |iv _ _ hi=>cases hi with
  |v=>cases C with
   |iv _ _ hi=>cases hi with
    |fM _ _ G c=>exact A G c Z Z
    |ck _ _ _ b off cap=>exact A _ _ Z Z
end
section
variable {P:Program} {ty:Ty} {nt:NT} {Q:AQ} {k:List KI} {s:AS}
theorem yu(r0:bq P ty){o:Oper}{t:TypeId}{a x:Operand}(ho:o.op= .store t a x)(hd:o.dst=io){i sz q:Nat}{e:bB}(he:ty t=co e)(z0:e.size=sz){es:List (List PV)}{xs:List PV}
  (ha:ev s.f a= .cJ i sz q 0) (hi:s.h.get i=co (.row sz es)) (hq:q<es.length) (v0:(ev s.f x).cells=co xs) (f0:xs.length=sz) (b0:eB xs=is):
  OT P nt o s (fun u=>u=⟨s.f,(i,co (.row sz (es.set q xs)))::s.h,s.nx⟩):=by
 have hp:putDst nt o .any ⟨s.f,(i,co (.row sz (es.set q xs)))::s.h,s.nx⟩=co ⟨s.f,(i,co (.row sz (es.set q xs)))::s.h,s.nx⟩:=by simp only[putDst,hd]
 refine OT.skip hp fun M N b w J=>?_;have hu:=aG J.2.1 a;have hy:=aG J.2.1 x;rw[ha]at hu;generalize s0:b.eval a=u at hu;generalize w0:b.eval x=y at hy
 have key: ∃w',(Instr.storeAt t u y).run P w= .ok () w'∧Ext M N (· <s.nx) s.h w M N (· <s.nx) ((i,co (.row sz (es.set q xs)))::s.h) w'∧Fits M N ⟨s.f,(i,co (.row sz (es.set q xs)))::s.h,s.nx⟩ nt b w':=by
  cases hu with
  |cJ _ _ _ _ hU=>
   obtain⟨hl,hv⟩:=mn hy v0;have a1:y.cells.size=sz:=by omega
   rcases J.1.obj i _ hi with h0|⟨h0,c,T,g1,g2,g3,g4,g5⟩
   .rw[h0]at hq;simp at hq
   have a0:(q+1)*sz<=es.length*sz:=OX _ hq;have x0:q*sz+sz<=c.size:=by rw[P1]at a0;omega
   have C: ∀z∈y.cells.toList,z.oneCell'=is:=by
    intro v t0;obtain⟨j,hj⟩:=Pj t0;have k0:j<y.cells.toList.length:=(Ov.1 hj).1;have e0:xs[j]? =co (xs[j]'(by simp at k0;omega)):=Ox _;have:=(hv j _ e0).one (gG b0 j _ e0);rw[Ot]at this;have i0:y.cells[j]? =co v:=by simpa using hj
    rw[i0]at this;exact this
   have d0:=run_storeCells_at P (N.az i) (q*sz) T y.cells.toList 0 c w g1 (by simp;omega) C;refine⟨w.setRow (N.az i) (c.toList.take (q*sz+0)++y.cells.toList++c.toList.drop (q*sz+0+y.cells.toList.length)).toArray,?_,?_⟩
   .have D:=aN (w:=w) (r0 t e he);have q0:y.cells.size=e.size:=by omega
    simp only[Instr.storeAt,Instr.sureAddr,pure_bind,storeVar,Sem.run_bind,D,Result.andThen_ok,q0,ne_eq,not_true_eq_false,if_false];exact d0
   .have c0:=setRow_heap w (N.az i) c (c.toList.take (q*sz+0)++y.cells.toList++c.toList.drop (q*sz+0+y.cells.toList.length)).toArray T (0,0) g1;have o0: ∀b,b≠N.az i->(w.setRow (N.az i) (c.toList.take (q*sz+0)++y.cells.toList++c.toList.drop (q*sz+0+y.cells.toList.length)).toArray).heap[b]? =w.heap[b]? :=by
     intro b hb;simp only[World.setRow,O8];rw[be (fun e=>hb e.symm)]
    have p0:(AO.row sz es).real=is:=by cases es with
     |nil=>simp at hq
     |cons=>rfl
    have g0: ∀m,(c.toList.take (q*sz+0)++y.cells.toList++c.toList.drop (q*sz+0+y.cells.toList.length)).toArray.getD m undef=if q*sz<=m∧m<q*sz+sz then y.cells.getD (m-q*sz) undef else c.getD m undef:=by
     intro m;rw[Ot,Ot,Ot];have m0:y.cells.toList.length=sz:=by simp;omega
     split
     .rename_i hm;have e1:(c.toList.take (q*sz+0)++y.cells.toList++c.toList.drop (q*sz+0+y.cells.toList.length)).toArray[m]? =y.cells[m-q*sz]? :=by
       simp only[Po];rw[OQ (by simp;omega),OO (by simp;omega)];simp only[PF,Qm,O1];congr 1;omega
      rw[e1]
     .rename_i hm;have e1:(c.toList.take (q*sz+0)++y.cells.toList++c.toList.drop (q*sz+0+y.cells.toList.length)).toArray[m]? =c[m]? :=by
       simp only[Po];rcases Pw m (q*sz) with k1|k1
       .rw[OS,OQ (by simp;omega),Ph,am (by omega),O1]
       .rw[OO (by simp;omega),Pr,O1];congr 1;simp;omega
      rw[e1]
    have:=J.1.write hi p0 (w.setRow (N.az i) (c.toList.take (q*sz+0)++y.cells.toList++c.toList.drop (q*sz+0+y.cells.toList.length)).toArray) (.row sz (es.set q xs)) Z Z Z (by simp) o0
     (.inr ⟨h0,_,T,c0,by simp;omega,by simp;omega,fun G Y A=>?_,fun G Y R p2 A I=>?_⟩)
    .exact⟨this.1,this.2,J.2.1,J.2.2⟩
    .rw[P8]at A;split at A
     .cases A;exact f0
     .exact g4 G Y A
    .rw[g0];rw[P8]at A;split at A
     .rename_i B;subst B;cases A;have j0:R<sz:=by rw[<-f0];exact(Ov.1 I).1
      rw[am (by omega),show q*sz+R-q*sz=R by omega];exact hv R p2 I
     .rename_i B;have j0:R<sz:=by rw[<-g4 G Y A];exact(Ov.1 I).1
      rw[be ?_]
      .exact g5 G Y R p2 A I
      .intro⟨e1,Y⟩;rcases QR q G with n0|heq|hgt
       .have:(q+1)*sz<=G*sz:=OX _ n0;rw[P1]at this;omega
       .exact B heq
       .have:(G+1)*sz<=q*sz:=OX _ hgt;rw[P1]at this;omega
 obtain⟨w',h1,A,I⟩:=key;refine⟨w',M,N,?_,A,I⟩;simp only[execOp,ho];simp[s0,w0,h1]
end
def Lq{σ:Type}(P:Program)(nt:NT)(k:List KI)(Q:AQ)(n0:Nat)(t:σ->AS):AQ:=fun e u=>(e= .normal∧ ∃i L,Wk n0 L u (t i))∨(e≠ .normal∧kp P nt k Q e u)
theorem go_cut{P:Program}{nt:NT}{Q:AQ}{k:List KI}{s:AS}{c:Code}{σ:Type}(n:Nat)(t:σ->AS)(A:c=Kr (vt n c) (rA n c))
  (h1:GO P nt ((vt n c).map KI.code) (Lq P nt k Q s.nx t) s) (h2: ∀i,GO P nt (.code (rA n c)::k) Q (t i)):GO P nt (.code c::k) Q s:=by
 intro M N a w hf;rw[A];have key: ∀(l:List Code) (u:AS) C G J B,Ext M N (· <s.nx) s.h w C G (· <u.nx) u.h B->Fits C G u nt J B->
   kp P nt (l.map KI.code) (Lq P nt k Q s.nx t) .normal u->(Kr l (rA n c)).wp P (lD nt M N s w (kp P nt k Q)) J B:=by
  intro l
  induction l with
  |nil=>
   intro u C G J B R y hk;rcases hk with⟨_,i,L,hw⟩|⟨he,_⟩
   .exact AW.then (h2 i) (hw.fits y) fun e a2 w2 D I Y x b j=>⟨D,I,Y,(hw.ext R).trans x,b,j⟩
   .exact absurd Z he
  |cons c l ih=>
   intro u C G J B R y hk;refine wp_seq (AW.then hk y fun e a2 w2 D I Y x b j=>?_);cases e with
   |normal=>exact ih Y D I a2 w2 (R.trans x) b j
   |_=>
    rcases As (l:=l) (by simp) j with⟨he,_⟩|⟨_,hq⟩
    .cases he
    .exact⟨D,I,Y,R.trans x,b,hq⟩
 exact key _ s M N a w (.refl _ _ _ _ _) hf h1
theorem EN{P:Program}{nt:NT}{k:List KI}{Q:AQ}{n0:Nat}{σ:Type}{t:σ->AS}{u:AS}(i:σ)(L:List Nat)(h:Wk n0 L u (t i)):Lq P nt k Q n0 t .normal u:= .inl ⟨rfl,i,L,h⟩
section
variable {P:Program} {ty:Ty} {nt:NT} {Q:AQ} {k:List KI} {s:AS}
theorem ob(j:bq P ty){all rest:List Oper}{o:Oper}{t:TypeId}{a:Operand}(ho:o.op= .load t a)(hg:o.guard=io){e:bB}(he:ty t=co e){i sz q off:Nat}{es:List (List PV)}{row:List PV}{v:PV}
  (ha:ev s.f a= .cJ i sz q off) (hi:s.h.get i=co (.row sz es)) (x:es[q]? =co row) (hr:fH e (row.drop off)=co v)
  {s':AS} (hp:putDst nt o v s=co s') (h:GO P nt (.ops all rest::k) Q s'):GO P nt (.ops all (o::rest)::k) Q s:=by
 have hb:behind s.h (.cJ i sz q off)=co (row.drop off):=by
  simp only[behind,hi,x,Nat.beq_refl]
 have b:gu ty s o.op=co (v,True):=by
  rw[ho];simp only[gu,he,ha,hb,hr]
 exact cM hg (rZ j b ac hp) fun u hu=>by subst hu;exact h
end
section
variable {P:Program} {ty:Ty} {nt:NT} {Q:AQ} {k:List KI} {s:AS}
theorem ox(t0:bq P ty){o:Oper}{t:TypeId}{a x:Operand}(ho:o.op= .store t a x)(hd:o.dst=io){i sz q off:Nat}{e:bB}(he:ty t=co e){es:List (List PV)}{row xs:List PV}
  (ha:ev s.f a= .cJ i sz q off) (hi:s.h.get i=co (.row sz es)) (Y:es[q]? =co row) (x0:(ev s.f x).cells=co xs) (d1:xs.length=e.size) (g0:off+e.size<=sz) (b0:eB xs=is):
  OT P nt o s (fun u=>u=⟨s.f,(i,co (.row sz (es.set q (setCells row off xs))))::s.h,s.nx⟩):=by
 have hp:putDst nt o .any ⟨s.f,(i,co (.row sz (es.set q (setCells row off xs))))::s.h,s.nx⟩=co ⟨s.f,(i,co (.row sz (es.set q (setCells row off xs))))::s.h,s.nx⟩:=by simp only[putDst,hd]
 refine OT.skip hp fun M N b w R=>?_;have hu:=aG R.2.1 a;have hy:=aG R.2.1 x;rw[ha]at hu;generalize v0:b.eval a=u at hu;generalize z0:b.eval x=y at hy
 have key: ∃w',(Instr.storeAt t u y).run P w= .ok () w'∧Ext M N (· <s.nx) s.h w M N (· <s.nx) ((i,co (.row sz (es.set q (setCells row off xs))))::s.h) w'∧Fits M N ⟨s.f,(i,co (.row sz (es.set q (setCells row off xs))))::s.h,s.nx⟩ nt b w':=by
  cases hu with
  |cJ _ _ _ _ hU=>
   obtain⟨hl,hv⟩:=mn hy x0;have f1:y.cells.size=e.size:=by omega
   have q0:q<es.length:=(Ov.1 Y).1;rcases R.1.obj i _ hi with h0|⟨h0,c,T,g1,g2,g3,g4,g5⟩
   .rw[h0]at Y;simp at Y
   have f0:row.length=sz:=g4 q row Y;have a0:(q+1)*sz<=es.length*sz:=OX _ q0;have b1:q*sz+off+e.size<=c.size:=by rw[P1]at a0;omega
   have D: ∀z∈y.cells.toList,z.oneCell'=is:=by
    intro v w0;obtain⟨j,hj⟩:=Pj w0;have m0:j<y.cells.toList.length:=(Ov.1 hj).1;have e0:xs[j]? =co (xs[j]'(by simp at m0;omega)):=Ox _;have:=(hv j _ e0).one (gG b0 j _ e0);rw[Ot]at this;have j0:y.cells[j]? =co v:=by simpa using hj
    rw[j0]at this;exact this
   have d0:=run_storeCells_at P (N.az i) (q*sz+off) T y.cells.toList 0 c w g1 (by simp;omega) D;refine⟨w.setRow (N.az i) (c.toList.take ((q*sz+off)+0)++y.cells.toList++c.toList.drop ((q*sz+off)+0+y.cells.toList.length)).toArray,?_,?_⟩
   .have G:=aN (w:=w) (t0 t e he);have s0:y.cells.size=e.size:=by omega
    simp only[Instr.storeAt,Instr.sureAddr,pure_bind,storeVar,Sem.run_bind,G,Result.andThen_ok,s0,ne_eq,not_true_eq_false,if_false];exact d0
   .have c0:=setRow_heap w (N.az i) c (c.toList.take ((q*sz+off)+0)++y.cells.toList++c.toList.drop ((q*sz+off)+0+y.cells.toList.length)).toArray T (0,0) g1;have p0: ∀b,b≠N.az i->(w.setRow (N.az i) (c.toList.take ((q*sz+off)+0)++y.cells.toList++c.toList.drop ((q*sz+off)+0+y.cells.toList.length)).toArray).heap[b]? =w.heap[b]? :=by
     intro b hb;simp only[World.setRow,O8];rw[be (fun e=>hb e.symm)]
    have r0:(AO.row sz es).real=is:=by cases es with
     |nil=>simp at Y
     |cons=>rfl
    have i0: ∀m,(c.toList.take ((q*sz+off)+0)++y.cells.toList++c.toList.drop ((q*sz+off)+0+y.cells.toList.length)).toArray.getD m undef=if q*sz+off<=m∧m<q*sz+off+e.size then y.cells.getD (m-(q*sz+off)) undef else c.getD m undef:=by
     intro m;rw[Ot,Ot,Ot];have n0:y.cells.toList.length=e.size:=by simp;omega
     split
     .rename_i hm;have e1:(c.toList.take ((q*sz+off)+0)++y.cells.toList++c.toList.drop ((q*sz+off)+0+y.cells.toList.length)).toArray[m]? =y.cells[m-(q*sz+off)]? :=by
       simp only[Po];rw[OQ (by simp;omega),OO (by simp;omega)];simp only[PF,Qm,O1];congr 1;omega
      rw[e1]
     .rename_i hm;have e1:(c.toList.take ((q*sz+off)+0)++y.cells.toList++c.toList.drop ((q*sz+off)+0+y.cells.toList.length)).toArray[m]? =c[m]? :=by
       simp only[Po];rcases Pw m (q*sz+off) with k1|k1
       .rw[OS,OQ (by simp;omega),Ph,am (by omega),O1]
       .rw[OO (by simp;omega),Pr,O1];congr 1;simp;omega
      rw[e1]
    have:=R.1.write hi r0 (w.setRow (N.az i) (c.toList.take ((q*sz+off)+0)++y.cells.toList++c.toList.drop ((q*sz+off)+0+y.cells.toList.length)).toArray) (.row sz (es.set q (setCells row off xs))) Z Z Z (by simp) p0
     (.inr ⟨h0,_,T,c0,by simp;omega,by simp;omega,fun I e2 A=>?_,fun I e2 B p2 A J=>?_⟩)
    .exact⟨this.1,this.2,R.2.1,R.2.2⟩
    .rw[P8]at A;split at A
     .cases A;rw[cN];exact f0
     .exact g4 I e2 A
    .rw[i0];rw[P8]at A;split at A
     .rename_i C;subst C;cases A;have k0:B<sz:=by rw[<-f0,<-cN row off xs];exact(Ov.1 J).1
      rcases fX row off xs B p2 J with⟨k1,k3⟩|⟨k1,k3⟩
      .have a1:B-off<xs.length:=(Ov.1 k3).1;rw[am (by omega),show q*sz+B-(q*sz+off)=B-off by omega];exact hv _ p2 k3
      .rw[be (by omega)];exact g5 q row B p2 Y k3
     .rename_i C;have k0:B<sz:=by rw[<-g4 I e2 A];exact(Ov.1 J).1
      rw[be ?_]
      .exact g5 I e2 B p2 A J
      .intro⟨e1,e3⟩;rcases QR q I with o0|heq|hgt
       .have:(q+1)*sz<=I*sz:=OX _ o0;rw[P1]at this;omega
       .exact C heq
       .have:(I+1)*sz<=q*sz:=OX _ hgt;rw[P1]at this;omega
 obtain⟨w',h1,A,J⟩:=key;refine⟨w',M,N,?_,A,J⟩;simp only[execOp,ho];simp[v0,z0,h1]
theorem uF{es:List (List PV)}{q off:Nat}{row xs:List PV}(b:es[q]? =co row)(h:setCells row off xs=row):es.set q (setCells row off xs)=es:=by
 rw[h];refine Qy fun i=>?_;rw[P8];split
 .rename_i e;subst e;split
  .exact b.symm
  .rename_i g;rw[List.getElem?_eq_none (by omega)]
 .rfl
theorem oV(A:bq P ty){all rest:List Oper}{o:Oper}{t:TypeId}{a x:Operand}(ho:o.op= .store t a x)(hd:o.dst=io)(hg:o.guard=io){i sz q off:Nat}{e:bB}(he:ty t=co e){es:List (List PV)}{row xs:List PV}
  (ha:ev s.f a= .cJ i sz q off) (hi:s.h.get i=co (.row sz es)) (D:es[q]? =co row) (C:(ev s.f x).cells=co xs) (B:xs.length=e.size) (j:off+e.size<=sz) (y:eB xs=is) (b:setCells row off xs=row)
  (h:GO P nt (.ops all rest::k) Q ⟨s.f,(i,co (.row sz es))::s.h,s.nx⟩):GO P nt (.ops all (o::rest)::k) Q s:=
 cM hg (ox A ho hd he ha hi D C B j y) fun u hu=>by subst hu;rw[uF D b];exact h
theorem kG(A:bq P ty){o:Oper}{t:TypeId}{a x:Operand}(ho:o.op= .store t a x)(hd:o.dst=io){i sz q off:Nat}{e:bB}(he:ty t=co e){es:List (List PV)}{row xs:List PV}
  (ha:ev s.f a= .cJ i sz q off) (hi:s.h.get i=co (.row sz es)) (D:es[q]? =co row) (C:(ev s.f x).cells=co xs) (B:xs.length=e.size) (j:off+e.size<=sz) (y:eB xs=is) (b:setCells row off xs=row):
  OT P nt o s fun u=>u=⟨s.f,(i,co (.row sz es))::s.h,s.nx⟩:=by
 have:=ox (P:=P) (nt:=nt) A ho hd he ha hi D C B j y;rwa[uF D b]at this
theorem hQ(u:bq P ty){o:Oper}{t:TypeId}{a:Operand}(ho:o.op= .load t a){e:bB}(he:ty t=co e){i sz q off:Nat}{es:List (List PV)}{row:List PV}{v:PV}
  (ha:ev s.f a= .cJ i sz q off) (hi:s.h.get i=co (.row sz es)) (A:es[q]? =co row) (hr:fH e (row.drop off)=co v):
  ∀M N b w,Fits M N s nt b w-> ∃x,(execOp b.eval o).run P w= .ok (.value x) w∧VR M N (· <s.nx) v x:=by
 have hb:behind s.h (.cJ i sz q off)=co (row.drop off):=by
  simp only[behind,hi,A,Nat.beq_refl]
 have j:gu ty s o.op=co (v,True):=by
  rw[ho];simp only[gu,he,ha,hb,hr]
 intro M N b w y;exact pC u y j ac
def HL(P:Program)(nt:NT)(all:List Oper)(s:AS):List (Nat×Oper)->Prop
 | []=>True
 |x::r=>eE P nt all s x.2∧HL P nt all s r
theorem HL.mem{all:List Oper}{l:List (Nat×Oper)}(h:HL P nt all s l): ∀x∈l,eE P nt all s x.2:=by
 induction l with
 |nil=>intro x b;cases b
 |cons y r ih=>
  intro x b;rcases OG.1 b with e|m
  .rw[e];exact h.1
  .exact ih h.2 x m
theorem tq(y:bq P ty){all:List Oper}{o:Oper}{t:TypeId}{a:Operand}(ho:o.op= .load t a)(hg:bV nt all s.f o=co is){d:Nat}(hd:o.dst=co d)(j:OV d nt=is){e:bB}(he:ty t=co e){i sz q off:Nat}{es:List (List PV)}{row:List PV}{v:PV}
  (ha:ev s.f a= .cJ i sz q off) (hi:s.h.get i=co (.row sz es)) (A:es[q]? =co row) (hr:fH e (row.drop off)=co v) (hs:an v (s.f.get d)):eE P nt all s o:=fun M N b w u=>by
 obtain⟨x,C,B⟩:=hQ y ho he ha hi A hr M N b w u;refine⟨x,.inl ⟨eT hg u,.inl C⟩,?_⟩;rw[hd];exact tp hd Z hs (u.put d v x (Oq j) B)
theorem Hy(A:bq P ty)(H:List Nat){all:List Oper}{todo pend:List (Nat×Oper)}{j:Nat}{o:Oper}{s':AS}{J I:Prop}(hrd:eJ todo=[(j,o)])(hg:bV nt all s.f o=co is)(hpb:gW all pend o=is)(hE:mU todo [j]=is)
  (hag:mV ty nt all s todo pend=co J) (hCA:J) (C:OT P nt o s (fun t=>t=s')) (hag2:dD ty nt all s' ((aZ pend o).filter fun x=>!H.any (OW x.1))=co I) (hC2:I) (hH:HL P nt all s' ((aZ pend o).filter fun x=>H.any (OW x.1)))
  (h:GO P nt (.bU all (todo.filter fun x=>!OW x.1 j) (aZ pend o)::k) Q s'):GO P nt (.bU all todo pend::k) Q s:=by
 have u:(j,o)∈eJ todo:=by rw[hrd];simp
 obtain⟨R,B⟩:=O5.1 u;simp only[Py,Qx,Ps]at B;have b: ∀y∈todo,aM y.2=is-> ∀y∈pend,eE P nt all s y.2:=by
  intro y D G;unfold mV at hag;split at hag
  .exact dd A hag hCA
  .rename_i h2;have:=Ps.1 h2 y D;rw[G]at this;exact absurd Z this
 refine rv hE ⟨_,R,B.1⟩ b fun j' o' Y _ hu=>?_;simp only[OI]at Y;subst Y;have:=hu o R;subst this
 refine⟨B.1,fun y D _=>by simpa using B.2 y D,hpb,hg,_,C,fun t ht=>by
  subst ht;refine⟨fun x hx=>?_,h⟩;cases hb:H.any (OW x.1) with
  |true=>exact hH.mem x (O5.2 ⟨hx,hb⟩)
  |false=>exact dd A hag2 hC2 x (O5.2 ⟨hx,by simp only[hb];rfl⟩)⟩
theorem x8(A:bq P ty)(H:List Nat){all:List Oper}{todo pend:List (Nat×Oper)}{j:Nat}{o:Oper}{c:Call}{g:FuncId}{u args:List PV}{os:List AO}{r:PV}{D:AH}{G:Nat}{s':AS}{C B:Prop}(L:List Nat)(hc:bC P g args os r D G)
  (hrd:eJ todo=[(j,o)]) (ho:o.op= .call c) (ha:bM s.f c=co (g,u))
  (hn:cx L=is) (hl:L.all (fun j=>OV j s.nx)=is) (y:L.map s.h.get=os.map fun o=>co (o.cq (sig L s.nx))) (b:u=dy (sig L s.nx) args) (hp:putDst nt o (r.cq (sig L s.nx)) (aX s L D G)=co s')
  (hg:bV nt all s.f o=co is) (hpb:gW all pend o=is) (hE:mU todo [j]=is)
  (hag:mV ty nt all s todo pend=co C) (hCA:C) (hag2:dD ty nt all s' ((aZ pend o).filter fun x=>!H.any (OW x.1))=co B) (hC2:B) (hH:HL P nt all s' ((aZ pend o).filter fun x=>H.any (OW x.1)))
  (h:GO P nt (.bU all (todo.filter fun x=>!OW x.1 j) (aZ pend o)::k) Q s'):GO P nt (.bU all todo pend::k) Q s:=
 Hy A H hrd hg hpb hE hag hCA (ze L hc ho ha hn hl y b hp) hag2 hC2 hH h
end
theorem dR.ME{sz:Nat}{es u:List (List PV)}(hl:es.length=u.length)(h: ∀(k:Nat) (e y:List PV),es[k]? =co e->u[k]? =co y->fV e y):dR (.row sz es) (.row sz u):=by
 have x:u=[]↔es=[]:=by rw[<-PW,<-PW,hl]
 refine⟨fun C=>?_,fun M N U w i D=>?_⟩
 .cases es with
  |nil=>rw[x.2 Z]at C;cases C
  |cons=>rfl
 .rcases D with A|⟨A,c,T,g1,g2,g3,g4,g5⟩
  .exact .inl (x.2 A)
  .refine .inr ⟨A,c,T,g1,g2,by rw[<-hl];exact g3,fun k y b=>?_,fun k y j p b G=>?_⟩
   .have hk:k<es.length:=by rw[hl];exact(Ov.1 b).1
    have:=h k _ y (Ox hk) b;rw[<-this.length];exact g4 k _ (Ox hk)
   .have hk:k<es.length:=by rw[hl];exact(Ov.1 b).1
    obtain⟨q,I,B⟩:=(h k _ y (Ox hk) b).get j p G;exact B _ _ _ _ (g5 k _ j q (Ox hk) I)
def cy:List (List PV)->List (List PV)->Prop
 | [],[]=>True
 |p::r,q::s=>fV p q∧cy r s
 |_,_=>False
theorem cy.length: ∀{a b:List (List PV)},cy a b->a.length=b.length
 | [],[],_=>rfl
 |_::_,_::_,h=>congrArg (· +1) (cy.length h.2)
 | [],_::_,h=>h.elim
 |_::_,[],h=>h.elim
theorem cy.get: ∀{a b:List (List PV)},cy a b-> ∀(k:Nat) (e j:List PV),a[k]? =co e->b[k]? =co j->fV e j
 | [],[],_,_,_,_,h,_=>by simp at h
 |p::r,q::s,hh,k,e,j,h,g=>by
  cases k with
  |zero=>simp at h g;subst h;subst g;exact hh.1
  |succ k=>exact cy.get hh.2 k e j (by simpa using h) (by simpa using g)
 | [],_::_,hh,_,_,_,_,_=>hh.elim
 |_::_,[],hh,_,_,_,_,_=>hh.elim
theorem fV.refl: ∀a:List PV,fV a a
 | []=>trivial
 |p::r=>⟨.refl p,fV.refl r⟩
theorem cy.refl: ∀a:List (List PV),cy a a
 | []=>trivial
 |p::r=>⟨fV.refl p,cy.refl r⟩
theorem cy.app: ∀{a b c d:List (List PV)},cy a b->cy c d->cy (a++c) (b++d)
 | [],[],_,_,_,h=>h
 |_::_,_::_,_,_,h,g=>⟨h.1,cy.app h.2 g⟩
 | [],_::_,_,_,h,_=>h.elim
 |_::_,[],_,_,h,_=>h.elim
theorem Eb{n i:Nat}{σ:Nat->Nat}{h r:AH}{α:Type}{sz:Nat}{es:List (List PV)}{l:List α}{f:α->List IV}(ho:h.get (σ i)=co (.row sz es))(he:cy es (l.map fun x=>(f x).map .iv))(hi:OV i n=is)(hr:mA n σ h r):mA n σ h ((i,co (aP sz l f))::r):=
 ⟨⟨_,ho,(dR.ME he.length he.get).trans (Ab σ Z)⟩,Oq hi,dK n,hr⟩
section
variable {P:Program} {ty:Ty} {nt:NT} {s:AS}
theorem HV(j:bq P ty){o:Oper}{u v:TypeId}{x:Operand}(ho:o.op= .slice u x io io io){C D:bB}(hu:ty u=co C){n:Nat}(A:C.k= .arr n v)(J:ty v=co D)
  {i off:Nat} (R:ev s.f x= .ptr i off): ∀M N a w,Fits M N s nt a w-> ∃x,(execOp a.eval o).run P w= .ok (.value x) w∧VR M N (· <s.nx) (.mN i off n) x:=by
 intro M N a w I;have B:P.underlying u=co (.array n v):=by
  have:=(j u _ hu).2.1;rw[A]at this;exact this
 have b:=aG I.2.1 x;rw[R]at b;generalize Y:a.eval x=y at b;cases b with
 |ptr _ _ hU=>
  refine⟨.slice (co ⟨N.az i,off,io⟩) n n,?_,.mN _ _ _ hU⟩;simp only[execOp,ho,Y,QO];refine aW ?_;have G:(⟨N.az i,off,io⟩:Addr).add 0=⟨N.az i,off,io⟩:=by rw[dr,Qf]
  simp[Instr.sliceAt,run_underlying B,Instr.sliceBounds,aN (j v _ J),Instr.sureAddr,G]
theorem EP(f0:bq P ty){o:Oper}{x y:Operand}{t t' u:TypeId}(ho:o.op= .call ⟨.builtin .copy, #[x,y], #[t,t']⟩){e C:bB}(ht:ty t=co e)(hk:e.k= .aL (.slice u))(hu:ty u=co C)
  {i off n:Nat} {cs:List PV} {T:Option TypeId} {news:List (List PV)} {py:PV} (hx:ev s.f x= .mN i off n) (hi:s.h.get i=co (.cells cs T)) (x0:ev s.f y=py) (hy:Src s.h C.size py news) (c0: ∀e∈news,eB e=is)
  (hn:news.length<=n) (v0:off+news.length*C.size<=cs.length)
  {s':AS} (hp:putDst nt o (.iv (.v (.int .i64 news.length))) ⟨s.f,(i,co (.cells (cs.take off++news.flatten++cs.drop (off+news.length*C.size)) T))::s.h,s.nx⟩=co s'):OT P nt o s (fun t=>t=s'):=by
 refine OT.value hp fun M N a w J=>?_
 have o0:P.underlying t=co (.slice u):=by
  have:=(f0 t _ ht).2.1;rw[hk]at this;exact this.1
 have g0:=aG J.2.1 x;rw[hx]at g0;have q0:=aG J.2.1 y;rw[x0]at q0;obtain⟨m0,ao,c,s0,G⟩:=hy.ok J q0;have I:=ic m0;obtain⟨B,CT,g1,g2,g3,g4,g5⟩:=J.1.obj i _ hi;have r0:a.eval x= .slice (co ⟨N.az i,off,io⟩) n n:=by
  generalize a.eval x=z at g0;cases g0;rfl
 have D: ∀v w',(Builtin.copy_ #[t,t'] o.type #[a.eval x,a.eval y]).run P w= .ok v w'->(execOp a.eval o).run P w= .ok (.value v) w':=by
  intro v w' h;simp only[execOp,ho,resolve];simp[invoke,builtin,h]
 have a0:Nat.min news.length n=news.length:=Nat.min_eq_left hn;by_cases k0:news=[]
 .subst k0;have t0:cs.take off++([]:List (List PV)).flatten++cs.drop (off+([]:List (List PV)).length*C.size)=cs:=by simp
  rw[t0];obtain⟨q1,q2⟩:=J.1.write hi Z w (.cells cs T) Z Z Z Z (fun _ _=>rfl) ⟨B,CT,g1,g2,g3,g4,g5⟩;refine⟨.int .i64 0,w,M,N,D _ _ ?_,q1,⟨q2,J.2⟩,.iv _ _ (.v _)⟩;rw[r0,s0];have hl:(Builtin.firstCells C.size 0 (.slice ao 0 c)).run P w= .ok #[] w:=by
   cases ao with
   |none=>simp[Builtin.firstCells]
   |some a=>simp[Builtin.firstCells,loadCells,loadCellsFrom]
  simp[Builtin.copy_,run_underlying o0,Builtin.lenOf,aN (f0 u _ hu),hl,storeCells,goInt]
 .obtain⟨b,i0,rfl,R⟩:=G k0;obtain⟨vs,v1,v2,v3⟩:=ow (s:=s) R;have p0:vs.length=news.length*C.size:=by rw[v1,I]
  have Y: ∀z∈vs,z.oneCell'=is:=by
   intro z hz;obtain⟨j,A⟩:=Pj hz;have j0:j<news.flatten.length:=by rw[<-v1];exact(Ov.1 A).1
   obtain⟨k,e,i2,h1,h2,_⟩:=kv m0 j _ (Ox j0);have h3:=v3 j _ (Ox j0);have h4:=h3.one (gG (c0 e (O9 h1)) i2 _ h2);rw[Ow,A]at h4;exact h4
  have hl:=run_firstCells_some (P:=P) w C.size news.length ⟨b,i0,io⟩ news.length c vs p0 v2;have n0:=run_storeCells_at P (N.az i) off CT vs 0 B w g1 (by omega) Y;simp only[Qf]at n0;have d0:=setRow_heap w (N.az i) B (B.toList.take off++vs++B.toList.drop (off+vs.length)).toArray CT (0,0) g1;have b0: ∀b,b≠N.az i->(w.setRow (N.az i) (B.toList.take off++vs++B.toList.drop (off+vs.length)).toArray).heap[b]? =w.heap[b]? :=by
   intro b hb;simp only[World.setRow,O8];rw[be (fun e=>hb e.symm)]
  have w0: ∀(j:Nat) (p:PV),(cs.take off++news.flatten++cs.drop (off+news.length*C.size))[j]? =co p->VR M N (· <s.nx) p ((B.toList.take off++vs++B.toList.drop (off+vs.length)).toArray.getD j undef):=by
   intro j p A;rw[Ot,Po];have z0:(cs.take off).length=off:=by rw[PF];omega
   have e0:(B.toList.take off).length=off:=by rw[PF,Qm];omega
   rw[OS]at A ⊢;rcases Pw j off with h1|h1
   .rw[OQ (by omega)]at A ⊢;rw[Ph,am h1]at A ⊢;rw[O1,<-Ot];exact g4 j p A
   .rw[OO (by omega),z0]at A;rw[OO (by omega),e0];rcases Pw (j-off) news.flatten.length with h2|h2
    .rw[OQ h2]at A;rw[OQ (by rw[v1];exact h2),<-Ow];exact v3 _ p A
    .rw[OO h2,Pr,I]at A;rw[OO (by rw[v1];exact h2),Pr,p0,O1,<-Ot];rw[I]at h2;have e1:off+news.length*C.size+(j-off-news.length*C.size)=j:=by omega
     rw[e1]at A;rw[e1];exact g4 j p A
  obtain⟨q1,q2⟩:=J.1.write hi Z (w.setRow (N.az i) (B.toList.take off++vs++B.toList.drop (off+vs.length)).toArray) (.cells (cs.take off++news.flatten++cs.drop (off+news.length*C.size)) T) Z Z Z (by simp) b0
   ⟨_,CT,d0,by simp;omega,by simp[I];omega,w0,g5⟩
  refine⟨.int .i64 news.length,_,M,N,D _ _ ?_,q1,⟨q2,J.2⟩,.iv _ _ (.v _)⟩;rw[r0,s0];simp[Builtin.copy_,run_underlying o0,Builtin.lenOf,aN (f0 u _ hu),a0,hl,n0,goInt]
end
end
end Go.Al
namespace Go.Al
open Go.Sort Go.RowKit
def E9(P:Program)(D k:Nat):Prop:=
 (∀{α:Type} [Inhabited α] (enc:α->List Value) (_: ∀x,(enc x).length=k) (_: ∀x,∀v∈enc x,v.oneCell'=is) (u:α->α->Int) (_:SWO fun x y=>kw (u x y<0)) (g:Nat) (C:Array Value) (b a0 b0:Nat) (d:Array α) (w:World)
  (_: ∀args w,(callFunc g args).run P w= .ok (.enter g args) w)
  (_: ∀(m:Nat) (os:Array Obj) (dk:Array α),dk.size=d.size-> ∀x y:α,
   Calls P g (#[.agg (enc x).toArray,.agg (enc y).toArray]++C) (grow (putRowK enc k (Sort.ahead w m) b a0 dk) os) fun e j=>e= .returned (.int .i64 (u x y))∧ ∃q B,j=grow ((grow (putRowK enc k (Sort.ahead w m) b a0 dk) os).drewN q) B)
  (_:HoldsK enc k w b a0 d) (_:b<w.heap.size) (_:d.size<4611686018427387904),
  Calls P D #[.slice (co ⟨b,a0,io⟩) d.size b0,.func (.func g) #[] C] w fun e j=>
   e= .returned (.tuple #[])∧ ∃A n os,PermIn 0 d.size d A∧SortedIn (fun x y=>kw (u x y<0)) 0 d.size A∧j=grow (putRowK enc k (Sort.ahead w n) b a0 A) os)∧
 ∀(p:Option Addr) (b0:Nat) (G:Value) (w:World),Calls P D #[.slice p 0 b0,G] w fun e j=>e= .returned (.tuple #[])∧j=w
def IV.flat:IV->Bool
 | .agg _=>jp
 | .v x=>x.oneCell'
 |_=>is
theorem IR.one{M:Mem}{c:IV}{v:Value}(h:IR M c v)(hf:c.flat=is):v.oneCell'=is:=by
 cases h with
 |v=>exact hf
 |agg=>cases hf
 |_=>rfl
theorem uE{β:Type}{R:β->β->Prop}: ∀{a b:List β},a.Perm b->a.Pairwise R->b.Pairwise R->(∀x∈a,∀y∈a,R x y->R y x->x=y)->a=b
 | [],b,h,_,_,_=>h.nil_eq
 |x::a,[],h,_,_,_=>absurd h.length_eq (by simp)
 |x::a,y::b,h,h1,h2,h3=>by
  rw[Pd]at h1 h2;have e:x=y:=by
   have hx:x∈y::b:=h.mem_iff.1 (OH ..);have j:y∈x::a:=h.mem_iff.2 (OH ..);rcases OG.1 hx with hx|hx
   .exact hx
   .rcases OG.1 j with hy'|hy'
    .exact hy'.symm
    .exact h3 x (OH ..) y j (h1.1 y hy') (h2.1 x hx)
  subst e;rw[uE (h.cons_inv) h1.2 h2.2 fun u hu v A=>h3 u (OF _ hu) v (OF _ A)]
theorem Hr{M x:Mem}{N y:Nm}{A:Nat->Prop}{G:AH}{U:Nat->Prop}{w j:World}(u:Ext M N U [] w x y A G j): ∃q os,j=grow (w.drewN q) os:=by
 refine⟨j.drawn-w.drawn,j.heap.extract w.heap.size j.heap.size,?_⟩;have hh:j.heap=w.heap++j.heap.extract w.heap.size j.heap.size:=by
  refine Array.ext_getElem? fun b=>?_;by_cases hb:b<w.heap.size
  .rw[Pa hb];exact u.fL b hb fun i o I=>nomatch I
  .rw[QT (by omega),Array.getElem?_extract];have:=u.size;split
   .congr 1;omega
   .rw[QM];omega
 have hd:=u.output.drawn;have B:=u.os;have C:=u.tape;have D:=u.output.out;cases j;cases w;simp only[grow,World.drewN] at*
 subst B C D;simp only[World.mk.injEq,and_true,true_and];exact⟨hh,by omega⟩
def yo{β:Type}(M:Mem)(ev:β->List IV)(ok:β->Prop)(k:Nat):Type:=
 {p:β×List Value//ok p.1∧p.2.length=k∧(∀v∈p.2,v.oneCell'=is)∧ ∀j c,(ev p.1)[j]? =co c->IR M c (p.2.getD j undef)}
theorem uu{β:Type}{l:List β}{f:β->List IV}{i:Nat}{e:List PV}(h:(l.map fun x=>(f x).map PV.iv)[i]? =co e): ∃s,l[i]? =co s∧e=(f s).map PV.iv:=by
 rw[OC,OD]at h;obtain⟨s,h1,rfl⟩:=h;exact⟨s,h1,rfl⟩
set_option maxHeartbeats 1000000 in
theorem Bj{P:Program}{fs g k:Nat}{β:Type}(hS:E9 P fs k)(k1:ik P fs)(j1:ik P g)(r0:0<k)(ev:β->List IV)(a0:β->β->Int)(ok:β->Prop)
  (l1: ∀x y,ok x->ok y->Pure P g [ag (ev x),ag (ev y)] (pI (a0 x y))) (e0: ∀x,(ev x).length=k) (n1: ∀x,∀c∈ev x,c.flat=is)
  (Jl: ∀x,ok x-> ¬a0 x x<0) (tr: ∀x y z,ok x->ok y->ok z->a0 x y<0->a0 y z<0->a0 x z<0) (ND: ∀x y z,ok x->ok y->ok z-> ¬a0 x y<0-> ¬a0 y z<0-> ¬a0 x z<0)
  (l l':List β) (hl: ∀x∈l,ok x) (Md: ∀x∈l,∀y∈l,¬a0 x y<0-> ¬a0 y x<0->x=y) (hp:l.Perm l') (hs:l'.Pairwise fun x y=> ¬a0 y x<0) (r1:l.length<=1000000000000)
  (pv:PV) (x1: ∀M N U v,VR M N U pv v->v= .func (.func g) #[] #[]):
  bC P fs [.sl 0 0 l.length k,pv] [aP k l ev] (.bf []) [(0,co (aP k l' ev))] 1:=by
 refine⟨k1,fun M N w vs hr g0 hv=>?_⟩;obtain⟨v,v1,rfl⟩: ∃v v1,vs=[v,v1]:=by
  match vs,g0 with
  | [v,v1],_=>exact⟨v,v1,rfl⟩
 have J:=hv 0 _ Z;have g1:=x1 _ _ _ _ (hv 1 _ Z);simp only[Ql]at J;simp only[PK,Ql]at g1;subst g1;have t1:=hr.obj 0 _ Z;cases l with
 |nil=>
  have q1:l'=[]:=(hp.nil_eq).symm;subst q1;obtain⟨p,b0,rfl⟩: ∃p b0,v= .slice p 0 b0:=by
   generalize B:PV.sl 0 0 ([]:List β).length k=q at J;cases J with
   |sl i off len sz b0 h h0 h1 hc he=>cases B;simp at h0
   |lK i sz h=>exact⟨_,_,rfl⟩
   |sle i sz b0 h hc he=>cases B
   |_=>cases B
  refine(hS.2 p b0 _ w).mono ?_;rintro e w' ⟨rfl,rfl⟩;exact⟨_,M,N,.bf [],_,1,rfl,⟨rfl,rfl,rfl⟩,.refl _ _ _ _ _,hr,.bf [] #[] Z (by simp)⟩
 |cons s0 r=>
  generalize hL:s0::r=L at*
  have k0:0<L.length:=by rw[<-hL];simp
  obtain⟨b0,z1⟩: ∃b0,v= .slice (co ⟨N.az 0,0,io⟩) L.length b0:=by
   generalize hn:L.length=n at J k0;generalize B:PV.sl 0 0 n k=q at J;cases J with
   |sl i off len sz b0 h h0 h1 hc he=>cases B;exact⟨b0,by simp⟩
   |lK i sz h=>cases B;omega
   |_=>cases B
  subst z1;rcases t1 with h0|⟨_,c,T,h1,h2,h3,h4,h5⟩
  .rw[<-hL]at h0;cases h0
  rw[O3]at h3;have t0:(aP k L ev).real=is:=by rw[<-hL];rfl
  have s1:=hr.lt (i:=0) Z t0;have m0: ∀(i:Nat) (x:β),L[i]? =co x-> ∀j q,(ev x)[j]? =co q->IR M q (c.getD (i*k+j) undef):=fun i x u j q B=>by
   have:=h5 i ((ev x).map .iv) j (.iv q) (by rw[OC,u];rfl) (by rw[OC,B];rfl);cases this with
   |iv _ _ h=>exact h
  let x0:(i:Nat)->(h:i<L.length)->yo M ev ok k:=fun i h=>⟨(L[i],(O4 k).map fun j=>c.getD (i*k+j) undef),by
   have hg: ∀j,j<k-> ∃q,(ev L[i])[j]? =co q:=fun j A=>⟨_,Ox (by rw[e0];exact A)⟩
   refine⟨hl _ (Pg h),by simp,fun v hv=>?_,fun j q B=>?_⟩
   .rw[OZ]at hv;obtain⟨j,A,rfl⟩:=hv;obtain⟨q,B⟩:=hg j (PA.1 A);exact(m0 i _ (Ox h) j q B).one (n1 _ q (O9 B))
   .have A:j<k:=by rw[<-e0 L[i]];exact(Ov.1 B).1
    have:=m0 i _ (Ox h) j q B;rw[Ow,OC,RK A]
    exact this⟩
  haveI:Inhabited (yo M ev ok k):=⟨x0 0 k0⟩
  let d:Array (yo M ev ok k):=Array.ofFn (n:=L.length) fun i=>x0 i.1 i.2
  have D:d.size=L.length:=by simp[d]
  let enc:yo M ev ok k->List Value:=fun x=>x.1.2
  have I: ∀x,(enc x).length=k:=fun x=>x.2.2.1
  have z0: ∀i (h:i<L.length),d[i]! =x0 i h:=fun i h=>by
   rw[getElem!_pos d i (by rw[D];exact h)];simp[d]
  have hH:HoldsK enc k w (N.az 0) 0 d:=by
   intro t ht;rw[size_flatK,D]at ht;have B:t/k<L.length:=Nat.div_lt_of_lt_mul (by rw[RR];exact ht);have hm:t % k<k:=Nat.mod_lt _ r0;have hb:t/k*k+t % k=t:=Nat.div_add_mod' t k;have f1:t<c.size:=by omega
   constructor
   .simp only[World.cell?,h1,OY,Option.isSome_none,PX,if_false];rw[get_flatK _ _ _ _ (by rw[D];exact ht),z0 _ B];show c[t]? =co (((O4 k).map fun j=>c.getD (t/k*k+j) undef)[t % k]!);rw[getElem!_pos _ _ (by simpa using hm)];simp only[PQ,List.getElem_range,hb];rw[O2 f1,Ot,O2 f1];rfl
   .simp[World.frozen?,h1]
  have hO:SWO fun x y:yo M ev ok k=>kw (a0 x.1.1 y.1.1<0):=
   ⟨fun x=>decide_eq_false (Jl _ x.2.1),fun x y z a b=>decide_eq_true (tr _ _ _ x.2.1 y.2.1 z.2.1 (of_decide_eq_true a) (of_decide_eq_true b)),
    fun x y z a b=>decide_eq_false (ND _ _ _ x.2.1 y.2.1 z.2.1 (of_decide_eq_false a) (of_decide_eq_false b))⟩
  have R: ∀x:yo M ev ok k,VR M N (· <0) (ag (ev x.1.1)) (.agg (enc x).toArray):=fun x=>by
   refine .agg _ _ (by simp[I,e0]) fun j p A=>?_;rw[OC,OD]at A;obtain⟨q,B,rfl⟩:=A;refine .iv _ _ ?_;have:=x.2.2.2.2 j q B;rw[Ot,Po,<-Ow];exact this
  have p0: ∀(m:Nat) (os:Array Obj) (dk:Array (yo M ev ok k)),dk.size=d.size-> ∀x y:yo M ev ok k,
    Calls P g (#[.agg (enc x).toArray,.agg (enc y).toArray]++ #[]) (grow (putRowK enc k (Sort.ahead w m) (N.az 0) 0 dk) os) fun e w'=>
     e= .returned (.int .i64 (a0 x.1.1 y.1.1))∧ ∃q a2,w'=grow ((grow (putRowK enc k (Sort.ahead w m) (N.az 0) 0 dk) os).drewN q) a2:=by
   intro m os dk _ x y;generalize hW:grow (putRowK enc k (Sort.ahead w m) (N.az 0) 0 dk) os=W;have f0: ∀b,b<w.heap.size->b≠N.az 0->W.heap[b]? =w.heap[b]? :=fun b hb hn=>by
    rw[<-hW];show((w.heap.modify (N.az 0) _)++os)[b]? =_;rw[Pa (by simpa using hb),O8,be fun e=>hn e.symm]
   have v0:Rel M N (· <([]:List AO).length) (c5 0 []) W:=
    ⟨fun b c hb=>(hr.dZ b c hb).mono (f0 b (hr.dZ b c hb).lt fun e=>by
      have:=hr.dM 0 _ Z t0
      rw[e]at hb;rw[hb]at this;cases this),
     fun i o u=>(nomatch u),fun i o u=>(nomatch u),fun i o u=>(nomatch u),fun i j o p u=>(nomatch u)⟩
   refine((l1 x.1.1 y.1.1 x.2.1 y.2.1).2 M N W [.agg (enc x).toArray,.agg (enc y).toArray] v0 Z fun j p A=>?_).mono ?_
   .match j with
    |0=>cases A;exact R x
    |1=>cases A;exact R y
    |j+2=>simp at A
   .rintro e w' ⟨v,M',N',r,h',n',rfl,⟨rfl,rfl,rfl⟩,hx,_,hv⟩;cases hv with
    |iv _ _ h=>cases h;exact⟨rfl,Hr hx⟩
  have Y:=hS.1 enc I (fun x=>x.2.2.2.1) (fun x y=>a0 x.1.1 y.1.1) hO g #[] (N.az 0) 0 b0 d w j1 p0 hH s1 (by omega);rw[D]at Y;refine Y.mono ?_;rintro e w' ⟨rfl,d',n,os,hpm,hst,rfl⟩;have c0:d'.size=L.length:=hpm.1.trans D;have i1:(d'.toList.map fun x=>x.1.1)=l':=by
   have a1:(d.toList.map fun x=>x.1.1)=L:=by
    refine Rb (by simpa using D) fun i h1 h2=>?_;have h3:i<L.length:=h2;have:=z0 i h3;rw[getElem!_pos d i (by omega)]at this;rw[PQ,Array.getElem_toList,this]
   have j0:d'.toList.Perm d.toList:=by
    have:=hpm.2.2;rw[show d'.extract 0 L.length=d' by rw[<-c0,RQ],show d.extract 0 L.length=d by rw[<-D,RQ]]at this;exact this
   refine uE ((j0.map _).trans (by rw[a1];exact hp)) ?_ hs fun x hx y hy a b=>?_
   .rw[PH];intro i j u A p1;simp only[O3,Qm]at u A;have:=of_decide_eq_false (hst i j (OL _) p1 (by omega));rw[getElem!_pos d' i u,getElem!_pos d' j A]at this;simpa using this
   .have hm: ∀z,z∈(d'.toList.map fun x=>x.1.1)->z∈L:=fun z hz=>by
     rw[<-a1];exact((j0.map _).mem_iff).1 hz
    exact Md x (hm x hx) y (hm y hy) b a
  subst i1;generalize hW:putRowK enc k (Sort.ahead w n) (N.az 0) 0 d'=w1;have q0:w1.heap=w.heap.modify (N.az 0) (onCells (putCells id 0 (flatK enc k d'))):=by rw[<-hW];rfl
  have d1:w1.heap.size=w.heap.size:=by rw[q0];simp
  have w0:OR M N (· <1) w1 0 (aP k (d'.toList.map fun x=>x.1.1) ev):=by
   refine .inr ⟨r0,putCells id 0 (flatK enc k d') c,T,?_,?_,?_,?_,?_⟩
   .rw[q0,O8,am Z,h1];rfl
   .simp[putCells,h2]
   .simp only[O3,Qm,c0,putCells,Array.size_mapIdx];omega
   .intro i e he;obtain⟨s,_,rfl⟩:=uu he;simp[e0]
   .intro i e j p he A;obtain⟨s,b1,rfl⟩:=uu he;rw[OC,OD]at A;obtain⟨q,B,rfl⟩:=A;rw[OC,OD]at b1;obtain⟨y,hy,rfl⟩:=b1;have u:i<d'.size:=by
     have:=(Ov.1 hy).1;simpa using this
    have A:j<k:=by rw[<-e0 y.1.1];exact(Ov.1 B).1
    have i0:=OX k (show i+1<=d'.size from u);rw[Pv,Nat.one_mul]at i0;have m1:d'[i]! =y:=by
     rw[getElem!_pos d' i u];rw[O1,O2 u]at hy;exact Pf hy
    have d0:(putCells id 0 (flatK enc k d') c).getD (i*k+j) undef=(enc y).getD j undef:=by
     have o1:i*k+j<c.size:=by rw[c0]at i0;omega
     rw[Ot];simp only[putCells,Array.getElem?_mapIdx];rw[O2 o1,PC,Px,am ⟨OL _,by rw[size_flatK];omega⟩,Q6,id,get_flatK _ _ _ _ (by omega)];have e1:(i*k+j)/k=i:=by rw[RR,Nat.mul_add_div r0,Nat.div_eq_of_lt A];rfl
     have e2:(i*k+j) % k=j:=by rw[RR,Nat.mul_add_mod,Nat.mod_eq_of_lt A]
     rw[e1,e2,m1,getElem!_pos _ j (by rw[I];exact A),Ow,Ox (by rw[I];exact A)];rfl
    rw[d0];exact .iv _ _ (y.2.2.2.2 j q B)
  have G:=hr.write (i:=0) (o0:=aP k L ev) Z t0 w1 (aP k (d'.toList.map fun x=>x.1.1) ev) (by rw[<-hW];rfl) (by rw[<-hW];rfl) (by rw[<-hW];rfl) d1 (fun b hb=>by
   rw[q0,O8,be fun e=>hb e.symm]) w0 (by rw[<-hW];exact Rc _ _)
  have n0:Rel M N (· <1) ((0,co (aP k (d'.toList.map fun x=>x.1.1) ev))::c5 0 [aP k L ev]) (grow w1 os):=G.2.more fun b hb=>by
   show(w1.heap++os)[b]? =_;rw[Pa hb]
  have C: ∀i o,AH.get [(0,co (aP k (d'.toList.map fun x=>x.1.1) ev))] i=co o->AH.get ((0,co (aP k (d'.toList.map fun x=>x.1.1) ev))::c5 0 [aP k L ev]) i=co o:=by
   intro i o h;rw[AH.aw]at h ⊢;split at h
   .rename_i h6;rw[am h6];exact h
   .simp[AH.get]at h
  refine⟨_,M,N,.bf [],_,1,rfl,⟨rfl,rfl,rfl⟩,⟨G.1.os,G.1.tape,⟨G.1.output.out,G.1.output.drawn⟩,?_,?_,.refl _,fun b c h1 h2=>(nomatch (h1.symm.trans h2)),.refl _ _,fun _ h=>h,fun i o u=>G.1.fI i o (C i o u)⟩,?_,.bf [] #[] Z (by simp)⟩
  .show w.heap.size<=(grow w1 os).heap.size;rw[size_grow,d1];omega
  .intro b hb hn;have h7:=G.1.fL b hb hn;show(w1.heap++os)[b]? =_;rw[Pa (by omega)];exact h7
  .exact⟨n0.dZ,fun i o u=>n0.used i o (C i o u),fun i o u=>n0.dM i o (C i o u),fun i o u=>n0.obj i o (C i o u),fun i j o p u A=>n0.inj i j o p (C i o u) (C j p A)⟩
end Go.Al
namespace Go.Al
open Go.MapKept
section
section
variable {P:Program} {ty:Ty} {nt:NT} {s:AS} {Q:AQ} {k:List KI}
theorem BC(Y:bq P ty){o:Oper}{t:TypeId}{x:Operand}(ho:o.op= .range t x){i:Nat}{kc:KC}{V:Type}{e:V->IV}{z:V}{I:Value}{G:PV->V}{m:List (kc.K×V)}(hx:ev s.f x= .mp i)(hi:s.h.get i=co (.map kc e z I G m))
  {te:bB} (ht:ty t=co te) {kt et:TypeId} (R:te.k= .aL (.map kt et)) {d:Nat} (hd:o.dst=co d) (hlt:d<nt):
  OT P nt o s fun u=> ∃bs clock,bs.length=m.length∧bs.Nodup∧(∀b∈bs,b<clock)∧u=⟨(d,.ptr s.nx 0)::s.f,(s.nx,co (.dT (.mp i) clock []))::(i,co (.ig kc e z I G m bs clock))::s.h,s.nx+1⟩:=by
 have hu:P.underlying t=co (.map kt et):=by
  have:=(Y _ _ ht).2.1;rw[R]at this;exact this.1
 intro M N a w A K Z hk;have B:=aG A.2.1 x;rw[hx]at B;have J:a.eval x= .map (co (N.az i)):=by
  generalize a.eval x=y at B;cases B;rfl
 obtain⟨ents,clock,g1,g2,g3⟩:=A.1.obj i _ hi;obtain⟨q1,q2⟩:=A.1.write hi rfl w (.ig kc e z I G m (ents.toList.map MapEntry.born) clock) rfl rfl rfl rfl (fun _ _=>rfl) ⟨ents,g1,g2,g3,rfl⟩
 obtain⟨D,r1,r2,r3,r4,r5⟩:=q2.alloc (.mapIter (co (N.az i)) clock #[] clock) (.dT (.mp i) clock []) 0 (fun D h1 h2 h3=>
  ⟨N.az i,by have:=VR.mp (M:=M) (N:=D) (U:=(· <s.nx+1)) i (PS (A.1.used i _ hi));rwa[h3.az i (A.1.used i _ hi)]at this,by rw[h1];exact heap_alloc_new w _⟩)
 have C:(execOp a.eval o).run P w= .ok (.value (.pointer (co ⟨w.heap.size,0,io⟩))) (w.alloc (.mapIter (co (N.az i)) clock #[] clock)):=by
  simp only[execOp,ho,J];simp[Instr.range,run_underlying hu,getObj,Sem.run,g1,Result.andThen]
 unfold Oper.wp;rw[C];simp only[Oper.upon];refine hk M D _ _ _ (q1.trans r4) ?_ ⟨_,clock,by simp[g2.size],?_,fun b hb=>?_,rfl⟩
 .rw[hd];refine Fits.put (s:=⟨s.f,(s.nx,co (.dT (.mp i) clock []))::(i,co (.ig kc e z I G m (ents.toList.map MapEntry.born) clock))::s.h,s.nx+1⟩) ⟨r5,fun d=>(A.2.1 d).mono (.refl _) r3 (fun i hi=>PS hi),A.2.2⟩ d _ _ hlt ?_;have:=VR.ptr (M:=M) (N:=D) (U:=(· <s.nx+1)) s.nx 0 (by omega);rw[r1]at this;exact this
 .rw[List.Nodup,QA,PH];intro p q hp hq b0 he;have:=g2.inj p q _ _ (by rw[<-O1,Ox hp]) (by rw[<-O1,Ox hq]) he;omega
 .obtain⟨x,a0,rfl⟩:=OZ.1 hb;obtain⟨j,hj⟩:=Pj a0;exact g2.lt j x (by simpa using hj)
theorem DK{o:Oper}{it:Operand}(ho:o.op= .next it jp){i j:Nat}(n0:ev s.f it= .ptr i 0){kc:KC}{V:Type}{e:V->IV}{z:V}{zv:Value}{dv:PV->V}{m:List (kc.K×V)}{bs A:List Nat}{clock:Nat}
  (hi:s.h.get i=co (.dT (.mp j) clock A)) (hj:s.h.get j=co (.ig kc e z zv dv m bs clock)) {d:Nat} (hd:o.dst=co d) (hlt:d<nt):
  OT P nt o s fun u=>((∀(q b:Nat),bs[q]? =co b->b∈A)∧u=⟨(d,.bf [.kb jp])::s.f,s.h,s.nx⟩)∨
   ∃(q:Nat) (x:kc.K×V) (b:Nat),m[q]? =co x∧bs[q]? =co b∧b∉A∧u=⟨(d,.bf [.kb is,kc.pk x.1,(e x.2).pv])::s.f,(i,co (.dT (.mp j) clock (A++ [b])))::s.h,s.nx⟩:=by
 intro M N a w hf K Z hk;have hx:=aG hf.2.1 it;rw[n0]at hx;have g0:=hf.1.obj i _ hi;have a0:N.az i<w.heap.size:=OR.lt g0 rfl;have f0:a.eval it= .pointer (co ⟨N.az i,0,io⟩):=by
  generalize a.eval it=y at hx;cases hx;rfl
 obtain⟨b0,d0,h1⟩:=g0;have m0:b0=N.az j:=by cases d0;rfl
 subst m0;obtain⟨ents,hb,h3,h4,h5⟩:=hf.1.obj j _ hj;have c0: ∀x∈ents.toList,x.born<clock:=by
  intro x hx;obtain⟨j,hj⟩:=Pj hx;exact h3.lt j x (by simpa using hj)
 have e0: ∀q (G:q<ents.size),bs[q]? =co ents[q].born:=fun q G=>by
  rw[<-h5,OC,O1,O2 G];rfl
 unfold Oper.wp;rcases run_next_at (P:=P) w o.type (N.az i) (N.az j) clock clock A.toArray ents clock h1 hb c0 (OJ _) with⟨g1,g2⟩|⟨x,k0,I,j0,g2⟩
 .have D:(execOp a.eval o).run P w= .ok (.value (.tuple #[.bool jp])) w:=by
   simp only[execOp,ho,f0];exact aW g2
  rw[D];simp only[Oper.upon]
  refine hk M N ⟨(d,.bf [.kb jp])::s.f,s.h,s.nx⟩ _ w (.refl _ _ _ _ _) (by
   rw[hd]
   exact hf.put d _ _ hlt (.bf _ _ rfl fun j p C=>by
    match j with
    |0=>simp at C;subst C;exact .kb _
    |j+1=>simp at C)) (.inl ⟨fun q b G=>?_,rfl⟩)
  have p0:q<ents.size:=by
   have:=(Ov.1 G).1;rw[<-h5]at this;simpa using this
  rw[e0 q p0]at G;cases G;refine Decidable.byContradiction fun hn=>?_
  have:ents[q]∈leftOf ents A.toArray:=by
   simp only[leftOf,Ra];exact⟨by simp,by simpa using hn⟩
  rw[P2 g1]at this;simp at this
 .have D:(execOp a.eval o).run P w= .ok (.value (.tuple #[.bool is,x.key,x.val])) (lL I (N.az i) (.mapIter (co (N.az j)) clock (A.toArray.push x.born) clock)):=by
   simp only[execOp,ho,f0];rw[Sem.run_bind,g2];rfl
  rw[D];simp only[Oper.upon];simp only[leftOf,Array.mem_toList_iff,Ra]at k0;obtain⟨r0,s0⟩:=k0;obtain⟨q,G,i0⟩:=Array.getElem_of_mem r0;have q0:q<m.length:=by rw[<-h3.size];exact G
  have Y:m[q]? =co m[q]:=Ox q0;have B:I.heap=w.heap∧I.os=w.os∧I.tape=w.tape∧I.output=w.output:=by
   rcases j0 with rfl|rfl<;>exact⟨rfl,rfl,rfl,rfl⟩
  have o0:OR M N (· <s.nx) (lL I (N.az i) (.mapIter (co (N.az j)) clock (A.toArray.push x.born) clock)) i (.dT (.mp j) clock (A++ [x.born])):=by
   refine⟨N.az j,d0,?_⟩;show(I.heap.setIfInBounds _ _)[_]? =_;rw[O0,am rfl,B.1,am a0];simp
  obtain⟨q1,q2⟩:=hf.1.write hi rfl (lL I (N.az i) (.mapIter (co (N.az j)) clock (A.toArray.push x.born) clock)) _ B.2.1 B.2.2.1 B.2.2.2 (by simp[lL,B.1]) (fun c hc=>by
   show(I.heap.setIfInBounds _ _)[c]? =_
   rw[O0,be (fun e=>hc e.symm),B.1]) o0 (j0.elim (fun e=>e▸OJ _) fun e=>e▸QH _)
  have J:=h3.key q _ Y;have R:=h3.val q _ Y;rw[h3.y5 G,i0]at J R
  refine hk M N ⟨(d,.bf [.kb is,kc.pk m[q].1,(e m[q].2).pv])::s.f,(i,co (.dT (.mp j) clock (A++ [x.born])))::s.h,s.nx⟩ _ _ q1 (by
   rw[hd];refine Fits.put (s:=⟨s.f,(i,co (.dT (.mp j) clock (A++ [x.born])))::s.h,s.nx⟩) ⟨q2,hf.2⟩ d _ _ hlt (.bf _ _ rfl fun q p C=>?_)
   match q with
   |0=>simp at C;subst C;exact .kb _
   |1=>simp at C;subst C;simp only[Ot];simp;rw[J];exact uD kc _
   |2=>simp at C;subst C;exact uy R
   |q+3=>simp at C) (.inr ⟨q,m[q],x.born,Y,by rw[e0 q G,i0],by simpa using s0,rfl⟩)
theorem Ce{o:Oper}{Y:Operand}(ho:o.op= .entry Y){i j:Nat}(e0:ev s.f Y= .ptr i 0){kc:KC}{V:Type}{e:V->IV}{z:V}{zv:Value}{dv:PV->V}{m:List (kc.K×V)}{bs A:List Nat}{clock:Nat}
  (hi:s.h.get i=co (.dT (.mp j) clock A)) (hj:s.h.get j=co (.ig kc e z zv dv m bs clock)) {q:Nat} {x:kc.K×V} {b:Nat} (hl:A.getLast? =co b) (hq:bs[q]? =co b) (hm:m[q]? =co x) {s':AS}
  (hp:putDst nt o (.bf [kc.pk x.1,(e x.2).pv]) s=co s'):OT P nt o s fun u=>u=s':=by
 refine OT.value hp fun M N a w hf=>?_;have hx:=aG hf.2.1 Y;rw[e0]at hx
 have d0:a.eval Y= .pointer (co ⟨N.az i,0,io⟩):=by
  generalize a.eval Y=y at hx;cases hx;rfl
 obtain⟨b0,a0,h1⟩:=hf.1.obj i _ hi;have c0:b0=N.az j:=by cases a0;rfl
 subst c0;obtain⟨ents,hb,h3,h4,h5⟩:=hf.1.obj j _ hj;have I:q<ents.size:=by
  have:=(Ov.1 hq).1;rw[<-h5]at this;simpa using this
 have J:ents[q].born=b:=by
  rw[<-h5,OC,O1,O2 I]at hq;simpa using hq
 have B:=h3.key q _ hm;have C:=h3.val q _ hm;rw[h3.y5 I]at B C;have G:ents.find? (fun e=>e.born==b)=co ents[q]:=by
  rw[Array.find?_eq_some_iff_getElem];refine⟨by simp[J],q,I,rfl,fun p f0=>?_⟩;simp only[Py,beq_eq_false_iff_ne];intro he;have:=h3.inj p q ents[p] ents[q] (by simp) (by simp) (he.trans J.symm);omega
 refine⟨.tuple #[ents[q].key,ents[q].val],w,M,N,?_,.refl _ _ _ _ _,hf,?_⟩
 .simp only[execOp,ho,d0];refine aW ?_;have D:A.toArray.back? =co b:=by simpa using hl
  simp[Instr.entry,getObj,Sem.run,h1,hb,D,G,Result.andThen]
 .refine .bf _ _ Z fun p r R=>?_
  match p with
  |0=>simp at R;subst R;simp only[Ot];simp;rw[B];exact uD kc _
  |1=>simp at R;subst R;exact uy C
  |p+2=>simp at R
theorem zf(C:bq P ty){o:Oper}{J ko:Operand}{t t':TypeId}(ho:o.op= .call ⟨.builtin .delete, #[J,ko], #[t,t']⟩){j:Nat}(hm:ev s.f J= .mp j){kc:KC}{V:Type}{e:V->IV}{z:V}{zv:Value}{Y:PV->V}{m:List (kc.K×V)}{bs:List Nat}{clock:Nat}
  (hj:s.h.get j=co (.ig kc e z zv Y m bs clock)) {te:bB} (ht:ty t=co te) {kt et:TypeId} (d0:te.k= .aL (.map kt et)) (I:di ty kt=co kc) {R:kc.K} (b0:kc.dk (ev s.f ko)=co R) {q:Nat} (D:ji kc m R=co q) {s':AS}
  (hp:putDst nt o .any ⟨s.f,(j,co (.ig kc e z zv Y (m.eraseIdx q) (bs.eraseIdx q) clock))::s.h,s.nx⟩=co s'):OT P nt o s fun u=>u=s':=by
 have hu:P.underlying t=co (.map kt et):=by
  have:=(C _ _ ht).2.1;rw[d0]at this;exact this.1
 refine OT.value hp fun M N a w A=>?_;have e0:=A1 b0 (aG A.2.1 ko);have B:=aG A.2.1 J;rw[hm]at B
 have i0:a.eval J= .map (co (N.az j)):=by
  generalize a.eval J=y at B;cases B;rfl
 obtain⟨ents,h1,h2,h3,h4⟩:=A.1.obj j _ hj;have f0:=OR.lt (A.1.obj j _ hj) Z;have a0:=jF (P:=P) (w:=w) C I R ents.isEmpty 9994;have G:=k9 (P:=P) (w:=w) C I R h2.keys;rw[D]at G;have hg:(getObj (N.az j)).run P w= .ok (.map ents clock) w:=by simp[getObj,Sem.run,h1]
 obtain⟨v,g0,_⟩:=kz D;have j0:=(Ov.1 g0).1;have c0:=h2.erase j0
 obtain⟨g3,g4⟩:=A.1.write hj Z (lL w (N.az j) (.map (ents.eraseIdxIfInBounds q) clock)) (.ig kc e z zv Y (m.eraseIdx q) (bs.eraseIdx q) clock) Z Z Z (by simp[lL]) (fun b hb=>by
  show(w.heap.setIfInBounds _ _)[b]? =_
  rw[O0,be (fun e=>hb e.symm)]) ⟨ents.eraseIdxIfInBounds q,by
   show(w.heap.setIfInBounds _ _)[_]? =_;rw[O0,am Z,am f0],c0,h3,by
   rw[<-h4];have key: ∀(l:List MapEntry) (n:Nat),(l.eraseIdx n).map MapEntry.born=(l.map MapEntry.born).eraseIdx n:=by
    intro l
    induction l with
    |nil=>intro n;rfl
    |cons x l ih=>intro n;cases n with
     |zero=>rfl
     |succ n=>simp[List.eraseIdx,ih n]
   simp[key]⟩
 refine⟨.tuple #[],_,M,N,?_,g3,⟨g4,A.2.1,A.2.2⟩,.any _⟩;simp only[execOp,ho,resolve];simp[invoke,builtin,i0,e0,Builtin.delete_,run_underlying hu,hg,a0,G,gQ (P:=P) _ h1]
theorem HS{kc:KC}{V:Type}{e:V->IV}{z:V}{j:Value}{b:PV->V}{m:List (kc.K×V)}{bs:List Nat}{clock:Nat}:dR (.ig kc e z j b m bs clock) (.map kc e z j b m):=
 ⟨fun _=>rfl,fun _ _ _ _ _ ⟨ents,h1,h2,h3,_⟩=>⟨ents,clock,h1,h2,h3⟩⟩
end
def nM(bs vs:List Nat):List Nat:=vs.map fun j=>bs.getD j 0
theorem w9{bs vs:List Nat}{q b:Nat}(hb:bs[q]? =co b)(h:b∉nM bs vs):q∉vs:=fun m=>h (OZ.2 ⟨q,m,by rw[Ow,hb];rfl⟩)
theorem zt{n:Nat}{vs:List Nat}(hn:vs.Nodup)(b: ∀j∈vs,j<n)(h: ∀q,q<n->q∈vs):vs.Perm (O4 n):=
 (PZ hn List.nodup_range).2 fun q=>⟨fun m=>PA.2 (b q m),fun m=>h q (PA.1 m)⟩
theorem CB{n:Nat}{vs:List Nat}(hn:vs.Nodup)(u: ∀j∈vs,j<n):vs.length<=n:=by
 have:=PG hn (l₂:=O4 n) (fun i b=>PA.2 (u i b));simpa using this
theorem gz{α:Type}(m:List α)(d:α):(O4 m.length).map (fun j=>m.getD j d)=m:=by
 refine Rb (by simp) fun i h1 b=>?_;simp[Ox b]
theorem Br{bs vs:List Nat}{b:Nat}:(nM bs vs++ [b]).getLast? =co b:=by simp
theorem uq{bs vs:List Nat}{q b:Nat}(hb:bs[q]? =co b):nM bs (vs++ [q])=nM bs vs++ [b]:=by
 unfold nM;rw[OM,List.map_singleton,Ow,hb];rfl
section
variable {P:Program} {nt:NT} {Q:AQ} {k:List KI} {s:AS}
theorem Ht{body:Code}(n:Nat)(I:List Nat->AS)(J:List Nat->Prop)(B:List Nat)(R:J [])(h0:Wk s.nx B s (I []))
  (x: ∀vs:List Nat,vs.Nodup->(∀j∈vs,j<n)->J vs->GO P nt (.code body:: .lp (fun t=> ∃j,j<n∧j∉vs∧J (vs++ [j])∧ ∃L,Wk s.nx L t (I (vs++ [j])))::k) Q (I vs)):GO P nt (.code (.loop body)::k) Q s:=by
 refine gi (σ:={vs:List Nat//vs.Nodup∧(∀j∈vs,j<n)∧J vs}) (fun v=>I v.1) (fun v=>n-v.1.length) ⟨[],Pe,by simp,R⟩ B h0 fun v=>?_;obtain⟨vs,h1,C,D⟩:=v;refine kW ?_ (x vs h1 C D)
 rintro t ⟨j,g1,g2,g3,L,g4⟩;have u: ∀i∈vs++ [j],i<n:=by
  intro i hi;rcases ON.1 hi with hi|hi
  .exact C i hi
  .rw[OI.1 hi];exact g1
 have A:(vs++ [j]).Nodup:=by
  rw[PU];refine⟨h1,by simp,fun a G b hb=>?_⟩;rw[OI.1 hb];intro e;exact g2 (e▸G)
 have y:(vs++ [j]).length<=n:=by
  have:=PG A (l₂:=O4 n) (fun i hi=>PA.2 (u i hi));simpa using this
 refine⟨⟨vs++ [j],A,u,g3⟩,L,?_,g4⟩;show n-(vs++ [j]).length<n-vs.length;simp only[Oy,Pu]at y ⊢;omega
end
section
variable {n i:Nat} {σ:Nat->Nat} {h r:AH}
theorem hMb{V:Type}{kc:KC}{ev:V->IV}{z:V}{u:Value}{b:PV->V}{m j:List (kc.K×V)}{bs:List Nat}{clock:Nat}(ho:h.get (σ i)=co (.ig kc ev z u b m bs clock))(he:m=j)(hi:OV i n=is)(hr:mA n σ h r):mA n σ h ((i,co (.map kc ev z u b j))::r):=
 ⟨⟨_,ho,by subst he;exact HS⟩,Oq hi,ac,hr⟩
end
theorem qX{l:List Nat}(hn:l.Nodup){q j:Nat}(h:l[q]? =co j):l.eraseIdx q=l.filter fun x=>!(x==j):=by
 induction l generalizing q with
 |nil=>simp at h
 |cons y r ih=>
  rw[O7]at hn;cases q with
  |zero=>
   simp at h;subst h;rw[List.eraseIdx_zero,List.tail_cons,P3];simp only[beq_self_eq_true,QC,PX,if_false]
   symm
   rw[QY];intro x A;have: ¬x=y:=fun e=>hn.1 (e▸A)
   simpa using this
  |succ q=>
   have b:r[q]? =co j:=by simpa using h
   have u:j∈r:=O9 b;have: ¬y=j:=fun e=>hn.1 (e▸u);rw[List.eraseIdx_cons_succ,ih hn.2 b,P3,am (by simpa using this)]
theorem jS{α β:Type}(f:α->β): ∀(l:List α) (q:Nat),(l.map f).eraseIdx q=(l.eraseIdx q).map f
 | [],_=>rfl
 |_::_,0=>rfl
 |x::r,q+1=>by simp[List.eraseIdx,jS f r q]
def fQ(n:Nat)(dl:Nat->Bool)(vs:List Nat):List Nat:=(O4 n).filter fun j=>!(kw (j∈vs)&&dl j)
section
variable {n:Nat} {dl:Nat->Bool} {vs:List Nat}
theorem uU:fQ n dl []=O4 n:=by
 unfold fQ;rw[QY];intro j _;simp
theorem xV:(fQ n dl vs).Nodup:=QB _ List.nodup_range
theorem xW: ∀j∈fQ n dl vs,j<n:=fun _ b=>PA.1 (O5.1 b).1
theorem yX{j:Nat}(h:dl j=jp):fQ n dl (vs++ [j])=fQ n dl vs:=by
 unfold fQ;refine Qj fun i _=>?_;by_cases e:i=j
 .subst e;simp[h]
 .simp[e]
theorem B1{j q:Nat}(h:dl j=is)(b:(fQ n dl vs)[q]? =co j):fQ n dl (vs++ [j])=(fQ n dl vs).eraseIdx q:=by
 rw[qX xV b];unfold fQ;rw[List.filter_filter];refine Qj fun i _=>?_;by_cases e:i=j
 .subst e;simp[h]
 .simp[e]
theorem B3(h: ∀j∈fQ n dl vs,j∈vs):fQ n dl vs=(O4 n).filter fun j=>!dl j:=by
 unfold fQ at*
 refine Qj fun i b=>?_;by_cases e:i∈vs
 .simp[e]
 .have:i∈(O4 n).filter fun j=>!(kw (j∈vs)&&dl j):=O5.2 ⟨b,by simp[e]⟩
  exact absurd (h i this) e
end
abbrev lX{α:Type}(m:List α)(d:α)(dl:Nat->Bool)(vs:List Nat):List α:=(fQ m.length dl vs).map fun j=>m.getD j d
abbrev ni(n:Nat)(bs:List Nat)(dl:Nat->Bool)(vs:List Nat):List Nat:=(fQ n dl vs).map fun j=>bs.getD j 0
section
variable {α:Type} {m:List α} {d:α} {dl:Nat->Bool} {vs:List Nat} {bs:List Nat}
theorem BX:lX m d dl []=m:=by unfold lX;rw[uU,gz]
theorem BW:(lX m d dl vs).Sublist m:=by
 have h:((fQ m.length dl vs).map fun j=>m.getD j d).Sublist ((O4 m.length).map fun j=>m.getD j d):=List.Sublist.map _ List.filter_sublist;rwa[gz]at h
theorem BY(h:bs.length=m.length):ni m.length bs dl []=bs:=by unfold ni;rw[uU,<-h,gz]
theorem left_at{q b:Nat}{x:α}(hl:bs.length=m.length)(h1:(lX m d dl vs)[q]? =co x)(y:(ni m.length bs dl vs)[q]? =co b): ∃j,(fQ m.length dl vs)[q]? =co j∧m[j]? =co x∧bs[j]? =co b∧j<m.length:=by
 rw[OC,OD]at h1 y;obtain⟨j,g1,g2⟩:=h1;obtain⟨A,g3,g4⟩:=y;rw[g1]at g3;cases g3;have u:=xW j (O9 g1);refine⟨j,g1,?_,?_,u⟩
 .rw[<-g2,Ow,Ox u];rfl
 .rw[<-g4,Ow,Ox (by rw[hl];exact u)];rfl
theorem D0{q j:Nat}(h:dl j=is)(b:(fQ m.length dl vs)[q]? =co j):lX m d dl (vs++ [j])=(lX m d dl vs).eraseIdx q∧ni m.length bs dl (vs++ [j])=(ni m.length bs dl vs).eraseIdx q:=by
 unfold lX ni;rw[B1 h b,jS,jS];exact⟨rfl,rfl⟩
theorem D1(hl:bs.length=m.length)(hn:bs.Nodup)(J: ∀j∈vs,j<m.length)(D:α->Bool)(B: ∀j,dl j=D (m.getD j d))(h: ∀(q b:Nat),(ni m.length bs dl vs)[q]? =co b->b∈nM bs vs):lX m d dl vs=m.filter fun e=>!D e:=by
 have key: ∀j∈fQ m.length dl vs,j∈vs:=by
  intro j y;obtain⟨q,I⟩:=Pj y;have G:=xW j y;have hb:=h q (bs.getD j 0) (by unfold ni;rw[OC,I];rfl);obtain⟨i,x,u⟩:=OZ.1 hb;have C:=J i x;rw[Ow,Ow,Ox (by omega:i<bs.length),Ox (by omega:j<bs.length),Px,Px]at u;have A:=PH.1 hn;rcases QR i j with g|g|g
  .exact absurd u (A i j (by omega) (by omega) g)
  .exact g▸x
  .exact absurd u.symm (A j i (by omega) (by omega) g)
 unfold lX;rw[B3 key];have:=congrArg (List.filter fun e=>!D e) (gz m d);rw[<-this,List.filter_map];congr 1;refine Qj fun i _=>?_;simp[B]
end
theorem AT{kc:KC}{V:Type}: ∀{m:List (kc.K×V)} {q:Nat} {x:kc.K×V},(m.map (·.1)).Nodup->m[q]? =co x->ji kc m x.1=co q
 | [],q,x,_,h=>by simp at h
 |(a,b)::r,0,x,_,h=>by
  simp at h;subst h;simp[ji]
 |(a,b)::r,q+1,x,hn,h=>by
  rw[OU,O7]at hn;have j:r[q]? =co x:=by simpa using h
  have: ¬a=x.1:=fun e=>hn.1 (OZ.2 ⟨x,O9 j,e.symm⟩);simp[ji,this,AT hn.2 j]
def Nm.one(b e:Nat):Nm:=⟨fun _=>b,fun _=>e⟩
inductive SB:Type 1 where
 |obj (o:AO) (e:Nat)
 |out (i e:Nat)
abbrev bg:=Nat->Option SB
def bg.nil:bg:=fun _=>io
def bg.put(X:bg)(b:Nat)(x:SB):bg:=fun c=>if c=b then co x else X c
def bg.still(X:bg):Prop:= ∀b i e,X b≠co (.out i e)
theorem bg.eN(X:bg)(b:Nat)(x:SB):X.put b x b=co x:=by simp[bg.put]
theorem bg.ix(X:bg){b c:Nat}(x:SB)(h:c≠b):X.put b x c=X c:=by simp[bg.put,h]
theorem bg.GU(X:bg)(b:Nat)(x y:SB):(X.put b x).put b y=X.put b y:=by
 funext c;simp only[bg.put];split<;>rfl
structure dY (M:Mem) (N:Nm) (n:Nat) (h:AH) (X:bg) (w:World):Prop where
 real: ∀b o e,X b=co (.obj o e)->o.real=is
 obj: ∀b o e,X b=co (.obj o e)->OR M (Nm.one b e) (fun _=>False) w 0 o
 dZ: ∀b o e,X b=co (.obj o e)->M b=io
 apart: ∀b o e,X b=co (.obj o e)-> ∀i p,h.get i=co p->p.real=is->N.az i≠b
 out: ∀b i e,X b=co (.out i e)->i<n∧N.az i=b∧N.ext i=e
def AO.all(G:PV->Prop):AO->Prop
 | .cells cs _=> ∀p∈cs,G p
 | .row _ es=> ∀e∈es,∀p∈e,G p
 | .dT q _ _=>G q
 |_=>True
theorem AO.all_true(o:AO):o.all fun _=>True:=by cases o<;>simp[AO.all]
theorem OR.move{M J:Mem}{N B:Nm}{U U':Nat->Prop}{w I:World}{i D:Nat}{o:AO}{G:PV->Prop}(hM:M.le J)(Y:o.all G)(hV: ∀p x,G p->VR M N U p x->VR J B U' p x)
  (hb:B.az D=N.az i) (he:B.ext D=N.ext i) (hw:I.heap[N.az i]? =w.heap[N.az i]?) (h:OR M N U w i o):OR J B U' I D o:=by
 cases o with
 |cells cs T0=>
  obtain⟨c,T,h1,u,y,A,R⟩:=h;exact⟨c,T,by rw[hb,hw,h1],by rw[he,u],y,fun j p C=>hV _ _ (Y p (O9 C)) (A j p C),R⟩
 |row sz es=>
  rcases h with h|⟨h0,c,T,h1,u,y,A,R⟩
  .exact .inl h
  exact .inr ⟨h0,c,T,by rw[hb,hw,h1],by rw[he,u],y,A,fun k e j p hk C=>hV _ _ (Y e (O9 hk) p (O9 C)) (R k e j p hk C)⟩
 |bh l T=>
  rcases h with h|⟨c,h1,u,y,A⟩
  .exact .inl h
  exact .inr ⟨c,by rw[hb,hw,h1],by rw[he,u],y,A⟩
 |fg=>show I.heap[B.az D]? =_;rw[hb,hw];exact h
 |map kc ev z zv dv m=>
  obtain⟨e,cl,h1,u,y⟩:=h;exact⟨e,cl,by rw[hb,hw,h1],u.mono hM,y.mono hM⟩
 |bF kc ev m l cu=>
  rcases h with⟨h1,u,y,A⟩|⟨b,e,cl,se,h1,u,y,A⟩
  .exact .inl ⟨h1,u,y,by rw[hb,hw,A]⟩
  .exact .inr ⟨b,e,cl,se,by rw[hb,hw,h1],hM _ _ u,y.mono hM,A⟩
 |dJ s p=>show I.heap[B.az D]? =_;rw[hb,hw];exact h
 |ig kc ev z zv dv m bs c=>
  obtain⟨e,h1,u,y,A⟩:=h;exact⟨e,by rw[hb,hw,h1],u.mono hM,y.mono hM,A⟩
 |dT q c l=>
  obtain⟨b,h1,u⟩:=h;exact⟨b,hV _ _ Y h1,by rw[hb,hw,u]⟩
theorem VR.Ah{M b:Mem}{N j:Nm}{u:Nat->Prop}(hM:M.le b){p:PV}{x:Value}(h:VR M N (fun _=>False) p x):VR b j u p x:=
 h.mono hM ⟨fun _ h=>h.elim,fun _ h=>h.elim⟩ (fun _ h=>h.elim)
def PV.flat:PV->Prop
 | .iv _=>True
 | .kb _=>True
 | .any=>True
 |_=>False
theorem VR.Gn{M:Mem}{N j:Nm}{U u:Nat->Prop}{p:PV}{x:Value}(hp:p.flat)(h:VR M N U p x):VR M j u p x:=by
 cases h with
 |iv x y h=>exact .iv _ _ h
 |kb b=>exact .kb _
 |any x=>exact .any _
 |_=>exact hp.elim
def Own(N:Nm)(h:AH)(X:bg)(b:Nat):Prop:=(∃i o,h.get i=co o∧o.real=is∧N.az i=b)∨ ∃o e,X b=co (.obj o e)
structure js (M:Mem) (N:Nm) (n:Nat) (h:AH) (X:bg) (w:World) (M':Mem) (N':Nm) (n':Nat) (h':AH) (X':bg) (w':World):Prop where
 os:w'.os=w.os
 tape:w'.tape=w.tape
 output:qQ w w'
 size:w.heap.size<=w'.heap.size
 fL: ∀b,b<w.heap.size-> ¬Own N h X b->w'.heap[b]? =w.heap[b]?
 ot:M.le M'
 gq: ∀b c,M b=io->M' b=co c->w.heap.size<=b∨Own N h X b
 nm:N.agree N' (· <n)
 ule:n<=n'
 fI: ∀b,Own N' h' X' b->w.heap.size<=b∨Own N h X b
theorem js.refl(M:Mem)(N:Nm)(n:Nat)(h:AH)(X:bg)(w:World):js M N n h X w M N n h X w:=
 ⟨rfl,rfl,⟨rfl,OJ _⟩,OJ _,fun _ _ _=>rfl,.refl _,fun b c h1 j=>by simp[h1]at j,.refl _ _,OJ _,fun _ h=> .inr h⟩
theorem js.trans{M u x:Mem}{N y A:Nm}{n I J:Nat}{h h1 D:AH}{X B C:bg}{w R Y:World}
  (a:js M N n h X w u y I h1 B R) (b:js u y I h1 B R x A J D C Y):js M N n h X w x A J D C Y where
 os:=b.os.trans a.os
 tape:=b.tape.trans a.tape
 output:=b.output.trans a.output
 size:=Pm a.size b.size
 fL:=fun k hk G=>by
  rw[b.fL k (Qb hk a.size) (fun ho=>?_),a.fL k hk G];rcases a.fI k ho with h3|h3
  .omega
  .exact G h3
 ot:=a.ot.trans b.ot
 gq:=fun k c h3 h4=>by
  cases h5:u k with
  |some c'=>exact a.gq k c' h3 h5
  |none=>
   rcases b.gq k c h5 h4 with h6|h6
   .exact .inl (Pm a.size h6)
   .exact a.fI k h6
 nm:=⟨fun i j=>(b.nm.az i (Qb j a.ule)).trans (a.nm.az i j),fun i j=>(b.nm.ext i (Qb j a.ule)).trans (a.nm.ext i j)⟩
 ule:=Pm a.ule b.ule
 fI:=fun k hk=>by
  rcases b.fI k hk with h3|h3
  .exact .inl (Pm a.size h3)
  .exact a.fI k h3
theorem js.frame{M R:Mem}{N Y:Nm}{n J:Nat}{h h':AH}{X:bg}{w w':World}(x:Ext M N (· <n) h w R Y (· <J) h' w')(hs:dY M N n h X w):
  js M N n h X w R Y J h' X w'∧dY R Y J h' X w':=by
 have D: ∀b o e,X b=co (.obj o e)->b<w.heap.size:=fun b o e hb=>(hs.obj b o e hb).lt (hs.real b o e hb);have B:n<=J:=Qc fun hh=>absurd (x.ule J hh) (RN _);refine⟨⟨x.os,x.tape,x.output,x.size,fun b hb hn=>x.fL b hb fun i o hi I he=>hn (.inl ⟨i,o,hi,I,he⟩),x.ot,fun b c h1 h2=>?_,x.nm,B,fun b hb=>?_⟩,hs.real,fun b o e hb=>?_,fun b o e hb=>?_,fun b o e hb i p hi I a0=>?_,fun b i e hb=>?_⟩
 .rcases x.gq b c h1 h2 with u|⟨i,o,u,C,A⟩
  .exact .inl u
  .exact .inr (.inl ⟨i,o,u,C,A⟩)
 .rcases hb with⟨i,o,u,C,A⟩|hb
  .rcases x.fI i o u C with h6|⟨j,p,h6,h7,h8⟩
   .exact .inl (A▸h6)
   .exact .inr (.inl ⟨j,p,h6,h7,h8.trans A⟩)
  .exact .inr (.inr hb)
 .refine OR.move (G:=fun _=>True) x.ot (AO.all_true o) (fun p y _ hv=>hv.Ah x.ot) Z Z ?_ (hs.obj b o e hb);exact x.fL b (D b o e hb) (hs.apart b o e hb)
 .cases hM:R b with
  |none=>rfl
  |some c=>
   rcases x.gq b c (hs.dZ b o e hb) hM with u|⟨i,p,u,C,A⟩
   .have:=D b o e hb;omega
   .exact absurd A (hs.apart b o e hb i p u C)
 .rcases x.fI i p hi I with u|⟨j,q,u,C,A⟩
  .have:=D b o e hb;omega
  .exact hs.apart b o e hb j q u C (A.trans a0)
 .obtain⟨h1,h2,u⟩:=hs.out b i e hb;exact⟨Qb h1 B,(x.nm.az i h1).trans h2,(x.nm.ext i h1).trans u⟩
theorem js.Kd{M B:Mem}{N C:Nm}{n G:Nat}{h D:AH}{J:bg}{w I:World}(x:js M N n h bg.nil w B C G D J I):Ext M N (· <n) h w B C (· <G) D I:=by
 have j: ∀b,Own N h bg.nil b-> ∃i o,h.get i=co o∧o.real=is∧N.az i=b:=fun b hb=>by
  rcases hb with hb|⟨o,e,hb⟩
  .exact hb
  .cases hb
 refine⟨x.os,x.tape,x.output,x.size,fun b hb Y=>x.fL b hb fun ho=>?_,x.ot,fun b c h1 u=>?_,x.nm,fun i y=>Qb y x.ule,fun i o y A=>?_⟩
 .obtain⟨i,o,h1,u,R⟩:=j b ho;exact Y i o h1 u R
 .exact(x.gq b c h1 u).imp id (j b)
 .exact(x.fI _ (.inl ⟨i,o,y,A,rfl⟩)).imp id (j _)
theorem dY.nil(M:Mem)(N:Nm)(n:Nat)(h:AH)(w:World):dY M N n h bg.nil w:=⟨nofun,nofun,nofun,nofun,nofun⟩
abbrev XQ:=Exit->AS->bg->Prop
def mz(nt:NT)(M:Mem)(N:Nm)(s:AS)(X:bg)(w:World)(R:XQ):Exit->Act->World->Prop:=fun e y x=>
 ∃b j s' u,js M N s.nx s.h X w b j s'.nx s'.h u x∧Fits b j s' nt y x∧dY b j s'.nx s'.h u x∧R e s' u
theorem mz.later{nt:NT}{M b:Mem}{N j:Nm}{s s':AS}{X u:bg}{w y:World}{R:XQ}{e:Exit}{a:Act}{A:World}
  (x:js M N s.nx s.h X w b j s'.nx s'.h u y) (h:mz nt b j s' u y R e a A):mz nt M N s X w R e a A:=by
 obtain⟨B,C,I,D,h1,G⟩:=h;exact⟨B,C,I,D,x.trans h1,G⟩
theorem mz.now{nt:NT}{M:Mem}{N:Nm}{s:AS}{X:bg}{w:World}{R:XQ}{e:Exit}{a:Act}(hf:Fits M N s nt a w)(hs:dY M N s.nx s.h X w)(h:R e s X):mz nt M N s X w R e a w:=
 ⟨M,N,s,X,.refl _ _ _ _ _ _,hf,hs,h⟩
def AX(P:Program)(nt:NT)(c:Code)(R:XQ)(s:AS)(X:bg):Prop:= ∀M N a w,Fits M N s nt a w->dY M N s.nx s.h X w->c.wp P (mz nt M N s X w R) a w
def ALX(P:Program)(nt:NT)(all rest:List Oper)(R:XQ)(s:AS)(X:bg):Prop:= ∀M N a w,Fits M N s nt a w->dY M N s.nx s.h X w->wpList P all.toArray (mz nt M N s X w R) rest a w
def SLX(P:Program)(nt:NT)(all rest:List Oper)(R:XQ)(s:AS)(X:bg):Prop:= ∀M N a w,Fits M N s nt a w->dY M N s.nx s.h X w->
 wpStill P all.toArray w (fun b=>mz nt M N s X w R .normal b w) rest a
inductive XI where
 |qR (all rest:List Oper)
 |code (c:Code)
 |az (id:Nat)
 |ops (all rest:List Oper)
 |lp (R:AS->bg->Prop)
 |Cr
def kx(P:Program)(nt:NT):List XI->XQ->XQ
 | [],Q=>Q
 | .code c::k,Q=>fun e s X=>match e with| .normal=>AX P nt c (kx P nt k Q) s X|e=>kx P nt k Q e s X
 | .ops all rest::k,Q=>fun e s X=>match e with| .normal=>ALX P nt all rest (kx P nt k Q) s X|e=>kx P nt k Q e s X
 | .qR all rest::k,Q=>fun e s X=>match e with| .normal=>SLX P nt all rest (kx P nt k Q) s X|e=>kx P nt k Q e s X
 | .lp R::k,Q=>fun e s X=>match e with| .normal=>R s X|e=>kx P nt k Q e s X
 | .az id::k,Q=>fun e s X=>match e with| .exit j=>if j=id then kx P nt k Q .normal s X else kx P nt k Q (.exit j) s X|e=>kx P nt k Q e s X
 | .Cr::k,Q=>fun e s X=>match e with| .goto _=>False|e=>kx P nt k Q e s X
def GX(P:Program)(nt:NT)(k:List XI)(Q:XQ)(s:AS)(X:bg):Prop:=kx P nt k Q .normal s X
section
variable {P:Program} {nt:NT} {Q:XQ} {k:List XI} {s:AS} {X:bg}
theorem AX.then{c:Code}{R:XQ}(h:AX P nt c R s X){M:Mem}{N:Nm}{a:Act}{w:World}(hf:Fits M N s nt a w)(hs:dY M N s.nx s.h X w){Z:Exit->Act->World->Prop}
  (A: ∀e y b j u s' x,js M N s.nx s.h X w j u s'.nx s'.h x b->Fits j u s' nt y b->dY j u s'.nx s'.h x b->R e s' x->Z e y b):c.wp P Z a w:=
 wp_mono (h M N a w hf hs) fun e y b ⟨j,u,s',x,h1,h2,h3,h4⟩=>A e y b j u s' x h1 h2 h3 h4
theorem MS{j:AQ}{k0:List KI}{c:Code}(h:GX P nt [.code c] (fun e t _=>kp P nt k0 j e t) s bg.nil):GO P nt (.code c::k0) j s:=by
 intro M N a w y;exact AX.then h y (.nil ..) fun e D G u x s' C B b _ A=>⟨u,x,s',B.Kd,b,A⟩
theorem jb{c:Code}(h:GO P nt [.code c] (fun e u=>kx P nt k Q e u X) s):GX P nt (.code c::k) Q s X:=by
 intro M N a w A hs;refine AW.then h A fun e D G j x s' C b B=>?_;obtain⟨h1,y⟩:=js.frame C hs;exact⟨j,x,s',X,h1,b,y,B⟩
theorem cP{x y:Code}(h:GX P nt (.code x:: .code y::k) Q s X):GX P nt (.code (.seq x y)::k) Q s X:=by
 intro M N a w hf hs;refine wp_seq (AX.then h hf hs fun e a' w' I R s' X' G b j D=>?_);cases e with
 |normal=>exact AX.then D b j fun e a2 w2 J Y s2 X2 C u B A=>⟨J,Y,s2,X2,G.trans C,u,B,A⟩
 |_=>exact⟨I,R,s',X',G,b,j,D⟩
theorem rk(h:GX P nt k Q s X):GX P nt (.code .skip::k) Q s X:=fun _ _ _ _ b hs=>wp_skip (.now b hs h)
theorem rn{id:Nat}(h:kx P nt k Q (.exit id) s X):GX P nt (.code (.exit id)::k) Q s X:=fun _ _ _ _ b hs=>wp_exit (.now b hs h)
theorem Ec{id:Nat}(h:GX P nt k Q s X):GX P nt (.az id::k) Q s X:=h
theorem hZ{id:Nat}{x:Code}(h:GX P nt (.code x:: .az id::k) Q s X):GX P nt (.code (.block id x)::k) Q s X:=by
 intro M N a w I hs;refine wp_block (AX.then h I hs fun e J R A B s' C G b u y=>?_);cases e with
 |exit j=>
  simp only[kx]at y;simp only[Exit.inBlock];split
  .rename_i D;rw[am D]at y;exact⟨A,B,s',C,G,b,u,y⟩
  .rename_i D;rw[be D]at y;exact⟨A,B,s',C,G,b,u,y⟩
 |_=>exact⟨A,B,s',C,G,b,u,y⟩
theorem uW{id:Nat}{ops:Array Oper}(h:GX P nt (.ops ops.toList ops.toList::k) Q s X):GX P nt (.code (.region id ops jp)::k) Q s X:=by
 intro M N a w b hs;refine wp_region_list ?_;have:=h M N a w b hs;simpa using this
theorem sJ{all:List Oper}(h:GX P nt k Q s X):GX P nt (.ops all []::k) Q s X:=fun _ _ _ _ b hs=>wpList_nil (mz.now b hs h)
theorem rq{c:Operand}{x y:Code}{t:Bool}(hc:ev s.f c= .iv (.v (.bool t)))(h1:t=is->GX P nt (.code x::k) Q s X)(u:t=jp->GX P nt (.code y::k) Q s X):
  GX P nt (.code (.cond c x y)::k) Q s X:=by
 intro M N a w b hs;refine wp_cond_split (b.bool hc) (fun j=>?_) (fun j=>?_)
 .exact h1 j M N a w b hs
 .exact u j M N a w b hs
theorem vO{o:Oper}{a:Act}{w:World}{K K':Act->World->Prop}{Q j:Exit->Act->World->Prop}(h: ∀a w,K a w->K' a w)(u: ∀e a w,e≠ .normal->Q e a w->j e a w)(hh:o.wp P a w K Q):o.wp P a w K' j:=by
 have hl:LetsOut Q->LetsOut j:=fun⟨a,w,x⟩=>⟨a,w,u _ _ _ (by simp) x⟩
 unfold Oper.wp at*
 generalize(execOp a.eval o).run P w=r at*
 cases r with
 |ok n w'=>
  cases n<;>simp only[Oper.upon]at hh ⊢ <;>
   first
    |exact h _ _ hh
    |exact Calls.mono hh (fun e y b=>by cases e<;>first|exact h _ _ b|exact hl b|exact u _ _ _ (by simp) b)
    |exact Rows.mono hh (fun _ _ b=>h _ _ b)
 |halt x w'=>cases x<;>simp only[Oper.upon]at hh ⊢ <;>exact u _ _ _ (by simp) hh
theorem nA{ops:Array Oper}{u x:Exit->Act->World->Prop}(j:List Oper)(y: ∀a w,u .normal a w->wpList P ops x j a w)(b: ∀e a w,e≠ .normal->u e a w->x e a w): ∀(l:List Oper) (a:Act) (w:World),wpList P ops u l a w->wpList P ops x (l++j) a w
 | [],a,w,h=>y _ _ h
 |o::r,a,w,h=>by
  rw[PO];rw[wpList]at h ⊢;split
  .rename_i A;rw[am A]at h;exact h.imp (vO (nA j y b r) b) (fun⟨h3,a1,w1,h4⟩=>⟨h3,a1,w1,b _ _ _ (by simp) h4⟩)
  .rename_i A;rw[be A]at h;exact nA j y b r _ _ h
theorem B5{all I j:List Oper}(h:GO P nt [.ops all I] (fun e u=>kx P nt (.ops all j::k) Q e u X) s):GX P nt (.ops all (I++j)::k) Q s X:=by
 intro M N a w Y hs;refine nA j (fun A J C=>?_) (fun e A J R C=>?_) I a w (h M N a w Y)
 .obtain⟨x,y,s',G,b,D⟩:=C;obtain⟨h1,B⟩:=js.frame G hs;have:=D x y A J b B;exact eF (fun _ _ _=>mz.later h1) j A J this
 .obtain⟨x,y,s',G,b,D⟩:=C;obtain⟨h1,B⟩:=js.frame G hs;refine⟨x,y,s',X,h1,b,B,?_⟩;cases e with
  |normal=>exact absurd Z R
  |_=>exact D
theorem rm{all rest:List Oper}(m:Nat)(h:GO P nt [.ops all (rest.take m)] (fun e u=>kx P nt (.ops all (rest.drop m)::k) Q e u X) s):GX P nt (.ops all rest::k) Q s X:=by
 have:=B5 h;rwa[List.take_append_drop]at this
def SX(nt:NT)(s:AS)(X:bg)(T:AS->bg->Prop):Prop:= ∀M N a w,Fits M N s nt a w->dY M N s.nx s.h X w->
 ∃b j t Y,js M N s.nx s.h X w b j t.nx t.h Y w∧Fits b j t nt a w∧dY b j t.nx t.h Y w∧T t Y
theorem Jm{c:Code}{T:AS->bg->Prop}(h:SX nt s X T)(hk: ∀t Y,T t Y->GX P nt (.code c::k) Q t Y):GX P nt (.code c::k) Q s X:=by
 intro M N a w I hs;obtain⟨R,N',t,Y,h1,C,D,G⟩:=h M N a w I hs;exact AX.then (hk t Y G) C D fun e a2 w2 y A J B x b u j=>⟨y,A,J,B,h1.trans x,b,u,j⟩
theorem wb{all rest:List Oper}{T:AS->bg->Prop}(h:SX nt s X T)(hk: ∀t Y,T t Y->GX P nt (.ops all rest::k) Q t Y):GX P nt (.ops all rest::k) Q s X:=by
 intro M N a w A hs;obtain⟨b,j,t,Y,h1,u,x,y⟩:=h M N a w A hs;exact eF (fun _ _ _=>mz.later h1) rest a w (hk t Y y b j a w u x)
theorem MR{body:Code}{σ:Type 1}(I:σ->AS)(J:σ->bg)(μ:σ->Nat)(i0:σ)(L0:List Nat)(h0:Wk s.nx L0 s (I i0))(A:J i0=X)(j0: ∀i,(J i).still)
  (B: ∀i,GX P nt (.code body:: .lp (fun t Y=> ∃j L,μ j<μ i∧Wk s.nx L t (I j)∧Y=J j)::k) Q (I i) (J i)):GX P nt (.code (.loop body)::k) Q s X:=by
 intro R N0 a0 w0 d0 g0
 let K:Act->World->Nat->Prop:=fun a w n=> ∃i M N,μ i=n∧js R N0 s.nx s.h X w0 M N (I i).nx (I i).h (J i) w∧Fits M N (I i) nt a w∧dY M N (I i).nx (I i).h (J i) w
 have c0:K a0 w0 (μ i0):=by
  obtain⟨h1,h2⟩:=js.frame (h0.ext (.refl R N0 (· <s.nx) s.h w0)) g0;exact⟨i0,R,N0.comp (sg s.nx L0),rfl,by rw[A];exact h1,h0.fits d0,by rw[A];exact h2⟩
 refine wp_loop (fun a w=> ∃n,K a w n) (fun a w=>by classical exact if h: ∃n,K a w n then QV (cQ h) else 0) ⟨_,c0⟩ fun a w b0=>?_;obtain⟨⟨i,M,N,y,hx,hf,hs⟩,e0⟩:=Qa (cQ b0);refine AX.then (B i) hf hs fun e a' w' M' N' s' X' D C x hr=>?_
 cases e with
 |normal=>
  obtain⟨j,L,hj,G,hY⟩:=hr
  have A:K a' w' (μ j):=⟨j,M',N'.comp (sg s.nx L),rfl,by
   have u:=hx.trans D;rw[hY]at u x;refine⟨u.os,u.tape,u.output,u.size,u.fL,u.ot,u.gq,⟨fun i y=>?_,fun i y=>?_⟩,by have:=G.nx;omega,fun b hb=>u.fI b ?_⟩
   .simp only[Nm.comp,fj y];exact u.nm.az i y
   .simp only[Nm.comp,fj y];exact u.nm.ext i y
   .rcases hb with⟨i,o,h3,h4,h5⟩|hb
    .obtain⟨⟨o',g1,g2⟩,_⟩:=gI G.h i o h3;exact .inl ⟨_,o',g1,g2.real ((AO.bT _ o).trans h4),h5⟩
    .exact .inr hb,G.fits C,by
   rw[hY]at x;refine⟨x.real,x.obj,x.dZ,fun b o e hb i p y f0=>?_,fun b i e hb=>?_⟩
   .obtain⟨⟨o',g1,g2⟩,_⟩:=gI G.h i p y;exact x.apart b o e hb _ o' g1 (g2.real ((AO.bT _ p).trans f0))
   .exact absurd hb (j0 j b i e)⟩
  refine⟨⟨_,A⟩,?_⟩;simp only[dif_pos b0,dif_pos (⟨_,A⟩: ∃n,K a' w' n)];rw[<-y];exact RP ((Qa (cQ (⟨_,A⟩: ∃n,K a' w' n))).2 _ A) hj
 |_=>exact⟨M',N',s',X',hx.trans D,C,x,hr⟩
theorem Kj{b e d:Nat}{o:AO}{p:PV}(hX:X b=co (.obj o e))(hp: ∀(M:Mem) (N:Nm) (U:Nat->Prop) (x:Value),U s.nx->N.az s.nx=b->N.ext s.nx=e->VR M N U (s.f.get d) x->VR M N U p x):
  SX nt s X (fun t Y=>t=⟨(d,p)::s.f,(s.nx,co o)::s.h,s.nx+1⟩∧Y=X.put b (.out s.nx e)):=by
 intro M N a w hf hs;obtain⟨f,h,n⟩:=s
 let N':Nm:=⟨fun j=>if j=n then b else N.az j,fun j=>if j=n then e else N.ext j⟩
 have A:N.agree N' (· <n):=⟨fun i D=>be (Rx D),fun i D=>be (Rx D)⟩
 have I:N'.az n=b:=am Z;have a0:N'.ext n=e:=am Z;have hU: ∀i,i<n->i<n+1:=fun i D=>PS D;have c0:=hs.real b o e hX
 have C: ∀i q,AH.get ((n,co o)::h) i=co q->(i=n∧q=o)∨(i<n∧h.get i=co q):=by
  intro i q D;rw[AH.aw]at D;split at D
  .rename_i b0;exact .inl ⟨b0,by simpa using D.symm⟩
  .exact .inr ⟨hf.1.used i q D,D⟩
 refine⟨M,N',⟨(d,p)::f,(n,co o)::h,n+1⟩,X.put b (.out n e),⟨rfl,rfl,⟨rfl,OJ _⟩,OJ _,fun _ _ _=>rfl,.refl _,fun c m h1 h2=>by simp[h1]at h2,A,QH _,fun c B=> .inr ?_⟩,⟨⟨hf.1.dZ,fun i q D=>?_,fun i q D hr=>?_,fun i q D=>?_,fun i j q r D hj hq hr he=>?_⟩,fun k=>?_,hf.2.2⟩,⟨fun c q g B=>?_,fun c q g B=>?_,fun c q g B=>?_,fun c q g B i r D hr=>?_,fun c i g B=>?_⟩,rfl,rfl⟩
 .rcases B with⟨i,q,h1,h2,h3⟩|⟨q,g,h1⟩
  .rcases C i q h1 with⟨rfl,rfl⟩|⟨J,R⟩
   .rw[I]at h3;subst h3;exact .inr ⟨_,_,hX⟩
   .exact .inl ⟨i,q,R,h2,by rw[<-h3];exact(A.az i J).symm⟩
  .by_cases u:c=b
   .subst u;rw[bg.eN]at h1;cases h1
   .rw[bg.ix _ _ u]at h1;exact .inr ⟨q,g,h1⟩
 .rcases C i q D with⟨rfl,rfl⟩|⟨J,_⟩
  .exact P7 _
  .exact hU i J
 .rcases C i q D with⟨rfl,rfl⟩|⟨J,R⟩
  .rw[I];exact hs.dZ _ _ _ hX
  .rw[A.az i J];exact hf.1.dM i q R hr
 .rcases C i q D with⟨rfl,rfl⟩|⟨J,R⟩
  .exact OR.move (G:=fun _=>True) (.refl _) (AO.all_true _) (fun p y _ hv=>hv.Ah (.refl _)) I a0 Z (hs.obj b _ e hX)
  .exact(hf.1.obj i q R).mono (.refl _) A hU J Z
 .rcases C i q D with⟨rfl,rfl⟩|⟨J,R⟩<;>rcases C j r hj with⟨h6,rfl⟩|⟨h6,h7⟩
  .exact h6.symm
  .rw[I,A.az j h6]at he;exact absurd he.symm (hs.apart b _ e hX j r h7 hr)
  .subst h6;rw[I,A.az i J]at he;exact absurd he (hs.apart b _ e hX i q R hq)
  .rw[A.az i J,A.az j h6]at he;exact hf.1.inj i j q r R h7 hq hr he
 .rw[AF.aw];split
  .rename_i hk;subst hk;exact hp M N' _ _ (P7 _) I a0 ((hf.2.1 k).mono (.refl _) A hU)
  .exact(hf.2.1 k).mono (.refl _) A hU
 all_goals by_cases u:c=b
 .subst u;rw[bg.eN]at B;cases B
 .rw[bg.ix _ _ u]at B;exact hs.real c q g B
 .subst u;rw[bg.eN]at B;cases B
 .rw[bg.ix _ _ u]at B;exact hs.obj c q g B
 .subst u;rw[bg.eN]at B;cases B
 .rw[bg.ix _ _ u]at B;exact hs.dZ c q g B
 .subst u;rw[bg.eN]at B;cases B
 .rw[bg.ix _ _ u]at B;rcases C i r D with⟨rfl,rfl⟩|⟨J,R⟩
  .rw[I];exact fun e=>u e.symm
  .rw[A.az i J];exact hs.apart c q g B i r R hr
 .subst u;rw[bg.eN]at B;cases B;exact⟨P7 _,I,a0⟩
 .rw[bg.ix _ _ u]at B;obtain⟨h1,h2,h3⟩:=hs.out c i g B;exact⟨hU i h1,(A.az i h1).trans h2,(A.ext i h1).trans h3⟩
theorem Be{b e d:Nat}{o:AO}(u:X b=co (.obj o e))(hd:s.f.get d= .iv (.v (.map (co b)))):
  SX nt s X (fun t Y=>t=⟨(d,.mp s.nx)::s.f,(s.nx,co o)::s.h,s.nx+1⟩∧Y=X.put b (.out s.nx e)):=
 Kj u fun M N U x hu hb hE j=>by
  rw[hd]at j;cases j with
  |iv _ _ hi=>cases hi with
   |v=>
    have:=VR.mp (M:=M) (N:=N) s.nx hu;rw[hb]at this;exact this
theorem Rel.drop{M:Mem}{N:Nm}{n:Nat}{h:AH}{w:World}(hr:Rel M N (· <n) h w)(i:Nat):Rel M N (· <n) ((i,io)::h) w:=
 ⟨hr.dZ,fun j o b=>hr.used j o (a8 j o b).2,fun j o b u=>hr.dM j o (a8 j o b).2 u,fun j o b=>hr.obj j o (a8 j o b).2,fun j l o p b hl y A x=>hr.inj j l o p (a8 j o b).2 (a8 l p hl).2 y A x⟩
theorem zQ{M:Mem}{N:Nm}{n:Nat}{h:AH}{w:World}(hr:Rel M N (· <n) h w)(hs:dY M N n h X w){i:Nat}{o:AO}(hi:h.get i=co o)(A:o.real=is)(D:o.all PV.flat):
  js M N n h X w M N n ((i,io)::h) (X.put (N.az i) (.obj o (N.ext i))) w∧dY M N n ((i,io)::h) (X.put (N.az i) (.obj o (N.ext i))) w:=by
 refine⟨⟨rfl,rfl,⟨rfl,OJ _⟩,OJ _,fun _ _ _=>rfl,.refl _,fun b c h1 B=>by simp[h1]at B,.refl _ _,OJ _,fun c y=> .inr ?_⟩,fun c q g y=>?_,fun c q g y=>?_,fun c q g y=>?_,fun c q g y j r I C=>?_,fun c j g y=>?_⟩
 .rcases y with⟨j,q,h1,B,J⟩|⟨q,g,h1⟩
  .exact .inl ⟨j,q,(a8 j q h1).2,B,J⟩
  .by_cases u:c=N.az i
   .exact .inl ⟨i,o,hi,A,u.symm⟩
   .rw[bg.ix _ _ u]at h1;exact .inr ⟨q,g,h1⟩
 all_goals by_cases u:c=N.az i
 .subst u;rw[bg.eN]at y;cases y;exact A
 .rw[bg.ix _ _ u]at y;exact hs.real c q g y
 .subst u;rw[bg.eN]at y;cases y;exact OR.move (G:=PV.flat) (N:=N) (i:=i) (.refl _) D (fun p x R Y=>Y.Gn R) Z Z Z (hr.obj i o hi)
 .rw[bg.ix _ _ u]at y;exact hs.obj c q g y
 .subst u;exact hr.dM i o hi A
 .rw[bg.ix _ _ u]at y;exact hs.dZ c q g y
 .obtain⟨h1,B⟩:=a8 j r I;subst u;exact fun e=>h1 (hr.inj j i r o B hi C A e)
 .rw[bg.ix _ _ u]at y;exact hs.apart c q g y j r (a8 j r I).2 C
 .subst u;rw[bg.eN]at y;cases y
 .rw[bg.ix _ _ u]at y;exact hs.out c j g y
theorem Mk{b e i:Nat}{o:AO}(B:X b=co (.out i e))(hi:s.h.get i=co o)(x:o.real=is)(u:o.all PV.flat):
  SX nt s X (fun t Y=>t=⟨s.f,(i,io)::s.h,s.nx⟩∧Y=X.put b (.obj o e)):=by
 intro M N a w j hs;obtain⟨h1,rfl,rfl⟩:=hs.out b i e B;obtain⟨y,A⟩:=zQ j.1 hs hi x u;exact⟨M,N,⟨s.f,(i,io)::s.h,s.nx⟩,_,y,⟨j.1.drop i,j.2⟩,A,rfl,rfl⟩
theorem Kl{i d:Nat}{o:AO}{G:Nat->Nat->PV->Prop}(C:X.still)(hi:s.h.get i=co o)(A:o.real=is)(B:o.all PV.flat)
  (hq: ∀(M:Mem) (N:Nm) (U:Nat->Prop) (x:Value),VR M N U (s.f.get d) x-> ∃q,G (N.az i) (N.ext i) q∧VR M N U q x):
  SX nt s X (fun t Y=> ∃b e q,X b=io∧G b e q∧t=⟨(d,q)::s.f,(i,io)::s.h,s.nx⟩∧Y=X.put b (.obj o e)):=by
 intro M N a w u hs;obtain⟨D,I⟩:=zQ u.1 hs hi A B;obtain⟨q,J,R⟩:=hq M N _ _ (u.2.1 d);refine⟨M,N,⟨(d,q)::s.f,(i,io)::s.h,s.nx⟩,_,D,⟨u.1.drop i,fun k=>?_,u.2.2⟩,I,N.az i,N.ext i,q,?_,J,rfl,rfl⟩
 .rw[AF.aw];split
  .rename_i hk;subst hk;exact R
  .exact u.2.1 k
 .cases hx:X (N.az i) with
  |none=>rfl
  |some y=>
   cases y with
   |obj p g=>exact absurd Z (hs.apart _ p g hx i o hi A)
   |out j g=>exact absurd hx (C _ _ _)
theorem Bf{i d:Nat}{o:AO}(y:X.still)(hi:s.h.get i=co o)(u:o.real=is)(j:o.all PV.flat)(hd:s.f.get d= .mp i):
  SX nt s X (fun t Y=> ∃b e,X b=io∧t=⟨(d,.iv (.v (.map (co b))))::s.f,(i,io)::s.h,s.nx⟩∧Y=X.put b (.obj o e)):=by
 intro M N a w hf hs
 obtain⟨B,C,t,Y,h1,D,I,b,e,q,J,rfl,R,h9⟩:=Kl (G:=fun b e q=>q= .iv (.v (.map (co b)))) (d:=d) y hi u j (fun M N U x A=>by
  rw[hd]at A;cases A with
  |mp _ hu=>exact⟨_,rfl,.iv _ _ (.v _)⟩) M N a w hf hs
 exact⟨B,C,t,Y,h1,D,I,b,e,J,R,h9⟩
inductive Up (X:bg):Value->IV->Prop
 | row (b len cap sz e:Nat) (es:List (List PV)) (el:Nat->List IV) (hX:X b=co (.obj (.row sz es) e)) (hn:len=es.length) (hl:len<=cap) (hc:cap<=maxLen) (hel: ∀k e,es[k]? =co e->e=(el k).map .iv):
   Up X (.slice (co ⟨b,0,io⟩) len cap) (.ck sz len el)
 |map {V:Type} (b e:Nat) (kc:KC) (ev:V->IV) (z:V) (zv:Value) (dv:PV->V) (m:List (kc.K×V)) (hX:X b=co (.obj (.map kc ev z zv dv m) e)):Up X (.map (co b)) (.dO kc ev z zv m)
 |fg {V:Type} (b e:Nat) (kc:KC) (ev:V->IV) (z:V) (zv:Value) (hX:X b=co (.obj .fg e)) (hz: ∀M,IR M (ev z) zv):Up X (.map (co b)) (.dO kc ev z zv [])
 |MJ (y:Value):Up X y (.v y)
 |nil (sz:Nat) (el:Nat->List IV) (a:Option Addr) (cap:Nat):Up X (.slice a 0 cap) (.ck sz 0 el)
theorem C8{M:Mem}{N:Nm}{n:Nat}{h:AH}{w:World}(hr:Rel M N (· <n) h w)(hs:dY M N n h X w):
  ∃x:Mem,M.le x∧js M N n h X w x N n h bg.nil w∧Rel x N (· <n) h w∧ ∀y p,Up X y p->IR x p y:=by
 let x:Mem:=⟨fun b=>match X b with
  |some (.obj _ _)=>(match w.heap[b]? with|some (.cells c _ _)=>co (.cells c)|some (.map es cl)=>co (.map es cl)|_=>io)
  |_=>M.fn b,fun b c hb=>by
   have:=M.HC b c hb;cases u:X b with
   |none=>simpa using this
   |some y=>cases y with
    |obj o e=>exact absurd (this.symm.trans (hs.dZ b o e u)) (by simp)
    |out i e=>simpa using this⟩
 have A: ∀b,(∀o e,X b≠co (.obj o e))->x b=M b:=fun b hb=>by
  show(match X b with|some (.obj _ _)=>_|_=>M.fn b)=M.fn b;cases u:X b with
  |none=>rfl
  |some y=>cases y with
   |obj o e=>exact absurd u (hb o e)
   |out i e=>rfl
 have D: ∀b o e,X b=co (.obj o e)->x b=(match w.heap[b]? with|some (.cells c _ _)=>co (MB.cells c)|some (.map es cl)=>co (MB.map es cl)|_=>io):=fun b o e hb=>by
  show(match X b with|some (.obj _ _)=>_|_=>M.fn b)=_;rw[hb]
 have B:M.le x:=fun b c hb=>by
  rw[A b fun o e u=>absurd (hb.symm.trans (hs.dZ b o e u)) (by simp)];exact hb
 refine⟨x,B,⟨rfl,rfl,⟨rfl,OJ _⟩,OJ _,fun _ _ _=>rfl,B,fun b c h1 G=>?_,.refl _ _,OJ _,fun c I=> .inr ?_⟩,⟨fun b c hb=>?_,hr.used,fun i o hi b0=>?_,fun i o hi=>(hr.obj i o hi).mono B (.refl _ _) (fun _ h=>h) (hr.used i o hi) Z,hr.inj⟩,fun y p hu=>?_⟩
 .cases u:X b with
  |none=>rw[A b (by simp[u]),h1]at G;cases G
  |some y=>cases y with
   |obj o e=>exact .inr (.inr ⟨o,e,u⟩)
   |out i e=>rw[A b (by simp[u]),h1]at G;cases G
 .rcases I with I|⟨o,e,I⟩
  .exact .inl I
  .cases I
 .cases u:X b with
  |none=>rw[A b (by simp[u])]at hb;exact hr.dZ b c hb
  |some y=>cases y with
   |out i e=>rw[A b (by simp[u])]at hb;exact hr.dZ b c hb
   |obj o e=>
    rw[D b o e u]at hb;split at hb
    .rename_i hh;cases hb;exact⟨_,_,hh⟩
    .rename_i hh;cases hb;exact hh
    .cases hb
 .rw[A _ fun q e u=>hs.apart _ q e u i o hi b0 Z];exact hr.dM i o hi b0
 .cases hu with
  |MJ=>exact .v _
  |nil=>exact .fM _ _ _ _
  |fg b e kc ev z zv hX hz=>
   have h1:=hs.obj b _ e hX;have G:x b=co (.map #[] 0):=by rw[D b _ e hX];rw[show w.heap[b]? =co (.map #[] 0) from h1]
   exact .dO _ _ _ _ _ b #[] 0 G Z (by simp) (by simp) (hz x) (by simp) (by simp)
  |map b e kc ev z zv dv m hX=>
   obtain⟨ents,cl,h1,G,h3⟩:=hs.obj b _ e hX;have h4:x b=co (.map ents cl):=by rw[D b _ e hX];rw[show w.heap[b]? =co (.map ents cl) from h1]
   have Y:=G.mono B;exact .dO _ _ _ _ _ b ents cl h4 Y.size Y.key Y.val (h3.mono B) Y.inj Y.lt
  |row b len cap sz e es el hX hn hl I hel=>
   rcases hs.obj b _ e hX with h0|⟨h0,c,T,g1,g2,g3,g4,g5⟩
   .have:=hs.real b _ e hX;rw[h0]at this;cases this
   have h4:x b=co (.cells c):=by rw[D b _ e hX];rw[show w.heap[b]? =co (.cells c T (0,0)) from g1]
   have C: ∀o,x.cell b o=c[o]? :=fun o=>by simp only[Mem.cell,h4]
   have a0: ∀k,k<len-> ∃e,es[k]? =co e:=fun k hk=>⟨_,Ox (by omega)⟩
   have c0: ∀k j,k<len->j<sz->k*sz+j<c.size:=fun k j hk hj=>by
    have:(k+1)*sz<=es.length*sz:=OX _ (by omega);rw[Pv]at this;omega
   refine .ck _ _ _ _ _ _ hl I (fun k hk=>?_) (fun k j hk hj=>?_) (fun k j p hk hp=>?_)
   .obtain⟨e,J⟩:=a0 k hk;have:=g4 _ e J;rw[hel _ e J]at this;simpa using this
   .rw[C,OY];simp[c0 k j hk hj]
   .obtain⟨e,J⟩:=a0 k hk;have h9:=g4 _ e J;have R:=hel _ e J;have hj:j<sz:=by rw[<-h9,R,O3];exact(Ov.1 hp).1
    have:=g5 _ e j (.iv p) J (by rw[R,OC,hp];rfl);rw[C,OY];rw[Ot]at this;cases this with
    |iv _ _ h=>exact h.mono B
def Up1(X:bg)(p b:PV):Prop:=b=p∨ ∃y q,p= .iv (.v y)∧b= .iv q∧Up X y q
inductive Jy (X:bg):AO->AO->Prop
 | row (sz:Nat) (es es':List (List PV)) (hl:es'.length=es.length) (h: ∀(k:Nat) (e':List PV),es'[k]? =co e'-> ∃e,es[k]? =co e∧e'.length=e.length∧ ∀(j:Nat) (p':PV),e'[j]? =co p'-> ∃p,e[j]? =co p∧Up1 X p p'):
   Jy X (.row sz es) (.row sz es')
 | map {V V':Type} (kc:KC) (ev:V->IV) (z:V) (zv:Value) (dv:PV->V) (m:List (kc.K×V)) (ev':V'->IV) (z':V') (dv':PV->V') (m':List (kc.K×V')) (hl:m'.length=m.length)
   (h: ∀(j:Nat) (x':kc.K×V'),m'[j]? =co x'-> ∃x y,m[j]? =co x∧x'.1=x.1∧ev x.2= .v y∧Up X y (ev' x'.2)) (hz: ∀M,IR M (ev' z') zv):Jy X (.map kc ev z zv dv m) (.map kc ev' z' zv dv' m')
theorem Jy.or{M A:Mem}{N:Nm}{U:Nat->Prop}{w:World}{i:Nat}{o o':AO}(J:M.le A)(hu: ∀y p,Up X y p->IR A p y)(h:Jy X o o')(ho:OR M N U w i o):OR A N U w i o':=by
 have hv: ∀p C x,Up1 X p C->VR M N U p x->VR A N U C x:=by
  rintro p C x (rfl|⟨y,q,rfl,rfl,B⟩) hx
  .exact hx.mono J (.refl _ _) (fun _ h=>h)
  .cases hx with
   |iv _ _ hi=>cases hi with
    |v=>exact .iv _ _ (hu _ _ B)
 cases h with
 |row sz es es' hl h=>
  rcases ho with rfl|⟨h0,c,T,g1,g2,g3,g4,g5⟩
  .left;exact PW.1 hl
  .refine .inr ⟨h0,c,T,g1,g2,by rw[hl];exact g3,fun k D b=>?_,fun k D j C b R=>?_⟩
   .obtain⟨e,h1,G,_⟩:=h k D b;rw[G];exact g4 k e h1
   .obtain⟨e,h1,_,B⟩:=h k D b;obtain⟨p,I,h5⟩:=B j C R;exact hv _ _ _ h5 (g5 k e j p h1 I)
 |map kc ev z zv dv m ev' z' dv' m' hl h hz=>
  obtain⟨ents,cl,g1,g2,g3⟩:=ho;refine⟨ents,cl,g1,⟨g2.size.trans hl.symm,fun j Y u=>?_,fun j Y u=>?_,g2.inj,g2.lt⟩,hz A⟩
  .obtain⟨x,y,h1,G,_⟩:=h j Y u;rw[G];exact g2.key j x h1
  .obtain⟨x,y,h1,_,B,I⟩:=h j Y u;have:=g2.val j x h1;rw[B]at this;generalize(ents.getD j ci).val=v at this ⊢;cases this with
   |v=>exact hu _ _ I
theorem Jy.real{o o':AO}(h:Jy X o o'):o'.real=o.real:=by
 cases h with
 |row sz es es' hl h=>cases es<;>cases es'<;>first|rfl|simp at hl
 |map=>rfl
theorem Kn{i:Nat}{o o':AO}(hi:s.h.get i=co o)(hu:Jy X o o'):SX nt s X (fun t Y=>t=⟨s.f,(i,co o')::s.h,s.nx⟩∧Y=bg.nil):=by
 intro M N a w B hs;obtain⟨I,h1,A,C,J⟩:=C8 B.1 hs;have u: ∀j q,AH.get ((i,co o')::s.h) j=co q-> ∃y,s.h.get j=co y∧q.real=y.real∧(q=y∨(j=i∧q=o')):=by
  intro j q x;rw[AH.aw]at x;split at x
  .rename_i D;subst D;cases x;exact⟨o,hi,hu.real,.inr ⟨rfl,rfl⟩⟩
  .exact⟨q,x,rfl,.inl Z⟩
 refine⟨I,N,⟨s.f,(i,co o')::s.h,s.nx⟩,bg.nil,?_,⟨⟨C.dZ,fun j q x=>?_,fun j q x G=>?_,fun j q x=>?_,fun j k q r x hk hq G R=>?_⟩,fun k=>(B.2.1 k).mono h1 (.refl _ _) (fun _ h=>h),B.2.2⟩,.nil ..,rfl,rfl⟩
 .exact⟨A.os,A.tape,A.output,A.size,A.fL,A.ot,A.gq,A.nm,A.ule,fun b hb=> .inr<|by
   rcases hb with⟨j,q,g1,g2,g3⟩|⟨q,g,g1⟩
   .obtain⟨y,g4,g5,_⟩:=u j q g1;exact .inl ⟨j,y,g4,g5▸g2,g3⟩
   .cases g1⟩
 .obtain⟨y,g4,_⟩:=u j q x;exact B.1.used j y g4
 .obtain⟨y,g4,g5,_⟩:=u j q x;exact C.dM j y g4 (g5▸G)
 .obtain⟨y,g4,_,rfl|⟨rfl,rfl⟩⟩:=u j q x
  .exact C.obj j _ g4
  .exact hu.or h1 J (B.1.obj j o hi)
 .obtain⟨y,g4,g5,_⟩:=u j q x;obtain⟨r',g6,g7,_⟩:=u k r hk;exact B.1.inj j k y r' g4 g6 (g5▸hq) (g7▸G) R
end
section
variable {P:Program}
section
variable {nt:NT} {Q:XQ} {k0:List XI} {s:AS} {X:bg}
theorem Gs{t:AS}(hh:t.h=s.h)(hn:t.nx=s.nx)(h: ∀M N a w,Fits M N s nt a w->dY M N s.nx s.h X w->FR M N (· <s.nx) t.f a.tmps):SX nt s X (fun j Y=>j=t∧Y=X):=by
 intro M N a w b hs;obtain⟨f,u,n⟩:=t;simp only at hh hn;subst hh;subst hn;exact⟨M,N,⟨f,s.h,s.nx⟩,X,.refl _ _ _ _ _ _,⟨b.1,h M N a w b hs,b.2.2⟩,hs,rfl,rfl⟩
theorem CV{b j e d:Nat}{p:PV}(B:X b=co (.out j e))(hp: ∀(M:Mem) (N:Nm) (U:Nat->Prop) (x:Value),U j->N.az j=b->N.ext j=e->VR M N U (s.f.get d) x->VR M N U p x):
  SX nt s X (fun t Y=>t=⟨(d,p)::s.f,s.h,s.nx⟩∧Y=X):=
 Gs Z Z fun M N a w u hs k=>by
  obtain⟨h1,y,A⟩:=hs.out b j e B;rw[AF.aw];split
  .rename_i hk;subst hk;exact hp M N _ _ h1 y A (u.2.1 k)
  .exact u.2.1 k
theorem yG{M:Mem}{N:Nm}{n:Nat}{h:AH}{w:World}(hr:Rel M N (· <n) h w){i:Nat}{o o':AO}(hi:h.get i=co o)(B:o'.real=is->o.real=is)(ho:OR M N (· <n) w i o'):Rel M N (· <n) ((i,co o')::h) w:=by
 have b: ∀j q,AH.get ((i,co o')::h) j=co q->(j=i∧q=o')∨(j≠i∧h.get j=co q):=by
  intro j q x;rw[AH.aw]at x;split at x
  .rename_i A;exact .inl ⟨A,by simpa using x.symm⟩
  .rename_i A;exact .inr ⟨A,x⟩
 refine⟨hr.dZ,fun j q x=>?_,fun j q x u=>?_,fun j q x=>?_,fun j k q r x hk G u D=>?_⟩
 .rcases b j q x with⟨rfl,rfl⟩|⟨_,y⟩
  .exact hr.used j o hi
  .exact hr.used j q y
 .rcases b j q x with⟨rfl,rfl⟩|⟨_,y⟩
  .exact hr.dM j o hi (B u)
  .exact hr.dM j q y u
 .rcases b j q x with⟨rfl,rfl⟩|⟨_,y⟩
  .exact ho
  .exact hr.obj j q y
 .rcases b j q x with⟨rfl,rfl⟩|⟨g1,y⟩<;>rcases b k r hk with⟨g2,C⟩|⟨g2,C⟩
  .exact g2.symm
  .exact hr.inj j k o r hi C (B G) u D
  .subst g2;subst C;exact hr.inj j k q o y hi G (B u) D
  .exact hr.inj j k q r y C G u D
theorem Kk{i:Nat}{o o':AO}(hi:s.h.get i=co o)(A:o'.real=is->o.real=is)(ho: ∀M N w,dY M N s.nx s.h X w->OR M N (· <s.nx) w i o->OR M N (· <s.nx) w i o'):
  SX nt s X (fun t Y=>t=⟨s.f,(i,co o')::s.h,s.nx⟩∧Y=X):=by
 intro M N a w D hs;have u: ∀j q,AH.get ((i,co o')::s.h) j=co q->q.real=is-> ∃y,s.h.get j=co y∧y.real=is:=by
  intro j q x B;rw[AH.aw]at x;split at x
  .rename_i G;subst G;cases x;exact⟨o,hi,A B⟩
  .exact⟨q,x,B⟩
 refine⟨M,N,⟨s.f,(i,co o')::s.h,s.nx⟩,X,⟨rfl,rfl,⟨rfl,OJ _⟩,OJ _,fun _ _ _=>rfl,.refl _,fun b c h1 C=>by simp[h1]at C,.refl _ _,OJ _,fun b hb=> .inr ?_⟩,
  ⟨yG D.1 hi A (ho M N w hs (D.1.obj i o hi)),D.2⟩,⟨hs.real,hs.obj,hs.dZ,fun b p e hb j q x B=>?_,hs.out⟩,rfl,rfl⟩
 .rcases hb with⟨j,q,h1,C,I⟩|hb
  .obtain⟨y,g1,g2⟩:=u j q h1 C;exact .inl ⟨j,y,g1,g2,I⟩
  .exact .inr hb
 .obtain⟨y,g1,g2⟩:=u j q x B;exact hs.apart b p e hb j y g1 g2
theorem Km{i:Nat}{o o':AO}(hi:s.h.get i=co o)(b:dR o o'):SX nt s X (fun t Y=>t=⟨s.f,(i,co o')::s.h,s.nx⟩∧Y=X):=
 Kk hi b.1 fun M N w _ h=>b.2 M N _ w i h
end
end
section
variable {P:Program} {nt:NT} {Q:XQ} {k0:List XI} {s:AS} {X:bg} {ty:Ty}
theorem yW{c:Code}{R u:AS->bg->Prop}(h: ∀t Y,R t Y->u t Y)(hg:GX P nt (.code c:: .lp R::k0) Q s X):GX P nt (.code c:: .lp u::k0) Q s X:=by
 intro M N a w C hs;refine AX.then hg C hs fun e G I y A s' B D b j x=>⟨y,A,s',B,D,b,j,?_⟩
 cases e with
 |normal=>exact h _ _ x
 |_=>exact x
theorem wc{body:Code}{σ:Type 1}(i0 n:Nat)(y:i0<=n)(I:Nat->σ->AS)(J:Nat->σ->bg->Prop)(B:σ)(C:List Nat)(G:J i0 B X)(h0:Wk s.nx C s (I i0 B))(A: ∀i x Y,J i x Y->Y.still)
  (b: ∀i x Y,i<=n->J i x Y->GX P nt (.code body:: .lp (fun t u=>i<n∧ ∃j L,J (i+1) j u∧Wk s.nx L t (I (i+1) j))::k0) Q (I i x) Y):GX P nt (.code (.loop body)::k0) Q s X:=by
 refine MR (σ:={p:Nat×σ×bg//p.1<=n∧J p.1 p.2.1 p.2.2}) (fun p=>I p.1.1 p.1.2.1) (fun p=>p.1.2.2) (fun p=>n-p.1.1) ⟨(i0,B,X),y,G⟩ C h0 Z (fun p=>A _ _ _ p.2.2) fun p=>?_;obtain⟨⟨i,x,Y⟩,h1,D⟩:=p;refine yW ?_ (b i x Y h1 D)
 rintro t u ⟨h3,j,L,h4,h5⟩;exact⟨⟨(i+1,j,u),h3,h4⟩,L,by show n-(i+1)<n-i;omega,h5,rfl⟩
end
section
variable {P:Program} {nt:NT} {Q:XQ} {k:List XI} {s:AS} {X:bg}
def GoW(P:Program)(nt:NT)(k:List XI)(Q:XQ)(X:bg)(n0:Nat)(t:AS):AQ:=fun e u=>(e= .normal∧ ∃L,Wk n0 L u t)∨(e≠ .normal∧kx P nt k Q e u X)
theorem uX{n0:Nat}{t u:AS}(L:List Nat)(h:Wk n0 L u t):GoW P nt k Q X n0 t .normal u:= .inl ⟨rfl,L,h⟩
theorem sK{c:Code}(t:AS)(h1:GO P nt [.code c] (GoW P nt k Q X s.nx t) s)(C:GX P nt k Q t X):GX P nt (.code c::k) Q s X:=by
 intro M N a w D hs;refine AW.then h1 D fun e G I x B u A b j=>?_;rcases j with⟨rfl,L,y⟩|⟨_,j⟩
 .obtain⟨g1,g2⟩:=js.frame (y.ext A) hs;exact⟨x,_,t,X,g1,y.fits b,g2,C⟩
 .obtain⟨g1,g2⟩:=js.frame A hs;exact⟨x,B,u,X,g1,b,g2,j⟩
end
def To(s t:AS):Prop:= ∀M N (nt:NT) a w,Fits M N s nt a w-> ∃b j,Ext M N (· <s.nx) s.h w b j (· <t.nx) t.h w∧Fits b j t nt a w
theorem To.refl(s:AS):To s s:=fun M N _ _ _ b=>⟨M,N,.refl _ _ _ _ _,b⟩
theorem To.trans{s t u:AS}(h:To s t)(g:To t u):To s u:=fun M N nt a w A=>by
 obtain⟨b,x,B,f1⟩:=h M N nt a w A;obtain⟨j,y,C,f2⟩:=g b x nt a w f1;exact⟨j,y,B.trans C,f2⟩
theorem To.wk{s t:AS}{L:List Nat}(hw:Wk s.nx L s t):To s t:=fun M N _ _ _ b=>⟨M,_,hw.ext (.refl _ _ _ _ _),hw.fits b⟩
theorem To.row{s:AS}(i:Nat){sz:Nat}{es:List (List PV)}(el:Nat->List IV)(hi:s.h.get i=co (.row sz es))(a0: ∀k e,es[k]? =co e->e=(el k).map .iv)
  (hf:s.f.oq i sz es.length) (hh:s.h.tN i sz es.length):To s ⟨s.f.je i sz el,(i,io)::s.h.jd i sz el,s.nx⟩:=by
 intro M N nt a w b;obtain⟨J,h1,u,h4⟩:=wi b.1 hi a0;have B: ∀j o,AH.get ((i,io)::s.h.jd i sz el) j=co o-> ∃p,AH.get ((i,io)::s.h) j=co p∧s.h.get j=co p∧o=p.jd i sz el:=by
  intro j o x;obtain⟨g1,g2⟩:=a8 j o x;rw[AH.pZ,OD]at g2;obtain⟨p,g3,g4⟩:=g2;exact⟨p,by rw[AH.aw,be g1];exact g3,g3,g4.symm⟩
 have hE:Ext M N (· <s.nx) s.h w J N (· <s.nx) ((i,io)::s.h.jd i sz el) w:=⟨h1.os,h1.tape,h1.output,h1.size,h1.fL,h1.ot,h1.gq,h1.nm,h1.ule,fun j o x y=>by
  obtain⟨p,g1,_,rfl⟩:=B j o x;rw[AO.oc]at y
  exact h1.fI j p g1 y⟩
 have hR:Rel J N (· <s.nx) ((i,io)::s.h.jd i sz el) w:=by
  refine⟨u.dZ,fun j o x=>?_,fun j o x y=>?_,fun j o x=>?_,fun j k o p x hk ho D=>?_⟩
  .obtain⟨p,g1,_,rfl⟩:=B j o x;exact u.used j p g1
  .obtain⟨p,g1,_,rfl⟩:=B j o x;rw[AO.oc]at y;exact u.dM j p g1 y
  .obtain⟨p,g1,g2,rfl⟩:=B j o x;cases p with
   |cells cs T0=>
    obtain⟨c,T,q1,q2,q3,q4,q5⟩:=b.1.obj j _ g2;have hok:=AH.oI hh j _ g2;refine⟨c,T,q1,q2,by simpa[gk]using q3,fun k q hq=>?_,q5⟩;rw[gk,OC,OD]at hq;obtain⟨Y,I,rfl⟩:=hq;exact h4 _ _ (q4 k Y I) (gE hok k Y I)
   |row s2 es2=>
    have hok:=AH.oI hh j _ g2;rcases b.1.obj j _ g2 with rfl|⟨Y,c,T,q1,q2,q3,q4,q5⟩
    .exact .inl Z
    .refine .inr ⟨Y,c,T,q1,q2,by simpa using q3,fun k e C=>?_,fun k e j2 p C D=>?_⟩
     .rw[OC,OD]at C;obtain⟨R,A,rfl⟩:=C;rw[gk,O3];exact q4 k R A
     .rw[OC,OD]at C;obtain⟨R,A,rfl⟩:=C;rw[gk,OC,OD]at D;obtain⟨p0,G,rfl⟩:=D;exact h4 _ _ (q5 k R j2 p0 A G) (gE (hok R (O9 A)) j2 p0 G)
   |bh=>exact u.obj j _ g1
   |fg=>exact u.obj j _ g1
   |map=>exact u.obj j _ g1
   |bF=>exact u.obj j _ g1
   |dJ=>exact u.obj j _ g1
   |ig=>exact u.obj j _ g1
   |dT=>exact u.obj j _ g1
  .obtain⟨o',g1,_,rfl⟩:=B j o x;obtain⟨p',g2,_,rfl⟩:=B k p hk;rw[AO.oc]at ho D;exact u.inj j k o' p' g1 g2 ho D
 have b0:Fits J N ⟨s.f.je i sz el,(i,io)::s.h.jd i sz el,s.nx⟩ nt a w:=⟨hR,fun d=>by
  rw[AF.jc];exact h4 _ _ (b.2.1 d) (AF.kJ hf d),b.2.2⟩
 exact⟨J,N,hE,b0⟩
section
variable {P:Program} {nt:NT} {Q:AQ} {k:List KI} {s t:AS}
theorem sN{all rest:List Oper}(y:To s t)(h:GO P nt (.ops all rest::k) Q t):GO P nt (.ops all rest::k) Q s:=by
 intro M N a w x;obtain⟨j,u,A,b⟩:=y M N nt a w x;exact eF (fun e a2 B ⟨M2,N2,s2,hx2,hf2,hr2⟩=>⟨M2,N2,s2,A.trans hx2,hf2,hr2⟩) _ _ _ (h j u a w b)
theorem y2{c:Code}(C:To s t)(h:GO P nt (.code c::k) Q t):GO P nt (.code c::k) Q s:=by
 intro M N a w B;obtain⟨I,J,D,b⟩:=C M N nt a w B;exact AW.then h b fun e a2 R y A G x j u=>⟨y,A,G,D.trans x,j,u⟩
end
end
end Go.Al
namespace Go.Proofs.YtllkaddcplhklaaGreatDoor
open Go Go.Al Go.Proofs.Tryz
def ty2:bB:=⟨.aL (.int .i64),1,8,.int .i64 (0),jp⟩
theorem LF:ah prog 2 ty2:=⟨ad (by kernel_rfl),⟨underlying2,rfl⟩,fun h=>nomatch h⟩
def ty3:bB:=⟨.aL (.int .i64),1,8,.int .i64 (0),jp⟩
theorem LD:ah prog 3 ty3:=⟨ad (by kernel_rfl),⟨underlying3,rfl⟩,fun h=>nomatch h⟩
def ty4:bB:=⟨.aL (.bool),1,1,.bool jp,jp⟩
theorem LC:ah prog 4 ty4:=⟨ad (by kernel_rfl),⟨underlying4,rfl⟩,fun h=>nomatch h⟩
def ty5:bB:=⟨.aL (.int .u8),1,1,.int .u8 (0),jp⟩
theorem LB:ah prog 5 ty5:=⟨ad (by kernel_rfl),⟨underlying5,rfl⟩,fun h=>nomatch h⟩
def ty9:bB:=⟨.aL (.string),1,16,.string OB,jp⟩
theorem LA:ah prog 9 ty9:=⟨ad (by kernel_rfl),⟨underlying9,rfl⟩,fun h=>nomatch h⟩
def Mc:bB:=⟨.aL (.int .i32),1,4,.int .i32 (0),jp⟩
theorem Ka:ah prog 21 Mc:=⟨ad (by kernel_rfl),⟨underlying21,rfl⟩,fun h=>nomatch h⟩
def Mb:bB:=⟨.aL (.pointer 70),1,8,.pointer io,jp⟩
theorem J9:ah prog 23 Mb:=⟨ad (by kernel_rfl),⟨underlying23,rfl⟩,fun h=>nomatch h⟩
def Ma:bB:=⟨.aL (.int .i64),1,8,.int .i64 (0),jp⟩
theorem J8:ah prog 24 Ma:=⟨ad (by kernel_rfl),⟨underlying24,rfl⟩,fun h=>nomatch h⟩
def L9:bB:=⟨.aL (.slice 3),1,24,.slice io 0 0,jp⟩
theorem J7:ah prog 27 L9:=⟨ad (by kernel_rfl),⟨underlying27,rfl⟩,fun h=>nomatch h⟩
def L8:bB:=⟨.cK [(0,3),(1,3)],2,16,.agg #[.int .i64 (0),.int .i64 (0)],is⟩
theorem J6:ah prog 29 L8:=⟨ad (by kernel_rfl),⟨_,underlying29,rfl⟩,fun _=>cd underlying29 Tryz.stoodInHeld29 Tryz.eqGuardType29 (by decide)⟩
def L7:bB:=⟨.cK [(0,9),(1,27),(2,29)],4,56,.agg #[.string OB,.slice io 0 0,.int .i64 (0),.int .i64 (0)],is⟩
theorem J5:ah prog 31 L7:=⟨ad (by kernel_rfl),⟨_,underlying31,rfl⟩,fun _=>cd underlying31 Tryz.stoodInHeld31 Tryz.eqGuardType31 (by decide)⟩
def L6:bB:=⟨.aL (.slice 31),1,24,.slice io 0 0,jp⟩
theorem J4:ah prog 32 L6:=⟨ad (by kernel_rfl),⟨underlying32,rfl⟩,fun h=>nomatch h⟩
def L5:bB:=⟨.aL (.slice 99),1,24,.slice io 0 0,jp⟩
theorem J3:ah prog 33 L5:=⟨ad (by kernel_rfl),⟨underlying33,rfl⟩,fun h=>nomatch h⟩
def L4:bB:=⟨.cK [(0,32),(1,33)],2,48,.agg #[.slice io 0 0,.slice io 0 0],is⟩
theorem J2:ah prog 35 L4:=⟨ad (by kernel_rfl),⟨_,underlying35,rfl⟩,fun _=>cd underlying35 Tryz.stoodInHeld35 Tryz.eqGuardType35 (by decide)⟩
def L3:bB:=⟨.aL (.slice 42),1,24,.slice io 0 0,jp⟩
theorem J1:ah prog 36 L3:=⟨ad (by kernel_rfl),⟨underlying36,rfl⟩,fun h=>nomatch h⟩
def L2:bB:=⟨.aL (.slice 72),1,24,.slice io 0 0,jp⟩
theorem J0:ah prog 37 L2:=⟨ad (by kernel_rfl),⟨underlying37,rfl⟩,fun h=>nomatch h⟩
def L1:bB:=⟨.cK [(0,9),(1,37)],2,40,.agg #[.string OB,.slice io 0 0],is⟩
theorem JZ:ah prog 39 L1:=⟨ad (by kernel_rfl),⟨_,underlying39,rfl⟩,fun _=>cd underlying39 Tryz.stoodInHeld39 Tryz.eqGuardType39 (by decide)⟩
def LZ:bB:=⟨.cK [(0,4),(1,39)],3,48,.agg #[.bool jp,.string OB,.slice io 0 0],is⟩
theorem JY:ah prog 42 LZ:=⟨ad (by kernel_rfl),⟨_,underlying42,rfl⟩,fun _=>cd underlying42 Tryz.stoodInHeld42 Tryz.eqGuardType42 (by decide)⟩
def LY:bB:=⟨.aL (.slice 39),1,24,.slice io 0 0,jp⟩
theorem JX:ah prog 48 LY:=⟨ad (by kernel_rfl),⟨underlying48,rfl⟩,fun h=>nomatch h⟩
def LX:bB:=⟨.aL (.func #[39,39] #[4] jp),1,8,.nilFunc,jp⟩
theorem JW:ah prog 61 LX:=⟨ad (by kernel_rfl),⟨underlying61,rfl⟩,fun h=>nomatch h⟩
def LW:bB:=⟨.cK [(0,24),(1,29)],3,24,.agg #[.int .i64 (0),.int .i64 (0),.int .i64 (0)],is⟩
theorem JV:ah prog 63 LW:=⟨ad (by kernel_rfl),⟨_,underlying63,rfl⟩,fun _=>cd underlying63 Tryz.stoodInHeld63 Tryz.eqGuardType63 (by decide)⟩
def LV:bB:=⟨.aL (.map 78 39),1,8,.map io,jp⟩
theorem JU:ah prog 65 LV:=⟨ad (by kernel_rfl),⟨underlying65,rfl⟩,fun h=>nomatch h⟩
def LU:bB:=⟨.cK [(0,65)],1,8,.agg #[.map io],is⟩
theorem JT:ah prog 67 LU:=⟨ad (by kernel_rfl),⟨_,underlying67,rfl⟩,fun _=>cd underlying67 Tryz.stoodInHeld67 Tryz.eqGuardType67 (by decide)⟩
def LS:bB:=⟨.cK [(0,67),(1,35),(3,3)],4,64,.agg #[.map io,.slice io 0 0,.slice io 0 0,.int .i64 (0)],is⟩
theorem JS:ah prog 70 LS:=⟨ad (by kernel_rfl),⟨_,underlying70,rfl⟩,fun _=>cd underlying70 Tryz.stoodInHeld70 Tryz.eqGuardType70 (by decide)⟩
def LR:bB:=⟨.cK [(0,3),(1,3),(2,9)],3,32,.agg #[.int .i64 (0),.int .i64 (0),.string OB],is⟩
theorem JR:ah prog 72 LR:=⟨ad (by kernel_rfl),⟨_,underlying72,rfl⟩,fun _=>cd underlying72 Tryz.stoodInHeld72 Tryz.eqGuardType72 (by decide)⟩
def LQ:bB:=⟨.aL (.map 78 42),1,8,.map io,jp⟩
theorem JQ:ah prog 73 LQ:=⟨ad (by kernel_rfl),⟨underlying73,rfl⟩,fun h=>nomatch h⟩
def LP:bB:=⟨.arr 8 72,24,256,.agg #[.int .i64 (0),.int .i64 (0),.string OB,.int .i64 (0),.int .i64 (0),.string OB,.int .i64 (0),.int .i64 (0),.string OB,.int .i64 (0),.int .i64 (0),.string OB,.int .i64 (0),.int .i64 (0),.string OB,.int .i64 (0),.int .i64 (0),.string OB,.int .i64 (0),.int .i64 (0),.string OB,.int .i64 (0),.int .i64 (0),.string OB],jp⟩
theorem JP:ah prog 76 LP:=⟨ad (by kernel_rfl),underlying76,fun h=>nomatch h⟩
def fc:bB:=⟨.cK [(0,9),(1,3),(2,76)],26,280,.agg #[.string OB,.int .i64 (0),.int .i64 (0),.int .i64 (0),.string OB,.int .i64 (0),.int .i64 (0),.string OB,.int .i64 (0),.int .i64 (0),.string OB,.int .i64 (0),.int .i64 (0),.string OB,.int .i64 (0),.int .i64 (0),.string OB,.int .i64 (0),.int .i64 (0),.string OB,.int .i64 (0),.int .i64 (0),.string OB,.int .i64 (0),.int .i64 (0),.string OB],is⟩
theorem JO:ah prog 78 fc:=⟨ad (by kernel_rfl),⟨_,underlying78,rfl⟩,fun _=>cd underlying78 Tryz.stoodInHeld78 Tryz.eqGuardType78 (by decide)⟩
def LO:bB:=⟨.aL (.pointer 67),1,8,.pointer io,jp⟩
theorem JN:ah prog 81 LO:=⟨ad (by kernel_rfl),⟨underlying81,rfl⟩,fun h=>nomatch h⟩
def LN:bB:=⟨.aL (.func #[39,39] #[3] jp),1,8,.nilFunc,jp⟩
theorem JM:ah prog 85 LN:=⟨ad (by kernel_rfl),⟨underlying85,rfl⟩,fun h=>nomatch h⟩
def LM:bB:=⟨.aL (.map 9 92),1,8,.map io,jp⟩
theorem JL:ah prog 88 LM:=⟨ad (by kernel_rfl),⟨underlying88,rfl⟩,fun h=>nomatch h⟩
def LL:bB:=⟨.aL (.map 9 92),1,8,.map io,jp⟩
theorem JK:ah prog 89 LL:=⟨ad (by kernel_rfl),⟨underlying89,rfl⟩,fun h=>nomatch h⟩
def LK:bB:=⟨.aL (.map 9 3),1,8,.map io,jp⟩
theorem JJ:ah prog 92 LK:=⟨ad (by kernel_rfl),⟨underlying92,rfl⟩,fun h=>nomatch h⟩
def LJ:bB:=⟨.aL (.slice 104),1,24,.slice io 0 0,jp⟩
theorem JI:ah prog 94 LJ:=⟨ad (by kernel_rfl),⟨underlying94,rfl⟩,fun h=>nomatch h⟩
def LI:bB:=⟨.cK [(0,9),(1,94)],2,40,.agg #[.string OB,.slice io 0 0],is⟩
theorem JH:ah prog 96 LI:=⟨ad (by kernel_rfl),⟨_,underlying96,rfl⟩,fun _=>cd underlying96 Tryz.stoodInHeld96 Tryz.eqGuardType96 (by decide)⟩
def LH:bB:=⟨.aL (.slice 128),1,24,.slice io 0 0,jp⟩
theorem JG:ah prog 97 LH:=⟨ad (by kernel_rfl),⟨underlying97,rfl⟩,fun h=>nomatch h⟩
def LG:bB:=⟨.cK [(0,96),(2,97),(3,29)],5,80,.agg #[.string OB,.slice io 0 0,.slice io 0 0,.int .i64 (0),.int .i64 (0)],is⟩
theorem JF:ah prog 99 LG:=⟨ad (by kernel_rfl),⟨_,underlying99,rfl⟩,fun _=>cd underlying99 Tryz.stoodInHeld99 Tryz.eqGuardType99 (by decide)⟩
def I8:bB:=⟨.cK [(0,3),(1,9),(2,72)],5,56,.agg #[.int .i64 (0),.string OB,.int .i64 (0),.int .i64 (0),.string OB],is⟩
theorem Gl:ah prog 104 I8:=⟨ad (by kernel_rfl),⟨_,underlying104,rfl⟩,fun _=>cd underlying104 Tryz.stoodInHeld104 Tryz.eqGuardType104 (by decide)⟩
def I7:bB:=⟨.aL (.func #[78,42] #[4] jp),1,8,.nilFunc,jp⟩
theorem Gk:ah prog 111 I7:=⟨ad (by kernel_rfl),⟨underlying111,rfl⟩,fun h=>nomatch h⟩
def I6:bB:=⟨.aL (.func #[42,42] #[3] jp),1,8,.nilFunc,jp⟩
theorem Gj:ah prog 114 I6:=⟨ad (by kernel_rfl),⟨underlying114,rfl⟩,fun h=>nomatch h⟩
def I5:bB:=⟨.aL (.slice 124),1,24,.slice io 0 0,jp⟩
theorem Gi:ah prog 122 I5:=⟨ad (by kernel_rfl),⟨underlying122,rfl⟩,fun h=>nomatch h⟩
def I4:bB:=⟨.cK [(0,3),(1,9),(2,72),(5,3),(6,122)],7,88,.agg #[.int .i64 (0),.string OB,.int .i64 (0),.int .i64 (0),.string OB,.int .i64 (0),.slice io 0 0],is⟩
theorem Gh:ah prog 124 I4:=⟨ad (by kernel_rfl),⟨_,underlying124,rfl⟩,fun _=>cd underlying124 Tryz.stoodInHeld124 Tryz.eqGuardType124 (by decide)⟩
def I3:bB:=⟨.cK [(0,3),(1,9),(2,124),(9,97)],10,136,.agg #[.int .i64 (0),.string OB,.int .i64 (0),.string OB,.int .i64 (0),.int .i64 (0),.string OB,.int .i64 (0),.slice io 0 0,.slice io 0 0],is⟩
theorem Gg:ah prog 126 I3:=⟨ad (by kernel_rfl),⟨_,underlying126,rfl⟩,fun _=>cd underlying126 Tryz.stoodInHeld126 Tryz.eqGuardType126 (by decide)⟩
def I2:bB:=⟨.cK [(0,3),(1,96),(3,3),(4,124),(11,124),(18,126),(28,29)],30,384,.agg #[.int .i64 (0),.string OB,.slice io 0 0,.int .i64 (0),.int .i64 (0),.string OB,.int .i64 (0),.int .i64 (0),.string OB,.int .i64 (0),.slice io 0 0,.int .i64 (0),.string OB,.int .i64 (0),.int .i64 (0),.string OB,.int .i64 (0),.slice io 0 0,.int .i64 (0),.string OB,.int .i64 (0),.string OB,.int .i64 (0),.int .i64 (0),.string OB,.int .i64 (0),.slice io 0 0,.slice io 0 0,.int .i64 (0),.int .i64 (0)],is⟩
theorem Gf:ah prog 128 I2:=⟨ad (by kernel_rfl),⟨_,underlying128,rfl⟩,fun _=>cd underlying128 Tryz.stoodInHeld128 Tryz.eqGuardType128 (by decide)⟩
def I1:bB:=⟨.aL (.slice 9),1,24,.slice io 0 0,jp⟩
theorem Ge:ah prog 129 I1:=⟨ad (by kernel_rfl),⟨underlying129,rfl⟩,fun h=>nomatch h⟩
def I0:bB:=⟨.aL (.func #[63] #[4] jp),1,8,.nilFunc,jp⟩
theorem Gd:ah prog 132 I0:=⟨ad (by kernel_rfl),⟨underlying132,rfl⟩,fun h=>nomatch h⟩
def IZ:bB:=⟨.aL (.func #[9] #[3] jp),1,8,.nilFunc,jp⟩
theorem Gc:ah prog 133 IZ:=⟨ad (by kernel_rfl),⟨underlying133,rfl⟩,fun h=>nomatch h⟩
def IY:bB:=⟨.aL (.pointer 128),1,8,.pointer io,jp⟩
theorem Gb:ah prog 139 IY:=⟨ad (by kernel_rfl),⟨underlying139,rfl⟩,fun h=>nomatch h⟩
def IX:bB:=⟨.aL (.map 9 31),1,8,.map io,jp⟩
theorem Ga:ah prog 142 IX:=⟨ad (by kernel_rfl),⟨underlying142,rfl⟩,fun h=>nomatch h⟩
def IW:bB:=⟨.aL (.int .u64),1,8,.int .u64 (0),jp⟩
theorem F9:ah prog 147 IW:=⟨ad (by kernel_rfl),⟨underlying147,rfl⟩,fun h=>nomatch h⟩
def IU:bB:=⟨.aL (.func #[72,72] #[3] jp),1,8,.nilFunc,jp⟩
theorem F8:ah prog 151 IU:=⟨ad (by kernel_rfl),⟨underlying151,rfl⟩,fun h=>nomatch h⟩
def IT:bB:=⟨.aL (.map 9 3),1,8,.map io,jp⟩
theorem F7:ah prog 155 IT:=⟨ad (by kernel_rfl),⟨underlying155,rfl⟩,fun h=>nomatch h⟩
def IS:bB:=⟨.aL (.func #[124] #[4] jp),1,8,.nilFunc,jp⟩
theorem F6:ah prog 157 IS:=⟨ad (by kernel_rfl),⟨underlying157,rfl⟩,fun h=>nomatch h⟩
def IQ:bB:=⟨.aL (.func #[126] #[4] jp),1,8,.nilFunc,jp⟩
theorem F5:ah prog 158 IQ:=⟨ad (by kernel_rfl),⟨underlying158,rfl⟩,fun h=>nomatch h⟩
def IP:bB:=⟨.aL (.func #[128] #[4] jp),1,8,.nilFunc,jp⟩
theorem F4:ah prog 162 IP:=⟨ad (by kernel_rfl),⟨underlying162,rfl⟩,fun h=>nomatch h⟩
def IN:bB:=⟨.aL (.int .i64),1,8,.int .i64 (0),jp⟩
theorem F3:ah prog 167 IN:=⟨ad (by kernel_rfl),⟨underlying167,rfl⟩,fun h=>nomatch h⟩
def IM:bB:=⟨.aL (.int .u32),1,4,.int .u32 (0),jp⟩
theorem F2:ah prog 175 IM:=⟨ad (by kernel_rfl),⟨underlying175,rfl⟩,fun h=>nomatch h⟩
def IL:bB:=⟨.aL (.int .u64),1,8,.int .u64 (0),jp⟩
theorem F1:ah prog 177 IL:=⟨ad (by kernel_rfl),⟨underlying177,rfl⟩,fun h=>nomatch h⟩
def IK:bB:=⟨.aL (.func #[3] #[4] jp),1,8,.nilFunc,jp⟩
theorem F0:ah prog 185 IK:=⟨ad (by kernel_rfl),⟨underlying185,rfl⟩,fun h=>nomatch h⟩
def IJ:bB:=⟨.aL (.pointer 229),1,8,.pointer io,jp⟩
theorem FZ:ah prog 189 IJ:=⟨ad (by kernel_rfl),⟨underlying189,rfl⟩,fun h=>nomatch h⟩
def II:bB:=⟨.aL (.slice 96),1,24,.slice io 0 0,jp⟩
theorem FY:ah prog 192 II:=⟨ad (by kernel_rfl),⟨underlying192,rfl⟩,fun h=>nomatch h⟩
def IH:bB:=⟨.aL (.func #[96] #[4] jp),1,8,.nilFunc,jp⟩
theorem FX:ah prog 194 IH:=⟨ad (by kernel_rfl),⟨underlying194,rfl⟩,fun h=>nomatch h⟩
def IG:bB:=⟨.cK [(0,24),(1,185)],2,16,.agg #[.int .i64 (0),.nilFunc],is⟩
theorem FW:ah prog 195 IG:=⟨ad (by kernel_rfl),⟨_,underlying195,rfl⟩,fun _=>cd underlying195 Tryz.stoodInHeld195 Tryz.eqGuardType195 (by decide)⟩
def IF:bB:=⟨.aL (.pointer 238),1,8,.pointer io,jp⟩
theorem FV:ah prog 197 IF:=⟨ad (by kernel_rfl),⟨underlying197,rfl⟩,fun h=>nomatch h⟩
def IE:bB:=⟨.aL (.slice 195),1,24,.slice io 0 0,jp⟩
theorem FU:ah prog 199 IE:=⟨ad (by kernel_rfl),⟨underlying199,rfl⟩,fun h=>nomatch h⟩
def ID:bB:=⟨.aL (.func #[72] #[4] jp),1,8,.nilFunc,jp⟩
theorem FT:ah prog 209 ID:=⟨ad (by kernel_rfl),⟨underlying209,rfl⟩,fun h=>nomatch h⟩
def IC:bB:=⟨.aL (.int .u64),1,8,.int .u64 (0),jp⟩
theorem FQ:ah prog 210 IC:=⟨ad (by kernel_rfl),⟨underlying210,rfl⟩,fun h=>nomatch h⟩
def IB:bB:=⟨.aL (.pointer 3),1,8,.pointer io,jp⟩
theorem FP:ah prog 214 IB:=⟨ad (by kernel_rfl),⟨underlying214,rfl⟩,fun h=>nomatch h⟩
def IA:bB:=⟨.aL (.pointer 225),1,8,.pointer io,jp⟩
theorem FO:ah prog 219 IA:=⟨ad (by kernel_rfl),⟨underlying219,rfl⟩,fun h=>nomatch h⟩
def Iz:bB:=⟨.aL (.pointer 223),1,8,.pointer io,jp⟩
theorem FN:ah prog 220 Iz:=⟨ad (by kernel_rfl),⟨underlying220,rfl⟩,fun h=>nomatch h⟩
def Iy:bB:=⟨.aL (.slice 5),1,24,.slice io 0 0,jp⟩
theorem FL:ah prog 221 Iy:=⟨ad (by kernel_rfl),⟨underlying221,rfl⟩,fun h=>nomatch h⟩
def Ix:bB:=⟨.cK [(0,220),(1,221)],2,32,.agg #[.pointer io,.slice io 0 0],is⟩
theorem FJ:ah prog 223 Ix:=⟨ad (by kernel_rfl),⟨_,underlying223,rfl⟩,fun _=>cd underlying223 Tryz.stoodInHeld223 Tryz.eqGuardType223 (by decide)⟩
def Iw:bB:=⟨.cK [(0,223),(2,4),(3,3)],4,48,.agg #[.pointer io,.slice io 0 0,.bool jp,.int .i64 (0)],is⟩
theorem FI:ah prog 225 Iw:=⟨ad (by kernel_rfl),⟨_,underlying225,rfl⟩,fun _=>cd underlying225 Tryz.stoodInHeld225 Tryz.eqGuardType225 (by decide)⟩
def Iv:bB:=⟨.cK [(0,99),(5,155)],6,88,.agg #[.string OB,.slice io 0 0,.slice io 0 0,.int .i64 (0),.int .i64 (0),.map io],is⟩
theorem FH:ah prog 229 Iv:=⟨ad (by kernel_rfl),⟨_,underlying229,rfl⟩,fun _=>cd underlying229 Tryz.stoodInHeld229 Tryz.eqGuardType229 (by decide)⟩
def Iu:bB:=⟨.aL (.func #[104] #[4] jp),1,8,.nilFunc,jp⟩
theorem FG:ah prog 233 Iu:=⟨ad (by kernel_rfl),⟨underlying233,rfl⟩,fun h=>nomatch h⟩
def It:bB:=⟨.aL (.map 244 244),1,8,.map io,jp⟩
theorem FF:ah prog 234 It:=⟨ad (by kernel_rfl),⟨underlying234,rfl⟩,fun h=>nomatch h⟩
def Is:bB:=⟨.aL (.map 244 3),1,8,.map io,jp⟩
theorem FE:ah prog 235 Is:=⟨ad (by kernel_rfl),⟨underlying235,rfl⟩,fun h=>nomatch h⟩
def Ir:bB:=⟨.aL (.slice 246),1,24,.slice io 0 0,jp⟩
theorem FD:ah prog 236 Ir:=⟨ad (by kernel_rfl),⟨underlying236,rfl⟩,fun h=>nomatch h⟩
def Iq:bB:=⟨.cK [(0,189),(1,234),(2,236),(3,235)],4,48,.agg #[.pointer io,.map io,.slice io 0 0,.map io],is⟩
theorem FC:ah prog 238 Iq:=⟨ad (by kernel_rfl),⟨_,underlying238,rfl⟩,fun _=>cd underlying238 Tryz.stoodInHeld238 Tryz.eqGuardType238 (by decide)⟩
def Ip:bB:=⟨.cK [(0,9),(1,3)],2,24,.agg #[.string OB,.int .i64 (0)],is⟩
theorem FB:ah prog 244 Ip:=⟨ad (by kernel_rfl),⟨_,underlying244,rfl⟩,fun _=>cd underlying244 Tryz.stoodInHeld244 Tryz.eqGuardType244 (by decide)⟩
def Io:bB:=⟨.cK [(0,3),(1,244),(3,3),(4,3)],5,48,.agg #[.int .i64 (0),.string OB,.int .i64 (0),.int .i64 (0),.int .i64 (0)],is⟩
theorem FA:ah prog 246 Io:=⟨ad (by kernel_rfl),⟨_,underlying246,rfl⟩,fun _=>cd underlying246 Tryz.stoodInHeld246 Tryz.eqGuardType246 (by decide)⟩
def Im:bB:=⟨.aL (.func #[21] #[4] jp),1,8,.nilFunc,jp⟩
theorem Fz:ah prog 256 Im:=⟨ad (by kernel_rfl),⟨underlying256,rfl⟩,fun h=>nomatch h⟩
def Il:bB:=⟨.aL (.pointer 210),1,8,.pointer io,jp⟩
theorem Fy:ah prog 258 Il:=⟨ad (by kernel_rfl),⟨underlying258,rfl⟩,fun h=>nomatch h⟩
def Ik:bB:=⟨.arr 7 9,7,112,.agg #[.string OB,.string OB,.string OB,.string OB,.string OB,.string OB,.string OB],jp⟩
theorem Fx:ah prog 266 Ik:=⟨ad (by kernel_rfl),underlying266,fun h=>nomatch h⟩
def Ij:bB:=⟨.aL (.pointer 5),1,8,.pointer io,jp⟩
theorem Fw:ah prog 281 Ij:=⟨ad (by kernel_rfl),⟨underlying281,rfl⟩,fun h=>nomatch h⟩
def Ii:bB:=⟨.arr 5 9,5,80,.agg #[.string OB,.string OB,.string OB,.string OB,.string OB],jp⟩
theorem Fv:ah prog 283 Ii:=⟨ad (by kernel_rfl),underlying283,fun h=>nomatch h⟩
def Ih:bB:=⟨.aL (.unsafePointer),1,8,.pointer io,jp⟩
theorem Fu:ah prog 291 Ih:=⟨ad (by kernel_rfl),⟨underlying291,rfl⟩,fun h=>nomatch h⟩
def Ig:bB:=⟨.arr 24 5,24,24,.agg (.replicate 24 (.int .u8 (0))),jp⟩
theorem Ft:ah prog 295 Ig:=⟨ad (by kernel_rfl),underlying295,fun h=>nomatch h⟩
def Ie:bB:=⟨.arr 20 177,20,160,.agg (.replicate 20 (.int .u64 (0))),jp⟩
theorem Fs:ah prog 300 Ie:=⟨ad (by kernel_rfl),underlying300,fun h=>nomatch h⟩
def Ic:bB:=⟨.arr 65 5,65,65,.agg (.replicate 65 (.int .u8 (0))),jp⟩
theorem Fq:ah prog 301 Ic:=⟨ad (by kernel_rfl),underlying301,fun h=>nomatch h⟩
def Ib:bB:=⟨.arr 32 5,32,32,.agg (.replicate 32 (.int .u8 (0))),jp⟩
theorem Fp:ah prog 302 Ib:=⟨ad (by kernel_rfl),underlying302,fun h=>nomatch h⟩
def Ia:bB:=⟨.arr 64 5,64,64,.agg (.replicate 64 (.int .u8 (0))),jp⟩
theorem Fo:ah prog 303 Ia:=⟨ad (by kernel_rfl),underlying303,fun h=>nomatch h⟩
def CJ:TT:=(.node (.node (.node (.node (.node (.node (.node .leaf 2 ty2 .leaf) 3 ty3 .leaf) 4 ty4 (.node (.node .leaf 5 ty5 .leaf) 9 ty9 .leaf)) 21 Mc (.node (.node (.node .leaf 23 Mb .leaf) 24 Ma .leaf) 27 L9 (.node (.node .leaf 29 L8 .leaf) 31 L7 .leaf))) 32 L6 (.node (.node (.node (.node .leaf 33 L5 .leaf) 35 L4 .leaf) 36 L3 (.node (.node .leaf 37 L2 .leaf) 39 L1 .leaf)) 42 LZ (.node (.node (.node .leaf 48 LY .leaf) 61 LX .leaf) 63 LW (.node (.node .leaf 65 LV .leaf) 67 LU .leaf)))) 70 LS (.node (.node (.node (.node (.node .leaf 72 LR .leaf) 73 LQ .leaf) 76 LP (.node (.node .leaf 78 fc .leaf) 81 LO .leaf)) 85 LN (.node (.node (.node .leaf 88 LM .leaf) 89 LL .leaf) 92 LK (.node (.node .leaf 94 LJ .leaf) 96 LI .leaf))) 97 LH (.node (.node (.node (.node .leaf 99 LG .leaf) 104 I8 .leaf) 111 I7 (.node (.node .leaf 114 I6 .leaf) 122 I5 .leaf)) 124 I4 (.node (.node (.node .leaf 126 I3 .leaf) 128 I2 .leaf) 129 I1 (.node .leaf 132 I0 .leaf))))) 133 IZ (.node (.node (.node (.node (.node (.node .leaf 139 IY .leaf) 142 IX .leaf) 147 IW (.node (.node .leaf 151 IU .leaf) 155 IT .leaf)) 157 IS (.node (.node (.node .leaf 158 IQ .leaf) 162 IP .leaf) 167 IN (.node (.node .leaf 175 IM .leaf) 177 IL .leaf))) 185 IK (.node (.node (.node (.node .leaf 189 IJ .leaf) 192 II .leaf) 194 IH (.node (.node .leaf 195 IG .leaf) 197 IF .leaf)) 199 IE (.node (.node (.node .leaf 209 ID .leaf) 210 IC .leaf) 214 IB (.node .leaf 219 IA .leaf)))) 220 Iz (.node (.node (.node (.node (.node .leaf 221 Iy .leaf) 223 Ix .leaf) 225 Iw (.node (.node .leaf 229 Iv .leaf) 233 Iu .leaf)) 234 It (.node (.node (.node .leaf 235 Is .leaf) 236 Ir .leaf) 238 Iq (.node (.node .leaf 244 Ip .leaf) 246 Io .leaf))) 256 Im (.node (.node (.node (.node .leaf 258 Il .leaf) 266 Ik .leaf) 281 Ij (.node (.node .leaf 283 Ii .leaf) 291 Ih .leaf)) 295 Ig (.node (.node (.node .leaf 300 Ie .leaf) 301 Ic .leaf) 302 Ib (.node .leaf 303 Ia .leaf))))))
theorem yq:CJ.Nw (ah prog):=⟨Gc,⟨JS,⟨J4,⟨Ka,⟨LC,⟨LD,⟨LF,ac,ac⟩,ac⟩,⟨LA,⟨LB,ac,ac⟩,ac⟩⟩,⟨J7,⟨J8,⟨J9,ac,ac⟩,ac⟩,⟨J5,⟨J6,ac,ac⟩,ac⟩⟩⟩,⟨JY,⟨J1,⟨J2,⟨J3,ac,ac⟩,ac⟩,⟨JZ,⟨J0,ac,ac⟩,ac⟩⟩,⟨JV,⟨JW,⟨JX,ac,ac⟩,ac⟩,⟨JT,⟨JU,ac,ac⟩,ac⟩⟩⟩⟩,⟨JG,⟨JM,⟨JP,⟨JQ,⟨JR,ac,ac⟩,ac⟩,⟨JN,⟨JO,ac,ac⟩,ac⟩⟩,⟨JJ,⟨JK,⟨JL,ac,ac⟩,ac⟩,⟨JH,⟨JI,ac,ac⟩,ac⟩⟩⟩,⟨Gh,⟨Gk,⟨Gl,⟨JF,ac,ac⟩,ac⟩,⟨Gi,⟨Gj,ac,ac⟩,ac⟩⟩,⟨Ge,⟨Gf,⟨Gg,ac,ac⟩,ac⟩,⟨Gd,ac,ac⟩⟩⟩⟩⟩,⟨FN,⟨F0,⟨F6,⟨F9,⟨Ga,⟨Gb,ac,ac⟩,ac⟩,⟨F7,⟨F8,ac,ac⟩,ac⟩⟩,⟨F3,⟨F4,⟨F5,ac,ac⟩,ac⟩,⟨F1,⟨F2,ac,ac⟩,ac⟩⟩⟩,⟨FU,⟨FX,⟨FY,⟨FZ,ac,ac⟩,ac⟩,⟨FV,⟨FW,ac,ac⟩,ac⟩⟩,⟨FP,⟨FQ,⟨FT,ac,ac⟩,ac⟩,⟨FO,ac,ac⟩⟩⟩⟩,⟨Fz,⟨FF,⟨FI,⟨FJ,⟨FL,ac,ac⟩,ac⟩,⟨FG,⟨FH,ac,ac⟩,ac⟩⟩,⟨FC,⟨FD,⟨FE,ac,ac⟩,ac⟩,⟨FA,⟨FB,ac,ac⟩,ac⟩⟩⟩,⟨Ft,⟨Fw,⟨Fx,⟨Fy,ac,ac⟩,ac⟩,⟨Fu,⟨Fv,ac,ac⟩,ac⟩⟩,⟨Fp,⟨Fq,⟨Fs,ac,ac⟩,ac⟩,⟨Fo,ac,ac⟩⟩⟩⟩⟩⟩
def nD:Ty:=CJ.find
theorem ab:bq prog nD:=TT.sW yq
theorem KW:prog.follows .mixedOrders=is:=rfl
theorem fk{Q:AQ}{nt:NT}{k:List KI}{s:AS}{C:Prop}{b:NT}{st:Stop}(h:bp nD ⟨fun _=>io,0,jp⟩ 400 nt k s True=co (C,b,st))(hC:C)(hg:ej prog b Q st):GO prog nt k Q s:=y3 KW ab 400 h hC hg
theorem gA{Q:AQ}{nt:NT}{k:List KI}{s:AS}{C:Prop}{b:NT}{st:Stop}(h:bp nD ⟨fun _=>io,0,jp⟩ 400 nt k s True=co (C,b,st))(hg:ej prog b Q st)
  (hC:C:=by(repeat' (first|exact ac|exact rfl|exact an.refl _|exact an.bk (by assumption)|apply Oz))<;>first|omega|exact fT (fun _=>rfl) _|(simp only[OA];omega)|(simp;done)|(simp;omega)):GO prog nt k Q s:=y3 KW ab 400 h hC hg
theorem gM(N:Nat){Q:AQ}{nt:NT}{k:List KI}{s:AS}{C:Prop}{b:NT}{st:Stop}(h:bp nD ⟨fun _=>io,0,jp⟩ N nt k s True=co (C,b,st))(hg:ej prog b Q st)
  (hC:C:=by(repeat' (first|exact ac|exact rfl|exact an.refl _|exact an.bk (by assumption)|apply Oz))<;>first|omega|exact fT (fun _=>rfl) _|(simp only[OA];omega)|(simp;done)|(simp;omega)):GO prog nt k Q s:=y3 KW ab N h hC hg
theorem zp{nt:NT}{Q:AQ}{k:List KI}{s:AS}{all rest:List Oper}{o:Oper}{c:Call}{g:FuncId}{args:List PV}{r:PV}{s':AS}(hc:Al.Pure prog g args r)(h:GO prog nt (.ops all rest::k) Q s')(ho:o.op= .call c:=by exact rfl)(hg:o.guard=io:=by exact rfl)(ha:bM s.f c=co (g,args):=by exact rfl)(hl:bd 0 args=is:=by exact rfl)(hr:r.low 0=is:=by exact rfl)(hp:putDst nt o r s=co s':=by exact rfl):GO prog nt (.ops all (o::rest)::k) Q s:=aB hc ho hg ha hl hr hp h
theorem zL{ty:Ty}{j:List ResultVar}{e:Exit}{s:AS}{r r0:PV}(b:an r0 r)(he:e= .normal∨e= .ret:=by first|exact .inr Z|exact .inl Z)(h:iT ty s j=co r0:=by exact rfl):Cq ty j r e s:=aT he h b
theorem zq{nt:NT}{Q:AQ}{k:List KI}{s:AS}{all rest:List Oper}{o:Oper}{c:Call}{g:FuncId}{u args:List PV}{os:List AO}{r:PV}{y:AH}{A:Nat}{s':AS}(L:List Nat)(hc:bC prog g args os r y A)(h:GO prog nt (.ops all rest::k) Q s')(ho:o.op= .call c:=by exact rfl)(hg:o.guard=io:=by exact rfl)(ha:bM s.f c=co (g,u):=by exact rfl)(hn:cx L=is:=by exact rfl)(hl:L.all (fun j=>OV j s.nx)=is:=by exact rfl)(x:L.map s.h.get=os.map fun o=>co (o.cq (sig L s.nx)):=by exact rfl)(b:u=dy (sig L s.nx) args:=by exact rfl)(hp:putDst nt o (r.cq (sig L s.nx)) (aX s L y A)=co s':=by exact rfl):GO prog nt (.ops all (o::rest)::k) Q s:=bJ L hc ho hg ha hn hl x b hp h
theorem zd{nt:NT}{Q:AQ}{k:List KI}{s:AS}{all:List Oper}{todo pend:List (Nat×Oper)}{j:Nat}{o:Oper}{c:Call}{g:FuncId}{u args:List PV}{os:List AO}{r:PV}{C:AH}{D:Nat}{s':AS}{B A:Prop}(L:List Nat)(hc:bC prog g args os r C D)(h:GO prog nt (.bU all (todo.filter fun x=>!OW x.1 j) (aZ pend o)::k) Q s')(hrd:eJ todo=[(j,o)]:=by exact rfl)(ho:o.op= .call c:=by exact rfl)(ha:bM s.f c=co (g,u):=by exact rfl)(hn:cx L=is:=by exact rfl)(hl:L.all (fun j=>OV j s.nx)=is:=by exact rfl)(y:L.map s.h.get=os.map fun o=>co (o.cq (sig L s.nx)):=by exact rfl)(b:u=dy (sig L s.nx) args:=by exact rfl)(hp:putDst nt o (r.cq (sig L s.nx)) (aX s L C D)=co s':=by exact rfl)(hg:bV nt all s.f o=co is:=by exact rfl)(hpb:gW all pend o=is:=by exact rfl)(hE:mU todo [j]=is:=by exact rfl)(hag:mV nD nt all s todo pend=co B:=by exact rfl)(hCA:B:=by(repeat' (first|exact ac|exact rfl|exact an.refl _|exact an.bk (by assumption)|apply Oz))<;>first|omega|(simp only[OA];omega)|(simp;done)|(simp;omega))(hag2:dD nD nt all s' (aZ pend o)=co A:=by exact rfl)(hC2:A:=by(repeat' (first|exact ac|exact rfl|exact an.refl _|exact an.bk (by assumption)|apply Oz))<;>first|omega|(simp only[OA];omega)|(simp;done)|(simp;omega)):GO prog nt (.bU all todo pend::k) Q s:=bA ab L hc hrd ho ha hn hl y b hp hg hpb hE hag hCA hag2 hC2 h
theorem zm{nt:NT}{Q:AQ}{k:List KI}{s:AS}{all:List Oper}{todo pend:List (Nat×Oper)}{j:Nat}{o:Oper}{c:Call}{g:FuncId}{u args:List PV}{r:PV}{s':AS}{A y:Prop}(hc:Al.Pure prog g args r)(h:GO prog nt (.bU all (todo.filter fun x=>!OW x.1 j) (aZ pend o)::k) Q s')(hrd:eJ todo=[(j,o)]:=by exact rfl)(ho:o.op= .call c:=by exact rfl)(ha:bM s.f c=co (g,u):=by exact rfl)(b:u=dy (sig [] s.nx) args:=by exact rfl)(hp:putDst nt o (r.cq (sig [] s.nx)) (aX s [] [] 0)=co s':=by exact rfl)(hg:bV nt all s.f o=co is:=by exact rfl)(hpb:gW all pend o=is:=by exact rfl)(hE:mU todo [j]=is:=by exact rfl)(hag:mV nD nt all s todo pend=co A:=by exact rfl)(hCA:A:=by(repeat' (first|exact ac|exact rfl|exact an.refl _|exact an.bk (by assumption)|apply Oz))<;>first|omega|(simp only[OA];omega)|(simp;done)|(simp;omega))(hag2:dD nD nt all s' (aZ pend o)=co y:=by exact rfl)(hC2:y:=by(repeat' (first|exact ac|exact rfl|exact an.refl _|exact an.bk (by assumption)|apply Oz))<;>first|omega|(simp only[OA];omega)|(simp;done)|(simp;omega)):GO prog nt (.bU all todo pend::k) Q s:=bA ab [] hc.tC hrd ho ha Z Z Z b hp hg hpb hE hag hCA hag2 hC2 h
theorem zW{n0:Nat}{L:List Nat}{s t:AS}(hh:mA t.nx (sg n0 L) s.h t.h)(h1:OW t.nx (n0+L.length)=is:=by exact rfl)(b:Qr n0 s.nx=is:=by exact rfl)(u:L.all (fun j=>OV j s.nx)=is:=by exact rfl)(hf:Cy t.nx (sg n0 L) s.f t.f:=by repeat' (first|exact ac|exact an.refl _|exact rfl|apply Oz))(x:cx (eh (sg n0 L) t.h)=is:=by exact rfl):Wk n0 L s t:=wk h1 b u hf hh x
theorem zM{n0:Nat}{L:List Nat}{s t:AS}(hf:Cy t.nx (sg n0 L) s.f t.f)(hh:mA t.nx (sg n0 L) s.h t.h)(h1:OW t.nx (n0+L.length)=is:=by exact rfl)(b:Qr n0 s.nx=is:=by exact rfl)(u:L.all (fun j=>OV j s.nx)=is:=by exact rfl)(x:cx (eh (sg n0 L) t.h)=is:=by exact rfl):Wk n0 L s t:=wk h1 b u hf hh x
theorem zK{n i:Nat}{σ:Nat->Nat}{h r:AH}{cs:List PV}{b:Option TypeId}{c:List IV}(hr:mA n σ h r)(ho:h.get (σ i)=co (.cells cs b):=by exact rfl)(he:cs=c.map .iv:=by exact rfl)(hi:OV i n=is:=by exact rfl):mA n σ h ((i,co (ay c))::r):=hC ho he hi hr
theorem zS{n i:Nat}{σ:Nat->Nat}{h r:AH}{α:Type}{sz:Nat}{es:List (List PV)}{l:List α}{f:α->List IV}(hr:mA n σ h r)(ho:h.get (σ i)=co (.row sz es):=by exact rfl)(he:es=l.map fun x=>(f x).map .iv:=by exact rfl)(hi:OV i n=is:=by exact rfl):mA n σ h ((i,co (aP sz l f))::r):=hR ho he hi hr
theorem zI{a b:Prop}(l:a)(r:b):a∧b:=⟨l,r⟩
theorem zO{n i:Nat}{σ:Nat->Nat}{h r:AH}{o:AO}(hr:mA n σ h r)(he: ∃p,h.get (σ i)=co p∧dR p (o.cq σ):=by exact⟨_,rfl,.of_eq Z⟩)(hi:i<n:=by exact Oq Z)(hl:o.low n:=by exact rfl):mA n σ h ((i,co o)::r):=⟨he,hi,hl,hr⟩
theorem zD{ty:Ty}{s:AS}{l:List ResultVar}{m:Nat}{r r0:PV}{h:AH}{n:Nat}{e:Exit}(L:List Nat)(hr:iT ty s l=co r0)(hw:Wk m L ⟨[(0,r0)],s.h,s.nx⟩ ⟨[(0,r)],h,n⟩)(he:e= .normal∨e= .ret:=by first|exact .inr Z|exact .inl Z):zl ty l m r h n e s:=aY L he hr hw
theorem zU{ty:Ty}{j:List ResultVar}{nt:NT}{k:List KI}{s s':AS}{e:Exit}{C:Prop}{b:NT}{r r0:PV}(h:bp nD ⟨fun _=>io,0,jp⟩ 400 nt k s True=co (C,b,.fin e s'))(hr:r0=r:=by exact rfl)(he:e= .normal∨e= .ret:=by first|exact .inr Z|exact .inl Z)(h1:iT ty s' j=co r0:=by exact rfl)(hC:C:=by(repeat' (first|exact ac|exact rfl|exact an.refl _|exact an.bk (by assumption)|apply Oz))<;>first|omega|exact fT (fun _=>rfl) _|(simp only[OA];omega)|(simp;done)|(simp;omega)):GO prog nt k (Cq ty j r) s:=gA h (aT he h1 (.of_eq hr)) hC
theorem zC{n i:Nat}{σ:Nat->Nat}{h r:AH}{V:Type}{kc:KC}{ev:V->IV}{z:V}{u:Value}{b:PV->V}{m j:List (kc.K×V)}(hr:mA n σ h r)(ho:h.get (σ i)=co (.map kc ev z u b m):=by exact rfl)(he:m=j:=by exact rfl)(hi:OV i n=is:=by exact rfl):mA n σ h ((i,co (.map kc ev z u b j))::r):=hM ho he hi hr
theorem zJ{Q:AQ}{nt:NT}{k:List KI}{s:AS}{C:Prop}{j:NT}{st:Stop}{a b:Prop}(h:bp nD ⟨fun _=>io,0,jp⟩ 400 nt k s True=co (C,j,st))(e:ej prog j Q st=(a∧b))(l:a)(r:b)(hC:C:=by(repeat' (first|exact ac|exact rfl|exact an.refl _|exact an.bk (by assumption)|apply Oz))<;>first|omega|exact fT (fun _=>rfl) _|(simp only[OA];omega)|(simp;done)|(simp;omega)):GO prog nt k Q s:=gA h (e.mpr ⟨l,r⟩) hC
theorem zE{Q:AQ}{nt:NT}{k:List KI}{s:AS}{C:Prop}{j:NT}{st:Stop}{a b:Prop}(h:bp nD ⟨fun _=>io,0,jp⟩ 400 nt k s True=co (C,j,st))(e:ej prog j Q st=(a∧b))(r:b)(l:a)(hC:C:=by(repeat' (first|exact ac|exact rfl|exact an.refl _|exact an.bk (by assumption)|apply Oz))<;>first|omega|exact fT (fun _=>rfl) _|(simp only[OA];omega)|(simp;done)|(simp;omega)):GO prog nt k Q s:=gA h (e.mpr ⟨l,r⟩) hC
theorem zT{p:Prop}[Decidable p](h:decide p=is):p:=of_decide_eq_true h
theorem zF{p:Prop}[Decidable p](h:decide p=jp): ¬p:=of_decide_eq_false h
theorem zN{a b:Nat}(h:kw ((a:Int)<(b:Int))=is):a<b:=Int.ofNat_lt.1 (of_decide_eq_true h)
theorem zG{a b:Nat}(h:kw ((a:Int)<(b:Int))=jp):b<=a:=Qc fun hh=>absurd (Int.ofNat_lt.2 hh) (of_decide_eq_false h)
end Go.Proofs.YtllkaddcplhklaaGreatDoor
namespace Go.Proofs.YtllkaddcplhklaaGreatDoor
open Go Go.Al
abbrev ak:=ByteArray
structure c8 where
 kind:Int
 num:Int
 sym:ak
 deriving Inhabited,DecidableEq
structure Term where
 kind:Int
 var:ak
 val:c8
 deriving Inhabited,DecidableEq
inductive Expr where
 |mk (kind:Int) (var:ak) (val:c8) (op:Int) (args:List Expr)
instance:Inhabited Expr:=⟨.mk 0 OB ⟨0,0,OB⟩ 0 []⟩
def Expr.kind:Expr->Int| .mk k _ _ _ _=>k
def Expr.var:Expr->ak| .mk _ v _ _ _=>v
def Expr.val:Expr->c8| .mk _ _ v _ _=>v
def Expr.op:Expr->Int| .mk _ _ _ o _=>o
def Expr.args:Expr->List Expr| .mk _ _ _ _ a=>a
structure Atom where
 rel:ak
 aj:List Term
 deriving Inhabited,DecidableEq
structure Pos where
 line:Int
 Fg:Int
 deriving Inhabited,DecidableEq
inductive Lit where
 |mk (kind:Int) (atom:Atom) (op:Int) (left right:Expr) (dQ:Int) (bx:ak) (jw:Expr) (ar:List Lit) (at_:Pos)
instance:Inhabited Lit:=⟨.mk 0 ci 0 ci ci 0 OB ci [] ⟨0,0⟩⟩
def Lit.kind:Lit->Int| .mk k _ _ _ _ _ _ _ _ _=>k
def Lit.atom:Lit->Atom| .mk _ a _ _ _ _ _ _ _ _=>a
def Lit.op:Lit->Int| .mk _ _ o _ _ _ _ _ _ _=>o
def Lit.left:Lit->Expr| .mk _ _ _ l _ _ _ _ _ _=>l
def Lit.right:Lit->Expr| .mk _ _ _ _ r _ _ _ _ _=>r
def Lit.dQ:Lit->Int| .mk _ _ _ _ _ f _ _ _ _=>f
def Lit.bx:Lit->ak| .mk _ _ _ _ _ _ v _ _ _=>v
def Lit.jw:Lit->Expr| .mk _ _ _ _ _ _ _ o _ _=>o
def Lit.ar:Lit->List Lit| .mk _ _ _ _ _ _ _ _ b _=>b
def Lit.at:Lit->Pos| .mk _ _ _ _ _ _ _ _ _ p=>p
structure fC where
 func:Int
 var:ak
 iV:Expr
 body:List Lit
 deriving Inhabited
def Lit.agg(l:Lit):fC:=⟨l.dQ,l.bx,l.jw,l.ar⟩
structure ax where
 head:Atom
 body:List Lit
 at_:Pos
 deriving Inhabited
structure Decl where
 name:ak
 types:List Int
 at_:Pos
 deriving Inhabited
structure Prog where
 aQ:List Decl
 rules:List ax
 deriving Inhabited
structure Fact where
 rel:ak
 args:List c8
 deriving Inhabited
def c8.c(v:c8):List IV:=[iI v.kind,iI v.num,iS v.sym]
def Term.c(t:Term):List IV:=[iI t.kind,iS t.var,iI t.val.kind,iI t.val.num,iS t.val.sym]
def cR(s:ak):List IV:=[iS s]
def iY(n:Int):List IV:=[iI n]
abbrev strs(l:List ak):IV:=bw 1 l cR
def Atom.c(a:Atom):List IV:=[iS a.rel,bw 5 a.aj Term.c]
mutual
def Expr.cr:Expr->List IV
 | .mk k v val op args=> [iI k,iS v,iI val.kind,iI val.num,iS val.sym,iI op,.ck 7 args.length (fun j=>(Expr.wq args).getD j [])]
def Expr.wq:List Expr->List (List IV)
 | []=> []
 |e::r=>e.cr::Expr.wq r
end
def Expr.c(e:Expr):List IV:=[iI e.kind,iS e.var,iI e.val.kind,iI e.val.num,iS e.val.sym,iI e.op,.ck 7 e.args.length (fun j=>(Expr.wq e.args).getD j [])]
def Expr.c1(e:Expr):List IV:=[iI e.kind,iS e.var,iI e.val.kind,iI e.val.num,iS e.val.sym,iI e.op,bw 7 e.args Expr.c]
theorem Expr.EO(e:Expr):e.cr=e.c:=by cases e;rfl
theorem Expr.oi: ∀(l:List Expr) (k:Nat),k<l.length->(Expr.wq l).getD k []=(l.getD k ci).c
 |e::r,0,_=>by simp[Expr.wq,Expr.EO]
 |e::r,k+1,h=>by simpa[Expr.wq]using Expr.oi r k (by simpa using h)
 | [],k,h=>by simp at h
theorem La(e:Expr):kD (.ck 7 e.args.length (fun j=>(Expr.wq e.args).getD j [])) (bw 7 e.args Expr.c):= .ck Z (Expr.oi e.args)
theorem HH(e:Expr):kD (bw 7 e.args Expr.c) (.ck 7 e.args.length (fun j=>(Expr.wq e.args).getD j [])):= .ck Z (fun k hk=>(Expr.oi e.args k hk).symm)
mutual
def Lit.cr:Lit->List IV
 | .mk kind atom op left right dQ bx jw ar at_=>
  iI kind::(atom.c++(iI op::(left.c++(right.c++(iI dQ::iS bx::(jw.c++ [.ck 30 ar.length (fun j=>(Lit.wq ar).getD j []),iI at_.line,iI at_.Fg]))))))
def Lit.wq:List Lit->List (List IV)
 | []=> []
 |e::r=>e.cr::Lit.wq r
end
def Lit.cw(l:Lit)(b:IV):List IV:=
 [iI l.kind,iS l.atom.rel,bw 5 l.atom.aj Term.c,iI l.op,
  iI l.left.kind,iS l.left.var,iI l.left.val.kind,iI l.left.val.num,iS l.left.val.sym,iI l.left.op,.ck 7 l.left.args.length (fun j=>(Expr.wq l.left.args).getD j []),
  iI l.right.kind,iS l.right.var,iI l.right.val.kind,iI l.right.val.num,iS l.right.val.sym,iI l.right.op,.ck 7 l.right.args.length (fun j=>(Expr.wq l.right.args).getD j []),
  iI l.dQ,iS l.bx,
  iI l.jw.kind,iS l.jw.var,iI l.jw.val.kind,iI l.jw.val.num,iS l.jw.val.sym,iI l.jw.op,.ck 7 l.jw.args.length (fun j=>(Expr.wq l.jw.args).getD j []),
  b,iI l.at.line,iI l.at.Fg]
def tc(l:List Lit):IV:= .ck 30 l.length (fun j=>(Lit.wq l).getD j [])
def Lit.c(l:Lit):List IV:=l.cw (tc l.ar)
abbrev lits(l:List Lit):IV:=bw 30 l Lit.c
def Lit.c1(l:Lit):List IV:=l.cw (lits l.ar)
theorem Lit.EO(e:Lit):e.cr=e.c:=by cases e;rfl
theorem Lit.oi: ∀(l:List Lit) (k:Nat),k<l.length->(Lit.wq l).getD k []=(l.getD k ci).c
 |e::r,0,_=>by simp[Lit.wq,Lit.EO]
 |e::r,k+1,h=>by simpa[Lit.wq]using Lit.oi r k (by simpa using h)
 | [],k,h=>by simp at h
theorem lW(l:List Lit):kD (tc l) (lits l):= .ck Z (Lit.oi l)
theorem DX(l:List Lit):kD (lits l) (tc l):= .ck Z (fun k hk=>(Lit.oi l k hk).symm)
def fC.cw(a:fC)(b:IV):List IV:=[iI a.func,iS a.var,iI a.iV.kind,iS a.iV.var,iI a.iV.val.kind,iI a.iV.val.num,iS a.iV.val.sym,iI a.iV.op,.ck 7 a.iV.args.length (fun j=>(Expr.wq a.iV.args).getD j []),b]
def fC.c(a:fC):List IV:=a.cw (tc a.body)
def fC.c1(a:fC):List IV:=a.cw (lits a.body)
def ax.c(r:ax):List IV:=[iS r.head.rel,bw 5 r.head.aj Term.c,lits r.body,iI r.at_.line,iI r.at_.Fg]
def Decl.c(r:Decl):List IV:=[iS r.name,bw 1 r.types iY,iI r.at_.line,iI r.at_.Fg]
def Prog.c(p:Prog):List IV:=[bw 4 p.aQ Decl.c,bw 5 p.rules ax.c]
def Fact.c(f:Fact):List IV:=[iS f.rel,bw 3 f.args c8.c]
theorem Expr.D2(e:Expr):an (ag e.c) (ag e.c1):= .agg ⟨.refl _,.refl _,.refl _,.refl _,.refl _,.refl _,.iv (La e),ac⟩
theorem Expr.Hk(e:Expr):an (ag e.c1) (ag e.c):= .agg ⟨.refl _,.refl _,.refl _,.refl _,.refl _,.refl _,.iv (HH e),ac⟩
theorem Lit.A3(l:Lit){b j:IV}(h:kD b j):an (ag (l.cw b)) (ag (l.cw j)):=
 .agg ⟨.refl _,.refl _,.refl _,.refl _,.refl _,.refl _,.refl _,.refl _,.refl _,.refl _,.refl _,.refl _,.refl _,.refl _,.refl _,.refl _,.refl _,.refl _,.refl _,.refl _,.refl _,.refl _,.refl _,.refl _,.refl _,.refl _,.refl _,.iv h,.refl _,.refl _,ac⟩
theorem Lit.D2(l:Lit):an (ag l.c) (ag l.c1):=l.A3 (lW _)
theorem fC.A3(l:fC){b j:IV}(h:kD b j):an (ag (l.cw b)) (ag (l.cw j)):=
 .agg ⟨.refl _,.refl _,.refl _,.refl _,.refl _,.refl _,.refl _,.refl _,.refl _,.iv h,ac⟩
theorem fC.D2(l:fC):an (ag l.c) (ag l.c1):=l.A3 (lW _)
theorem fC.Hk(l:fC):an (ag l.c1) (ag l.c):=l.A3 (DX _)
mutual
def Expr.size:Expr->Nat
 | .mk _ _ _ _ args=>1+Expr.aE args
def Expr.aE:List Expr->Nat
 | []=>0
 |e::r=>e.size+Expr.aE r
end
mutual
def Lit.size:Lit->Nat
 | .mk _ a _ l r _ _ o b _=>2+a.aj.length+l.size+r.size+o.size+Lit.aE b
def Lit.aE:List Lit->Nat
 | []=>0
 |e::r=>e.size+Lit.aE r
end
theorem Expr.size_eq(e:Expr):e.size=1+Expr.aE e.args:=by cases e;rfl
theorem Lit.size_eq(l:Lit):l.size=2+l.atom.aj.length+l.left.size+l.right.size+l.jw.size+Lit.aE l.ar:=by cases l;rfl
theorem Expr.bR: ∀(l:List Expr) (k:Nat),k<l.length->(l.getD k ci).size<=Expr.aE l
 |e::r,0,_=>by simp[Expr.aE]
 |e::r,k+1,h=>by
  have:=Expr.bR r k (by simpa using h);simp only[PK,Expr.aE];omega
 | [],k,h=>by simp at h
theorem Lit.bR: ∀(l:List Lit) (k:Nat),k<l.length->(l.getD k ci).size<=Lit.aE l
 |e::r,0,_=>by simp[Lit.aE]
 |e::r,k+1,h=>by
  have:=Lit.bR r k (by simpa using h);simp only[PK,Lit.aE];omega
 | [],k,h=>by simp at h
theorem Expr.size_pos(e:Expr):1<=e.size:=by rw[e.size_eq];omega
theorem Lit.size_pos(e:Lit):2<=e.size:=by rw[e.size_eq];omega
theorem Expr.aF: ∀(l:List Expr),l.length<=Expr.aE l
 | []=>OJ _
 |e::r=>by have:=e.size_pos;have:=Expr.aF r;simp only[O6,Expr.aE];omega
theorem Lit.aF: ∀(l:List Lit),l.length<=Lit.aE l
 | []=>OJ _
 |e::r=>by have:=e.size_pos;have:=Lit.aF r;simp only[O6,Lit.aE];omega
def ax.size(r:ax):Nat:=r.head.aj.length+Lit.aE r.body
def du(l:List ak)(s:ak):Bool:=l.any fun x=>kw (x=s)
def dH(s:ak)(a:List ak×Bool)(x:ak):List ak×Bool:=
 if(a.2||decide (x=s))=jp∧(!(Op.bytesLess x.toList s.toList||decide (x=s)))=is then(a.1++ [s]++ [x],is) else(a.1++ [x],a.2||decide (x=s))
def fO(l:List ak)(s:ak):List ak:=
 let r:=l.foldl (dH s) ([],jp)
 if r.2 then r.1 else r.1++ [s]
def mB(l m:List ak):List ak:=m.foldl fO l
def yr(a:List ak)(t:Term):List ak:=if t.kind=1 then fO a t.var else a
def pd(a:Atom):List ak:=a.aj.foldl yr []
theorem Lit.rR: ∀(l:List Lit) (i:Nat),Lit.aE (l.take i)<=Lit.aE l
 | [],i=>by simp
 |e::r,0=>by simp[Lit.aE]
 |e::r,i+1=>by have:=Lit.rR r i;simp only[PR,Lit.aE];omega
theorem Expr.dw: ∀(l:List Expr) (i:Nat),i<l.length->Expr.aE (l.take i)+(l.getD i ci).size<=Expr.aE l
 |e::r,0,_=>by simp[Expr.aE]
 |e::r,i+1,h=>by have:=Expr.dw r i (by simpa using h);simp only[PR,PK,Expr.aE];omega
 | [],i,h=>by simp at h
theorem Lit.dw: ∀(l:List Lit) (i:Nat),i<l.length->Lit.aE (l.take i)+(l.getD i ci).size<=Lit.aE l
 |e::r,0,_=>by simp[Lit.aE]
 |e::r,i+1,h=>by have:=Lit.dw r i (by simpa using h);simp only[PR,PK,Lit.aE];omega
 | [],i,h=>by simp at h
def fC.size(a:fC):Nat:=a.iV.size+Lit.aE a.body
section
def wH(n:Int):IV:= .v (.int .i64 n)
def NN(p:PV):Int:=match p with
 | .iv (.v (.int _ n))=>n
 |_=>0
abbrev NM:=List ((KC.str).K×Int)
abbrev cC(m:NM):AO:= .map .str wH 0 (.int .i64 0) NN m
abbrev xH(m:NM):IV:= .dO .str wH 0 (.int .i64 0) m
theorem eY: ∀M,IR M (wH 0) (.int .i64 0):=fun _=> .v _
def bump(m:NM)(s:ak):NM:=ct .str m s (dt .str m s 0+1)
def aD(l:List ak):NM:=l.foldl bump []
theorem cY(l:List ak)(s:ak):aD (l++ [s])=bump (aD l) s:=by simp[aD]
section
variable {V:Type}
theorem km{m:List ((KC.str).K×V)}{s t:ak}{v z:V}:dt .str (ct .str m s v) t z=if s=t then v else dt .str m t z:=by
 induction m with
 |nil=>simp only[ct,dt]
 |cons x r ih=>
  obtain⟨a,b⟩:=x;simp only[ct];by_cases h:a=s
  .rw[am h];simp only[dt];by_cases j:s=t
   .simp[j]
   .have: ¬a=t:=fun e=>j (h▸e)
    rw[be j,be j,be this]
  .rw[be h];simp only[dt,ih];by_cases j:a=t
   .have: ¬s=t:=fun e=>h (j.trans e.symm)
    simp[j,this]
   .simp[j]
theorem xZ{m:List ((KC.str).K×V)}{t:ak}:cO .str m t=is↔t∈m.map Pq:=by
 induction m with
 |nil=>simp[cO]
 |cons x r ih=>
  obtain⟨a,b⟩:=x;simp only[cO,OU,OG];by_cases h:a=t
  .simp[h]
  .have: ¬t=a:=fun e=>h e.symm
   simp[h,this,ih]
theorem oP{m:List ((KC.str).K×V)}{s:ak}{v:V}(h:s∈m.map Pq):(ct .str m s v).map Pq=m.map Pq:=by
 induction m with
 |nil=>simp at h
 |cons x r ih=>
  obtain⟨a,b⟩:=x;simp only[ct];by_cases j:a=s
  .rw[am j];simp[j]
  .have: ¬s=a:=fun e=>j e.symm
   rw[be j,OU,ih (by simpa[this]using h)];rfl
theorem dA{m:List ((KC.str).K×V)}{s:ak}{v:V}(h:s∉m.map Pq):(ct .str m s v).map Pq=m.map Pq++ [s]:=by
 induction m with
 |nil=>simp[ct]
 |cons x r ih=>
  obtain⟨a,b⟩:=x;simp only[OU,OG,not_or]at h;have: ¬a=s:=fun e=>h.1 e.symm;simp only[ct,be this,OU,ih h.2];rfl
theorem yP{m:List ((KC.str).K×V)}{t:ak}{z:V}(h:t∉m.map Pq):dt .str m t z=z:=by
 induction m with
 |nil=>rfl
 |cons x r ih=>
  obtain⟨a,b⟩:=x;simp only[OU,OG,not_or]at h;have: ¬a=t:=fun e=>h.1 e.symm;simp only[dt,be this];exact ih h.2
end
theorem oz{α:Type}{p:List α->Prop}(h0:p [])(h1: ∀l a,p l->p (l++ [a]))(l:List α):p l:=by
 have key: ∀r:List α,p r.reverse:=by
  intro r
  induction r with
  |nil=>exact h0
  |cons a r ih=>rw[List.reverse_cons];exact h1 _ _ ih
 simpa using key l.reverse
def oj(l:List ak)(t:ak):Nat:=(l.filter fun x=>kw (x=t)).length
theorem ye(l m:List ak)(t:ak):oj (l++m) t=oj l t+oj m t:=by simp[oj]
theorem fz(l:List ak)(t:ak):oj l t<=l.length:=PJ _ _
theorem s4{l:List ak}{t:ak}:0<oj l t↔t∈l:=by
 rw[oj,List.length_pos_iff_exists_mem];constructor
 .rintro⟨x,hx⟩;obtain⟨h1,b⟩:=O5.1 hx;exact(zT b)▸h1
 .exact fun h=>⟨t,O5.2 ⟨h,by simp⟩⟩
theorem qb{l:List ak}{t:ak}:oj l t=0↔t∉l:=by
 rw[<-s4];omega
theorem bt(l:List ak)(t:ak):dt .str (aD l) t 0=(oj l t:Int):=by
 induction l using oz with
 |h0=>rfl
 |h1 l s ih=>
  rw[cY,bump,km,ye];by_cases h:s=t
  .subst h;rw[ih];simp[oj]
  .rw[be h,ih];simp[h,oj]
theorem dL(l:List ak):((aD l).map Pq).Nodup∧ ∀t:ak,t∈(aD l).map Pq↔t∈l:=by
 induction l using oz with
 |h0=>simp[aD]
 |h1 l s ih=>
  rw[cY,bump];obtain⟨h1,j⟩:=ih;by_cases h:s∈(aD l).map Pq
  .rw[oP h];refine⟨h1,fun t=>?_⟩;rw[j,ON,OI];exact⟨.inl,fun u=>u.elim id fun e=>e▸(j s).1 h⟩
  .rw[dA h];refine⟨?_,fun t=>by rw[ON,j,ON]⟩;rw[PU];refine⟨h1,O7.2 ⟨Rf,Pe⟩,fun a x b hb e=>?_⟩;rw[OI]at hb;exact h ((e.trans hb)▸x)
def cB(a:Atom):List ak:=a.aj.flatMap fun t=>if t.kind=1 then[t.var] else[]
theorem bK{α β:Type}[Inhabited α]{l:List α}{f:α->List β}{i:Nat}(h:i<l.length):(l.take (i+1)).flatMap f=(l.take i).flatMap f++f (l.getD i ci):=by
 rw[ch h,QZ];simp
theorem rO: ∀l:List Term,(l.flatMap fun t=>if t.kind=1 then[t.var] else[]).length<=l.length
 | []=>by simp
 |t::r=>by
  have:=rO r;have b:(if t.kind=1 then[t.var] else[]).length<=1:=by split<;>simp
  rw[PB,Oy,O6];omega
theorem ij(a:Atom):(cB a).length<=a.aj.length:=rO a.aj
theorem d88(occ:List ak)(a:Atom)(hb:occ.length+a.aj.length<=1000000000000):bC Tryz.prog 135 [.mp 0,ag a.c] [cC (aD occ)] (.bf []) [(0,co (cC (aD (occ++cB a))))] 1:=by
 refine au ab Tryz.func135 Z (by decide) Tryz.ntmps135 Z (by simp) ?_;refine gA Z ?_;refine aK 0 a.aj.length (OL _) (fun i=>⟨[(0,.mp 0),(3,.ptr 1 0),(7,.iv (bw 5 a.aj Term.c)),(8,pI a.aj.length),(9,pI i)],[(0,co (cC (aD (occ++(a.aj.take i).flatMap fun t=>if t.kind=1 then[t.var] else[]))))],2⟩) (fun _=>True) [] ac
  (zW (hM Z (by simp) Z trivial)) fun i y _=>?_
 have hl:=rO (a.aj.take i);simp only[PF]at hl;refine zJ Z Z (fun h1=>?_) fun h1=>?_
 .have h1:i<a.aj.length:=by simpa using h1
  have hs:=bK (f:=fun t:Term=>if t.kind=1 then[t.var] else[]) h1;have x:=bt (occ++(a.aj.take i).flatMap fun t=>if t.kind=1 then[t.var] else[]) (a.aj.getD i ci).var;have j:=fz (occ++(a.aj.take i).flatMap fun t=>if t.kind=1 then[t.var] else[]) (a.aj.getD i ci).var;rw[Oy]at j;refine zJ Z Z (fun b=>?_) fun b=>?_
  .have b:(a.aj.getD i ci).kind=1:=by simpa using b
   rw[am b]at hs;refine gA Z ⟨h1,ac,[],zW (hM Z (by rw[hs,<-OS,cY];rfl) Z ac)⟩
  .have b: ¬(a.aj.getD i ci).kind=1:=by simpa using b
   rw[be b,Pt]at hs;refine gA Z ⟨h1,ac,[],zW (hM Z (by rw[hs]) Z ac)⟩
 .have h1:a.aj.length<=i:=by simpa using h1
  have u:a.aj.take i=a.aj:=OP h1;refine gA Z (zD [] Z (zW (hM Z (by rw[u];rfl) Z ac)))
end
end Go.Proofs.YtllkaddcplhklaaGreatDoor
namespace Go.Proofs.YtllkaddcplhklaaGreatDoor
open Go Go.Al Go.Proofs.Tryz
mutual
def b8:Expr->List ak
 | .mk k v _ _ args=>if k=1 then[v] else if k=4 then jk args else[]
def jk:List Expr->List ak
 | []=> []
 |e::r=>b8 e++jk r
end
theorem me: ∀l:List Expr,jk l=l.flatMap b8
 | []=>rfl
 |e::r=>by simp only[jk,PB,me r]
theorem y9(e:Expr):b8 e=if e.kind=1 then[e.var] else if e.kind=4 then e.args.flatMap b8 else[]:=by
 cases e with
 |mk k v val op args=>simp only[b8,Expr.kind,Expr.var,Expr.args,me];rfl
mutual
theorem fS: ∀e:Expr,(b8 e).length<=e.size
 | .mk k v _ _ args=>by
  have:=lf args;simp only[b8,Expr.size];split
  .simp
  .split
   .omega
   .simp
theorem lf: ∀l:List Expr,(jk l).length<=Expr.aE l
 | []=>by simp[jk]
 |e::r=>by
  have h1:=fS e;have b:=lf r;simp only[jk,Expr.aE,Oy];omega
end
theorem d135: ∀(n:Nat) (e:Expr) (occ:List ak),e.size<=n->occ.length+e.size<=1000000000000->bC prog 193 [.mp 0,ag e.c] [cC (aD occ)] (.bf []) [(0,co (cC (aD (occ++b8 e))))] 1
 |0,e,_,h,_=>by have:=e.size_pos;omega
 |n+1,e,occ,h,hb=>by
  refine bC.le (args:=[.mp 0,ag e.c1]) ?_ ⟨.refl _,e.D2,ac⟩;have u:=y9 e;have C:=e.size_eq;have B:=bt occ e.var;have A:=fz occ e.var;refine au ab func193 Z (by decide) ntmps193 Z (by simp) ?_;refine zJ Z Z (fun h1=>?_) fun h1=>?_
  .have h1:e.kind=1:=by simpa using h1
   rw[am h1]at u;refine gA Z (zD [] Z (zW (hM Z (by rw[u,cY];rfl) Z ac)))
  have h1: ¬e.kind=1:=by simpa using h1
  rw[be h1]at u;refine zJ Z Z (fun j=>?_) fun j=>?_
  .have j:e.kind=4:=by simpa using j
   rw[am j]at u;refine gA Z ?_;refine aK 0 e.args.length (OL _) (fun i=>⟨[(0,.mp 0),(3,.ptr 1 0),(18,.iv (bw 7 e.args Expr.c)),(19,pI e.args.length),(20,pI i)],[(0,co (cC (aD (occ++(e.args.take i).flatMap b8))))],2⟩) (fun _=>True) [] ac
    (zW (hM Z (by simp) Z trivial)) fun i G _=>?_
   have y:=Expr.aF e.args;refine zJ Z Z (fun b=>?_) fun b=>?_
   .have b:i<e.args.length:=by simpa using b
    have hs:=bK (f:=b8) b;have I:=Expr.dw e.args i b;have D:=lf (e.args.take i);rw[me]at D;refine gA Z (bJ [0] (d135 n (e.args.getD i ci) _ (by omega) (by rw[Oy];omega)) Z Z Z Z Z Z Z Z ?_);refine gA Z ⟨b,ac,[],zW (hM Z (by rw[hs,OS]) Z ac)⟩
   .have b:e.args.length<=i:=by simpa using b
    have x:e.args.take i=e.args:=OP b;refine gA Z (zD [] Z (zW (hM Z (by rw[u,x]) Z ac)))
  .have j: ¬e.kind=4:=by simpa using j
   rw[be j]at u;refine gA Z (zD [] Z (zW (hM Z (by rw[u,Pt]) Z ac)))
theorem EM(e:Expr)(occ:List ak)(hb:occ.length+e.size<=1000000000000):bC prog 193 [.mp 0,ag e.c] [cC (aD occ)] (.bf []) [(0,co (cC (aD (occ++b8 e))))] 1:=d135 e.size e occ (OJ _) hb
def cE(l:Lit):List ak:=if l.kind=1∨l.kind=2 then cB l.atom else if l.kind=3 then b8 l.left++b8 l.right else[]
theorem kR(l:Lit):(cE l).length+2<=l.size:=by
 have h1:=ij l.atom;have b:=fS l.left;have j:=fS l.right;rw[l.size_eq];unfold cE;split
 .omega
 .split
  .rw[Oy];omega
  .simp;omega
theorem d89(l:Lit)(occ:List ak)(hb:occ.length+l.size<=1000000000000):bC prog 156 [.mp 0,ag l.c] [cC (aD occ)] (.bf []) [(0,co (cC (aD (occ++cE l))))] 1:=by
 have A:=l.size_eq;have B:=fS l.left;refine au ab func156 Z (by decide) ntmps156 Z (by simp) ?_;refine zJ Z Z (fun j=>?_) fun j=>?_
 .have j:l.kind=1:=zT j;have y:cE l=cB l.atom:=am (.inl j);refine gA Z (zq [0] (d88 occ l.atom (by omega)) ?_);refine gA Z (zD [] Z (zW (hM Z (by rw[y]) Z ac)))
 have j: ¬l.kind=1:=zF j;refine zJ Z Z (fun u=>?_) fun u=>?_
 .have u:l.kind=2:=zT u;have y:cE l=cB l.atom:=am (.inr u);refine gA Z (zq [0] (d88 occ l.atom (by omega)) ?_);refine gA Z (zD [] Z (zW (hM Z (by rw[y]) Z ac)))
 have u: ¬l.kind=2:=zF u;have b:cE l=if l.kind=3 then b8 l.left++b8 l.right else[]:=be (by simp[j,u]);refine zJ Z Z (fun x=>?_) fun x=>?_
 .have x:l.kind=3:=zT x;rw[am x]at b;refine gA Z (zq [0] (EM l.left occ (by omega)) ?_);refine gA Z (bJ [0] (EM l.right _ (by rw[Oy];omega)) Z Z Z Z Z Z Z Z ?_);refine gA Z (zD [] Z (zW (hM Z (by rw[b,OS]) Z ac)))
 .have x: ¬l.kind=3:=zF x;rw[be x]at b;refine gA Z (zD [] Z (zW (hM Z (by rw[b,Pt]) Z ac)))
def a7(a:fC):List ak:=(if a.func=1 then[] else b8 a.iV)++a.body.flatMap cE
theorem jD: ∀l:List Lit,(l.flatMap cE).length<=Lit.aE l
 | []=>by simp
 |e::r=>by
  have h1:=kR e;have b:=jD r;rw[PB,Oy];simp only[Lit.aE];omega
theorem Ju(e:Expr)(hb:e.size<=1000000000000):bC prog 193 [.mp 0,ag e.c] [.fg] (.bf []) [(0,co (cC (aD (b8 e))))] 1:=
 (EM e [] (by simpa using hb)).Jk ⟨⟨id,fun M N U w j b=>⟨#[],0,b,⟨rfl,by simp[aD],by simp[aD],by simp,by simp⟩,eY M⟩⟩,ac⟩
theorem NR(a:Atom)(hb:a.aj.length<=1000000000000):bC prog 135 [.mp 0,ag a.c] [.fg] (.bf []) [(0,co (cC (aD (cB a))))] 1:=
 (d88 [] a (by simpa using hb)).Jk ⟨⟨id,fun M N U w j b=>⟨#[],0,b,⟨rfl,by simp[aD],by simp[aD],by simp,by simp⟩,eY M⟩⟩,ac⟩
theorem d127(a:fC)(hb:a.size<=1000000000000):bC prog 162 [ag a.c] [] (.mp 0) [(0,co (cC (aD (a7 a))))] 1:=by
 refine bC.le (args:=[ag a.c1]) ?_ ⟨a.D2,ac⟩;unfold fC.size at hb;have y:=fS a.iV;have x:=Lit.aF a.body;refine au ab func162 Z (by decide) ntmps162 Z (by simp) ?_;refine zJ Z Z (fun h1=>?_) fun h1=>?_
 .have h1: ¬a.func=1:=by simpa using h1
  have j:a7 a=b8 a.iV++a.body.flatMap cE:=by unfold a7;rw[be h1]
  refine gA Z (zq [1] (Ju a.iV (by omega)) ?_);refine gA Z ?_;refine aK 0 a.body.length (OL _) (fun i=>⟨[(3,.mp 1),(15,.iv (lits a.body)),(16,pI a.body.length),(17,pI i)],[(1,co (cC (aD (b8 a.iV++(a.body.take i).flatMap cE))))],2⟩) (fun _=>True) [] ac
   (zW (hM Z (by simp) Z trivial)) fun i A _=>?_
  refine zJ Z Z (fun b=>?_) fun b=>?_
  .have b:i<a.body.length:=by simpa using b
   have hs:=bK (f:=cE) b;have B:=Lit.dw a.body i b;have C:=jD (a.body.take i);refine gA Z (bJ [1] (d89 (a.body.getD i ci) _ (by rw[Oy];omega)) Z Z Z Z Z Z Z Z ?_);refine gA Z ⟨b,ac,[],zW (hM Z (by rw[hs,OS]) Z ac)⟩
  .have b:a.body.length<=i:=by simpa using b
   have u:a.body.take i=a.body:=OP b;refine gA Z (zD [1] Z (zW (hM Z (by rw[u,j]) Z ac)))
 .have h1:a.func=1:=by simpa using h1
  have j:a7 a=a.body.flatMap cE:=by unfold a7;rw[am h1];rfl
  refine gA Z ?_;refine aK 0 a.body.length (OL _) (fun i=>⟨[(3,.mp 1),(15,.iv (lits a.body)),(16,pI a.body.length),(17,pI i)],[(1,co (cC (aD ((a.body.take i).flatMap cE))))],2⟩) (fun _=>True) [] ac
   (zW (K1 Z eY Z trivial)) fun i A _=>?_
  refine zJ Z Z (fun b=>?_) fun b=>?_
  .have b:i<a.body.length:=by simpa using b
   have hs:=bK (f:=cE) b;have B:=Lit.dw a.body i b;have C:=jD (a.body.take i);refine gA Z (bJ [1] (d89 (a.body.getD i ci) _ (by omega)) Z Z Z Z Z Z Z Z ?_);refine gA Z ⟨b,ac,[],zW (hM Z (by rw[hs]) Z ac)⟩
  .have b:a.body.length<=i:=by simpa using b
   have u:a.body.take i=a.body:=OP b;refine gA Z (zD [1] Z (zW (hM Z (by rw[u,j]) Z ac)))
def ins:List ak->ak->List ak
 | [],s=> [s]
 |x::r,s=>if x=s then x::r else if Op.bytesLess x.toList s.toList=is then x::ins r s else s::x::r
theorem jg(s:ak): ∀(l a:List ak),l.foldl (dH s) (a,is)=(a++l,is)
 | [],a=>by simp
 |x::r,a=>by
  have:dH s (a,is) x=(a++ [x],is):=by simp[dH]
  rw[Pl,this,jg s r];simp
theorem u2(s:ak): ∀(l a:List ak),(if(l.foldl (dH s) (a,jp)).2 then(l.foldl (dH s) (a,jp)).1 else(l.foldl (dH s) (a,jp)).1++ [s])=a++ins l s
 | [],a=>by simp[ins]
 |x::r,a=>by
  by_cases h1:x=s
  .have:dH s (a,jp) x=(a++ [x],is):=by simp[dH,h1]
   rw[Pl,this,jg];simp[ins,h1]
  .cases h2:Op.bytesLess x.toList s.toList with
   |true=>
    have:dH s (a,jp) x=(a++ [x],jp):=by simp[dH,h1,h2]
    rw[Pl,this,u2 s r];simp[ins,h1,h2]
   |false=>
    have:dH s (a,jp) x=(a++ [s]++ [x],is):=by simp[dH,h1,h2]
    rw[Pl,this,jg];simp[ins,h1,h2]
theorem uc(l:List ak)(s:ak):fO l s=ins l s:=by
 have:=u2 s l [];simpa[fO]using this
theorem kN{x:ak}: ∀{l:List ak} {s:ak},x∈ins l s↔x∈l∨x=s
 | [],s=>by simp[ins]
 |y::r,s=>by
  simp only[ins];split
  .rename_i h;subst h;simp;exact fun h=> .inl h
  .split
   .simp[kN (l:=r),or_assoc]
   .simp;constructor
    .rintro(h|h|h)
     .exact .inr h
     .exact .inl (.inl h)
     .exact .inl (.inr h)
    .rintro((h|h)|h)
     .exact .inr (.inl h)
     .exact .inr (.inr h)
     .exact .inl h
theorem db{x s:ak}{l:List ak}:x∈fO l s↔x∈l∨x=s:=by rw[uc];exact kN
theorem qy{x:ak}: ∀{m l:List ak},x∈mB l m↔x∈l∨x∈m
 | [],l=>by simp[mB]
 |y::r,l=>by
  have h:=qy (x:=x) (m:=r) (l:=fO l y);simp only[mB,Pl]at h ⊢;rw[h,db,OG,or_assoc]
theorem bu{l:List ak}{s:ak}:du l s=is↔s∈l:=by
 simp[du]
theorem ew{l:List ak}{s:ak}:du l s=jp↔s∉l:=by
 rw[<-Bool.not_eq_true,bu]
def iy(l:Lit):List ak:=cE l++if l.kind=4 then[l.bx] else[]
def aC(r:ax):List ak:=cB r.head++r.body.flatMap iy
theorem yQ(l:Lit):(iy l).length+1<=l.size:=by
 have:=kR l;unfold iy;rw[Oy];split<;>simp<;>omega
theorem lV: ∀l:List Lit,(l.flatMap iy).length<=Lit.aE l
 | []=>by simp
 |e::r=>by
  have h1:=yQ e;have b:=lV r;rw[PB,Oy];simp only[Lit.aE];omega
theorem vN(r:ax):(aC r).length<=r.size:=by
 have h1:=lV r.body;have b:=ij r.head;unfold aC ax.size;rw[Oy];omega
def Jw(r:ax):List IV:=[iS r.head.rel,bw 5 r.head.aj Term.c,lits r.body,iI r.at_.line,iI r.at_.Fg,xH (aD (aC r))]
abbrev cg(r:ax):IV:= .ju (Jw r)
theorem c48(r:ax)(hb:r.size<=1000000000000):Pure prog 120 [ag r.c] (.iv (cg r)):=by
 unfold ax.size at hb;have B:=ij r.head;have A:=Lit.aF r.body;refine ai ab func120 Z (by decide) ntmps120 Z (by simp) Z ?_;refine gA Z (zd [1] (NR r.head (by omega)) ?_);refine gA Z ?_
 refine aK 0 r.body.length (OL _) (fun i=>⟨[(3,.ptr 2 0),(18,.iv (lits r.body)),(19,pI r.body.length),(20,pI i)],
   [(1,co (cC (aD (cB r.head++(r.body.take i).flatMap iy)))),(2,co (.cells [pS r.head.rel,.iv (bw 5 r.head.aj Term.c),.iv (lits r.body),pI r.at_.line,pI r.at_.Fg,.mp 1]))],3⟩) (fun _=>True) [] ac
  (zW (hM Z (by simp) Z (zO trivial))) fun i G _=>?_
 refine zJ Z Z (fun j=>?_) fun j=>?_
 .have j:i<r.body.length:=by simpa using j
  have hs:=bK (f:=iy) j;have I:=Lit.dw r.body i j;have J:=lV (r.body.take i);have D:=kR (r.body.getD i ci);refine gA Z (bA ab [1] (d89 (r.body.getD i ci) _ (by rw[Oy];omega)) Z Z Z Z Z Z Z Z Z Z Z Z (by(repeat' (first|exact ac|exact rfl|exact an.refl _|exact an.bk (by assumption)|apply Oz))<;>first|omega|(simp only[OA];omega)|(simp;done)|(simp;omega)) Z (by(repeat' (first|exact ac|exact rfl|exact an.refl _|exact an.bk (by assumption)|apply Oz))<;>first|omega|(simp only[OA];omega)|(simp;done)|(simp;omega)) ?_);refine zJ Z Z (fun u=>?_) fun u=>?_
  .have u:(r.body.getD i ci).kind=4:=zT u;have b:iy (r.body.getD i ci)=cE (r.body.getD i ci)++ [(r.body.getD i ci).bx]:=by unfold iy;rw[am u]
   rw[b]at hs;have C:=bt (cB r.head++(r.body.take i).flatMap iy++cE (r.body.getD i ci)) (r.body.getD i ci).bx;have x:=fz (cB r.head++(r.body.take i).flatMap iy++cE (r.body.getD i ci)) (r.body.getD i ci).bx;rw[Oy,Oy]at x;refine gA Z ⟨j,ac,[],zW (hM Z (by rw[hs,<-OS,<-OS,cY];rfl) Z (zO ac))⟩
  .have u: ¬(r.body.getD i ci).kind=4:=zF u;have b:iy (r.body.getD i ci)=cE (r.body.getD i ci):=by unfold iy;rw[be u,Pt]
   rw[b]at hs;refine gA Z ⟨j,ac,[],zW (hM Z (by rw[hs,<-OS]) Z (zO ac))⟩
 .have j:r.body.length<=i:=by simpa using j
  have y:r.body.take i=r.body:=OP j;refine fk Z ac (lg (.inr Z) Z (.map 1 Z (.cells 2 _ Z (show _=List.map PV.iv (Jw r) by rw[y];rfl) (.done (.of_eq Z)))))
def aV(occ:List ak)(e:Expr):Bool:=(b8 e).all fun x=>du occ x
theorem rj{l:List ak}{j:Nat}{x:(KC.str).K×Int}(h:(aD l)[j]? =co x):x.1∈l:=
 ((dL l).2 x.1).1 (OZ.2 ⟨x,O9 h,rfl⟩)
theorem all_keys{l:List ak}{vs:List Nat}(h: ∀j,j<(aD l).length->j∈vs){p:ak->Prop}(hp: ∀j∈vs,∀x,(aD l)[j]? =co x->p x.1): ∀t∈l,p t:=by
 intro t u;obtain⟨x,y,rfl⟩:=OZ.1 (((dL l).2 t).2 u);obtain⟨j,b⟩:=Pj y;exact hp j (h j (Ov.1 b).1) x b
theorem d125(occ:List ak)(e:Expr)(hb:e.size<=1000000000000):bC prog 197 [.mp 0,ag e.c] [cC (aD occ)] (pB (aV occ e)) [(0,co (cC (aD occ)))] 1:=by
 refine au ab func197 Z (by decide) ntmps197 Z (by simp) ?_;refine gA Z (zq [2] (Ju e hb) ?_);refine gA Z ?_;refine eU (aD (b8 e)) (fun vs=>⟨[(0,.mp 0),(12,.ptr 3 0)],[(0,co (cC (aD occ))),(3,co (.bF .str wH (aD (b8 e)) vs io))],4⟩) (fun vs=> ∀j∈vs,∀x,(aD (b8 e))[j]? =co x->x.1∈occ) [] (by simp)
  (zW (zC (hI Z Z (.inl Z) Z trivial))) fun vs D=>?_
 refine fk Z ac (dm Z Z Z Z Z (by decide) (fun b=>?_) fun j x B G=>?_)
 .refine gA Z (zD [] Z (zM ⟨.of_eq (by rw[show aV occ e=is from Pc.2 fun t I=>bu.2 (all_keys b D t I)];rfl),rfl,ac⟩ (zC ac)))
 .have u:=bt occ x.1;refine zJ Z Z (fun h1=>?_) fun h1=>?_
  .have h1:dt .str (aD occ) x.1 0=0:=zT h1;have A:x.1∉occ:=qb.1 (by rw[u]at h1;omega);refine gA Z (zD [] Z (zM ⟨.of_eq (by rw[show aV occ e=jp from List.all_eq_false.2 ⟨x.1,rj B,by rw[ew.2 A];simp⟩];rfl),rfl,ac⟩ (zC ac)))
  .have h1: ¬dt .str (aD occ) x.1 0=0:=zF h1;have A:x.1∈occ:=s4.1 (by rw[u]at h1;omega);refine gA Z ?_
   exact⟨j,x,B,G,fun i hi y C=>by
    rcases OG.1 hi with rfl|hi
    .rw[B]at C;cases C;exact A
    .exact D i hi y C,[],zW (zC (hI Z Z (.inr Z) Z ac))⟩
def aq(r:ax)(lit:Int):Lit:=r.body.getD lit.toNat ci
theorem Lit.jq(l:Lit):l.agg.size+2<=l.size:=by
 rw[l.size_eq];unfold fC.size Lit.agg;dsimp only;omega
theorem nE{a b:ak×Bool}(h:a=b):PV.bf [pS a.1,pB a.2]= .bf [pS b.1,pB b.2]:=by rw[h]
def jJ(l:Lit)(b:List ak):ak×Bool:=
 if¬l.kind=3∨ ¬l.op=1 then(OB,jp)
 else if l.left.kind=1∧du b l.left.var=jp∧(l.right.kind=2∨l.right.kind=1∧du b l.right.var=is) then(l.left.var,is)
 else if l.right.kind=1∧(if l.left.kind=1 then du b l.left.var else kw (l.left.kind=2))=is then(l.right.var,!du b l.right.var)
 else(OB,jp)
def bz(body:List Lit):List ak:=body.flatMap fun l=> [l.left.var,l.right.var,l.bx]
def cm(c k:List ak):Nat:=(c.filter fun x=>!du k x).length
theorem iP: ∀body:List Lit,(bz body).length=3*body.length
 | []=>rfl
 |l::r=>by have:=iP r;simp only[bz,PB,Oy,O6,P0]at this ⊢;omega
theorem oN(c k:List ak):cm c k<=c.length:=PJ _ _
theorem oM{v:ak}{k:List ak}: ∀{c:List ak},v∈c->v∉k->cm c (fO k v)<cm c k:=by
 have mono: ∀c:List ak,cm c (fO k v)<=cm c k:=by
  intro c
  induction c with
  |nil=>exact OJ _
  |cons x r b=>
   simp only[cm]at b ⊢;simp only[P3];by_cases h1:x∈k
   .have:du (fO k v) x=is:=bu.2 (db.2 (.inl h1));rw[this,bu.2 h1];exact b
   .simp only[ew.2 h1,Q7,if_true,O6];split<;>(try simp only[O6])<;>omega
 intro c u hk
 induction c with
 |nil=>cases u
 |cons x r b=>
  have y:=mono r;simp only[cm]at b y ⊢;simp only[P3];by_cases j:x=v
  .subst j;have:du (fO k x) x=is:=bu.2 (db.2 (.inr Z));simp[this,ew.2 hk];omega
  .have A:v∈r:=by
    rcases OG.1 u with h|h
    .exact absurd h.symm j
    .exact h
   have b:=b A;by_cases h1:x∈k
   .have:du (fO k v) x=is:=bu.2 (db.2 (.inl h1));simp[this,bu.2 h1];exact b
   .have:du (fO k v) x=jp:=ew.2 fun h=>by rcases db.1 h with h|h;exact h1 h;exact j h
    simp[this,ew.2 h1];omega
def BF(k:List ak)(l:Lit):List ak:=if l.kind=1 then mB k (pd l.atom) else k
theorem vc{body:List Lit}{l:Lit}(h:l∈body){v:ak}(b:v∈ [l.left.var,l.right.var,l.bx]):v∈bz body:=Rh.2 ⟨l,h,b⟩
end Go.Proofs.YtllkaddcplhklaaGreatDoor
