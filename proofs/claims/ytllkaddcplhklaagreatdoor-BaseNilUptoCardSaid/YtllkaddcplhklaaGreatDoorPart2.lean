/-
  What the proofs of the claims need: part 2 of 5.
-/
import Derived.Test.YtllkaddcplhklaaGreatDoorPart1
import Derived.Deep.Slices
import Derived.ReadAgain
import Derived.ChangeStays
import Derived.ChangeSame
import Derived.WideShapes
import Derived.RowKit
import Derived.Lib.AppendStr
import Derived.Laws.IdiomStrings
import Derived.Laws.BytesArg
import Derived.Laws.MakeOwn
import Derived.Laws.Slices
import Derived.Lib.SliceRun
import Derived.Shelf.GgSortFunc.RowK
import Derived.StillTail
import Derived.RangeFuncRecord
import Derived.KernelRfl
import Derived.Test.YtllkaddcplhklaaGreatDoorProg
open And renaming intro→OF
open Array renaming eq_empty_of_size_eq_zero→P6,extract_size→RW,getD_eq_getD_getElem?→Oz,getElem?_append_left→Pc,getElem?_append_right→QX,getElem?_eq_getElem→O4,getElem?_eq_none→QP,getElem?_eq_some_iff→Pv,getElem?_map→QN,getElem?_modify→Pd,getElem?_push→QI,getElem?_push_lt→Rk,getElem?_setIfInBounds→O5,getElem?_toList→O6,length_toList→Qt,mem_filter→Rm,range→Rw,replicate→P4,size_append→QB
open Bool renaming and_eq_true→Pq,eq_false_iff→QU,false_eq_true→Qb,not_eq_true'→PF,not_true→QS,or_eq_false_iff→QD,or_eq_true→Qz
open ByteArray renaming empty→OI
open Classical renaming byContradiction→PM,choose→Q5,choose_spec→Qi
open Int renaming toNat_natCast→OG
open List.Nodup renaming length_le_of_subset→PK
open List.Pairwise renaming filter→QG
open List renaming all_eq_true→Pj,any_eq_false→Pz,any_eq_true→PO,append_assoc→O0,append_nil→Pw,cons_append→PT,eq_nil_of_length_eq_zero→Ps,ext_getElem?→QE,filter_congr→Qq,filter_cons→Qd,filter_eq_self→Q9,flatMap_append→Ra,flatMap_cons→PH,getD_cons_succ→PR,getD_cons_zero→Qs,getD_eq_getElem?_getD→OC,getElem?_append_left→OV,getElem?_append_right→OQ,getElem?_drop→Py,getElem?_eq_getElem→OD,getElem?_eq_some_iff→OB,getElem?_map→OH,getElem?_of_mem→Po,getElem?_range→Q8,getElem?_set→Qe,getElem?_take→Pn,getElem?_toArray→Pt,getElem_map→P7,getElem_mem→Pm,length_append→OE,length_cons→Pb,length_eq_zero_iff→P0,length_filter_le→PQ,length_map→O7,length_nil→Qa,length_pos_iff→PJ,length_singleton→PC,length_take→PN,map_append→OX,map_congr_left→QJ,map_cons→OZ,map_map→Qf,mem_append→OW,mem_append_left→Ph,mem_append_right→P8,mem_cons→OP,mem_cons_of_mem→ON,mem_cons_self→OO,mem_filter→Pa,mem_map→Pg,mem_of_getElem?→Pe,mem_range→PW,mem_singleton→OM,nil_append→Qh,nodup_append→PZ,nodup_cons→Pf,nodup_nil→Pk,not_mem_nil→Ro,pairwise_cons→PG,pairwise_iff_getElem→PL,perm_ext_iff_of_nodup→P2,range→O9,replicate→QY,take_append_drop→QT,take_of_length_le→OY,take_succ_cons→PX,take_succ_eq_append_getElem→Rj
open Nat renaming add_assoc→P3,add_mul→PD,add_zero→Qn,beq→O2,ble→Qx,ble_eq_true_of_le→Pu,blt→O1,eq_of_beq_eq_true→OU,le_add_right→Rn,le_of_ble_eq_true→Oy,le_of_not_lt→Qk,le_refl→OL,le_succ→Qv,le_trans→Pp,lt_irrefl→RT,lt_of_le_of_lt→RV,lt_of_lt_of_le→Qj,lt_or_ge→PB,lt_succ_of_lt→PY,lt_succ_self→Qc,lt_trichotomy→QW,mul_comm→RX,mul_le_mul_right→O3,mul_one→Ry,ne_of_lt→RE,sub_zero→Q4,succ_mul→P5,zero_add→O8,zero_le→OS,zero_mul→Qu
open Option renaming getD_some→PA,map_eq_some_iff→OJ,map_none→QR,map_some→PI
open Option.some renaming inj→Pl,injEq→OA
open Prod renaming fst→Px
open Prod.mk renaming injEq→OK
set_option maxRecDepth 100000
open Bool renaming false→jp,true→is
open Decidable renaming decide→kw
open Inhabited renaming default→ci
open Option renaming none→io,some→co
namespace Go.Al
section
def xg:Op->Bool
  | .binOp .add _ _ _ _=>is
  | .binOp .sub _ _ _ _=>is
  | .binOp .mul _ _ _ _=>is
  | .binOp .rem _ _ _ _=>is
  | .binOp .quo _ _ _ _=>is
  | .indexAddr ..=>is
  | .index ..=>is
  | .slice ..=>is
  |_=>jp
theorem vo{ty:Ty}{s:AS}{o:Op}{p:PV}{C:Prop}(h:gj ty s o=co (p,C))(ho:xg o=jp):C:=by
  cases o with
  | binOp op t x y t'=>
    simp only[gj]at h;split at h
    · unfold AA at h
      split at h
      · split at h<;>first|(cases h;done)|(simp only[OA,OK]at h;rw[<-h.2];trivial)
      · split at h<;>first|(cases h;done)|(simp only[OA,OK]at h;rw[<-h.2];trivial)
      · cases h
    unfold vX at h;split at h
    · split at h
      · unfold yF at h
        split at h
        · unfold pT at h
          split at h<;>first
            |(cases h;done)
            |(split at h<;>first|(cases h;done)|(simp only[OA,OK]at h;rw[<-h.2];trivial))
        · unfold pT at h
          split at h<;>first
            |(cases h;done)
            |(split at h<;>first|(cases h;done)|(simp only[OA,OK]at h;rw[<-h.2];trivial))
        unfold z6 at h;split at h<;>first|(cases h;done)|(simp[xg]at ho;done)|(simp only[OA,OK]at h;rw[<-h.2];trivial)
      · unfold pT at h
        split at h<;>first
          |(cases h;done)
          |(split at h<;>first|(cases h;done)|(simp only[OA,OK]at h;rw[<-h.2];trivial))
    · unfold ze at h
      split at h<;>first|(cases h;done)|(simp[xg]at ho;done)|(simp only[OA,OK]at h;rw[<-h.2];trivial)
    · split at h
      all_goals first
        |(cases h;done)
        | (unfold l4 at h
           split at h
           · split at h<;>first|(cases h;done)|(simp only[OA,OK]at h;rw[<-h.2];trivial)
           · cases h)
    · split at h
      all_goals first
        |(cases h;done)
        | (unfold l4 at h
           split at h
           · split at h<;>first|(cases h;done)|(simp only[OA,OK]at h;rw[<-h.2];trivial)
           · cases h)
    all_goals first
      |(cases h;done)
      | (unfold rV at h
         split at h
         · split at h<;>first|(cases h;done)|(simp only[OA,OK]at h;rw[<-h.2];trivial)
         · cases h)
  |indexAddr t x i=>simp[xg]at ho
  |index t x i=>simp[xg]at ho
  |slice t x lo hi mx=>simp[xg]at ho
  | call c=>
    obtain⟨callee,args,j⟩:=c;cases callee with
    | builtin b=>
      cases b with
      | len=>
        simp only[gj]at h;split at h
        · split at h
          · split at h<;>first|(cases h;done)|(simp only[tp,OA,OK]at h;rw[<-h.2];trivial)
          · split at h<;>first|(cases h;done)|(simp only[tp,OA,OK]at h;rw[<-h.2];trivial)
          · split at h
            · simp only[OA,OK]at h;rw[<-h.2];trivial
            · split at h<;>first|(cases h;done)|(simp only[OA,OK]at h;rw[<-h.2];trivial)
            · cases h
          · cases h
        · cases h
      | max=>
        simp only[gj]at h;split at h
        · split at h<;>first|(cases h;done)|(simp only[OA,OK]at h;rw[<-h.2];trivial)
        · cases h
      | min=>
        simp only[gj]at h;split at h
        · split at h<;>first|(cases h;done)|(simp only[OA,OK]at h;rw[<-h.2];trivial)
        · cases h
      |_=>simp[gj]at h
    |_=>simp[gj]at h
  | unOp op t x=>
    cases op with
    |not=>simp only[gj]at h;split at h<;>first|(cases h;done)|(simp only[OA,OK]at h;rw[<-h.2];trivial)
    |_=>simp[gj]at h
  | lookup t x i ok=>
    have key: ∀{kc:KC} {V:Type} {e:V->IV} {z:V} {u:Value} {m:List (kc.K×V)},r7 ty t ok kc e z u m (ev s.f i)=co (p,C)->C:=by
      intro kc V e z u m h;unfold r7 at h;split at h
      · split at h
        · split at h
          · split at h<;>(simp only[OA,OK]at h;rw[<-h.2];trivial)
          · cases h
        · cases h
      · cases h
    simp only[gj]at h;split at h
    · exact key h
    · split at h
      · exact key h
      · cases h
    · cases h
  | _=>
    simp only[gj]at h
    repeat' (first|(cases h;done)|(simp only[force_eq,OA,OK]at h;rw[<-h.2];trivial)|split at h)
inductive EN where
  |read (i:Nat) (o:Oper) (p:PV) (C:Prop)
  |skip (i:Nat) (o:Oper)
  |split (d:Nat) (t:Bool)
def jR(ty:Ty)(nt:NT)(s:AS)(all:List Oper)(todo pend:List (Nat×Oper)):List (Nat×Oper)->Option EN
  | []=>io
  | (i,o)::r=>match todo.any (fun y=>waits o y.1)||aN o with
    |true=>jR ty nt s all todo pend r
    | false=>match bS nt all s.f o with
      | some is=>match gj ty s o.op with
        | some (p,C)=>match tD all pend o with
          |true=>co (.read i o p C)
          |false=>jR ty nt s all todo pend r
        |none=>jR ty nt s all todo pend r
      | some jp=>match tD all pend o with
        |true=>co (.skip i o)
        |false=>jR ty nt s all todo pend r
      | none=>match o.guard with
        | some (g,_)=>match guardOf all s.f g with
          |some (d,.iv (.v (.bool t)))=>co (.split d t)
          |_=>jR ty nt s all todo pend r
        |none=>jR ty nt s all todo pend r
def dy(ty:Ty)(nt:NT)(all:List Oper)(s:AS):List (Nat×Oper)->Option Prop
  | []=>co True
  | (_,o)::r=>match dy ty nt all s r with
    |none=>io
    | some R=>match bS nt all s.f o with
      | some is=>match gj ty s o.op with
        | some (p,C)=>match o.dst with
          |some d=>bif O1 d nt then co ((an p (s.f.get d)∧C)∧R) else io
          |none=>co (C∧R)
        |none=>io
      | some jp=>match o.dst with
        |some d=>co (s.f.get d= .iv (.v (.tuple #[]))∧R)
        |none=>co R
      |none=>io
def eH(todo:List (Nat×Oper)):List (Nat×Oper):=todo.filter fun x=>!(aN x.2||todo.any fun y=>waits x.2 y.1)
def mI(ty:Ty)(nt:NT)(all:List Oper)(s:AS)(todo pend:List (Nat×Oper)):Option Prop:=
  match todo.any fun y=>aN y.2 with
  |true=>dy ty nt all s pend
  |false=>co True
def mb(all:List Oper)(i:Nat)(o:Oper):Nat->List Oper->Bool
  |_,[]=>is
  |k,q::r=>(O2 k i||((waits q i||!looks all q o)&&(match o.dst,q.dst with|some d,co e=>!O2 d e|_,_=>is)))&&mb all i o (k+1) r
def iZ(ty:Ty)(nt:NT)(all:List Oper):Nat->List Oper->Bool
  |_,[]=>is
  | i,o::r=>(match o.op with
    | .alloc t=>match o.guard,o.dst,ty t with
      |none,co d,co _=>O1 d nt&&((o.after.toList.all fun e=>!Region.binds .any e)&&mb all i o 0 all)
      |_,_,_=>jp
    |_=>is)&&iZ ty nt all (i+1) r
def xe(todo:List (Nat×Oper)):List (Nat×Oper)->Option (Nat×Oper)
  | []=>io
  | (i,o)::r=>match aN o,v8 todo i with
    |true,is=>co (i,o)
    |_,_=>xe todo r
inductive Stop where
  |fin (e:Exit) (s:AS)
  |cond (c:Operand) (t:Bool) (x y:Code) (k:List KI) (s:AS)
  |guard (all rest:List Oper) (o:Oper) (d:Nat) (want t:Bool) (k:List KI) (s:AS)
  |op (all rest:List Oper) (o:Oper) (k:List KI) (s:AS)
  |loop (b:Code) (k:List KI) (s:AS)
  |draw (id:Nat) (ops:Array Oper) (k:List KI) (s:AS)
  |again (R:AS->Prop) (s:AS)
  |J7 (all rest:List Oper) (o:Oper) (d:Nat) (want t:Bool) (k:List KI) (s:AS)
  |Ea (all:List Oper) (todo pend:List (Nat×Oper)) (d:Nat) (t:Bool) (k:List KI) (s:AS)
  |Ed (all:List Oper) (todo pend:List (Nat×Oper)) (k:List KI) (s:AS)
  |bad (why:Nat) (k:List KI) (s:AS)
  |out (k:List KI) (s:AS)
def lG(id:Nat):List KI->Option (List KI)
  | []=>io
  | .az j::k=>bif O2 id j then co k else lG id k
  | .code _::k=>lG id k
  | .ops _ _::k=>lG id k
  | .lp _::k=>lG id k
  | .qx _ _::k=>lG id k
  | .bR _ _ _::k=>lG id k
  | .AE _ _::k=>lG id k
  | .BW::k=>lG id k
  | .Hj ..::_=>io
  | .Hk ..::_=>io
def fe:List KI->Option (List KI)
  | []=>io
  | .az _::k=>fe k
  | .code _::k=>fe k
  | .ops _ _::k=>fe k
  | .lp _::k=>fe k
  | .qx _ _::k=>fe k
  | .bR _ _ _::k=>fe k
  | .AE _ _::k=>fe k
  | .BW::k=>fe k
  |k=>co k
structure Ox where
  nt:Nat
  res:List ResultVar
  body:Code
abbrev Nu:=Nat->Option Ox
def EM(P:Program)(b:Nu):Prop:= ∀g e,b g=co e-> ∃fn,P.funcs[g]? =co fn∧fn.body=co e.body∧(fn.name== "runtime.NumGoroutine")=jp∧fn.ntmps=e.nt∧fn.results.toList=e.res
def xY{α:Type _}:Nat->List PV->(AF->α)->α
  |_,[],k=>k []
  |n,p::r,k=>sA p fun b=>xY (n+1) r fun f=>k ((n,b)::f)
theorem sR{α:Type _}: ∀(l:List PV) (n:Nat) (k:AF->α),xY n l k=k (kY n l)
  | [],_,_=>rfl
  |p::r,n,k=>by simp only[xY,c5,sR r,kY]
def callee(b:Nu)(s:AS):Op->Option (Ox×List PV)
  | .call c=>match bz s.f c with
    | some (g,asv)=>match b g with
      | some e=>match Qx asv.length e.nt with
        |true=>co (e,asv)
        |false=>io
      |none=>io
    |none=>io
  |_=>io
structure Way where
  fns:Nu
  un:Nat
  cl:Bool
def bp(ty:Ty)(y:Way):Nat->NT->List KI->AS->Prop->Option (Prop×NT×Stop)
  |0,nt,k,s,C=>co (C,nt,.out k s)
  |_+1,nt,[],s,C=>co (C,nt,.fin .normal s)
  |n+1,nt,.az _::k,s,C=>bp ty y n nt k s C
  |_+1,nt,.lp R::_,s,C=>co (C,nt,.again R s)
  |n+1,nt,.BW::k,s,C=>bp ty y n nt k s C
  |n+1,nt,.code (.scope b)::k,s,C=>bp ty y n nt (.code b:: .BW::k) s C
  | n+1,nt,.AE b m::k,s,C=>match m with
    |0=>co (C,nt,.bad 2 k s)
    |m+1=>bp ty y n nt (.code b:: .AE b m::k) s C
  | n+1,_,.Hj nt f res o all rest::k,s,C=>match res s with
    |none=>co (C,nt,.bad 3 k s)
    | some r=>match putDst nt o r ⟨f,s.h,s.nx⟩ with
      |none=>co (C,nt,.bad 4 k s)
      |some s'=>bp ty y n nt (.ops all rest::k) s' C
  | n+1,_,.Hk nt f res j o all todo pend::k,s,C=>match res s with
    |none=>co (C,nt,.bad 5 k s)
    | some r=>match putDst nt o r ⟨f,s.h,s.nx⟩ with
      |none=>co (C,nt,.bad 6 k s)
      | some s'=>match dy ty nt all s' (aX pend o) with
        |none=>co (C,nt,.bad 7 k s)
        |some C''=>bp ty y n nt (.bR all (todo.filter fun x=>!O2 x.1 j) (aX pend o)::k) s' (C∧C'')
  |n+1,nt,.code .skip::k,s,C=>bp ty y n nt k s C
  |n+1,nt,.code (.label _)::k,s,C=>bp ty y n nt k s C
  |n+1,nt,.code (.seq a b)::k,s,C=>bp ty y n nt (.code a:: .code b::k) s C
  |n+1,nt,.code (.block id b)::k,s,C=>bp ty y n nt (.code b:: .az id::k) s C
  | n+1,nt,.code (.region id ops d)::k,s,C=>match d with
    |false=>bp ty y n nt (.ops ops.toList ops.toList::k) s C
    | true=>match rU ops.toList,fZ 0 ops.toList,iZ ty nt ops.toList 0 ops.toList with
      |true,is,is=>bp ty y n nt (.bR ops.toList (gJ 0 ops.toList) []::k) s C
      |_,_,_=>co (C,nt,.draw id ops k s)
  |n+1,nt,.bR _ [] _::k,s,C=>bp ty y n nt k s C
  | n+1,nt,.bR all (x::todo) pend::k,s,C=>match jR ty nt s all (x::todo) pend (x::todo) with
    | some (.read i o p C')=>match putDst nt o p s with
      |none=>co (C,nt,.bad 8 k s)
      | some s'=>match xg o.op with
        |true=>bp ty y n nt (.bR all ((x::todo).filter fun x=>!O2 x.1 i) ((i,o)::pend)::k) s' (C∧C')
        |false=>bp ty y n nt (.bR all ((x::todo).filter fun x=>!O2 x.1 i) ((i,o)::pend)::k) s' C
    |some (.skip i o)=>bp ty y n nt (.bR all ((x::todo).filter fun x=>!O2 x.1 i) ((i,o)::pend)::k) (fw o s) C
    | some (.split d _)=>match s.f.get d with
      | .iv (.v (.bool t'))=>match y.cl with
        |false=>co (C,nt,.Ea all (x::todo) pend d t' k s)
        | true=>match t' with
          |true=>bp ty y n nt (.bR all (x::todo) pend::k) (setBool s (.tmp d) is) C
          |false=>bp ty y n nt (.bR all (x::todo) pend::k) (setBool s (.tmp d) jp) C
      |_=>co (C,nt,.bad 9 k s)
    | none=>match eH (x::todo) with
      | [(j,o)]=>match bS nt all s.f o,gI all pend o,mH (x::todo) [j] with
        | some is,is,is=>match mI ty nt all s (x::todo) pend with
          |none=>co (C,nt,.bad 101 k s)
          | some CA=>match gj ty s o.op with
            | some (p,C')=>match putDst nt o p s with
              |none=>co (C,nt,.bad 102 k s)
              | some s'=>match dy ty nt all s' (aX pend o) with
                |none=>co (C,nt,.bad 103 k s)
                |some C''=>bp ty y n nt (.bR all ((x::todo).filter fun x=>!O2 x.1 j) (aX pend o)::k) s' (C∧(CA∧C'∧C''))
            | none=>match Ds ty s o.op with
              | none=>match callee y.fns s o.op with
                | none=>match Nn ty s o.op with
                  |none=>co (C,nt,.Ed all (x::todo) pend k s)
                  | some (C',p,s1)=>match putDst nt o p s1 with
                    |none=>co (C,nt,.bad 109 k s)
                    | some s'=>match dy ty nt all s' (aX pend o) with
                      |none=>co (C,nt,.bad 110 k s)
                      |some C''=>bp ty y n nt (.bR all ((x::todo).filter fun x=>!O2 x.1 j) (aX pend o)::k) s' (C∧(CA∧C'∧C''))
                |some (e,asv)=>xY 0 asv fun f=>bp ty y n e.nt (.code e.body:: .Hk nt s.f (iF ty · e.res) j o all (x::todo) pend::k) ⟨f,s.h,s.nx⟩ (C∧CA)
              | some (p,s1)=>match putDst nt o p s1 with
                |none=>co (C,nt,.bad 104 k s)
                | some s'=>match dy ty nt all s' (aX pend o) with
                  |none=>co (C,nt,.bad 105 k s)
                  |some C''=>bp ty y n nt (.bR all ((x::todo).filter fun x=>!O2 x.1 j) (aX pend o)::k) s' (C∧(CA∧C''))
        |_,_,_=>co (C,nt,.Ed all (x::todo) pend k s)
      | []=>match xe (x::todo) (x::todo) with
        |none=>co (C,nt,.Ed all (x::todo) pend k s)
        | some (i,o)=>match o.op,o.dst with
          | .alloc t,co d=>match ty t with
            |none=>co (C,nt,.bad 106 k s)
            | some e=>force (aK e.zero) fun A=>match dy ty nt all s pend,dy ty nt all (ja s d A) pend with
              |some C1,co C2=>bp ty y n nt (.bR all ((x::todo).filter fun x=>!O2 x.1 i) pend::k) (ja s d A) (C∧(C1∧C2))
              |_,_=>co (C,nt,.bad 107 k s)
          |_,_=>co (C,nt,.bad 108 k s)
      |_=>co (C,nt,.Ed all (x::todo) pend k s)
  | n+1,nt,.code (.cond c u v)::k,s,C=>match ev s.f c with
    | .iv (.v (.bool t))=>match y.cl with
      |false=>co (C,nt,.cond c t u v k s)
      | true=>match t with
        |true=>bp ty y n nt (.code u::k) s C
        |false=>bp ty y n nt (.code v::k) s C
    | .kb is=>bp ty y n nt (.code u::k) s C
    | .kb jp=>bp ty y n nt (.code v::k) s C
    |_=>co (C,nt,.bad 14 k s)
  | n+1,nt,.code .ret::k,s,C=>match fe k with
    |some k'=>bp ty y n nt k' s C
    |none=>co (C,nt,.fin .ret s)
  | n+1,nt,.code (.exit id)::k,s,C=>match lG id k with
    |some k'=>bp ty y n nt k' s C
    |none=>co (C,nt,.bad 15 k s)
  | n+1,nt,.code (.loop b)::k,s,C=>match y.un with
    |0=>co (C,nt,.loop b k s)
    |u+1=>bp ty y n nt (.code b:: .AE b u::k) s C
  |_+1,nt,.code _::k,s,C=>co (C,nt,.bad 16 k s)
  |_+1,nt,.qx _ _::k,s,C=>co (C,nt,.bad 17 k s)
  |n+1,nt,.ops _ []::k,s,C=>bp ty y n nt k s C
  | n+1,nt,.ops all (o::r)::k,s,C=>match o.guard with
    | some (j,want)=>match guardOf all s.f j with
      | some (d,.iv (.v (.bool t)))=>bif O1 d nt then(match y.cl with
        |false=>co (C,nt,.guard all r o d want t k s)
        | true=>match t with
          |true=>bp ty y n nt (.ops all (o::r)::k) (setBool s (.tmp d) is) C
          |false=>bp ty y n nt (.ops all (o::r)::k) (setBool s (.tmp d) jp) C) else co (C,nt,.bad 18 k s)
      | some (d,.kb t)=>bif O1 d nt then(match t,want,o with
        |true,is,⟨a1,a2,a3,a4,a5,_⟩=>bp ty y n nt (.ops all (⟨a1,a2,a3,a4,a5,io⟩::r)::k) s C
        |false,jp,⟨a1,a2,a3,a4,a5,_⟩=>bp ty y n nt (.ops all (⟨a1,a2,a3,a4,a5,io⟩::r)::k) s C
        |_,_,o=>bp ty y n nt (.ops all r::k) (fw o s) C) else co (C,nt,.bad 19 k s)
      |some (_,.iv (.v (.tuple _)))=>bp ty y n nt (.ops all r::k) (fw o s) C
      |_=>co (C,nt,.bad 20 k s)
    | none=>match gj ty s o.op with
      | none=>match Ds ty s o.op with
        | none=>match callee y.fns s o.op with
          | none=>match Nn ty s o.op with
            |none=>co (C,nt,.op all r o k s)
            | some (C',p,s1)=>match putDst nt o p s1 with
              |none=>co (C,nt,.bad 111 k s)
              |some s'=>bp ty y n nt (.ops all r::k) s' (C∧C')
          |some (e,asv)=>xY 0 asv fun f=>bp ty y n e.nt (.code e.body:: .Hj nt s.f (iF ty · e.res) o all r::k) ⟨f,s.h,s.nx⟩ C
        | some (p,s1)=>match putDst nt o p s1 with
          |none=>co (C,nt,.bad 21 k s)
          |some s'=>bp ty y n nt (.ops all r::k) s' C
      | some (p,C')=>match putDst nt o p s with
        |none=>co (C,nt,.bad 22 k s)
        | some s'=>match xg o.op with
          |true=>bp ty y n nt (.ops all r::k) s' (C∧C')
          |false=>bp ty y n nt (.ops all r::k) s' C
def eh(P:Program)(nt:NT)(Q:AQ):Stop->Prop
  | .fin e s=>Q e s
  | .cond c t x y k s=>(t=is->GO P nt (.code x::k) Q (setBool s c is))∧(t=jp->GO P nt (.code y::k) Q (setBool s c jp))
  | .guard all r o d want t k s=>(t=want->GO P nt (.ops all ({o with guard:=io}::r)::k) Q (setBool s (.tmp d) want))∧(t=!want->GO P nt (.ops all r::k) Q (fw o (setBool s (.tmp d) (!want))))
  | .op all r o k s=>GO P nt (.ops all (o::r)::k) Q s
  | .loop b k s=>GO P nt (.code (.loop b)::k) Q s
  | .draw id ops k s=>GO P nt (.code (.region id ops is)::k) Q s
  | .again R s=>R s
  | .J7 all r o d want t k s=>(t=want->GO P nt (.qx all ({o with guard:=io}::r)::k) Q (setBool s (.tmp d) want))∧(t=!want->GO P nt (.qx all r::k) Q (fw o (setBool s (.tmp d) (!want))))
  | .Ea all todo pend d t k s=>(t=is->GO P nt (.bR all todo pend::k) Q (setBool s (.tmp d) is))∧(t=jp->GO P nt (.bR all todo pend::k) Q (setBool s (.tmp d) jp))
  | .Ed all todo pend k s=>GO P nt (.bR all todo pend::k) Q s
  | .bad _ _ _=>False
  | .out k s=>GO P nt k Q s
section
variable {P:Program} {ty:Ty} {nt:NT} {Q:AQ}
theorem kL: ∀(k:List KI) {nt:NT} {s:AS},fe k=io->Q .ret s->kp P nt k Q .ret s
  | [],_,_,_,h=>h
  | .code _::k,_,_,g,h=>kL k g h
  | .az _::k,_,_,g,h=>kL k g h
  | .ops _ _::k,_,_,g,h=>kL k g h
  | .lp _::k,_,_,g,h=>kL k g h
  | .qx _ _::k,_,_,g,h=>kL k g h
  | .bR _ _ _::k,_,_,g,h=>kL k g h
  | .AE _ _::k,_,_,g,h=>kL k g h
  | .BW::k,_,_,g,h=>kL k g h
  | .Hj ..::_,_,_,g,_=>by simp[fe]at g
  | .Hk ..::_,_,_,g,_=>by simp[fe]at g
theorem da: ∀(k:List KI) {nt:NT} {s:AS} {b:List KI},fe k=co b->GO P nt b Q s->kp P nt k Q .ret s
  | [],_,_,_,g,_=>by simp[fe]at g
  | .code _::k,_,_,_,g,h=>da k g h
  | .az _::k,_,_,_,g,h=>da k g h
  | .ops _ _::k,_,_,_,g,h=>da k g h
  | .lp _::k,_,_,_,g,h=>da k g h
  | .qx _ _::k,_,_,_,g,h=>da k g h
  | .bR _ _ _::k,_,_,_,g,h=>da k g h
  | .AE _ _::k,_,_,_,g,h=>da k g h
  | .BW::k,_,_,_,g,h=>da k g h
  | .Hj ..::_,_,_,_,g,h=>by
    simp only[fe,OA]at g;subst g;exact⟨.inr Z,h.2⟩
  | .Hk ..::_,_,_,_,g,h=>by
    simp only[fe,OA]at g;subst g;exact⟨.inr Z,h.2⟩
theorem cN{id:Nat}: ∀(k:List KI) {nt:NT} {b:List KI} {s:AS},lG id k=co b->GO P nt b Q s->kp P nt k Q (.exit id) s
  | [],_,_,_,h,_=>by cases h
  | .code _::k,_,_,_,h,g=>cN k h g
  | .ops _ _::k,_,_,_,h,g=>cN k h g
  | .lp _::k,_,_,_,h,g=>cN k h g
  | .qx _ _::k,_,_,_,h,g=>cN k h g
  | .bR _ _ _::k,_,_,_,h,g=>cN k h g
  | .AE _ _::k,_,_,_,h,g=>cN k h g
  | .BW::k,_,_,_,h,g=>cN k h g
  | .Hj ..::_,_,_,_,h,_=>by cases h
  | .Hk ..::_,_,_,_,h,_=>by cases h
  | .az j::k,nt,b,s,h,g=>by
    simp only[lG]at h;show if id=j then _ else _;cases hb:O2 id j with
    | true=>
      simp only[hb,cond_true,OA]at h;subst h;rw[am (OU hb)];exact g
    | false=>
      simp only[hb,cond_false]at h;rw[be (fun e=>by subst e;simp at hb)];exact cN k h g
theorem rJ(j:bn P ty){s s':AS}{o:Oper}{p:PV}{C:Prop}(h:gj ty s o.op=co (p,C))(hC:C)(hp:putDst nt o p s=co s'):OT P nt o s (fun t=>t=s'):=by
  intro M N a w b K Z hk;obtain⟨x,y,u⟩:=o6 j b h hC;unfold Oper.wp;rw[y];simp only[Oper.upon];cases hd:o.dst with
  | none=>
    have:=eM hp hd;subst this;exact hk M N s' _ w (.refl _ _ _ _ _) b rfl
  | some d=>
    obtain⟨h1,rfl⟩:=eL hp hd;exact hk M N {s with f:=(d,p)::s.f} _ w (.refl _ _ _ _ _) (b.put d p x h1 u) rfl
theorem mr(j:bn P ty){s s':AS}{o:Oper}{p:PV}{C:Prop}(h:gj ty s o.op=co (p,C))(hC:C)(hp:putDst nt o p s=co s'):
    (s'.h=s.h∧s'.nx=s.nx)∧ ∀M N a w,Fits M N s nt a w-> ∃x,(execOp a.eval o).run P w= .ok (.value x) w∧Fits M N s' nt (a.put o.dst x) w:=by
  cases hd:o.dst with
  | none=>
    have:=eM hp hd;subst this;exact⟨⟨rfl,rfl⟩,fun M N a w b=>let ⟨x,hx,_⟩:=o6 j b h hC;⟨x,hx,b⟩⟩
  | some d=>
    obtain⟨h1,rfl⟩:=eL hp hd;exact⟨⟨rfl,rfl⟩,fun M N a w b=>let ⟨x,hx,hv⟩:=o6 j b h hC;⟨x,hx,b.put d p x h1 hv⟩⟩
theorem rN{s:AS}{all:List Oper}{todo pend:List (Nat×Oper)}: ∀{l:List (Nat×Oper)} {i:Nat} {o:Oper},(∀x∈l,x∈todo)->
    ((∀{p C},jR ty nt s all todo pend l=co (.read i o p C)->(i,o)∈todo∧aN o=jp∧(∀x∈todo,waits o x.1=jp)∧bS nt all s.f o=co is∧tD all pend o=is∧gj ty s o.op=co (p,C))∧
     (jR ty nt s all todo pend l=co (.skip i o)->(i,o)∈todo∧aN o=jp∧(∀x∈todo,waits o x.1=jp)∧bS nt all s.f o=co jp∧tD all pend o=is))
  | [],i,o,_=>⟨fun h=>by simp[jR]at h,fun h=>by simp[jR]at h⟩
  | (j,q)::r,i,o,hl=>by
    have b:=rN (s:=s) (all:=all) (todo:=todo) (pend:=pend) (l:=r) (i:=i) (o:=o) (fun x G=>hl x (ON _ G));have u:(todo.any (fun y=>waits q y.1)||aN q)=jp->aN q=jp∧ ∀x∈todo,waits q x.1=jp:=fun h=>by
      simp only[QD,Pz]at h;exact⟨h.2,fun x G=>by simpa using h.1 x G⟩
    constructor
    · intro p C h
      simp only[jR]at h;split at h
      · exact b.1 h
      · rename_i A
        split at h
        · rename_i D
          split at h
          · rename_i I
            split at h
            · rename_i B
              simp only[OA,EN.read.injEq]at h;obtain⟨rfl,rfl,rfl,rfl⟩:=h;exact⟨hl _ (by simp),(u A).1,(u A).2,D,B,I⟩
            · exact b.1 h
          · exact b.1 h
        · split at h
          · cases h
          · exact b.1 h
        · split at h
          · split at h
            · cases h
            · exact b.1 h
          · exact b.1 h
    · intro h
      simp only[jR]at h;split at h
      · exact b.2 h
      · rename_i A
        split at h
        · split at h
          · split at h
            · cases h
            · exact b.2 h
          · exact b.2 h
        · rename_i D
          split at h
          · rename_i B
            simp only[OA,EN.skip.injEq]at h;obtain⟨rfl,rfl⟩:=h;exact⟨hl _ (by simp),(u A).1,(u A).2,D,B⟩
          · exact b.2 h
        · split at h
          · split at h
            · cases h
            · exact b.2 h
          · exact b.2 h
theorem sV{s s1:AS}{o:Oper}{d:Nat}{p:PV}(hd:o.dst=co d)(hs:s1={s with f:=(d,p)::s.f})(hp:an p (s.f.get d)){M:Mem}{N:Nm}{a:Act}{w:World}(hf:Fits M N s1 nt a w):Fits M N s nt a w:=by
  subst hs;refine⟨hf.1,fun k=>?_,hf.2.2⟩;have:=hf.2.1 k;rw[AF.au]at this;split at this
  · rename_i hk;subst hk;exact hp _ _ _ _ this
  · exact this
theorem c6(u:bn P ty){all:List Oper}{s:AS}: ∀{l:List (Nat×Oper)} {C:Prop},dy ty nt all s l=co C->C-> ∀x∈l,eB P nt all s x.2
  | [],_,_,_,x,hx=>(nomatch hx)
  | (i,o)::r,C,h,hC,x,hx=>by
    simp only[dy]at h;split at h
    · cases h
    · rename_i R hR
      have key:R->(∀M N b w,Fits M N s nt b w-> ∃v,YieldsAt P all.toArray w o v b∧Fits M N s nt (b.put o.dst v) w)->eB P nt all s x.2:=by
        intro B hh;rcases OP.1 hx with rfl|hx
        · exact hh
        · exact c6 u hR B x hx
      split at h
      · rename_i y
        split at h
        · rename_i p Y B
          split at h
          · rename_i d hd
            cases hb:O1 d nt with
            |false=>simp[hb]at h
            | true=>
              simp only[hb,cond_true,OA]at h;subst h;obtain⟨⟨h1,I⟩,J⟩:=hC;refine key J fun M N b w j=>?_;obtain⟨v,G,A⟩:=o6 u j B I;refine⟨v,.inl ⟨eP y j,.inl G⟩,?_⟩;rw[hd];exact sV hd Z h1 (j.put d p v (Oy hb) A)
          · rename_i hd
            simp only[OA]at h;subst h;refine key hC.2 fun M N b w j=>?_;obtain⟨v,G,A⟩:=o6 u j B hC.1;exact⟨v,.inl ⟨eP y j,.inl G⟩,by rw[hd];exact j⟩
        · cases h
      · rename_i y
        have D: ∀d,o.dst=co d->s.f.get d= .iv (.v (.tuple #[]))-> ∀M N b w,Fits M N s nt b w-> ∃v,YieldsAt P all.toArray w o v b∧Fits M N s nt (b.put o.dst v) w:=fun d hd h1 M N b w j=>by
          refine⟨undef,.inr ⟨eP y j,rfl⟩,?_⟩;have:=j.skip o;unfold fw at this;rw[hd]at this ⊢;exact sV hd Z (h1▸an.refl _) this
        split at h
        · rename_i d hd
          simp only[OA]at h;subst h;exact key hC.2 (D d hd hC.1)
        · rename_i hd
          simp only[OA]at h;subst h;exact key hC fun M N b w j=>⟨undef,.inr ⟨eP y j,rfl⟩,by rw[hd];exact j⟩
      · cases h
theorem Ae{all:List Oper}{o:Oper}{r:List Oper}{d:Nat}{t:Bool}{k:List KI}{s:AS}{c:Bool}(hc:c=t)(u:s.f.get d= .iv (.v (.bool t)))(h:GO P nt (.ops all (o::r)::k) Q (setBool s (.tmp d) c)):GO P nt (.ops all (o::r)::k) Q s:=by
  subst hc;intro M N a w j;have b:=j.setBool (c:= .tmp d) u;exact AL.same (s:=s) h (im _ _ _) b
theorem sx{c:Operand}{u v:Code}{t:Bool}{k:List KI}{s:AS}(hc:ev s.f c= .iv (.v (.bool t)))(h:GO P nt (.code (bif t then u else v)::k) Q s):GO P nt (.code (.cond c u v)::k) Q s:=by
  intro M N a w b;refine wp_cond (b.bool hc) ?_;cases t
  · exact h M N a w b
  · exact h M N a w b
theorem qh{all:List Oper}{f:AF}{j d:Nat}{p:PV}(h:guardOf all f j=co (d,p)):f.get d=p:=by
  unfold guardOf at h;split at h
  · split at h
    · simp only[OA,OK]at h;rw[<-h.1];exact h.2
    · cases h
  · cases h
theorem xd{todo:List (Nat×Oper)}: ∀{l:List (Nat×Oper)} {i:Nat} {o:Oper},(∀x∈l,x∈todo)->xe todo l=co (i,o)->(i,o)∈todo∧v8 todo i=is
  | [],_,_,_,h=>by simp[xe]at h
  | (j,q)::r,i,o,hl,h=>by
    simp only[xe]at h;split at h
    · rename_i b
      simp only[OA,OK]at h;obtain⟨rfl,rfl⟩:=h;exact⟨hl _ (by simp),b⟩
    · exact xd (fun x u=>hl x (ON _ u)) h
theorem qt{all:List Oper}{i:Nat}{o:Oper}: ∀{l:List Oper} {n:Nat},mb all i o n l=is-> ∀k q,l[k]? =co q->n+k≠i->(waits q i=is∨looks all q o=jp)∧ ∀d,o.dst=co d->q.dst≠co d
  | [],_,_,k,q,hk,_=>by simp at hk
  | c::l,n,h,k,q,hk,hne=>by
    simp only[mb,Pq,Qz,PF]at h;cases k with
    | zero=>
      simp at hk;subst hk;rcases h.1 with h1|⟨h1,u⟩
      · exact absurd (OU h1) (by simpa using hne)
      · refine⟨h1,fun d b j=>?_⟩
        rw[b,j]at u;simp at u
    |succ k=>exact qt h.2 k q (by simpa using hk) (by omega)
theorem tC(y:bn P ty){all:List Oper}(h:iZ ty nt all 0 all=is):hQ P nt all:=by
  have key: ∀(l:List Oper) (n:Nat),iZ ty nt all n l=is-> ∀k o,l[k]? =co o->aN o=is->
      o.guard=io∧(∃d,o.dst=co d∧d<nt)∧(∃t v,o.op= .alloc t∧ ∀w,(zeroValue t).run P w= .ok v w)∧(∀k,waits o k=jp)∧mb all (n+k) o 0 all=is:=by
    intro l
    induction l with
    |nil=>intro n _ k o hk;simp at hk
    | cons c l ih=>
      intro n h k o hk b;simp only[iZ,Pq]at h;cases k with
      | zero=>
        simp at hk;subst hk;have h1:=h.1;split at h1
        · rename_i t x
          split at h1
          · rename_i d e G hd j
            simp only[Pq]at h1;refine⟨G,⟨d,hd,Oy h1.1⟩,⟨t,_,x,fun w=>cU (y _ _ j)⟩,fun k=>?_,h1.2.2⟩;unfold waits;refine Pz.2 fun e j=>?_;have:=Pj.1 h1.2.1 e j;simp only[PF]at this;simp[this]
          · cases h1
        · rename_i u
          unfold aN at b;split at b
          · rename_i t x;exact absurd x (u t)
          · cases b
      | succ k=>
        have:=ih (n+1) h.2 k o (by simpa using hk) b;rw[show n+(k+1)=n+1+k by omega];exact this
  intro i o J b;obtain⟨h1,B,C,D,A⟩:=key all 0 h i o J b;refine⟨h1,B,C,D,fun k q hk I=>?_⟩;rw[O8]at A;exact qt A k q hk (by omega)
theorem uQ{b:Nu}(j:EM P b){s:AS}{o:Op}{e:Ox}{asv:List PV}(h:callee b s o=co (e,asv)):
    ∃g c fn,o= .call c∧bz s.f c=co (g,asv)∧asv.length<=e.nt∧P.funcs[g]? =co fn∧fn.body=co e.body∧(fn.name== "runtime.NumGoroutine")=jp∧fn.ntmps=e.nt∧fn.results.toList=e.res:=by
  unfold callee at h;split at h
  · rename_i c
    split at h
    · rename_i g u C
      split at h
      · rename_i G D
        split at h
        · rename_i hb
          simp only[OA,OK]at h;obtain⟨rfl,rfl⟩:=h;obtain⟨fn,h1,x,y,A,B⟩:=j _ _ D;exact⟨g,c,fn,rfl,C,Oy hb,h1,x,y,A,B⟩
        · cases h
      · cases h
    · cases h
  · cases h
theorem Kn(hm:P.follows .mixedOrders=is)(B:bn P ty){y:Way}(x0:EM P y.fns): ∀(n:Nat) (nt:NT) (k:List KI) (s:AS) (C0 C:Prop) (J:NT) (st:Stop),bp ty y n nt k s C0=co (C,J,st)->(C->C0)∧(C->eh P J Q st->GO P nt k Q s):=by
  intro n
  induction n with
  | zero=>
    intro nt k s C0 C J st h;simp only[bp,OA,OK]at h;obtain⟨rfl,rfl,rfl⟩:=h;exact⟨fun h=>h,fun _ g=>g⟩
  | succ n ih=>
    intro nt k s C0 C J st h;have A: ∀{Y:NT} {k2:List KI} {s2:AS},bp ty y n Y k2 s2 C0=co (C,J,st)->(GO P Y k2 Q s2->GO P nt k Q s)->(C->C0)∧(C->eh P J Q st->GO P nt k Q s):=
      fun h f=>have:=ih _ _ _ _ _ _ _ h;⟨this.1,fun hC g=>f (this.2 hC g)⟩
    have G: ∀{Y:NT} {k2:List KI} {s2:AS} {C1:Prop},bp ty y n Y k2 s2 (C0∧C1)=co (C,J,st)->(C1->GO P Y k2 Q s2->GO P nt k Q s)->(C->C0)∧(C->eh P J Q st->GO P nt k Q s):=
      fun h f=>have:=ih _ _ _ _ _ _ _ h;⟨fun hC=>(this.1 hC).1,fun hC g=>f (this.1 hC).2 (this.2 hC g)⟩
    have D: ∀{v0:Stop},co (C0,nt,v0)=co (C,J,st)->(eh P nt Q v0->GO P nt k Q s)->(C->C0)∧(C->eh P J Q st->GO P nt k Q s):=by
      intro v0 h f;simp only[OA,OK]at h;obtain⟨rfl,rfl,rfl⟩:=h;exact⟨fun h=>h,fun _ g=>f g⟩
    have a0: ∀{Y:NT} {z0:Nat} {k2:List KI} {s2:AS},co (C0,Y,Stop.bad z0 k2 s2)=co (C,J,st)->(C->C0)∧(C->eh P J Q st->GO P nt k Q s):=by
      intro Y z0 k2 s2 h;simp only[OA,OK]at h;obtain⟨rfl,rfl,rfl⟩:=h;exact⟨fun h=>h,fun _ g=>g.elim⟩
    cases k with
    |nil=>simp only[bp]at h;exact D h fun g=>g
    | cons i k=>
      cases i with
      |lp R=>simp only[bp]at h;exact D h fun g=>g
      |az id=>simp only[bp]at h;exact A h KU
      |BW=>simp only[bp]at h;exact A h fun g=>g
      | AE b m=>
        simp only[bp]at h;split at h
        · exact a0 h
        · exact A h go_round
      | Hj Y f res o all rest=>
        simp only[bp]at h;split at h
        · exact a0 h
        · rename_i r hr
          split at h
          · exact a0 h
          · rename_i s' I
            exact A h fun g=>⟨.inl Z,r,s',hr,I,g⟩
      | Hk Y f res j o all todo pend=>
        simp only[bp]at h;split at h
        · exact a0 h
        · rename_i r hr
          split at h
          · exact a0 h
          · rename_i s' I
            split at h
            · exact a0 h
            · rename_i n0 d0
              exact G h fun hC g=>⟨.inl Z,r,s',hr,I,c6 B d0 hC,g⟩
      | code c=>
        cases c with
        |skip=>simp only[bp]at h;exact A h go_skip
        |scope b=>simp only[bp]at h;exact A h DP
        |label l=>simp only[bp]at h;exact A h DR
        |seq a b=>simp only[bp]at h;exact A h KR
        |block id b=>simp only[bp]at h;exact A h DV
        | region id ops d=>
          cases d with
          |false=>simp only[bp]at h;exact A h go_region
          | true=>
            simp only[bp]at h;split at h
            · rename_i h1 h2 h3
              exact A h (DU hm (Bl h1) h2 (tC B h3))
            · exact D h fun g=>g
        | cond c u v=>
          simp only[bp]at h;split at h
          · rename_i t he
            split at h
            · exact D h fun g=>Hf he g.1 g.2
            · split at h
              · exact A h (sx he)
              · exact A h (sx he)
          · rename_i he
            exact A h (sw he)
          · rename_i he
            exact A h (sw he)
          · exact a0 h
        | ret=>
          simp only[bp]at h;split at h
          · rename_i k' I
            exact A h fun g=>go_ret (da k I g)
          · rename_i I
            exact D h fun g=>go_ret (kL k I g)
        | exit id=>
          simp only[bp]at h;split at h
          · rename_i k' I
            exact A h fun g=>Hc (cN k I g)
          · exact a0 h
        | loop b=>
          simp only[bp]at h;split at h
          · exact D h fun g=>g
          · exact A h nQ
        |_=>simp only[bp]at h;exact a0 h
      |qx all rest=>simp only[bp]at h;exact a0 h
      | bR all todo pend=>
        cases todo with
        |nil=>simp only[bp]at h;exact A h xK
        | cons x todo=>
          have g0: ∀{j:Nat} {o:Oper},eH (x::todo)=[(j,o)]->(j,o)∈(x::todo)∧aN o=jp∧ ∀y∈(x::todo),waits o y.1=jp:=by
            intro j o h1;have h2:(j,o)∈eH (x::todo):=by rw[h1];simp
            obtain⟨h3,h4⟩:=Pa.1 h2;simp only[PF,QD,Pz]at h4;exact⟨h3,h4.1,fun y hy=>by simpa using h4.2 y hy⟩
          have b0: ∀{CA:Prop},mI ty nt all s (x::todo) pend=co CA->CA-> ∀y∈(x::todo),aN y.2=is-> ∀y∈pend,eB P nt all s y.2:=by
            intro CA h1 f0 y hy k1;unfold mI at h1;split at h1
            · exact c6 B h1 f0
            · rename_i h2
              have:=Pz.1 h2 y hy;rw[k1]at this;exact absurd Z this
          have e0: ∀{j:Nat} {o:Oper} {s':AS},eH (x::todo)=[(j,o)]->bS nt all s.f o=co is->gI all pend o=is->mH (x::todo) [j]=is->(∀y∈(x::todo),aN y.2=is-> ∀y∈pend,eB P nt all s y.2)->OT P nt o s (fun t=>t=s')->
              (∀y∈aX pend o,eB P nt all s' y.2)->GO P nt (.bR all ((x::todo).filter fun x=>!O2 x.1 j) (aX pend o)::k) Q s'->GO P nt (.bR all (x::todo) pend::k) Q s:=by
            intro j o s' h1 h2 h3 h4 ha h5 h6 h7;obtain⟨c0,r0,t0⟩:=g0 h1;refine qY h4 ⟨_,c0,r0⟩ ha fun j' o' hj _ hu=>?_;simp only[OM]at hj;subst hj;have:=hu o c0;subst this;exact⟨r0,fun y hy _=>t0 y hy,h3,h2,_,h5,fun t ht=>by subst ht;exact⟨h6,h7⟩⟩
          simp only[bp]at h;split at h
          · rename_i i o p C' s0
            obtain⟨g1,ga,gb,g2,g3,g4⟩:=(rN (fun _ h=>h)).1 s0;split at h
            · exact a0 h
            · rename_i s' I
              split at h
              · exact G h fun hC g=>su g1 ga gb g2 g3 (mr B g4 hC I).1 (mr B g4 hC I).2 g
              · rename_i ho
                exact A h fun g=>su g1 ga gb g2 g3 (mr B g4 (vo g4 ho) I).1 (mr B g4 (vo g4 ho) I).2 g
          · rename_i i o s0
            obtain⟨g1,ga,gb,g2,g3⟩:=(rN (fun _ h=>h)).2 s0;exact A h (DT g1 ga gb g2 g3)
          · split at h
            · rename_i t' hy
              split at h
              · exact D h fun g=>pt hy g.1 g.2
              · split at h
                · exact A h fun g=>pt hy (fun _=>g) (fun h=>by cases h)
                · exact A h fun g=>pt hy (fun h=>by cases h) (fun _=>g)
            · exact a0 h
          · split at h
            · rename_i j o m0
              split at h
              · rename_i i0 j0 k0
                split at h
                · exact a0 h
                · rename_i CA f0
                  split at h
                  · rename_i p C' hr
                    split at h
                    · exact a0 h
                    · rename_i s' I
                      split at h
                      · exact a0 h
                      · rename_i n0 d0
                        exact G h fun hC g=>e0 m0 i0 j0 k0 (b0 f0 hC.1) (rJ B hr hC.2.1 I) (c6 B d0 hC.2.2) g
                  · split at h
                    · split at h
                      · split at h
                        · exact D h fun g=>g
                        · rename_i C' p s1 o0
                          split at h
                          · exact a0 h
                          · rename_i s' I
                            split at h
                            · exact a0 h
                            · rename_i n0 d0
                              exact G h fun hC g=>e0 m0 i0 j0 k0 (b0 f0 hC.1) (B0 B o0 hC.2.1 I) (c6 B d0 hC.2.2) g
                      · rename_i e b1 p0
                        rw[sR]at h;obtain⟨g,c,fn,ho,ha,he,h1,h2,h3,h4,h5⟩:=uQ x0 p0;obtain⟨c0,r0,t0⟩:=g0 m0;exact G h fun hC gg=>He B c0 k0 t0 (b0 f0 hC) j0 i0 ho ha h1 h2 h3 h4 h5 he gg
                    · rename_i p s1 q0
                      split at h
                      · exact a0 h
                      · rename_i s' I
                        split at h
                        · exact a0 h
                        · rename_i n0 d0
                          exact G h fun hC g=>e0 m0 i0 j0 k0 (b0 f0 hC.1) (Dr B q0 I) (c6 B d0 hC.2) g
              · exact D h fun g=>g
            · split at h
              · exact D h fun g=>g
              · rename_i i o j1
                split at h
                · rename_i t d i1 f1
                  split at h
                  · exact a0 h
                  · rename_i e he
                    rw[force_eq]at h;split at h
                    · rename_i C1 C2 d1 e1
                      obtain⟨m1,m2⟩:=xd (fun _ h=>h) j1;exact G h fun hC g=>BF m1 i1 (fun w=>cU (B _ _ he)) f1 m2 (c6 B d1 hC.1) (c6 B e1 hC.2) g
                    · exact a0 h
                · exact a0 h
            · exact D h fun g=>g
      | ops all rest=>
        cases rest with
        |nil=>simp only[bp]at h;exact A h yK
        | cons o r=>
          simp only[bp]at h;split at h
          · rename_i j w0 hg
            split at h
            · rename_i d t hy
              cases hb:O1 d nt with
              |false=>simp only[hb,cond_false]at h;exact a0 h
              | true=>
                simp only[hb,cond_true]at h;split at h
                · exact D h fun g=>DS hg hy (Oy hb) g.1 g.2
                · split at h
                  · exact A h (Ae Z (qh hy))
                  · exact A h (Ae Z (qh hy))
            · rename_i d t hy
              cases hb:O1 d nt with
              |false=>simp only[hb,cond_false]at h;exact a0 h
              | true=>
                simp only[hb,cond_true]at h;obtain⟨a1,a2,a3,a4,a5,a6⟩:=o;cases t<;>cases w0<;>simp only at h
                all_goals exact A h fun g=>xI hg hy (Oy hb) g
            · rename_i d vs hy
              exact A h fun g=>xH hg hy g
            · exact a0 h
          · rename_i hg
            split at h
            · split at h
              · split at h
                · split at h
                  · exact D h fun g=>g
                  · rename_i C' p s1 o0
                    split at h
                    · exact a0 h
                    · rename_i s' I
                      exact G h fun hC g=>cG hg (B0 B o0 hC I) fun t ht=>by subst ht;exact g
                · rename_i e b1 p0
                  rw[sR]at h;obtain⟨g,c,fn,ho,ha,he,h1,h2,h3,h4,h5⟩:=uQ x0 p0;exact A h fun gg=>KS B hg ho ha h1 h2 h3 h4 h5 he gg
              · rename_i p s1 q0
                split at h
                · exact a0 h
                · rename_i s' I
                  exact A h fun g=>cG hg (Dr B q0 I) fun t ht=>by subst ht;exact g
            · rename_i p C' hr
              split at h
              · exact a0 h
              · rename_i s' I
                split at h
                · exact G h fun hC g=>cG hg (rJ B hr hC I) fun t ht=>by subst ht;exact g
                · rename_i ho
                  exact A h fun g=>cG hg (rJ B hr (vo hr ho) I) fun t ht=>by subst ht;exact g
theorem KA:EM P (fun _=>io):=fun _ _ h=>nomatch h
theorem yJ(hm:P.follows .mixedOrders=is)(j:bn P ty)(n:Nat){k:List KI}{s:AS}{C:Prop}{b:NT}{st:Stop}(h:bp ty ⟨fun _=>io,0,jp⟩ n nt k s True=co (C,b,st))(hC:C)(hg:eh P b Q st):GO P nt k Q s:=
  (Kn hm j KA n nt k s True C b st h).2 hC hg
end
mutual
def PV.low(n:Nat):PV->Bool
 | .iv _=>is
 | .agg cs=>bb n cs
 | .bh cs=>bb n cs
 | .ptr i _=>O1 i n
 | .cD i _ _ _=>O1 i n
 | .dY _ i=>O1 i n
 | .mA i _ _=>O1 i n
 | .sl i _ _ _=>O1 i n
 | .mp i=>O1 i n
 | .bX _ first caps=>match bb n first with
  |true=>bb n caps
  |false=>jp
 | .kb _=>is
 | .any=>is
def bb(n:Nat):List PV->Bool
 | []=>is
 |p::r=>match PV.low n p with
  |true=>bb n r
  |false=>jp
end
theorem fF{n:Nat}: ∀{l:List PV},bb n l=is-> ∀(j:Nat) (p:PV),l[j]? =co p->p.low n=is
 | [],_,j,p,h=>by simp at h
 |c::l,hb,j,p,h=>by
  simp only[bb]at hb;split at hb
  .rename_i b;cases j with
   |zero=>simp at h;subst h;exact b
   |succ j=>exact fF hb j p (by simpa using h)
  .cases hb
def AO.low(n:Nat):AO->Prop
 | .cells cs _=>bb n cs=is
 | .row _ es=> ∀(k:Nat) (e:List PV),es[k]? =co e->bb n e=is
 | .bf _ _=>True
 | .eC=>True
 | .map ..=>True
 | .bB ..=>True
 | .c9 _ _=>True
 | .gi ..=>True
 | .dB q _ _=>q.low n=is
section
variable {M:Mem} {N:Nm} {U:Nat->Prop} {n:Nat}
theorem VR.down{p:PV}{x:Value}(h:VR M N U p x):p.low n=is->VR M N (· <n) p x:=by
 induction h with
 |iv x y h=>exact fun _=> .iv x y h
 |agg cs ys hl hr ih=>exact fun hb=> .agg _ _ hl fun j p u=>ih j p u (fF hb j p u)
 |bh cs ys hl hr ih=>exact fun hb=> .bh _ _ hl fun j p u=>ih j p u (fF hb j p u)
 |ptr i off h=>exact fun hb=> .ptr i off (Oy hb)
 |cD i sz k off h=>exact fun hb=> .cD i sz k off (Oy hb)
 |dY z i h=>exact fun hb=> .dY z i (Oy hb)
 |mA i o m h=>exact fun hb=> .mA i o m (Oy hb)
 |sl i off len sz cap h A hl hc he=>exact fun hb=> .sl i off len sz cap (Oy hb) A hl hc he
 |lC i sz h=>exact fun hb=> .lC i sz (Oy hb)
 |sle i sz cap h hc he=>exact fun hb=> .sle i sz cap (Oy hb) hc he
 |mp i h=>exact fun hb=> .mp i (Oy hb)
 |bX fn first caps f' c' h1 h2 hr1 hr2 ih1 ih2=>
  intro hb;simp only[PV.low]at hb;split at hb
  .rename_i A;exact .bX _ _ _ _ _ h1 h2 (fun j p u=>ih1 j p u (fF A j p u)) (fun j p u=>ih2 j p u (fF hb j p u))
  .cases hb
 |kb b=>exact fun _=> .kb b
 |any x=>exact fun _=> .any x
theorem OR.down{w:World}{i:Nat}{o:AO}(h:OR M N U w i o)(hb:o.low n):OR M N (· <n) w i o:=by
 cases o with
 |cells cs T0=>obtain⟨c,T,h1,u,x,y,A⟩:=h;exact⟨c,T,h1,u,x,fun j p C=>(y j p C).down (fF hb j p C),A⟩
 |row sz es=>
  rcases h with h|⟨G,c,T,h1,u,x,y,A⟩
  .exact .inl h
  exact .inr ⟨G,c,T,h1,u,x,y,fun k e j p B D=>(A k e j p B D).down (fF (hb k e B) j p D)⟩
 |bf l T=>exact h
 |eC=>exact h
 |map kc ev z zv dv m=>exact h
 |bB kc ev m l cu=>exact h
 |c9 s p=>exact h
 |gi kc ev z zv dv m bs c=>exact h
 |dB q c l=>obtain⟨b,h1,u⟩:=h;exact⟨b,h1.down hb,u⟩
end
def HN(n:Nat)(f:AF):AF->Prop
 | []=>True
 |(d,p)::r=>f.get d=p∧p.low n=is∧HN n f r
def y6(n:Nat)(h:AH):AH->Prop
 | []=>True
 |(_,io)::r=>y6 n h r
 |(i,co o)::r=>h.get i=co o∧i<n∧o.low n∧y6 n h r
structure Ni (s t:AS):Prop where
 nx:t.nx<=s.nx
 f:HN t.nx s.f t.f
 h:y6 t.nx s.h t.h
theorem oT{n:Nat}{h:AH}: ∀{g:AH},y6 n h g-> ∀i o,g.get i=co o->h.get i=co o∧i<n∧o.low n
 | [],_,i,o,hi=>by simp[AH.get]at hi
 |(k,io)::r,hw,i,o,hi=>by
  rw[AH.au]at hi;split at hi
  .cases hi
  .exact oT (g:=r) hw i o hi
 |(k,co p)::r,hw,i,o,hi=>by
  obtain⟨h1,b,j,u⟩:=hw;rw[AH.au]at hi;split at hi
  .rename_i e;subst e;simp only[OA]at hi;subst hi;exact⟨h1,b,j⟩
  .exact oT u i o hi
theorem Ni.ext{s t:AS}(hw:Ni s t){M x:Mem}{N y:Nm}{n:Nat}{h:AH}{w w':World}(b:Ext M N (· <n) h w x y (· <s.nx) s.h w')(hn:n<=t.nx):Ext M N (· <n) h w x y (· <t.nx) t.h w':=
 ⟨b.os,b.tape,b.output,b.size,b.dc,b.mO,b.fO,b.nm,fun _ j=>Qj j hn,fun i o j u=>b.ff i o (oT hw.h i o j).1 u⟩
theorem cK{p:Nat->Prop}(h: ∃n,p n): ∃n,p n∧ ∀m,p m->n<=m:=by
 obtain⟨n,u⟩:=h
 induction n using Nat.strongRecOn with
 |_ n ih=>
  by_cases j: ∃m,m<n∧p m
  .obtain⟨m,h1,b⟩:=j;exact ih m h1 b
  .exact⟨n,u,fun m b=>Qk fun h1=>j ⟨m,h1,b⟩⟩
section
variable {P:Program} {nt:NT} {Q:AQ} {k:List KI} {s:AS}
end
section
variable {P:Program}
def Pure(P:Program)(k:FuncId)(args:List PV)(r:PV):Prop:=Fn P k args [] fun q h n=>q=r∧h=[]∧n=0
end
mutual
theorem PV.ir(σ:Nat->Nat): ∀p:PV,p.low 0=is->p.cj σ=p
 | .iv _,_=>rfl
 | .agg cs,h=>by simp only[PV.cj];rw[fR σ cs (by simpa[PV.low]using h)]
 | .bh cs,h=>by simp only[PV.cj];rw[fR σ cs (by simpa[PV.low]using h)]
 | .ptr i o,h=>by simp[PV.low,O1]at h
 | .cD i _ _ o,h=>by simp[PV.low,O1]at h
 | .dY _ i,h=>by simp[PV.low,O1]at h
 | .mA i _ _,h=>by simp[PV.low,O1]at h
 | .sl i _ _ _,h=>by simp[PV.low,O1]at h
 | .mp i,h=>by simp[PV.low,O1]at h
 | .bX fn a b,h=>by
  simp only[PV.low]at h;simp only[PV.cj];split at h
  .rename_i j;rw[fR σ a j,fR σ b h]
  .cases h
 | .kb _,_=>rfl
 | .any,_=>rfl
theorem fR(σ:Nat->Nat): ∀l:List PV,bb 0 l=is->cW σ l=l
 | [],_=>rfl
 |p::r,h=>by
  simp only[bb]at h;split at h
  .rename_i b;simp only[cW];rw[PV.ir σ p b,fR σ r h]
  .cases h
end
section
variable {P:Program} {nt:NT} {Q:AQ} {k:List KI} {s:AS}
theorem aA{all rest:List Oper}{o:Oper}{c:Call}{g:FuncId}{args:List PV}{r:PV}{s':AS}(hc:Pure P g args r)(ho:o.op= .call c)(hg:o.guard=io)(ha:bz s.f c=co (g,args))(hl:bb 0 args=is)
  (hr:r.low 0=is) (hp:putDst nt o r s=co s') (h:GO P nt (.ops all rest::k) Q s'):GO P nt (.ops all (o::rest)::k) Q s:=by
 refine cG (R:=fun t=>t=s') hg ?_ (fun t b=>by subst b;exact h);refine kV ho ha hc (L:=[]) (by simp) (by simp) Z (fR _ _ hl).symm ?_;rintro q j u ⟨rfl,rfl,rfl⟩;exact⟨s',by rw[PV.ir _ _ hr];exact hp,rfl⟩
end
def dN(o q:AO):Prop:=(q.real=is->o.real=is)∧ ∀(M:Mem) (N:Nm) (U:Nat->Prop) (w:World) (i:Nat),OR M N U w i o->OR M N U w i q
theorem an.of_eq{p q:PV}(h:p=q):an p q:=h▸ .refl p
theorem km.refl(p:IV):km p p:=fun _ _ h=>h
theorem km.of_eq{p q:IV}(h:p=q):km p q:=h▸ .refl p
theorem dN.refl(o:AO):dN o o:=⟨id,fun _ _ _ _ _ h=>h⟩
theorem dN.of_eq{o q:AO}(h:o=q):dN o q:=h▸ .refl o
theorem dN.trans{o q r:AO}(a:dN o q)(b:dN q r):dN o r:=⟨fun h=>a.1 (b.1 h),fun M N U w i h=>b.2 M N U w i (a.2 M N U w i h)⟩
theorem an.iv{p q:IV}(h:km p q):an (.iv p) (.iv q):=fun M N U x b=>by
 cases b with
 |iv _ _ hi=>exact .iv _ _ (h M x hi)
theorem km.nil(sz:Nat)(el:Nat->List IV):km (.v (.slice io 0 0)) (.cp sz 0 el):=fun M x h=>by
 cases h;exact .fh _ _ _ _
theorem an.nil(sz:Nat)(el:Nat->List IV):an (.iv (.v (.slice io 0 0))) (.iv (.cp sz 0 el)):= .iv (.nil sz el)
theorem an.kb(b:Bool):an (.kb b) (.iv (.v (.bool b))):=fun M N U x h=>by
 cases h;exact .iv _ _ (.v _)
theorem km.cp{sz n y:Nat}{el u:Nat->List IV}(hn:n=y)(h: ∀k,k<n->el k=u k):km (.cp sz n el) (.cp sz y u):=by
 subst hn;intro M x B;cases B with
 |fh=>exact .fh _ _ _ _
 |cp _ _ _ b off cap hn hc hl hm hr=>
  exact .cp _ _ _ _ _ _ hn hc (fun k hk=>by rw[<-h k hk];exact hl k hk) hm (fun k j p hk A=>hr k j p hk (by rw[h k hk];exact A))
theorem an.cp{sz n j:Nat}{el b:Nat->List IV}(hn:n=j)(h: ∀k,k<n->el k=b k):an (.iv (.cp sz n el)) (.iv (.cp sz j b)):= .iv (.cp hn h)
def fN:List PV->List PV->Prop
 | [],[]=>True
 |p::r,q::s=>an p q∧fN r s
 |_,_=>False
theorem fN.length: ∀{a b:List PV},fN a b->a.length=b.length
 | [],[],_=>rfl
 |_::_,_::_,h=>congrArg (· +1) (fN.length h.2)
 | [],_::_,h=>h.elim
 |_::_,[],h=>h.elim
theorem fN.get: ∀{a b:List PV},fN a b-> ∀(j:Nat) (q:PV),b[j]? =co q-> ∃p,a[j]? =co p∧an p q
 | [],[],_,j,q,h=>by simp at h
 |p::r,q0::s,hh,j,q,h=>by
  cases j with
  |zero=>simp at h;subst h;exact⟨p,rfl,hh.1⟩
  |succ j=>simpa using fN.get hh.2 j q (by simpa using h)
 | [],_::_,hh,_,_,_=>hh.elim
 |_::_,[],hh,_,_,_=>hh.elim
theorem an.agg{a b:List PV}(h:fN a b):an (.agg a) (.agg b):=fun M N U x y=>by
 cases y with
 |agg _ ys hl hr=>exact .agg _ _ (h.length▸hl) fun j q u=>let ⟨p,hp,hle⟩:=h.get j q u;hle M N U _ (hr j p hp)
theorem an.bh{a b:List PV}(h:fN a b):an (.bh a) (.bh b):=fun M N U x y=>by
 cases y with
 |bh _ ys hl hr=>exact .bh _ _ (h.length▸hl) fun j q u=>let ⟨p,hp,hle⟩:=h.get j q u;hle M N U _ (hr j p hp)
theorem dN.cells{a b:List PV}{u:Option TypeId}(h:fN a b):dN (.cells a u) (.cells b u):=⟨fun h=>h,fun M N U w i ⟨c,T,h1,h2,h3,h4,h5⟩=>
 ⟨c,T,h1,h2,h.length▸h3,fun j q x=>let ⟨p,hp,hle⟩:=h.get j q x;hle M N U _ (h4 j p hp),h5⟩⟩
theorem dN.Lu(a:List PV)(b:Option TypeId):dN (.cells a b) (.cells a):=⟨fun h=>h,fun M N U w i ⟨c,T,h1,h2,h3,h4,_⟩=>⟨c,T,h1,h2,h3,h4,.none _⟩⟩
theorem Fn.le{P:Program}{k:FuncId}{aa args:List PV}{os:List AO}{R:PV->AH->Nat->Prop}(h:Fn P k args os R)(b:fN aa args):Fn P k aa os R:=
 ⟨h.1,fun M N w vs x hl y=>h.2 M N w vs x (by rw[<-b.length];exact hl) fun j q u=>let ⟨p,hp,hpq⟩:=b.get j q u;hpq M N _ _ (y j p hp)⟩
theorem Pure.le{P:Program}{k:FuncId}{aa args:List PV}{r:PV}(h:Pure P k args r)(b:fN aa args):Pure P k aa r:=Fn.le h b
def sg(n0:Nat)(L:List Nat)(i:Nat):Nat:=bif O1 i n0 then i else L.getD (i-n0) 0
theorem fa{n0:Nat}{L:List Nat}{i:Nat}(h:i<n0):sg n0 L i=i:=by
 have:O1 i n0=is:=Pu h;simp[sg,this]
def B2(n:Nat)(σ:Nat->Nat)(f:AF):AF->Prop
 | []=>True
 |(d,p)::r=>an (f.get d) (p.cj σ)∧p.low n=is∧B2 n σ f r
def mf(n:Nat)(σ:Nat->Nat)(h:AH):AH->Prop
 | []=>True
 |(_,io)::r=>mf n σ h r
 |(i,co o)::r=>(∃b,h.get (σ i)=co b∧dN b (o.cj σ))∧i<n∧o.low n∧mf n σ h r
def dX(σ:Nat->Nat):AH->List Nat
 | []=> []
 |(_,io)::r=>dX σ r
 |(i,co _)::r=>σ i::dX σ r
structure Wk (n0:Nat) (L:List Nat) (s t:AS):Prop where
 nx:t.nx=n0+L.length
 ns:n0<=s.nx
 lt: ∀j∈L,j<s.nx
 f:B2 t.nx (sg n0 L) s.f t.f
 h:mf t.nx (sg n0 L) s.h t.h
 inj:(dX (sg n0 L) t.h).Nodup
theorem y5{n:Nat}{σ:Nat->Nat}{f:AF}: ∀{g:AF},B2 n σ f g-> ∀d,g.get d= .any∨(an (f.get d) ((g.get d).cj σ)∧(g.get d).low n=is)
 | [],_,_=> .inl Z
 |(k,p)::r,h,d=>by
  obtain⟨h1,b,j⟩:=h;rw[AF.au];by_cases hd:d=k
  .subst hd;rw[am Z];exact .inr ⟨h1,b⟩
  .rw[be hd];exact y5 j d
theorem gv{n:Nat}{σ:Nat->Nat}{h:AH}: ∀{g:AH},mf n σ h g-> ∀i o,g.get i=co o->(∃b,h.get (σ i)=co b∧dN b (o.cj σ))∧i<n∧o.low n
 | [],_,i,o,hi=>by simp[AH.get]at hi
 |(k,io)::r,hw,i,o,hi=>by
  rw[AH.au]at hi;split at hi
  .cases hi
  .exact gv (g:=r) hw i o hi
 |(k,co p)::r,hw,i,o,hi=>by
  obtain⟨h1,j,u,x⟩:=hw;rw[AH.au]at hi;split at hi
  .rename_i e;subst e;simp only[OA]at hi;subst hi;exact⟨h1,j,u⟩
  .exact gv x i o hi
theorem iw{σ:Nat->Nat}: ∀{g:AH} {i:Nat} {o:AO},g.get i=co o->σ i∈dX σ g
 | [],i,o,h=>by simp[AH.get]at h
 |(k,io)::r,i,o,h=>by
  rw[AH.au]at h;split at h
  .cases h
  .exact iw (g:=r) h
 |(k,co p)::r,i,o,h=>by
  rw[AH.au]at h;split at h
  .rename_i e;subst e;simp[dX]
  .exact ON _ (iw h)
theorem ku{σ:Nat->Nat}: ∀{g:AH},(dX σ g).Nodup-> ∀i j o p,g.get i=co o->g.get j=co p->σ i=σ j->i=j
 | [],_,i,j,o,p,h,_,_=>by simp[AH.get]at h
 |(k,io)::r,hn,i,j,o,p,hi,hj,he=>by
  rw[AH.au]at hi hj;split at hi
  .cases hi
  .split at hj
   .cases hj
   .exact ku (g:=r) hn i j o p hi hj he
 |(k,co q)::r,hn,i,j,o,p,hi,hj,he=>by
  rw[AH.au]at hi hj;simp only[dX,Pf]at hn;split at hi
  .rename_i u;split at hj
   .rename_i b;rw[u,b]
   .subst u;exact absurd (he▸iw hj) hn.1
  .split at hj
   .rename_i b;subst b;exact absurd (he▸iw hi) hn.1
   .exact ku hn.2 i j o p hi hj he
section
variable {n0:Nat} {L:List Nat} {s t:AS} {M:Mem} {N:Nm} {w:World}
theorem dN.real{o q:AO}(h:dN o q)(b:q.real=is):o.real=is:=h.1 b
theorem Wk.fits(hw:Wk n0 L s t){nt:NT}{a:Act}(hf:Fits M N s nt a w):Fits M (N.comp (sg n0 L)) t nt a w:=by
 refine⟨⟨hf.1.dR,fun i o b=>(gv hw.h i o b).2.1,fun i o b A=>?_,fun i o b=>?_,fun i j o p b C G I D=>?_⟩,fun d=>?_,hf.2.2⟩
 .obtain⟨⟨B,h1,u⟩,y,x⟩:=gv hw.h i o b;exact hf.1.dD _ B h1 (u.real ((AO.bQ _ o).trans A))
 .obtain⟨⟨B,h1,u⟩,y,x⟩:=gv hw.h i o b;exact(OR.pN (u.2 M N _ w _ (hf.1.obj _ _ h1))).down x
 .obtain⟨⟨B,h1,u⟩,_⟩:=gv hw.h i o b;obtain⟨⟨J,y,x⟩,_⟩:=gv hw.h j p C;have:=hf.1.inj _ _ _ _ h1 y (u.real ((AO.bQ _ o).trans G)) (x.real ((AO.bQ _ p).trans I)) D;exact ku hw.inj i j o p b C this
 .rcases y5 hw.f d with h|⟨h1,u⟩
  .rw[h];exact .any _
  .exact((h1 M N _ _ (hf.2.1 d)).pN Z).down u
theorem Wk.ext(hw:Wk n0 L s t){x:Mem}{y:Nm}{h0:AH}{A:World}(b:Ext x y (· <n0) h0 A M N (· <s.nx) s.h w):Ext x y (· <n0) h0 A M (N.comp (sg n0 L)) (· <t.nx) t.h w:=by
 refine⟨b.os,b.tape,b.output,b.size,b.dc,b.mO,b.fO,⟨fun i j=>?_,fun i j=>?_⟩,fun i j=>by have:=hw.nx;omega,fun i o j u=>?_⟩
 .simp only[Nm.comp,fa j];exact b.nm.az i j
 .simp only[Nm.comp,fa j];exact b.nm.ext i j
 .obtain⟨⟨C,h1,B⟩,_⟩:=gv hw.h i o j;exact b.ff _ C h1 (B.real ((AO.bQ _ o).trans u))
end
theorem kM{P:Program}{nt:NT}{Q:AQ}{k:List KI}{s:AS}{c:Code}{R j:AS->Prop}(h: ∀t,R t->j t)(hg:GO P nt (.code c:: .lp R::k) Q s):GO P nt (.code c:: .lp j::k) Q s:=by
 intro M N a w A;refine AW.then hg A fun e C w' x y s' B b u=>⟨x,y,s',B,b,?_⟩
 cases e with
 |normal=>exact h _ u
 |_=>exact u
section
variable {P:Program} {nt:NT} {Q:AQ} {k:List KI} {s:AS}
theorem ah{L:List Nat}{t:AS}{c:Code}(hw:Wk s.nx L s t)(h:GO P nt (.code c::k) Q t):GO P nt (.code c::k) Q s:=by
 intro M N a w A;exact AW.then h (hw.fits A) fun e a2 C x y B u b j=>⟨x,y,B,(hw.ext (.refl _ _ _ _ _)).trans u,b,j⟩
theorem fW{body:Code}{σ:Type}(I:σ->AS)(μ:σ->Nat)(i0:σ)(D:List Nat)(h0:Wk s.nx D s (I i0))
  (b: ∀i,GO P nt (.code body:: .lp (fun t=> ∃j L,μ j<μ i∧Wk s.nx L t (I j))::k) Q (I i)):GO P nt (.code (.loop body)::k) Q s:=by
 intro R N0 a0 w0 C
 let J:Act->World->Nat->Prop:=fun a w n=> ∃i M N,μ i=n∧Ext R N0 (· <s.nx) s.h w0 M N (· <(I i).nx) (I i).h w∧Fits M N (I i) nt a w
 have B:J a0 w0 (μ i0):=⟨i0,R,N0.comp (sg s.nx D),rfl,h0.ext (.refl _ _ _ _ _),h0.fits C⟩
 refine wp_loop (fun a w=> ∃n,J a w n) (fun a w=>by classical exact if h: ∃n,J a w n then Q5 (cK h) else 0) ⟨_,B⟩ fun a w b0=>?_;obtain⟨⟨i,M,N,hi,hx,hf⟩,c0⟩:=Qi (cK b0);refine AW.then (b i) hf fun e A w' G Y s' x u hr=>?_
 cases e with
 |normal=>
  obtain⟨j,L,hj,hw⟩:=hr;have y:J A w' (μ j):=⟨j,G,Y.comp (sg s.nx L),rfl,hw.ext (hx.trans x),hw.fits u⟩
  refine⟨⟨_,y⟩,?_⟩;simp only[dif_pos b0,dif_pos (⟨_,y⟩: ∃n,J A w' n)];rw[<-hi];exact RV ((Qi (cK (⟨_,y⟩: ∃n,J A w' n))).2 _ y) hj
 |_=>exact⟨G,Y,s',hx.trans x,u,hr⟩
end
section
variable {P:Program} {nt:NT} {Q:AQ} {k:List KI} {s:AS}
theorem aM{body:Code}(i0 n:Nat)(j:i0<=n)(I:Nat->AS)(J:Nat->Prop)(u:List Nat)(y:J i0)(h0:Wk s.nx u s (I i0))
  (b: ∀i,i<=n->J i->GO P nt (.code body:: .lp (fun t=>i<n∧J (i+1)∧ ∃L,Wk s.nx L t (I (i+1)))::k) Q (I i)):GO P nt (.code (.loop body)::k) Q s:=by
 refine fW (σ:={i:Nat//i<=n∧J i}) (fun i=>I i.1) (fun i=>n-i.1) ⟨i0,j,y⟩ u h0 fun i=>?_;obtain⟨i,h1,x⟩:=i;have:=b i h1 x;refine kM ?_ this
 rintro t ⟨h3,h4,L,h5⟩;exact⟨⟨i+1,h3,h4⟩,L,by show n-(i+1)<n-i;omega,h5⟩
end
theorem mv{P:Program}{nt:NT}{Q:AQ}{k:List KI}{s:AS}{c:Code}(t sz:Nat)(B:s.f.get t= .iv (.v (.slice io 0 0)))(h:GO P nt (.code c::k) Q (rn s t sz)):GO P nt (.code c::k) Q s:=by
 intro M N a w b;obtain⟨R,Y,sn⟩:=s;obtain⟨h1,G⟩:=b.1.ET sz;have j:Fits M N (rn ⟨R,Y,sn⟩ t sz) nt a w:=by
  refine⟨G,fun k=>?_,b.2.2⟩;simp only[rn];rw[AF.au];split
  .rename_i x;subst x;have:=b.2.1 k;simp only at B this;rw[B]at this;generalize a.tmps.getD k undef=v at this;cases this with
   |iv _ _ h=>cases h with
    |v=>exact .lC _ _ (Qc _)
  .exact(b.2.1 k).mono (.refl _) (.refl _ _) (fun i I=>PY I)
 exact AW.then h j fun e a2 w2 C D J A u y=>⟨C,D,J,h1.trans A,u,y⟩
mutual
def PV.dR(i sz:Nat)(el:Nat->List IV):PV->PV
 | .iv x=> .iv x
 | .agg cs=> .agg (pD i sz el cs)
 | .bh cs=> .bh (pD i sz el cs)
 | .sl j off len sz'=>bif O2 j i then .iv (.cp sz len (fun k=>el (off+k))) else .sl j off len sz'
 | .ptr j o=> .ptr j o
 | .cD j a b c=> .cD j a b c
 | .dY z j=> .dY z j
 | .mA j o n=> .mA j o n
 | .mp j=> .mp j
 | .bX fn a b=> .bX fn a b
 | .kb b=> .kb b
 | .any=> .any
def pD(i sz:Nat)(el:Nat->List IV):List PV->List PV
 | []=> []
 |p::r=>PV.dR i sz el p::pD i sz el r
end
theorem fY(i sz:Nat)(el:Nat->List IV): ∀l:List PV,pD i sz el l=l.map (PV.dR i sz el)
 | []=>rfl
 |p::r=>by simp[pD,fY i sz el r]
mutual
def PV.dC(i sz n:Nat):PV->Prop
 | .agg cs=>dQ i sz n cs
 | .bh cs=>dQ i sz n cs
 | .sl j off len sz'=>if j=i then sz'=sz∧off+len<=n else True
 |_=>True
def dQ(i sz n:Nat):List PV->Prop
 | []=>True
 |p::r=>PV.dC i sz n p∧dQ i sz n r
end
theorem gp{i sz n:Nat}: ∀{l:List PV},dQ i sz n l-> ∀(j:Nat) (p:PV),l[j]? =co p->p.dC i sz n
 | [],_,j,p,h=>by simp at h
 |c::l,hh,j,p,h=>by
  cases j with
  |zero=>simp at h;subst h;exact hh.1
  |succ j=>exact gp hh.2 j p (by simpa using h)
theorem vP{M:Mem}{N:Nm}{n:Nat}{h:AH}{w:World}(hr:Rel M N (· <n) h w){i sz:Nat}{es:List (List PV)}(hi:h.get i=co (.row sz es)){el:Nat->List IV}
  (g0: ∀k e,es[k]? =co e->e=(el k).map .iv): ∃A,Ext M N (· <n) h w A N (· <n) ((i,io)::h) w∧Rel A N (· <n) ((i,io)::h) w∧
   ∀p x,VR M N (· <n) p x->p.dC i sz es.length->VR A N (· <n) (p.dR i sz el) x:=by
 have key: ∀A:Mem,M.le A->(∀a0 len b0 b,a0+len<=es.length->0<len->len<=b0->b0<=maxLen->b=N.az i->IR A (.cp sz len (fun k=>el (a0+k))) (.slice (co ⟨b,a0*sz,io⟩) len b0))->
   ∀p x,VR M N (· <n) p x->p.dC i sz es.length->VR A N (· <n) (p.dR i sz el) x:=by
  intro A hM hs p x hx
  induction hx with
  |iv x y h=>exact fun _=> .iv _ _ (h.mono hM)
  |agg cs ys hl hr ih=>
   intro C;refine .agg _ _ (by simpa[fY]using hl) fun j q hq=>?_;rw[fY,OH,OJ]at hq;obtain⟨q0,G,rfl⟩:=hq
   exact ih j q0 G (gp (by simpa[PV.dC]using C) j q0 G)
  |bh cs ys hl hr ih=>
   intro C;refine .bh _ _ (by simpa[fY]using hl) fun j q hq=>?_;rw[fY,OH,OJ]at hq;obtain⟨q0,G,rfl⟩:=hq
   exact ih j q0 G (gp (by simpa[PV.dC]using C) j q0 G)
  |ptr i a0 h=>exact fun _=> .ptr _ _ h
  |cD i sz k a0 h=>exact fun _=> .cD _ _ _ _ h
  |dY z i h=>exact fun _=> .dY _ _ h
  |mA i o n h=>exact fun _=> .mA _ _ _ h
  |sl j a0 len sz' b0 h h0 hl hc R=>
   intro C;simp only[PV.dC]at C;simp only[PV.dR];by_cases u:j=i
   .subst u;rw[am Z]at C;obtain⟨rfl,C⟩:=C;have:O2 j j=is:=by simp
    rw[this,cond_true];exact .iv _ _ (hs a0 len b0 _ C h0 hl hc Z)
   .have:O2 j i=jp:=QU.2 (fun e=>u (OU e));rw[this,cond_false];exact .sl _ _ _ _ _ h h0 hl hc R
  |lC j sz' h=>
   intro C;simp only[PV.dR];cases hb:O2 j i with
   |true=>exact .iv _ _ (.fh _ _ _ _)
   |false=>exact .lC _ _ h
  |sle j sz' b0 h hc R=>
   intro C;simp only[PV.dR];cases hb:O2 j i with
   |true=>exact .iv _ _ (.fh _ _ _ _)
   |false=>exact .sle _ _ _ h hc R
  |mp i h=>exact fun _=> .mp _ h
  |bX fn first caps f' c' h1 J hr1 hr2 ih1 ih2=>exact fun _=> .bX _ _ _ _ _ h1 J (fun j p u=>(hr1 j p u).mono hM (.refl _ _) (fun _ h=>h)) (fun j p u=>(hr2 j p u).mono hM (.refl _ _) (fun _ h=>h))
  |kb b=>exact fun _=> .kb _
  |any x=>exact fun _=> .any _
 rcases hr.obj i _ hi with h0|⟨h0,c,T,h1,J,h3,h4,h5⟩
 .subst h0;exact⟨M,(Ext.refl _ _ _ _ _).del i,hr.del i,key M (.refl _) fun a0 len b0 b h1 J=>by simp at h1;omega⟩
 .have c0:es≠ []∨es=[]:=by cases es<;>simp
  rcases c0 with c0|rfl;rotate_left
  .exact⟨M,(Ext.refl _ _ _ _ _).del i,hr.del i,key M (.refl _) fun a0 len b0 b h1 J=>by simp at h1;omega⟩
  have I:(AO.row sz es).real=is:=by cases es with
   |nil=>exact absurd Z c0
   |cons=>rfl
  have e0:=hr.dD i _ hi I
  let A:Mem:=M.set (N.az i) (.cells c) e0
  have hM:M.le A:=fun b d hb=>by
   simp only[A,Mem.set];by_cases B:b=N.az i
   .rw[B,e0]at hb;cases hb
   .rw[be B];exact hb
  have hnew: ∀b d,M b=io->A b=co d->b=N.az i:=fun b d h1 J=>by
   simp only[A,Mem.set]at J;by_cases B:b=N.az i
   .exact B
   .rw[be B,h1]at J;cases J
  refine⟨A,?_,?_,key A hM fun a0 len b0 b hb h6 h7 h8 i0=>?_⟩
  .exact⟨rfl,rfl,⟨rfl,OL _⟩,OL _,fun _ _ _=>rfl,hM,fun b d h1 J=> .inr ⟨i,_,hi,I,(hnew b d h1 J).symm⟩,.refl _ _,fun _ h=>h,fun j o u I=> .inr ⟨j,o,(aZ j o u).2,I,rfl⟩⟩
  .refine⟨fun b d hb=>?_,fun j o u=>hr.used j o (aZ j o u).2,fun j o u Y=>?_,fun j o u=>?_,fun j k o p u hk=>hr.inj j k o p (aZ j o u).2 (aZ k p hk).2⟩
   .simp only[A,Mem.set]at hb;by_cases B:b=N.az i
    .rw[am B]at hb;cases hb;exact⟨T,(0,0),by rw[B,h1]⟩
    .rw[be B]at hb;exact hr.dR b d hb
   .obtain⟨g1,g2⟩:=aZ j o u;simp only[A,Mem.set];rw[be fun e=>g1 (hr.inj j i o _ g2 hi Y I e)];exact hr.dD j o g2 Y
   .obtain⟨g1,g2⟩:=aZ j o u;exact(hr.obj j o g2).mono hM (.refl _ _) (fun _ h=>h) (hr.used j o g2) Z
  .subst i0;have D: ∀o,A.cell (N.az i) o=c[o]? :=fun o=>by simp[Mem.cell,A,Mem.set]
   have j0: ∀k j,k<len->j<sz->a0*sz+k*sz+j<c.size:=by
    intro k j hk u;have:(a0+k+1)*sz<=es.length*sz:=O3 _ (by omega);rw[PD,PD]at this;omega
   have f0: ∀k,k<len-> ∃e,es[a0+k]? =co e:=fun k hk=>⟨_,OD (by omega)⟩
   refine .cp _ _ _ _ _ _ h7 h8 (fun k hk=>?_) (fun k j hk u=>?_) (fun k j p hk C=>?_)
   .obtain⟨e,R⟩:=f0 k hk;have:=h4 _ e R;rw[g0 _ e R]at this;simpa using this
   .rw[D];simp[j0 k j hk u]
   .obtain⟨e,R⟩:=f0 k hk;have h9:=h4 _ e R;have d0:=g0 _ e R;have u:j<sz:=by rw[<-h9,d0,O7];exact(OB.1 C).1
    have:=h5 _ e j (.iv p) R (by rw[d0,OH,C];rfl);rw[D];have e2:a0*sz+k*sz+j=(a0+k)*sz+j:=by rw[PD]
    rw[e2];rw[Oz]at this;cases this with
    |iv _ _ h=>exact h.mono hM
def gZ(h:AH)(n:Nat)(r:PV)(K:AH->PV->Prop):Prop:= ∀M N w,Rel M N (· <n) h w-> ∃b j u,Ext M N (· <n) h w b N (· <n) j w∧Rel b N (· <n) j w∧(∀x,VR M N (· <n) r x->VR b N (· <n) u x)∧K j u
theorem gZ.done{h:AH}{n:Nat}{r:PV}{K:AH->PV->Prop}(hk:K h r):gZ h n r K:=fun M N w b=>⟨M,h,r,.refl _ _ _ _ _,b,fun _ h=>h,hk⟩
theorem gZ.row{h:AH}{n:Nat}{r:PV}{K:AH->PV->Prop}(i:Nat){sz:Nat}{es:List (List PV)}(el:Nat->List IV)(hi:h.get i=co (.row sz es))(b: ∀k e,es[k]? =co e->e=(el k).map .iv)
  (j:r.dC i sz es.length) (hk:gZ ((i,io)::h) n (r.dR i sz el) K):gZ h n r K:=by
 intro M N w D;obtain⟨u,h1,B,C⟩:=vP D hi b;obtain⟨y,A,I,g1,g2,g3,g4⟩:=hk u N w B;exact⟨y,A,I,h1.trans g1,g2,fun x G=>g3 x (C _ _ G j),g4⟩
def HK(ty:Ty)(l:List ResultVar)(m:Nat)(R:PV->AH->Nat->Prop):AQ:=fun e s=>
 (e= .normal∨e= .ret)∧ ∃u,iF ty s l=co u∧gZ s.h s.nx u fun x y=> ∃r b j L,R r b j∧Wk m L ⟨[(0,y)],x,s.nx⟩ ⟨[(0,r)],b,j⟩
section
variable {P:Program}
theorem nT {ty:Ty} (Y:bn P ty) {k:FuncId} {fn:Func} {c:Code} (hf:P.funcs[k]? =co fn) (hb:fn.body=co c) (hn:(fn.name== "runtime.NumGoroutine")=jp) {nt:Nat} (J:fn.ntmps=nt)
  {l:List ResultVar} (hl:fn.results.toList=l) {args:List PV} (I:args.length<=nt) {os:List AO} {R:PV->AH->Nat->Prop}
  (h:GO P nt [.code c] (HK ty l os.length R) ⟨kY 0 args,cP 0 os,os.length⟩):Fn P k args os R:=by
 have key:Fn P k args os (fun r0 h0 n0=>gZ h0 n0 r0 fun b r2=> ∃r B C L,R r B C∧Wk os.length L ⟨[(0,r2)],b,n0⟩ ⟨[(0,r)],B,C⟩):=by
  refine yN Y hf hb hn J hl I ?_;intro M N a w u;refine wp_mono (h M N a w u) fun e a' w' hp=>?_;obtain⟨D,A,s',h1,b,h3⟩:=hp;refine⟨D,A,s',h1,b,?_⟩;simp only[kp]at h3 ⊢;obtain⟨he,r,g1,g2⟩:=h3;exact⟨he,r,g1,g2⟩
 refine⟨key.1,fun M N w vs hr y hv=>(key.2 M N w vs hr y hv).mono ?_⟩;rintro e w' ⟨x,D,A,r0,h0,n0,rfl,hF,hx,hr',hvr⟩;obtain⟨M2,b,r2,g1,g2,g3,r,B,C,L,hR,hw⟩:=hF D A w' hr'
 have G:Fits M2 A ⟨[(0,r2)],b,n0⟩ ⟨1,[]⟩ ⟨#[x],[]⟩ w':=⟨g2,fun d=>by
  rw[AF.au];by_cases hd:d=0
  .subst hd;rw[am Z];exact g3 x hvr
  .rw[be hd];exact .any _,rfl,rfl⟩
 have j:=hw.fits G;refine⟨x,M2,_,r,B,C,rfl,hR,hw.ext (hx.trans g1),j.1,?_⟩;have:=j.2.1 0;exact this
def y1(ty:Ty)(l:List ResultVar)(r:PV):AQ:=fun e s=>
 (e= .normal∨e= .ret)∧ ∃b,iF ty s l=co b∧gZ s.h s.nx b fun _ j=>an j r
theorem ae {ty:Ty} (y:bn P ty) {k:FuncId} {fn:Func} {c:Code} (hf:P.funcs[k]? =co fn) (hb:fn.body=co c) (hn:(fn.name== "runtime.NumGoroutine")=jp) {nt:Nat} (x:fn.ntmps=nt)
  {l:List ResultVar} (hl:fn.results.toList=l) {args:List PV} (u:args.length<=nt) {r:PV} (hlow:r.low 0=is)
  (h:GO P nt [.code c] (y1 ty l r) ⟨kY 0 args,[],0⟩):Pure P k args r:=by
 refine nT y hf hb hn x hl u ?_;intro M N a w b;refine wp_mono (h M N a w b) fun e a' w' I=>?_;obtain⟨B,D,s',h1,j,A⟩:=I;refine⟨B,D,s',h1,j,?_⟩;simp only[kp]at A ⊢;obtain⟨G,r0,g1,g2⟩:=A;refine⟨G,r0,g1,fun M N w J=>?_⟩;obtain⟨C,j,r2,R,Y,q3,q4⟩:=g2 M N w J;refine⟨C,j,r2,R,Y,q3,r,[],0,[],⟨rfl,rfl,rfl⟩,rfl,OS _,by simp,⟨?_,hlow,ac⟩,ac,Pk⟩;rw[PV.ir _ _ hlow];exact q4
theorem aH{ty:Ty}{l:List ResultVar}{r r0:PV}{e:Exit}{s:AS}(he:e= .normal∨e= .ret)(h:iF ty s l=co r0)(b:an r0 r):y1 ty l r e s:=⟨he,r0,h,.done b⟩
end
section
variable {P:Program}
theorem D2{k:FuncId}{args:List PV}{os:List AO}{R:PV->AH->Nat->Prop}(hc:hP P k){n:Nat}(hn: ∃sz u,PV.iv (.cp sz n u)∈args)(h:n<=maxLen->Fn P k args os R):Fn P k args os R:=by
 refine⟨hc,fun M N w vs A hl x=>?_⟩;obtain⟨sz,u,hn⟩:=hn;obtain⟨j,y⟩:=Po hn;have:=x j _ y;have b:n<=maxLen:=by
  generalize vs.getD j undef=v at this;cases this with
  |iv _ _ hi=>cases hi with
   |fh=>exact OS _
   |cp=>omega
 exact(h b).2 M N w vs A hl x
theorem C3{k:FuncId}{args:List PV}{r:PV}(hc:hP P k){n:Nat}(hn: ∃sz b,PV.iv (.cp sz n b)∈args)(h:n<=maxLen->Pure P k args r):Pure P k args r:=D2 hc hn h
end
abbrev iI(n:Int):IV:= .v (.int .i64 n)
abbrev iS(s:ByteArray):IV:= .v (.string s)
abbrev pI(n:Int):PV:= .iv (iI n)
abbrev pS(s:ByteArray):PV:= .iv (iS s)
abbrev pB(b:Bool):PV:= .iv (.v (.bool b))
abbrev ag(l:List IV):PV:= .agg (l.map .iv)
abbrev bV{α:Type}[Inhabited α](sz:Nat)(l:List α)(f:α->List IV):IV:= .cp sz l.length (fun k=>f (l.getD k ci))
def aT{α:Type}(sz:Nat)(l:List α)(f:α->List IV):AO:= .row sz (l.map fun x=>(f x).map .iv)
theorem mu(σ:Nat->Nat): ∀l:List IV,cW σ (l.map .iv)=l.map .iv
 | []=>rfl
 |x::r=>by simp only[OZ,cW,PV.cj,mu σ r]
theorem pL(n:Nat): ∀l:List IV,bb n (l.map .iv)=is
 | []=>rfl
 |x::r=>by simp only[OZ,bb,PV.low,pL n r]
section
variable {α:Type} {sz:Nat} {l:List α} {f:α->List IV}
theorem b3(σ:Nat->Nat):(aT sz l f).cj σ=aT sz l f:=by
 simp only[aT,AO.cj,Qf];congr 1;exact QJ fun x _=>mu σ _
theorem dG(n:Nat):(aT sz l f).low n:=by
 intro k e b;rw[OH,OJ]at b;obtain⟨x,_,rfl⟩:=b;exact pL n _
theorem zr{es:List (List PV)}(σ:Nat->Nat)(h:es=l.map fun x=>(f x).map .iv):dN (.row sz es) ((aT sz l f).cj σ):=by
 rw[b3];exact .of_eq (by rw[h];rfl)
theorem gz[Inhabited α]{es:List (List PV)}(h:es=l.map fun x=>(f x).map .iv): ∀k e,es[k]? =co e->e=(f (l.getD k ci)).map .iv:=by
 subst h;intro k e b;rw[OH,OJ]at b;obtain⟨x,j,rfl⟩:=b;rw[OC,j];rfl
theorem u9[Inhabited α](l:List α)(f:α->List IV):(O9 l.length).map (fun k=>(f (l.getD k ci)).map PV.iv)=l.map fun x=>(f x).map .iv:=by
 apply QE;intro k;rw[OH,OH];rcases PB k l.length with h|h
 .rw[Q8 h,OD h];simp[OC,h]
 .simp[h]
theorem qu(h: ∀x,ew ((f x).map .iv)=is)(l:List α):allOnes (l.map fun x=>(f x).map .iv)=is:=by
 induction l with
 |nil=>rfl
 |cons x r ih=>simp only[OZ,allOnes,h x,ih]
theorem fL[Inhabited α](h: ∀x,ew ((f x).map .iv)=is)(l:List α):allOnes ((O9 l.length).map (fun k=>(f (l.getD k ci)).map PV.iv))=is:=by
 rw[u9];exact qu h l
end
def ay(l:List IV):AO:= .cells (l.map .iv)
theorem yY(σ:Nat->Nat)(l:List IV):(ay l).cj σ=ay l:=by
 simp only[ay,AO.cj,mu]
theorem BR{cs:List PV}{b:Option TypeId}{l:List IV}(σ:Nat->Nat)(h:cs=l.map .iv):dN (.cells cs b) ((ay l).cj σ):=by
 rw[yY];exact .trans (.Lu cs b) (.of_eq (by rw[h];rfl))
def ch:List Nat->Bool
 | []=>is
 |x::r=>!r.elem x&&ch r
theorem ej: ∀{l:List Nat},ch l=is->l.Nodup
 | [],_=>Pk
 |x::r,h=>by
  simp only[ch,Pq,PF,List.elem_eq_mem,decide_eq_false_iff_not]at h;exact Pf.2 ⟨h.1,ej h.2⟩
theorem wk{n0:Nat}{L:List Nat}{s t:AS}(h1:O2 t.nx (n0+L.length)=is)(b:Qx n0 s.nx=is)(u:L.all (fun j=>O1 j s.nx)=is)(hf:B2 t.nx (sg n0 L) s.f t.f)(hh:mf t.nx (sg n0 L) s.h t.h)
  (x:ch (dX (sg n0 L) t.h)=is):Wk n0 L s t:=
 ⟨OU h1,Oy b,fun j y=>Oy (Pj.1 u j y),hf,hh,ej x⟩
theorem wk0{n0:Nat}{s t:AS}(h1:t.nx=n0)(b:Qx n0 s.nx=is)(hf:B2 t.nx (sg n0 []) s.f t.f)(hh:t.h=[]):Wk n0 [] s t:=
 ⟨by simpa using h1,Oy b,by simp,hf,by rw[hh];trivial,by rw[hh];exact Pk⟩
section
variable {n i:Nat} {σ:Nat->Nat} {h r:AH}
theorem hC{cs:List PV}{b:Option TypeId}{c:List IV}(ho:h.get (σ i)=co (.cells cs b))(he:cs=c.map .iv)(hi:O1 i n=is)(hr:mf n σ h r):mf n σ h ((i,co (ay c))::r):=
 ⟨⟨_,ho,BR σ he⟩,Oy hi,pL n c,hr⟩
theorem hR{α:Type}{sz:Nat}{es:List (List PV)}{l:List α}{f:α->List IV}(ho:h.get (σ i)=co (.row sz es))(he:es=l.map fun x=>(f x).map .iv)(hi:O1 i n=is)(hr:mf n σ h r):mf n σ h ((i,co (aT sz l f))::r):=
 ⟨⟨_,ho,zr σ he⟩,Oy hi,dG n,hr⟩
theorem hM{V:Type}{kc:KC}{ev:V->IV}{z:V}{u:Value}{b:PV->V}{m j:List (kc.K×V)}(ho:h.get (σ i)=co (.map kc ev z u b m))(he:m=j)(hi:O1 i n=is)(hr:mf n σ h r):mf n σ h ((i,co (.map kc ev z u b j))::r):=
 ⟨⟨_,ho,.of_eq (by rw[he];rfl)⟩,Oy hi,ac,hr⟩
theorem KP{V:Type}{kc:KC}{ev:V->IV}{z:V}{b:Value}{u:PV->V}(ho:h.get (σ i)=co .eC)(y: ∀M,IR M (ev z) b)(hi:O1 i n=is)(hr:mf n σ h r):mf n σ h ((i,co (.map kc ev z b u []))::r):=
 ⟨⟨_,ho,id,fun M N U w j x=>⟨#[],0,x,⟨rfl,by simp,by simp,by simp,by simp⟩,y M⟩⟩,Oy hi,ac,hr⟩
theorem hI{V:Type}{kc:KC}{ev:V->IV}{m:List (kc.K×V)}{vs y:List Nat}{C u:Option (kc.K×V)}(ho:h.get (σ i)=co (.bB kc ev m vs C))(he:vs=y)(hc:u=C∨u=io)(hi:O1 i n=is)(hr:mf n σ h r):mf n σ h ((i,co (.bB kc ev m y u))::r):=by
 refine⟨⟨_,ho,id,fun M N U w j D=>?_⟩,Oy hi,ac,hr⟩;subst he;rcases hc with rfl|rfl
 .exact D
 .rcases D with⟨h1,A,_,B⟩|⟨b,ents,clock,x,h1,A,G,B,I,J,R⟩
  .exact .inl ⟨h1,A,rfl,B⟩
  .exact .inr ⟨b,ents,clock,x,h1,A,G,B,I,J,by simp⟩
end
theorem dh{ty:Ty}{b:List ResultVar}{e:Exit}{s:AS}{α:Type}[Inhabited α]{i n sz:Nat}{es:List (List PV)}{L:List α}{f:α->List IV}(he:e= .normal∨e= .ret)(h:iF ty s b=co (.sl i 0 n sz))(hi:s.h.get i=co (.row sz es))
  (hes:es=L.map fun x=>(f x).map .iv) (hn:n=L.length):y1 ty b (.iv (bV sz L f)) e s:=by
 refine⟨he,_,h,.row i (fun k=>f (L.getD k ci)) hi (gz hes) ?_ (.done ?_)⟩
 .subst hes;subst hn;simp[PV.dC]
 .have:O2 i i=is:=by simp
  simp only[PV.dR,this,cond_true,O8];subst hn;exact .refl _
theorem an.bk{b c:Bool}(h:b=c):an (pB b) (.kb c):=fun _ _ _ _ j=>by
 subst h;cases j with
 |iv _ _ h=>cases h;exact .kb _
theorem an.row{i n m sz:Nat}(h:n=m):an (.sl i 0 n sz) (.sl i 0 m sz):= .of_eq (by rw[h])
section
variable {α:Type} [Inhabited α] {l:List α} {f:α->Bool} {i:Nat}
theorem cC(h:(l.take i).any f=jp)(hi:i<l.length):((l.take (i+1)).any f=jp↔f (l.getD i ci)=jp):=by
 rw[Rj hi,List.any_append,h,OC,OD hi];simp
theorem Az(hi:i<l.length)(h:f (l.getD i ci)=is):l.any f=is:=by
 rw[OC,OD hi]at h;exact PO.2 ⟨_,Pm hi,h⟩
omit [Inhabited α] in
theorem any_none(h:(l.take i).any f=jp)(hi:l.length<=i):l.any f=jp:=by
 rwa[OY hi]at h
theorem cd(hi:i<l.length):l.take (i+1)=l.take i++ [l.getD i ci]:=by
 rw[Rj hi,OC,OD hi];rfl
theorem gq{β:Type}{g:β->α->β}{b:β}(hi:i<l.length):(l.take (i+1)).foldl g b=g ((l.take i).foldl g b) (l.getD i ci):=by
 rw[cd hi,List.foldl_append];rfl
end
theorem eQ{P:Program}{nt:NT}{Q:AQ}{k:List KI}{s:AS}{body:Code}{K:Type}(m:List K)(I:List Nat->AS)(J:List Nat->Prop)(B:List Nat)(R:J [])(h0:Wk s.nx B s (I []))
  (u: ∀vs:List Nat,J vs->GO P nt (.code body:: .lp (fun t=> ∃j x,m[j]? =co x∧j∉vs∧J (j::vs)∧ ∃L,Wk s.nx L t (I (j::vs)))::k) Q (I vs)):GO P nt (.code (.loop body)::k) Q s:=by
 refine fW (σ:={vs:List Nat//vs.Nodup∧(∀j∈vs,j<m.length)∧J vs}) (fun v=>I v.1) (fun v=>m.length-v.1.length) ⟨[],Pk,by simp,R⟩ B h0 fun v=>?_;obtain⟨vs,h1,C,D⟩:=v;refine kM ?_ (u vs D)
 rintro t ⟨j,x,g1,g2,g3,L,g4⟩;have G:j<m.length:=(OB.1 g1).1;have b: ∀i∈j::vs,i<m.length:=by
  intro i hi;rcases OP.1 hi with rfl|hi
  .exact G
  .exact C i hi
 have A:(j::vs).Nodup:=Pf.2 ⟨g2,h1⟩;have y:(j::vs).length<=m.length:=by
  have:=PK A (l₂:=O9 m.length) (fun i hi=>PW.2 (b i hi));simpa using this
 refine⟨⟨j::vs,A,b,g3⟩,L,?_,g4⟩;show m.length-(j::vs).length<m.length-vs.length;simp only[Pb]at y ⊢;omega
def bI(P:Program)(k:FuncId)(args:List PV)(os:List AO)(r:PV)(h:AH)(n:Nat):Prop:=Fn P k args os fun q b j=>q=r∧b=h∧j=n
def oQ:List AO->List AO->Prop
 | [],[]=>True
 |p::r,q::s=>dN p q∧oQ r s
 |_,_=>False
theorem oQ.length: ∀{a b:List AO},oQ a b->a.length=b.length
 | [],[],_=>rfl
 |_::_,_::_,h=>congrArg (· +1) (oQ.length h.2)
 | [],_::_,h=>h.elim
 |_::_,[],h=>h.elim
theorem oQ.get: ∀{a b:List AO},oQ a b-> ∀(j:Nat) (q:AO),b[j]? =co q-> ∃p,a[j]? =co p∧dN p q
 | [],[],_,j,q,h=>by simp at h
 |p::r,q0::s,hh,j,q,h=>by
  cases j with
  |zero=>simp at h;subst h;exact⟨p,rfl,hh.1⟩
  |succ j=>simpa using oQ.get hh.2 j q (by simpa using h)
 | [],_::_,hh,_,_,_=>hh.elim
 |_::_,[],hh,_,_,_=>hh.elim
theorem Fn.IZ{P:Program}{k:FuncId}{args:List PV}{os ps:List AO}{R:PV->AH->Nat->Prop}(h:Fn P k args os R)(G:oQ ps os):Fn P k args ps R:=by
 have I:=G.length;have u: ∀i o,(cP 0 os).get i=co o-> ∃p,(cP 0 ps).get i=co p∧dN p o:=by
  intro i o y;rw[pr,am (OS _)]at y ⊢;exact G.get _ _ y
 refine⟨h.1,fun M N w vs C hl hv=>?_⟩;rw[I]at C hv ⊢;have a0:Rel M N (· <os.length) (cP 0 os) w:=by
  refine⟨C.dR,fun i o y=>?_,fun i o y b0=>?_,fun i o y=>?_,fun i j o p y hj J hp he=>?_⟩
  .obtain⟨p,h1,A⟩:=u i o y;exact C.used i p h1
  .obtain⟨p,h1,A⟩:=u i o y;exact C.dD i p h1 (A.1 b0)
  .obtain⟨p,h1,A⟩:=u i o y;exact A.2 _ _ _ _ _ (C.obj i p h1)
  .obtain⟨o',h1,A⟩:=u i o y;obtain⟨p',B,D⟩:=u j p hj;exact C.inj i j o' p' h1 B (A.1 J) (D.1 hp) he
 refine(h.2 M N w vs a0 hl hv).mono ?_;rintro e w' ⟨x,M',N',r,h',n',rfl,hR,hx,hrr,hvr⟩;refine⟨x,M',N',r,h',n',rfl,hR,⟨hx.os,hx.tape,hx.output,hx.size,fun b hb hn=>hx.dc b hb fun i o y J=>?_,hx.mO,fun b c h1 A=>?_,hx.nm,hx.ule,fun i o y J=>?_⟩,hrr,hvr⟩
 .obtain⟨p,h1,A⟩:=u i o y;exact hn i p h1 (A.1 J)
 .rcases hx.fO b c h1 A with B|⟨i,o,B,D,Y⟩
  .exact .inl B
  .obtain⟨p,g1,g2⟩:=u i o B;exact .inr ⟨i,p,g1,g2.1 D,Y⟩
 .rcases hx.ff i o y J with B|⟨j,q,B,D,Y⟩
  .exact .inl B
  .obtain⟨p,g1,g2⟩:=u j q B;exact .inr ⟨j,p,g1,g2.1 D,Y⟩
theorem bI.IZ{P:Program}{k:FuncId}{args:List PV}{os j:List AO}{r:PV}{h:AH}{n:Nat}(hc:bI P k args os r h n)(b:oQ j os):bI P k args j r h n:=Fn.IZ hc b
theorem bI.le{P:Program}{k:FuncId}{aa args:List PV}{os:List AO}{r:PV}{h:AH}{n:Nat}(hc:bI P k args os r h n)(b:fN aa args):bI P k aa os r h n:=Fn.le hc b
theorem Pure.q9{P:Program}{k:FuncId}{args:List PV}{r:PV}(h:Pure P k args r):bI P k args [] r [] 0:=h
section
variable {P:Program} {ty:Ty} {nt:NT} {Q:AQ} {k:List KI} {s:AS}
theorem yU{o:Oper}{c:Call}{g:FuncId}{asv args:List PV}{os:List AO}{r:PV}{x:AH}{y:Nat}{s':AS}(L:List Nat)(hc:bI P g args os r x y)(ho:o.op= .call c)(ha:bz s.f c=co (g,asv))
  (hn:ch L=is) (hl:L.all (fun j=>O1 j s.nx)=is) (u:L.map s.h.get=os.map fun o=>co (o.cj (sig L s.nx))) (b:asv=cW (sig L s.nx) args) (hp:putDst nt o (r.cj (sig L s.nx)) (aQ s L x y)=co s'):
  OT P nt o s (fun t=>t=s'):=
 kV ho ha hc (ej hn) (fun j A=>Oy (Pj.1 hl j A)) u b (by rintro q B n0 ⟨rfl,rfl,rfl⟩;exact⟨s',hp,rfl⟩)
theorem cJ{all rest:List Oper}{o:Oper}{c:Call}{g:FuncId}{asv args:List PV}{os:List AO}{r:PV}{x:AH}{y:Nat}{s':AS}(L:List Nat)(hc:bI P g args os r x y)(ho:o.op= .call c)(hg:o.guard=io)(ha:bz s.f c=co (g,asv))
  (hn:ch L=is) (hl:L.all (fun j=>O1 j s.nx)=is) (u:L.map s.h.get=os.map fun o=>co (o.cj (sig L s.nx))) (b:asv=cW (sig L s.nx) args) (hp:putDst nt o (r.cj (sig L s.nx)) (aQ s L x y)=co s')
  (h:GO P nt (.ops all rest::k) Q s'):GO P nt (.ops all (o::rest)::k) Q s:=
 cG hg (yU L hc ho ha hn hl u b hp) fun t A=>by subst A;exact h
theorem kO(A:bn P ty){all:List Oper}{todo pend:List (Nat×Oper)}{j:Nat}{o:Oper}{s':AS}{J I:Prop}(hrd:eH todo=[(j,o)])(hg:bS nt all s.f o=co is)(hpb:gI all pend o=is)(hE:mH todo [j]=is)
  (hag:mI ty nt all s todo pend=co J) (hCA:J) (C:OT P nt o s (fun t=>t=s')) (hag2:dy ty nt all s' (aX pend o)=co I) (hC2:I)
  (h:GO P nt (.bR all (todo.filter fun x=>!O2 x.1 j) (aX pend o)::k) Q s'):GO P nt (.bR all todo pend::k) Q s:=by
 have u:(j,o)∈eH todo:=by rw[hrd];simp
 obtain⟨R,B⟩:=Pa.1 u;simp only[PF,QD,Pz]at B;have b: ∀y∈todo,aN y.2=is-> ∀y∈pend,eB P nt all s y.2:=by
  intro y D G;unfold mI at hag;split at hag
  .exact c6 A hag hCA
  .rename_i h2;have:=Pz.1 h2 y D;rw[G]at this;exact absurd Z this
 refine qY hE ⟨_,R,B.1⟩ b fun j' o' Y _ hu=>?_;simp only[OM]at Y;subst Y;have:=hu o R;subst this;exact⟨B.1,fun y D _=>by simpa using B.2 y D,hpb,hg,_,C,fun t ht=>by subst ht;exact⟨c6 A hag2 hC2,h⟩⟩
theorem bD(y:bn P ty){all:List Oper}{todo pend:List (Nat×Oper)}{j:Nat}{o:Oper}{c:Call}{g:FuncId}{asv args:List PV}{os:List AO}{r:PV}{C:AH}{D:Nat}{s':AS}{B A:Prop}(L:List Nat)(hc:bI P g args os r C D)
  (hrd:eH todo=[(j,o)]) (ho:o.op= .call c) (ha:bz s.f c=co (g,asv))
  (hn:ch L=is) (hl:L.all (fun j=>O1 j s.nx)=is) (u:L.map s.h.get=os.map fun o=>co (o.cj (sig L s.nx))) (b:asv=cW (sig L s.nx) args) (hp:putDst nt o (r.cj (sig L s.nx)) (aQ s L C D)=co s')
  (hg:bS nt all s.f o=co is) (hpb:gI all pend o=is) (hE:mH todo [j]=is)
  (hag:mI ty nt all s todo pend=co B) (hCA:B) (hag2:dy ty nt all s' (aX pend o)=co A) (hC2:A)
  (h:GO P nt (.bR all (todo.filter fun x=>!O2 x.1 j) (aX pend o)::k) Q s'):GO P nt (.bR all todo pend::k) Q s:=
 kO y hrd hg hpb hE hag hCA (yU L hc ho ha hn hl u b hp) hag2 hC2 h
def y2(ty:Ty)(l:List ResultVar)(m:Nat)(r:PV)(h:AH)(n:Nat):AQ:=HK ty l m fun q b j=>q=r∧b=h∧j=n
theorem ax {nt:Nat} (x:bn P ty) {g:FuncId} {fn:Func} {c:Code} (hf:P.funcs[g]? =co fn) (hb:fn.body=co c) (hn:(fn.name== "runtime.NumGoroutine")=jp) (u:fn.ntmps=nt)
  {l:List ResultVar} (hl:fn.results.toList=l) {args:List PV} (j:args.length<=nt) {os:List AO} {r:PV} {h:AH} {n:Nat}
  (b:GO P nt [.code c] (y2 ty l os.length r h n) ⟨kY 0 args,cP 0 os,os.length⟩):bI P g args os r h n:=nT x hf hb hn u hl j b
theorem bj{l:List ResultVar}{m:Nat}{r r0:PV}{h:AH}{n:Nat}{e:Exit}(L:List Nat)(he:e= .normal∨e= .ret)(hr:iF ty s l=co r0)(hw:Wk m L ⟨[(0,r0)],s.h,s.nx⟩ ⟨[(0,r)],h,n⟩):y2 ty l m r h n e s:=
 ⟨he,r0,hr,.done ⟨r,h,n,L,⟨rfl,rfl,rfl⟩,hw⟩⟩
end
theorem gZ.map{h:AH}{n:Nat}{r:PV}{K:AH->PV->Prop}(i:Nat){kc:KC}{V:Type}{e:V->IV}{z:V}{b:Value}{y:PV->V}{m:List (kc.K×V)}(hi:h.get i=co (.map kc e z b y m))
  (hk:gZ ((i,io)::h.eR i (.dJ kc e z b m)) n (r.eR i (.dJ kc e z b m)) K):gZ h n r K:=by
 intro M N w D;obtain⟨j,h1,B,_,C⟩:=oG D hi;obtain⟨u,A,I,g1,g2,g3,g4⟩:=hk j N w B;exact⟨u,A,I,h1.trans g1,g2,fun x G=>g3 x (C _ _ G),g4⟩
mutual
def PV.D1(i:Nat)(l:List IV):PV->PV
 | .iv x=> .iv x
 | .agg cs=> .agg (xO i l cs)
 | .bh cs=> .bh (xO i l cs)
 | .ptr j o=>bif O2 j i then .iv (.jg (l.drop o)) else .ptr j o
 | .sl j off len sz'=> .sl j off len sz'
 | .cD j a b c=> .cD j a b c
 | .dY z j=> .dY z j
 | .mA j o n=> .mA j o n
 | .mp j=> .mp j
 | .bX fn a b=> .bX fn a b
 | .kb b=> .kb b
 | .any=> .any
def xO(i:Nat)(l:List IV):List PV->List PV
 | []=> []
 |p::r=>PV.D1 i l p::xO i l r
end
theorem lR(i:Nat)(x:List IV): ∀l:List PV,xO i x l=l.map (PV.D1 i x)
 | []=>rfl
 |p::r=>by simp[xO,lR i x r]
theorem BH{M:Mem}{N:Nm}{n:Nat}{h:AH}{w:World}(hr:Rel M N (· <n) h w){i:Nat}{l:List IV}{cs:List PV}{T0:Option TypeId}(hi:h.get i=co (.cells cs T0))(a0:cs=l.map .iv):
  ∃B,Ext M N (· <n) h w B N (· <n) ((i,io)::h) w∧Rel B N (· <n) ((i,io)::h) w∧ ∀p x,VR M N (· <n) p x->VR B N (· <n) (p.D1 i l) x:=by
 subst a0;have R:=hr.dD i _ hi Z;obtain⟨c,T,h1,G,h3,h4,h5⟩:=hr.obj i _ hi
 let B:Mem:=M.set (N.az i) (.cells c) R
 have hM:M.le B:=fun b d hb=>by
  simp only[B,Mem.set];by_cases u:b=N.az i
  .rw[u,R]at hb;cases hb
  .rw[be u];exact hb
 have hnew: ∀b d,M b=io->B b=co d->b=N.az i:=fun b d h1 G=>by
  simp only[B,Mem.set]at G;by_cases u:b=N.az i
  .exact u
  .rw[be u,h1]at G;cases G
 have C: ∀o,B.cell (N.az i) o=c[o]? :=fun o=>by simp[Mem.cell,B,Mem.set]
 refine⟨B,?_,?_,fun p x hx=>?_⟩
 .exact⟨rfl,rfl,⟨rfl,OL _⟩,OL _,fun _ _ _=>rfl,hM,fun b d h1 G=> .inr ⟨i,_,hi,rfl,(hnew b d h1 G).symm⟩,.refl _ _,fun _ h=>h,fun j o A b0=> .inr ⟨j,o,(aZ j o A).2,b0,rfl⟩⟩
 .refine⟨fun b d hb=>?_,fun j o A=>hr.used j o (aZ j o A).2,fun j o A I=>?_,fun j o A=>?_,fun j k o p A hk=>hr.inj j k o p (aZ j o A).2 (aZ k p hk).2⟩
  .simp only[B,Mem.set]at hb;by_cases u:b=N.az i
   .rw[am u]at hb;cases hb;exact⟨T,(0,0),by rw[u];exact h1⟩
   .rw[be u]at hb;exact hr.dR b d hb
  .obtain⟨g1,g2⟩:=aZ j o A;simp only[B,Mem.set];rw[be fun e=>g1 (hr.inj j i o _ g2 hi I Z e)];exact hr.dD j o g2 I
  .obtain⟨g1,g2⟩:=aZ j o A;exact(hr.obj j o g2).mono hM (.refl _ _) (fun _ h=>h) (hr.used j o g2) Z
 .induction hx with
  |iv x y h=>exact .iv _ _ (h.mono hM)
  |agg cs ys hl _ ih=>
   refine .agg _ _ (by simpa[lR]using hl) fun j q D=>?_;rw[lR,OH,OJ]at D;obtain⟨q0,J,rfl⟩:=D
   exact ih j q0 J
  |bh cs ys hl _ ih=>
   refine .bh _ _ (by simpa[lR]using hl) fun j q D=>?_;rw[lR,OH,OJ]at D;obtain⟨q0,J,rfl⟩:=D
   exact ih j q0 J
  |ptr j off h=>
   simp only[PV.D1];cases hb:O2 j i with
   |true=>
    have A:=OU hb;subst A;have Y:l.length=c.size:=by simpa using h3
    refine .iv _ _ (.jg _ _ _ (fun k hk=>?_) fun k q D=>?_)
    .rw[List.length_drop]at hk;rw[C];simp[show off+k<c.size by omega]
    .rw[Py]at D;have c0:off+k<c.size:=by rw[<-Y];exact(OB.1 D).1
     have:=h4 (off+k) (.iv q) (by rw[OH,D];rfl);rw[C];rw[Oz]at this;cases this with
     |iv _ _ h=>exact h.mono hM
   |false=>exact .ptr _ _ h
  |cD i sz k off h=>exact .cD _ _ _ _ h
  |dY z i h=>exact .dY _ _ h
  |mA i o n h=>exact .mA _ _ _ h
  |sl j off len sz' cap h h0 hl hc he=>exact .sl _ _ _ _ _ h h0 hl hc he
  |lC j sz' h=>exact .lC _ _ h
  |sle j sz' cap h hc he=>exact .sle _ _ _ h hc he
  |mp j h=>exact .mp _ h
  |bX fn first caps f' c' h1 G hr1 hr2 _ _=>exact .bX _ _ _ _ _ h1 G (fun j p A=>(hr1 j p A).mono hM (.refl _ _) (fun _ h=>h)) (fun j p A=>(hr2 j p A).mono hM (.refl _ _) (fun _ h=>h))
  |kb b=>exact .kb _
  |any x=>exact .any _
theorem gZ.cells{h:AH}{n:Nat}{r:PV}{K:AH->PV->Prop}(i:Nat)(l:List IV){cs:List PV}{y:Option TypeId}(hi:h.get i=co (.cells cs y))(b:cs=l.map .iv)(hk:gZ ((i,io)::h) n (r.D1 i l) K):gZ h n r K:=by
 intro M N w D;obtain⟨j,h1,B,C⟩:=BH D hi b;obtain⟨u,A,I,g1,g2,g3,g4⟩:=hk j N w B;exact⟨u,A,I,h1.trans g1,g2,fun x G=>g3 x (C _ _ G),g4⟩
theorem kR{ty:Ty}{l:List ResultVar}{r r0:PV}{e:Exit}{s:AS}(he:e= .normal∨e= .ret)(h:iF ty s l=co r0)(hk:gZ s.h s.nx r0 fun _ b=>an b r):y1 ty l r e s:=⟨he,r0,h,hk⟩
section
variable {P:Program} {ty:Ty} {nt:NT} {Q:AQ} {k:List KI} {s:AS}
theorem xJ{all rest:List Oper}{o:Oper}{c:Call}{g:FuncId}{asv args:List PV}{os:List AO}{R:PV->AH->Nat->Prop}(L:List Nat)(hc:Fn P g args os R)(ho:o.op= .call c)(hg:o.guard=io)(ha:bz s.f c=co (g,asv))
  (hn:ch L=is) (hl:L.all (fun j=>O1 j s.nx)=is) (u:L.map s.h.get=os.map fun o=>co (o.cj (sig L s.nx))) (b:asv=cW (sig L s.nx) args)
  (h: ∀r x y,R r x y-> ∃s',putDst nt o (r.cj (sig L s.nx)) (aQ s L x y)=co s'∧GO P nt (.ops all rest::k) Q s'):GO P nt (.ops all (o::rest)::k) Q s:=
 cG (R:=fun t=>GO P nt (.ops all rest::k) Q t) hg (kV ho ha hc (ej hn) (fun j A=>Oy (Pj.1 hl j A)) u b h) fun t B=>B
theorem qZ{R:PV->AH->Nat->Prop}{l:List ResultVar}{m:Nat}{r r0:PV}{h:AH}{n:Nat}{e:Exit}(L:List Nat)(he:e= .normal∨e= .ret)(hr:iF ty s l=co r0)(hR:R r h n)(hw:Wk m L ⟨[(0,r0)],s.h,s.nx⟩ ⟨[(0,r)],h,n⟩):HK ty l m R e s:=
 ⟨he,r0,hr,.done ⟨r,h,n,L,hR,hw⟩⟩
end
theorem oE{P:Program}{nt:NT}{Q:AQ}{k:List KI}{s:AS}{c:Code}(i j sz:Nat){cs:List PV}{u:Option TypeId}(hi:s.h.get i=co (.cells cs u))(hj:cs[j]? =co (.iv (.v (.slice io 0 0))))
  (h:GO P nt (.code c::k) Q ⟨s.f,(i,co (.cells (cs.set j (.sl s.nx 0 0 sz)) u))::(s.nx,co (.row sz []))::s.h,s.nx+1⟩):GO P nt (.code c::k) Q s:=by
 intro M N a w A;obtain⟨sf,sh,y⟩:=s;obtain⟨h1,Y⟩:=A.1.ET sz;have D:i≠y:=fun e=>by have:=A.1.used i _ hi;simp only at this;omega
 have b:AH.get ((y,co (AO.row sz []))::sh) i=co (.cells cs u):=by
  rw[AH.au,be D];exact hi
 obtain⟨J,T,e1,e2,e3,R,e5⟩:=Y.obj i _ b
 obtain⟨g1,g2⟩:=Y.write (i:=i) (o0:= .cells cs u) b Z w (.cells (cs.set j (.sl y 0 0 sz)) u) Z Z Z Z (fun _ _=>rfl) ⟨J,T,e1,e2,by rw[List.length_set];exact e3,fun k p x=>by
  rw[Qe]at x;split at x
  .rename_i hk;subst hk;split at x
   .cases x;have:=R j _ hj;generalize J.getD j undef=v at this ⊢;cases this with
    |iv _ _ h=>cases h with
     |v=>exact .lC _ _ (Qc _)
   .cases x
  .exact R k p x,e5⟩
 have B:Fits M N ⟨sf,(i,co (.cells (cs.set j (.sl y 0 0 sz)) u))::(y,co (.row sz []))::sh,y+1⟩ nt a w:=
  ⟨g2,fun k=>(A.2.1 k).mono (.refl _) (.refl _ _) (fun i hi=>PY hi),A.2.2⟩
 exact AW.then h B fun e a2 w2 M2 N2 s2 I C G=>⟨M2,N2,s2,(h1.trans g1).trans I,C,G⟩
theorem gZ.CN{h:AH}{n:Nat}{r:PV}{K:AH->PV->Prop}{α:Type}[Inhabited α](i:Nat){sz:Nat}{es:List (List PV)}(L:List α)(f:α->List IV)(hi:h.get i=co (.row sz es))(hes:es=L.map fun x=>(f x).map .iv)
  (b:r.dC i sz L.length) (hk:gZ ((i,io)::h) n (r.dR i sz fun k=>f (L.getD k ci)) K):gZ h n r K:=
 .row i (fun k=>f (L.getD k ci)) hi (gz hes) (by subst hes;simpa using b) hk
def AO.iR(i sz:Nat)(el:Nat->List IV):AO->AO
 | .cells cs T=> .cells (pD i sz el cs) T
 |o=>o
def AO.qO(i sz n:Nat):AO->Prop
 | .cells cs _=>dQ i sz n cs
 | .row _ es=> ∀(k:Nat) (e:List PV) (j:Nat) (p:PV),es[k]? =co e->e[j]? =co p-> ∃y,p= .iv y
 |_=>True
def AH.iR(i sz:Nat)(el:Nat->List IV):AH->AH
 | []=> []
 |(k,io)::r=>(k,io)::AH.iR i sz el r
 |(k,co o)::r=>(k,co (o.iR i sz el))::AH.iR i sz el r
def AH.qO(i sz n:Nat):AH->Prop
 | []=>True
 |(_,io)::r=>AH.qO i sz n r
 |(_,co o)::r=>o.qO i sz n∧AH.qO i sz n r
def AF.iR(i sz:Nat)(el:Nat->List IV):AF->AF
 | []=> []
 |(d,p)::r=>(d,p.dR i sz el)::AF.iR i sz el r
def AF.qO(i sz n:Nat):AF->Prop
 | []=>True
 |(_,p)::r=>p.dC i sz n∧AF.qO i sz n r
theorem AH.iP(i sz:Nat)(el:Nat->List IV): ∀(h:AH) (j:Nat),(AH.iR i sz el h).get j=(h.get j).map (AO.iR i sz el)
 | [],_=>rfl
 |(k,io)::r,j=>by
  simp only[AH.iR,AH.au,AH.iP i sz el r j];split<;>rfl
 |(k,co o)::r,j=>by
  simp only[AH.iR,AH.au,AH.iP i sz el r j];split<;>rfl
theorem AH.ky{i sz n:Nat}: ∀{h:AH} (_:h.qO i sz n) (j:Nat) (o:AO),h.get j=co o->o.qO i sz n
 | [],_,j,o,ho=>nomatch ho
 |(k,io)::r,hh,j,o,ho=>by
  rw[AH.au]at ho;split at ho
  .cases ho
  .exact AH.ky (h:=r) hh j o ho
 |(k,co q)::r,hh,j,o,ho=>by
  rw[AH.au]at ho;split at ho
  .cases ho;exact hh.1
  .exact AH.ky (h:=r) hh.2 j o ho
theorem AF.iP(i sz:Nat)(el:Nat->List IV): ∀(f:AF) (d:Nat),(AF.iR i sz el f).get d=(f.get d).dR i sz el
 | [],_=>rfl
 |(k,p)::r,d=>by
  simp only[AF.iR,AF.au,AF.iP i sz el r d];split<;>rfl
theorem AF.ky{i sz n:Nat}: ∀{f:AF} (_:f.qO i sz n) (d:Nat),(f.get d).dC i sz n
 | [],_,d=>trivial
 |(k,p)::r,h,d=>by
  rw[AF.au];split
  .exact h.1
  .exact AF.ky (f:=r) h.2 d
theorem AO.pz(i sz:Nat)(el:Nat->List IV)(o:AO):(o.iR i sz el).real=o.real:=by
 cases o<;>rfl
theorem vL{P:Program}{nt:NT}{Q:AQ}{k:List KI}{s:AS}{c:Code}(i:Nat){sz:Nat}{es:List (List PV)}(el:Nat->List IV)(hi:s.h.get i=co (.row sz es))(D: ∀k e,es[k]? =co e->e=(el k).map .iv)
  (hf:s.f.qO i sz es.length) (hh:s.h.qO i sz es.length) (h:GO P nt (.code c::k) Q ⟨s.f.iR i sz el,(i,io)::s.h.iR i sz el,s.nx⟩):GO P nt (.code c::k) Q s:=by
 intro M N a w b;obtain⟨C,h1,u,Y⟩:=vP b.1 hi D;have hM:M.le C:=h1.mO;have A: ∀j o,AH.get ((i,io)::s.h.iR i sz el) j=co o-> ∃p,AH.get ((i,io)::s.h) j=co p∧s.h.get j=co p∧o=p.iR i sz el:=by
  intro j o x;obtain⟨g1,g2⟩:=aZ j o x;rw[AH.iP,OJ]at g2;obtain⟨p,g3,g4⟩:=g2;exact⟨p,by rw[AH.au,be g1];exact g3,g3,g4.symm⟩
 have hE:Ext M N (· <s.nx) s.h w C N (· <s.nx) ((i,io)::s.h.iR i sz el) w:=⟨h1.os,h1.tape,h1.output,h1.size,h1.dc,h1.mO,h1.fO,h1.nm,h1.ule,fun j o x y=>by
  obtain⟨p,g1,_,rfl⟩:=A j o x;rw[AO.pz]at y
  exact h1.ff j p g1 y⟩
 have hR:Rel C N (· <s.nx) ((i,io)::s.h.iR i sz el) w:=by
  refine⟨u.dR,fun j o x=>?_,fun j o x y=>?_,fun j o x=>?_,fun j k o p x hk ho hp=>?_⟩
  .obtain⟨p,g1,_,rfl⟩:=A j o x;exact u.used j p g1
  .obtain⟨p,g1,_,rfl⟩:=A j o x;rw[AO.pz]at y;exact u.dD j p g1 y
  .obtain⟨p,g1,g2,rfl⟩:=A j o x;cases p with
   |cells cs T0=>
    obtain⟨c,T,q1,q2,q3,q4,q5⟩:=b.1.obj j _ g2;have hok:=AH.ky hh j _ g2;refine⟨c,T,q1,q2,by simpa[fY]using q3,fun k q hq=>?_,q5⟩;rw[fY,OH,OJ]at hq;obtain⟨q0,B,rfl⟩:=hq;exact Y _ _ (q4 k q0 B) (gp hok k q0 B)
   |row=>exact u.obj j _ g1
   |bf=>exact u.obj j _ g1
   |eC=>exact u.obj j _ g1
   |map=>exact u.obj j _ g1
   |bB=>exact u.obj j _ g1
   |c9=>exact u.obj j _ g1
   |gi=>exact u.obj j _ g1
   |dB=>exact u.obj j _ g1
  .obtain⟨o',g1,_,rfl⟩:=A j o x;obtain⟨p',g2,_,rfl⟩:=A k p hk;rw[AO.pz]at ho hp;exact u.inj j k o' p' g1 g2 ho hp
 have G:Fits C N ⟨s.f.iR i sz el,(i,io)::s.h.iR i sz el,s.nx⟩ nt a w:=⟨hR,fun d=>by
  rw[AF.iP];exact Y _ _ (b.2.1 d) (AF.ky hf d),b.2.2⟩
 exact AW.then h G fun e a2 w2 M2 N2 s2 R I J=>⟨M2,N2,s2,hE.trans R,I,J⟩
def AO.iQ(i sz:Nat)(el:Nat->List IV):AO->AO
 | .cells cs T=> .cells (pD i sz el cs) T
 | .row s es=> .row s (es.map (pD i sz el))
 |o=>o
def AO.tk(i sz n:Nat):AO->Prop
 | .cells cs _=>dQ i sz n cs
 | .row _ es=> ∀e∈es,dQ i sz n e
 |_=>True
def AH.iQ(i sz:Nat)(el:Nat->List IV):AH->AH
 | []=> []
 |(k,io)::r=>(k,io)::AH.iQ i sz el r
 |(k,co o)::r=>(k,co (o.iQ i sz el))::AH.iQ i sz el r
def AH.tk(i sz n:Nat):AH->Prop
 | []=>True
 |(_,io)::r=>AH.tk i sz n r
 |(_,co o)::r=>o.tk i sz n∧AH.tk i sz n r
theorem AH.pA(i sz:Nat)(el:Nat->List IV): ∀(h:AH) (j:Nat),(AH.iQ i sz el h).get j=(h.get j).map (AO.iQ i sz el)
 | [],_=>rfl
 |(k,io)::r,j=>by
  simp only[AH.iQ,AH.au,AH.pA i sz el r j];split<;>rfl
 |(k,co o)::r,j=>by
  simp only[AH.iQ,AH.au,AH.pA i sz el r j];split<;>rfl
theorem AH.ot{i sz n:Nat}: ∀{h:AH} (_:h.tk i sz n) (j:Nat) (o:AO),h.get j=co o->o.tk i sz n
 | [],_,j,o,ho=>nomatch ho
 |(k,io)::r,hh,j,o,ho=>by
  rw[AH.au]at ho;split at ho
  .cases ho
  .exact AH.ot (h:=r) hh j o ho
 |(k,co q)::r,hh,j,o,ho=>by
  rw[AH.au]at ho;split at ho
  .cases ho;exact hh.1
  .exact AH.ot (h:=r) hh.2 j o ho
theorem AO.nS(i sz:Nat)(el:Nat->List IV)(o:AO):(o.iQ i sz el).real=o.real:=by
 cases o with
 |row s es=>cases es<;>rfl
 |_=>rfl
def J8:List Code->Code->Code
 | [],r=>r
 |c::l,r=> .seq c (J8 l r)
def u4:Nat->Code->List Code
 |n+1,.seq a b=>a::u4 n b
 |_,_=> []
def q8:Nat->Code->Code
 |n+1,.seq _ b=>q8 n b
 |_,c=>c
theorem zV{P:Program}{nt:NT}{R:AQ}: ∀{l:List Code} {e:Exit} {s:AS},e≠ .normal->kp P nt (l.map KI.code) R e s->R e s
 | [],_,_,_,h=>h
 |c::l,e,s,he,h=>by
  cases e with
  |normal=>exact absurd Z he
  |_=>exact zV (l:=l) he h
end
end Go.Al
namespace Go.Al
open Go.ChangeShapes Go.WideShapes Go.RowKit
section
def uG(W:World)(b:Nat):Option MB:=match W.heap[b]? with
 |some (.cells c _ _)=>co (.cells c)
 |some (.map es cl)=>co (.map es cl)
 |_=>io
def ll(W:World):Prop:= ∀b c,KQ b=co c-> ∃T j,W.heap[b]? =co (.cells c T j)
def Mem.n3(W:World)(h:ll W):Mem:=⟨uG W,fun b c hb=>by obtain⟨T,j,e⟩:=h b c hb;simp[uG,e]⟩
def MA:Nm:=⟨fun _=>0,fun _=>0⟩
theorem Gq(W:World)(h:ll W):Rel (Mem.n3 W h) MA (· <0) [] W:=by
 refine⟨fun b c hb=>?_,fun i o x=>by simp[AH.get]at x,fun i o x=>by simp[AH.get]at x,fun i o x=>by simp[AH.get]at x,fun i j o p x=>by simp[AH.get]at x⟩;have u:uG W b=co c:=hb;unfold uG at u;split at u
 .rename_i A T y e;obtain rfl:=Pl u;exact⟨T,y,e⟩
 .rename_i es cl e;obtain rfl:=Pl u;exact e
 .cases u
theorem xV{W:World}{h:ll W}{b o:Nat}{v:Value}(hc:W.cell? ⟨b,o,io⟩=co v):(Mem.n3 W h).cell b o=co v:=by
 show(match uG W b with|some (.cells c)=>c[o]? |_=>io)=co v;unfold World.cell? at hc;unfold uG;split at hc
 .rename_i c T j e;simp only at e;rw[e];simpa using hc
 .cases hc
def CR(M:Mem)(l:List IV)(cs:List Value):Prop:=l.length=cs.length∧ ∀j p,l[j]? =co p->IR M p (cs.getD j undef)
theorem CR.nil(M:Mem):CR M [] []:=⟨rfl,fun j p h=>by simp at h⟩
theorem CR.one{M:Mem}{p:IV}{v:Value}(h:IR M p v):CR M [p] [v]:=⟨rfl,fun j q b=>by
 cases j with
 |zero=>simp at b;subst b;simpa using h
 |succ j=>simp at b⟩
theorem CR.append{M:Mem}{l x:List IV}{cs b:List Value}(h:CR M l cs)(k:CR M x b):CR M (l++x) (cs++b):=by
 refine⟨by simp[h.1,k.1],fun j p u=>?_⟩;rcases PB j l.length with hj|hj
 .rw[OV hj]at u;have:=h.2 j p u;rw[OC]at this ⊢;rwa[OV (by rw[<-h.1];exact hj)]
 .rw[OQ hj]at u;have:=k.2 _ p u;rw[OC]at this ⊢;rw[OQ (by rw[<-h.1];exact hj),<-h.1];exact this
theorem CR.x7{M:Mem}{l r:List IV}{cs:List Value}{o n o':Nat}(h:CR M l ((cs.drop o).take n))(e:o'=o+n)(k:CR M r (cs.drop o')):CR M (l++r) (cs.drop o):=by
 subst e;have:=h.append k;rwa[<-List.drop_drop,QT]at this
theorem CR.end_{M:Mem}{cs:List Value}{o:Nat}(h:cs.length=o):CR M [] (cs.drop o):=by
 rw[List.drop_eq_nil_of_le (by omega)];exact .nil M
theorem CR.agg{M:Mem}{N:Nm}{U:Nat->Prop}{l:List IV}{ys:Array Value}(h:CR M l ys.toList):VR M N U (ag l) (.agg ys):=by
 refine .agg _ _ (by simpa using h.1) fun j p b=>?_;rw[OH,OJ]at b;obtain⟨q,u,rfl⟩:=b;have:=h.2 j q u;exact .iv _ _ (by simpa[Oz,OC]using this)
section
variable {H:Type} {enc:TypeId×Value->H} {P:Program} {W:World} {hT:ll W} {sp:Nat->Bool} {held:Bool}
def Rd(enc:TypeId×Value->H)(P:Program)(W:World)(hT:ll W)(sp:Nat->Bool)(held:Bool)(t:TypeId){α:Type}(c:α->List IV)(Q:α->DataW H->Prop)(n:Nat):Prop:=
 ∀m,m<=n-> ∀b y,DataW.trod enc P W 0 sp held m t b=co y-> ∃x,CR (Mem.n3 W hT) (c x) b∧Q x y.1
theorem Rd.mono{t:TypeId}{α:Type}{c:α->List IV}{Q:α->DataW H->Prop}{n m:Nat}(h:Rd enc P W hT sp held t c Q n)(hm:m<=n):Rd enc P W hT sp held t c Q m:=fun k hk=>h k (Pp hk hm)
theorem CX{t:TypeId}{k:IntKind}(b:P.underlying t=co (.int k))(n:Nat):Rd enc P W hT sp held t (fun z=> [.v (.int k z)]) (fun z d=>d= .lit (.int k z)∧(Lit.int k z).wf=is) n:=by
 intro m _ u y h;cases m with
 |zero=>simp[DataW.trod]at h
 |succ m=>
  unfold DataW.trod at h;rw[b]at h;split at h<;>simp_all;obtain⟨⟨rfl,j⟩,rfl⟩:=h;exact⟨_,.one (.v _),rfl,j⟩
theorem tY{t:TypeId}(b:P.underlying t=co .string)(n:Nat):Rd enc P W hT sp held t (fun s=> [.v (.string s)]) (fun s d=>d= .lit (.string s.data.toList)∧s.size<=maxLen) n:=by
 intro m _ u y h;cases m with
 |zero=>simp[DataW.trod]at h
 |succ m=>
  unfold DataW.trod at h;rw[b]at h;split at h<;>simp_all;rename_i s;obtain⟨j,rfl⟩:=h;exact⟨s,.one (.v _),rfl,j⟩
def QL{α:Type}(Q:α->DataW H->Prop)(l:List α)(d:DataW H):Prop:=
 ∃b:List (DataW H),(d= .nil∧b=[]∨ ∃sp,d= .slice b sp)∧l.length=b.length∧ ∀(i:Nat) (x:α) (e:DataW H),l[i]? =co x->b[i]? =co e->Q x e
theorem wZ{α:Type}[Inhabited α]{t e:TypeId}{sz:Nat}{c:α->List IV}{Q:α->DataW H->Prop}{n:Nat}(ht:P.underlying t=co (.slice e))(hc:P.cellsOf e=sz)(C:0<sz)(hl: ∀x,(c x).length=sz)
  (he:Rd enc P W hT sp held e c Q n):Rd enc P W hT sp held t (fun l:List α=> [bV sz l c]) (QL Q) (n+1):=by
 intro m hm cs y h;rcases DataW.trod_slice ht h with⟨rfl,rfl⟩|⟨a,len,f0,A,rest,k,rfl,rfl,rfl,_,h1,h2,h3,h4,_⟩
 .exact⟨[],.one (.fh ..),[],.inl ⟨rfl,rfl⟩,rfl,fun i x e h=>by simp at h⟩
 have key: ∀i,i<len-> ∃x,(∃u,W.cells? 0 (a.add (i*sz)) sz=co u∧CR (Mem.n3 W hT) (c x) u)∧ ∃y,A[i]? =co y∧Q x y.1:=by
  intro i D;have h5:=h4 i D;rw[hc,OD (by omega)]at h5;obtain⟨u,h6,h7⟩:=Option.bind_eq_some_iff.1 h5;obtain⟨x,h8,h9⟩:=he k (by omega) _ _ h7;exact⟨x,⟨u,h6,h8⟩,_,OD (by omega),h9⟩
 obtain⟨f,hf⟩:=Deep.choose_lt key;refine⟨(O9 len).map f,.one ?_,A.map (·.1),.inr ⟨_,rfl⟩,by simp[h3],fun i x e hx a0=>?_⟩
 .cases len with
  |zero=>exact .fh ..
  |succ len=>
   have i0: ∀i,i<len+1-> ∀j,j<sz->W.cell? ((a.add (i*sz)).add j)=((c (f i))[j]?).bind fun _=>(W.cell? ((a.add (i*sz)).add j)):=by
    intro i D j B;rw[OD (by rw[hl];exact B)];rfl
   have b: ∀i,i<len+1-> ∀j,j<sz-> ∃v,W.cell? ⟨a.block,a.off+i*sz+j,io⟩=co v∧(∀p,(c (f i))[j]? =co p->IR (Mem.n3 W hT) p v)∧a.spot=io:=by
    intro i D j B;obtain⟨⟨u,h6,h8⟩,_⟩:=hf i D;obtain⟨_,h9,G⟩:=World.cells?_some h6;have I:=G j B;rw[OD (by omega)]at I;have hs: ∀j,j<sz->(a.add (i*sz+j)).spot=io:=fun j B=>by
     have J:=G j B;rw[OD (by omega),Deep.add_add]at J;exact World.cell?_spot J
    have R:a.add (i*sz+j)=⟨a.block,a.off+i*sz+j,io⟩:=by
     have:=hs j B;unfold Addr.add at this ⊢;split
     .rename_i h0;rw[am h0]at this;cases a;simp_all
     .rw[P3]
    refine⟨u[j]'(by omega),?_,fun p hp=>?_,?_⟩
    .rw[<-R,<-Deep.add_add];exact I
    .have:=h8.2 j p hp;rwa[OC,OD (by omega)]at this
    .obtain⟨⟨g0,g6,_⟩,_⟩:=hf 0 (by omega);obtain⟨_,g9,d0⟩:=World.cells?_some g6;have c0:=d0 0 C;rw[OD (by omega),Deep.add_add]at c0;have:=World.cell?_spot c0;simpa[Addr.add]using this
   have ha:co a=co (⟨a.block,a.off,io⟩:Addr):=by
    obtain⟨_,_,_,hs⟩:=b 0 (by omega) 0 C;cases a;simp_all
   rw[ha];have b0:((O9 (len+1)).map f).length=len+1:=by simp
   have Y: ∀k,k<len+1->((O9 (len+1)).map f).getD k ci=f k:=fun k hk=>by
    simp[OC,Q8 hk]
   unfold bV;rw[b0];refine .cp _ _ _ _ _ _ h1 h2 (fun k _=>hl _) (fun k j hk B=>?_) (fun k j p hk hp=>?_)
   .obtain⟨v,hv,_⟩:=b k hk j B;rw[xV hv];rfl
   .rw[Y k hk]at hp;have B:j<sz:=by rw[<-hl (f k)];exact(OB.1 hp).1
    obtain⟨v,hv,e0,_⟩:=b k hk j B;rw[xV hv];exact e0 p hp
 .have D:i<len:=by simpa using(OB.1 hx).1
  obtain⟨_,y,hy,hq⟩:=hf i D;rw[OH,hy]at a0;rw[OH,Q8 D]at hx;simp at a0 hx;subst a0;subst hx;exact hq
theorem KW{n:Nat}{b:Array Field}{cs:List Value}{xs:List (DataW H×List MemPlace)}(hf: ∀(i:Nat) (f:Field),b[i]? =co f->DataW.trod enc P W 0 sp held n f.type ((cs.drop f.offset).take (P.cellsOf f.type))=xs[i]?)
  (i:Nat) {f:Field} (h1:b[i]? =co f) {t o sz:Nat} (j:f.type=t) (u:f.offset=o) (y:P.cellsOf t=sz) {x:DataW H×List MemPlace} (A:xs[i]? =co x):DataW.trod enc P W 0 sp held n t ((cs.drop o).take sz)=co x:=by
 subst j;subst u;subst y;rw[hf i f h1,A]
end
section
variable {H:Type} {enc:TypeId×Value->H} {P:Program} {W W':World} {T:TypeId->Prop}
theorem A1{W W':World}(hk: ∀b,b<W.heap.size->W'.heap[b]? =W.heap[b]?){p:MemPlace}(hp:p.block<W.heap.size):W.sameAt W' p:=by
 cases p with
 |cell b o=>exact World.cell?_of_block (a:=⟨b,o,io⟩) (hk b hp)
 |map b=>exact hk b hp
theorem mL(K:Kids P T)(A: ∀{t e},T t->P.underlying t=co (.slice e)->0<P.cellsOf e)(hk: ∀b,b<W.heap.size->W'.heap[b]? =W.heap[b]?){sp:Nat->Bool}:
  ∀{ts:List TypeId} {vs:List Value} {y:List (DataW H)} {u:List MemPlace},(∀t∈ts,T t)->DataW.TrodAll enc P W 0 (fun _=>is) is ts vs y u->(∀p∈u,p.block<W.heap.size)->(∀p∈u,sp p.block=is)->
   DataW.TrodAll enc P W' 0 sp is ts vs y u
 | [],vs,y,u,_,h,_,_=>by
  obtain⟨rfl,rfl,rfl⟩:=trodAll_nil h;exact trodAll_mk0
 |t::ts,vs,y,u,hT,h,hlt,hsp=>by
  obtain⟨v,G,d,B,p,q,rfl,rfl,rfl,⟨n,h1⟩,C⟩:=trodAll_cons h;refine⟨p,q,⟨n,DataW.trod_stays K A (fun h=>by cases h) (hT t (by simp)) h1 (fun x j=>A1 hk (hlt x (Ph _ j))) (fun x j=>hsp x (Ph _ j))⟩,?_,rfl⟩;exact mL K A hk (fun t D=>hT t (ON _ D)) C (fun x j=>hlt x (P8 _ j)) (fun x j=>hsp x (P8 _ j))
theorem G4{W W':World}(u:W'.os=W.os)(j:W'.output=W.output)(hk: ∀b,b<W.heap.size->W'.heap[b]? =W.heap[b]?)(may:MemPlace->Prop):W.keptBut W' may:=by
 refine World.keptBut_mono (fun p x=>(x:False).elim) (World.keptBut_none_iff.2 ⟨u,j,hk⟩)
theorem vl{f:Func}{s:ChangeSpec}{y I A again:Bool}{args:Array Value}{v:Value}{C gs:List (DataW H)}{u:List MemPlace}
  (K:Kids P T) (hz: ∀{t e},T t->P.underlying t=co (.slice e)->0<P.cellsOf e) (e0: ∀t∈f.params.toList,T t) (B:s.vars=[])
  (hW:DataW.Whole enc P f.params.toList s.vars y W args.toList C gs u) (i0:W'.os=W.os) (a0:W'.output=W.output) (hk: ∀b,b<W.heap.size->W'.heap[b]? =W.heap[b]?)
  (G: ∀(b:Nat) (sp:Nat->Bool) (hd:Bool),DataW.TrodAll enc P W' b sp hd f.resultTypes.toList (v.resultList f.resultTypes.size) (s.fn H (C++gs)).results [])
  (J:(s.fn H (C++gs)).args=C) (k0:(s.fn H (C++gs)).vars=[])
  (hok: ∀(j:Nat) (t:TypeId) (r:Value),f.resultTypes[j]? =co t->(v.resultList f.resultTypes.size)[j]? =co r->Value.okWide P W' .any 0 t r):
  s.post enc P f y I A again W args v W':=by
 have R: ∀p∈u,p.block<W.heap.size:=fun p Y=>by simpa using hW.lt p Y
 have D: ∀p∈u,(fun b=>kw (b<W.heap.size)) p.block=is:=fun p Y=>by simpa using hW.lt p Y
 obtain⟨pa,pv,hA,hV,rfl,f0,g0⟩:=id hW;rw[B]at hV;obtain⟨rfl,rfl⟩:gs=[]∧pv=[]:=by
  cases gs with
  |nil=>exact⟨rfl,hV⟩
  |cons _ _=>exact hV.elim
 rw[Pw]at R D;have x: ∀sp:Nat->Bool,(∀p∈pa,sp p.block=is)->DataW.TrodAll enc P W' 0 sp is f.params.toList args.toList (s.fn H (C++ [])).args pa:=fun sp j0=>by
  rw[J];exact mL K hz hk e0 hA R j0
 have c0: ∀sp:Nat->Bool,DataW.TrodVars enc P W' sp s.vars (s.fn H (C++ [])).vars []:=fun sp=>by
  rw[k0,B];rfl
 refine⟨C,[],pa++ [],[],pa,[],hW,G _ _ _,x _ D,c0 _,?_,fun _=>⟨hok,_,_,([]++pa)++ [],⟨[]++pa,[],trodAll_append (x _ (fun _ _=>rfl)) (G _ _ _),c0 _,rfl,?_,?_⟩,?_⟩⟩
 .exact G4 i0 a0 hk _
 .intro b d0 Y;have b0:MemPlace.cell b d0∈pa:=by simpa using Y
  have hb:=R _ b0;have:=f0 b d0 (by simpa using b0);rw[<-this];simp only[World.frozen?];rw[hk b hb]
 .intro ha;have:=g0 ha;simpa using this
 .intro p Y _;simpa using Y
end
section
variable {P:Program} {ty:Ty} {nt:NT} {s:AS} {Q:AQ} {k:List KI}
def sK(c:UInt8):List IV:=[.v (.int .u8 (c.toNat:Int))]
theorem oZ(w:World)(t u G e:TypeId)(i:TypeInfo)(J:P.underlying t=co (.slice e))(hu:P.underlying u=co .string)(hi:P.info? e=co i)(D:i.size=1)(T:TypeId)
  (g j y:Nat) (x:Array Value) (hg:w.heap[g]? =co (.cells x T (0,0))) (b:ByteArray)
  (A:j+b.size<=y) (B:j+b.size<=x.size):
  (Builtin.append_ #[t,u] G #[.slice (co ⟨g,0,io⟩) j y,.string b]).run P w=
   .ok (.slice (co ⟨g,0,io⟩) (j+b.size) y) (w.setRow g (x.toList.take j++Lib.strCells b++x.toList.drop (j+b.size)).toArray):=by
 have I:=Lib.run_firstCells_string (P:=P) w 1 b;have C:=run_storeCells_at P g j T (Lib.strCells b) 0 x w hg (by simpa[Lib.strCells_length]using B) (Lib.strCells_oneCell b);simp only[Qn,Lib.strCells_length]at C;simp[Builtin.append_,run_underlying J,run_underlying hu,sizeOf,typeInfo,hi,D,Builtin.lenOf,A,I,Addr.add_lit,C]
theorem jP(w:World)(t u C e:TypeId)(i:TypeInfo)(D:P.underlying t=co (.slice e))(hu:P.underlying u=co .string)(hi:P.info? e=co i)(A:Option Addr)(x j:Nat)(y:x<=j)(b:ByteArray)(hb:b.size=0)(hs:A=io∨ ∃b o,A=co ⟨b,o,io⟩):
  (Builtin.append_ #[t,u] C #[.slice A x j,.string b]).run P w= .ok (.slice A x j) w:=by
 have B:=Lib.run_firstCells_string (P:=P) w i.size b;have G:Lib.strCells b=[]:=Ps (by rw[Lib.strCells_length];exact hb);rw[hb,G]at B;rcases hs with rfl|⟨g,o,rfl⟩
 .simp[Builtin.append_,run_underlying D,run_underlying hu,sizeOf,typeInfo,hi,Builtin.lenOf,hb,y,B]
 .simp[Builtin.append_,run_underlying D,run_underlying hu,sizeOf,typeInfo,hi,Builtin.lenOf,hb,y,B,storeCells]
def qy(s:AS)(i:Nat)(l:List UInt8)(u:TypeId):AS:=⟨s.f,(s.nx,co (.bf l u))::(i,io)::s.h,s.nx+1⟩
theorem og{i:Nat}{l:List UInt8}{u:TypeId}{M b:Mem}{N j:Nm}{a:Act}{w w':World}(hf:Fits M N s nt a w)(x:Ext M N (· <s.nx) s.h w b j (· <s.nx+1) ((s.nx,co (.bf l u))::(i,io)::s.h) w')
  (hr:Rel b j (· <s.nx+1) ((s.nx,co (.bf l u))::(i,io)::s.h) w'):
  Ext M N (· <s.nx) s.h w b j (· <(qy s i l u).nx) (qy s i l u).h w'∧Fits b j (qy s i l u) nt a w':=
 ⟨x,hr,hf.2.1.ext x,hf.2.2⟩
theorem Rel.HO{M:Mem}{N:Nm}{w:World}{n:Nat}{h:AH}(hr:Rel M N (· <n) h w)(T:TypeId):Ext M N (· <n) h w M N (· <n+1) ((n,co (.bf [] T))::h) w∧Rel M N (· <n+1) ((n,co (.bf [] T))::h) w:=by
 have u: ∀i p,AH.get ((n,co (.bf [] T))::h) i=co p->(i=n∧p= .bf [] T)∨(i<n∧h.get i=co p):=by
  intro i p x;rw[AH.au]at x;split at x
  .rename_i C;exact .inl ⟨C,by simpa using x.symm⟩
  .exact .inr ⟨hr.used i p x,x⟩
 refine⟨⟨rfl,rfl,⟨rfl,OL _⟩,OL _,fun _ _ _=>rfl,.refl _,fun b c h1 A=>by simp[h1]at A,.refl _ _,fun i x=>by omega,fun i p x y=>?_⟩,⟨hr.dR,fun i p x=>?_,fun i p x y=>?_,fun i p x=>?_,fun i j p q x J D G B=>?_⟩⟩
 .rcases u i p x with⟨rfl,rfl⟩|⟨h1,A⟩
  .cases y
  .exact .inr ⟨i,p,A,y,rfl⟩
 .rcases u i p x with⟨rfl,rfl⟩|⟨h1,A⟩<;>omega
 .rcases u i p x with⟨rfl,rfl⟩|⟨h1,A⟩
  .cases y
  .exact hr.dD i p A y
 .rcases u i p x with⟨rfl,rfl⟩|⟨h1,A⟩
  .exact .inl Z
  .exact(hr.obj i p A).mono (.refl _) (.refl _ _) (fun i x=>by omega) h1 Z
 .rcases u i p x with⟨rfl,rfl⟩|⟨h1,A⟩<;>rcases u j q J with⟨rfl,rfl⟩|⟨R,I⟩
  .rfl
  .cases D
  .cases G
  .exact hr.inj i j p q A I D G B
theorem Ga(x0:bn P ty){o:Oper}{x y:Operand}{t tu u:TypeId}(ho:o.op= .call ⟨.builtin .append, #[x,y], #[t,tu]⟩){e et eu:bA}(ht:ty t=co e)(hk:e.k= .aJ (.slice u))(s1:ty tu=co et)(m1:et.k= .aJ .string)(hu:ty u=co eu)
  {i len:Nat} {l:List UInt8} {b:ByteArray} (hx:ev s.f x= .sl i 0 len 1) (hi:s.h.get i=co (.bf l u)) (C:l.length=len) (r1:eu.size=1) (k1:eu.bytes=1) (hz:eu.zero= .int .u8 0)
  (o1:ev s.f y= .iv (.v (.string b))) (z1:len+b.size<=140737488355328)
  {s':AS} (hp:putDst nt o (.sl s.nx 0 (len+b.size) 1) (qy s i (l++b.data.toList) u)=co s'):OT P nt o s (fun t=>t=s'):=by
 refine OT.value hp fun M N a w J=>?_;obtain⟨⟨ii,g0,r0,q0,s0⟩,_⟩:=x0 u _ hu;rw[r1]at r0;rw[k1]at q0;rw[hz]at s0
 have k0:P.underlying t=co (.slice u):=by
  have:=(x0 t _ ht).2.1;rw[hk]at this;exact this.1
 have j0:P.underlying tu=co .string:=by
  have:=(x0 tu _ s1).2.1;rw[m1]at this;exact this.1
 have z0:=aG J.2.1 x;rw[hx]at z0;have a1:=aG J.2.1 y;rw[o1]at a1;have w1:a.eval y= .string b:=by
  generalize a.eval y=v at a1;cases a1 with
  |iv _ _ h=>cases h;rfl
 have A: ∀v w',(Builtin.append_ #[t,tu] o.type #[a.eval x,a.eval y]).run P w= .ok v w'->(execOp a.eval o).run P w= .ok (.value v) w':=by
  intro v w' h;simp only[execOp,ho,resolve];simp[invoke,builtin,h]
 rw[w1]at A;have a2:i<s.nx:=J.1.used i _ hi;have m0:s.nx≠i:=by omega
 have n1:=J.1.obj i _ hi;have f0:b.data.toList.length=b.size:=by simp
 have e0: ∀(j:Nat) (x:UInt8),b.data.toList[j]? =co x->(Lib.strCells b).getD j undef= .int .u8 (x.toNat:Int):=by
  intro j x hx;simp only[Lib.strCells,OC,OH,hx,PI,PA]
 have b0: ∀z:Array Value,(∀(j:Nat) (x:UInt8),l[j]? =co x->z.getD j undef= .int .u8 (x.toNat:Int))->(∀j,j<b.size->z.getD (len+j) undef=(Lib.strCells b).getD j undef)->
   ∀(j:Nat) (x:UInt8),(l++b.data.toList)[j]? =co x->z.getD j undef= .int .u8 (x.toNat:Int):=by
  intro z h1 h2 j x D;rcases PB j l.length with hk|hk
  .rw[OV hk]at D;exact h1 j x D
  .rw[OQ hk]at D;have t0:j-l.length<b.size:=by rw[<-f0];exact(OB.1 D).1
   have:=h2 _ t0;rw[e0 _ _ D,show len+(j-l.length)=j by omega]at this;exact this
 have Y: ∀(G:List Value) (a0:Nat),G.length=len->(∀(j:Nat) (x:UInt8),l[j]? =co x->G.getD j undef= .int .u8 (x.toNat:Int))->len+b.size<=a0->a0<=maxLen->0<len+b.size->
   ∀z:Array Value,z=G.toArray++(Lib.strCells b).toArray++Builtin.zeroCells (Value.int .u8 0).cells (a0-(len+b.size))->
   ∃M' R,Ext M N (· <s.nx) s.h w M' R (· <(qy s i (l++b.data.toList) u).nx) (qy s i (l++b.data.toList) u).h (w.drew.alloc (.cells z u))∧Fits M' R (qy s i (l++b.data.toList) u) nt a (w.drew.alloc (.cells z u))∧
    VR M' R (· <(qy s i (l++b.data.toList) u).nx) (.sl s.nx 0 (len+b.size) 1) (.slice (co ⟨w.heap.size,0,io⟩) (len+b.size) a0):=by
  intro G a0 f1 t1 o0 l1 v0 z b1;have x1:(Value.int IntKind.u8 0).cells.size=1:=rfl;have I:z.size=a0:=by
   rw[b1,QB,QB,size_zeroCells,x1];simp only[List.size_toArray,f1,Lib.strCells_length];omega
  obtain⟨R,h1,h2,h3,h4,h5⟩:=J.1.drew.alloc (.cells z u) (.bf (l++b.data.toList) u) z.size (fun R g1 g2 g3=>by
   refine .inr ⟨z,by rw[g1];exact heap_alloc_new _ _,g2.symm,by rw[I,OE,C,f0];omega,b0 z (fun j x D=>?_) (fun j D=>?_)⟩
   .have b2:=(OB.1 D).1;have e1:z.getD j undef=G.getD j undef:=by
     rw[b1,Oz,Array.append_assoc,Pc (by simp;omega),OC];simp
    rw[e1];exact t1 j x D
   .rw[b1,Oz,Pc (by simp[Lib.strCells_length];omega),QX (by simp;omega),OC]
    simp[f1])
  have p1:=(h5.del i).swap (Ne.symm m0);have v1:=(((Ext.drew (M:=M) (N:=N) (U:=(· <s.nx)) (h:=s.h) (w:=w)).trans h4).del i).swap (Ne.symm m0);obtain⟨g1,g2⟩:=og J v1 p1;refine⟨M,R,g1,g2,?_⟩;have:=VR.sl (M:=M) (N:=R) (U:=(· <s.nx+1)) s.nx 0 (len+b.size) 1 a0 (by omega) v0 o0 l1 (by rw[h2,I];simp);rw[h1,Qu]at this;exact this
 generalize a.eval x=vx at z0 A;cases z0 with
 |lC _ _ hU=>
  have he:l=[]:=Ps C;subst he;by_cases hm:b.size=0
  .have n0:b.data.toList=[]:=Ps (by rw[f0];exact hm);have B:=jP (P:=P) w t tu o.type u ii k0 j0 g0 io 0 0 (OL _) b hm (.inl Z);obtain⟨h1,h2⟩:=J.1.HO u;obtain⟨g1,g2⟩:=og (i:=i) (l:=[]) (u:=u) J ((h1.del i).swap (Ne.symm m0)) ((h2.del i).swap (Ne.symm m0));rw[n0,hm];exact⟨_,w,M,N,A _ _ B,g1,g2,.lC _ _ (by simp only[qy];omega)⟩
  .have B:=run_append_nil_string (P:=P) w t tu o.type u ii (.int .u8 0) k0 j0 g0 s0 b (by omega) (by omega) (by rw[q0];omega);have e1:(b.data.map fun b=>Value.int .u8 b.toNat)=(Lib.strCells b).toArray:=by
    apply Array.ext';simp[Lib.strCells]
   rw[e1]at B;obtain⟨M',R,g1,g2,g3⟩:=Y [] (grownCap w b.size 0 u) Z (by simp) (by simpa using grownCap_ge w b.size 0 u) (grownCap_le_maxLen w _ _ _ (by simp only[maxLen];omega)) (by omega) _ Z;simp only[O8,Qh,Array.empty_append] at*
   exact⟨_,_,M',R,A _ _ B,by simpa using g1,by simpa using g2,by simpa using g3⟩
 |sl _ _ _ _ a0 hU h0 hl hc hext=>
  rcases n1 with rfl|⟨cur,q1,q2,q3,q4⟩
  .simp at C;omega
  have c0:(AO.bf l u).real=is:=by cases l with
   |nil=>simp at C;omega
   |cons=>rfl
  rw[Qu]at A;have p0:cur.size=a0:=by rw[q2,<-hext];omega
  by_cases hm:b.size=0
  .have n0:b.data.toList=[]:=Ps (by rw[f0];exact hm);have B:=jP (P:=P) w t tu o.type u ii k0 j0 g0 (co ⟨N.az i,0,io⟩) len a0 hl b hm (.inr ⟨_,_,rfl⟩)
   obtain⟨h1,h2⟩:=J.1.move hi c0 w (.bf (l++ []) u) Z Z Z Z (fun _ _=>rfl) (by
    rw[Pw]
    exact .inr ⟨cur,by simpa using q1,by simpa using q2,q3,q4⟩)
   obtain⟨g1,g2⟩:=og (i:=i) J h1 h2;rw[n0,hm];refine⟨_,w,M,_,A _ _ B,g1,g2,?_⟩;have:=VR.sl (M:=M) (N:=N.with s.nx (N.az i) (N.ext i)) (U:=(· <s.nx+1)) s.nx 0 len 1 a0 (by omega) h0 hl hc (by simpa using hext);simpa[qy]using this
  .by_cases d0:len+b.size<=a0
   .have B:=oZ (P:=P) w t tu o.type u ii k0 j0 g0 r0 u (N.az i) len a0 cur q1 b d0 (by omega);generalize hL:(cur.toList.take len++Lib.strCells b++cur.toList.drop (len+b.size)).toArray=L at B;have d1:L.size=cur.size:=by rw[<-hL];simp[Lib.strCells_length];omega
    have w0:=setRow_heap w (N.az i) cur L u (0,0) q1;have j1: ∀j,j<len->L.getD j undef=cur.getD j undef:=by
     intro j D;rw[<-hL,Oz,Oz];simp only[Pt];rw[O0,OV (by simp;omega),Pn,am D,O6]
    have i1: ∀j,j<b.size->L.getD (len+j) undef=(Lib.strCells b).getD j undef:=by
     intro j D;rw[<-hL,Oz,OC];simp only[Pt];rw[OV (by simp[Lib.strCells_length];omega),OQ (by simp;omega)];congr 2;simp;omega
    obtain⟨h1,h2⟩:=J.1.move hi c0 (w.setRow (N.az i) L) (.bf (l++b.data.toList) u) Z Z Z (by simp) (fun b hb=>by
      simp only[World.setRow,Pd]
      rw[be (fun e=>hb e.symm)]) (by
     refine .inr ⟨L,by simpa using w0,by rw[d1];simpa using q2,by rw[d1,p0,OE,C,f0];omega,b0 L (fun j x D=>?_) i1⟩;rw[j1 j (by rw[<-C];exact(OB.1 D).1)]
     exact q4 j x D)
    obtain⟨g1,g2⟩:=og (i:=i) J h1 h2;refine⟨_,_,M,_,A _ _ B,g1,g2,?_⟩;have:=VR.sl (M:=M) (N:=N.with s.nx (N.az i) (N.ext i)) (U:=(· <s.nx+1)) s.nx 0 (len+b.size) 1 a0 (by omega) (by omega) d0 hc (by simpa using hext);simpa[qy]using this
   .have i0: ∀(j:Nat) (v:Value),(cur.toList.take len)[j]? =co v->w.cell? ((⟨N.az i,0,io⟩:Addr).add j)=co v:=by
     intro j v hv;rw[Pn]at hv;split at hv
     .rw[di,O8];simp only[World.cell?,q1];simpa using hv
     .cases hv
    have B:=Lib.run_append_grow_string (P:=P) w t tu o.type u ii (.int .u8 0) k0 j0 g0 s0 ⟨N.az i,0,io⟩ len a0 (cur.toList.take len) (by rw[r0];simp;omega) i0 b (by omega) (by omega)
     (by rw[q0];exact growslice_fits (by omega) (by omega))
    obtain⟨M',R,g1,g2,g3⟩:=Y (cur.toList.take len) (grownCap w (len+b.size) a0 u) (by simp;omega) (fun j x D=>by
      have:=q4 j x D;have t0:j<len:=by rw[<-C];exact(OB.1 D).1
      rw[OC,Pn,am t0,O6]
      rw[Oz]at this;exact this) (grownCap_ge w _ _ _) (grownCap_le_maxLen w _ _ _ (by simp only[maxLen];omega)) (by omega) _ Z
    exact⟨_,_,M',R,A _ _ B,g1,g2,g3⟩
theorem G7(Y:bn P ty){all rest:List Oper}{o:Oper}{x y:Operand}{t tu u d:Nat}{e et A:bA}{i len:Nat}{l:List UInt8}{b:ByteArray}(ho:o.op= .call ⟨.builtin .append, #[x,y], #[t,tu]⟩)(hg:o.guard=io)(J:ty t=co e)(hk:e.k= .aJ (.slice u))(R:ty tu=co et)(D:et.k= .aJ .string)(hu:ty u=co A)
  (hx:ev s.f x= .sl i 0 len 1) (hi:s.h.get i=co (.bf l u)) (I:A.size=1) (C:A.bytes=1) (hz:A.zero= .int .u8 0)
  (G:ev s.f y= .iv (.v (.string b))) (hd:o.dst=co d) (hlt:O1 d nt=is) (j:l.length=len) (B:len+b.size<=140737488355328)
  (h:GO P nt (.ops all rest::k) Q ⟨(d,.sl s.nx 0 (l++b.data.toList).length 1)::s.f,(s.nx,co (.bf (l++b.data.toList) u))::(i,io)::s.h,s.nx+1⟩):GO P nt (.ops all (o::rest)::k) Q s:=by
 have e:(l++b.data.toList).length=len+b.size:=by rw[OE,j];simp
 rw[e]at h
 exact cG hg (Ga Y ho J hk R D hu hx hi j I C hz G B (s':=⟨(d,.sl s.nx 0 (len+b.size) 1)::s.f,(s.nx,co (.bf (l++b.data.toList) u))::(i,io)::s.h,s.nx+1⟩) (by
  simp only[putDst,qy,hd,hlt,cond_true,c5])) fun t J=>by subst J;exact h
theorem Cu{o:Oper}{I:Operand}(ho:o.op= .next I is){i:Nat}(J:ev s.f I= .ptr i 0){b:ByteArray}{a0:Nat}(hi:s.h.get i=co (.c9 b a0)){d:Nat}(hd:o.dst=co d)(hlt:O1 d nt=is):
  OT P nt o s (fun t=>(b.size<=a0∧t=⟨(d,.bh [.kb jp])::s.f,s.h,s.nx⟩)∨
   (a0<b.size∧t=⟨(d,.bh [.kb is,.iv (.v (.int .i64 (a0:Nat))),.iv (.v (.int .i32 (Utf8.decode b a0).1))])::s.f,(i,co (.c9 b (a0+(Utf8.decode b a0).2)))::s.h,s.nx⟩)):=by
 intro M N a w G K Z hk;have R:=aG G.2.1 I;rw[J]at R;have A:w.heap[N.az i]? =co (.stringIter b a0):=G.1.obj i _ hi;have B:N.az i<w.heap.size:=(Pv.1 A).1;have C:d<nt:=Oy hlt;have D:a.eval I= .pointer (co ⟨N.az i,0,io⟩):=by
  generalize a.eval I=y at R;cases R;rfl
 unfold Oper.wp;by_cases u:a0<b.size
 .have x:(execOp a.eval o).run P w= .ok (.value (.tuple #[.bool is,.int .i64 (a0:Nat),.int .i32 (Utf8.decode b a0).1])) {w with heap:=w.heap.setIfInBounds (N.az i) (.stringIter b (a0+(Utf8.decode b a0).2))}:=by
   simp only[execOp,ho,D];simp[Instr.next,getObj,setObj,Sem.run,A,u,Result.andThen,goInt]
  rw[x];simp only[Oper.upon]
  obtain⟨q1,q2⟩:=G.1.write hi rfl {w with heap:=w.heap.setIfInBounds (N.az i) (.stringIter b (a0+(Utf8.decode b a0).2))} (.c9 b (a0+(Utf8.decode b a0).2)) rfl rfl rfl (by simp) (fun c Y=>by
   show(w.heap.setIfInBounds _ _)[c]? =_
   rw[O5,be (fun e=>Y e.symm)]) (by
   show(w.heap.setIfInBounds _ _)[_]? =_
   rw[O5,am rfl,am B])
  refine hk M N _ _ _ q1 ?_ (.inr ⟨u,rfl⟩);rw[hd];refine Fits.put (s:=⟨s.f,(i,co (.c9 b (a0+(Utf8.decode b a0).2)))::s.h,s.nx⟩) ⟨q2,G.2⟩ d _ _ C (.bh _ _ rfl fun q p u=>?_)
  match q with
  |0=>simp at u;subst u;exact .kb _
  |1=>simp at u;subst u;exact .iv _ _ (.v _)
  |2=>simp at u;subst u;exact .iv _ _ (.v _)
  |q+3=>simp at u
 .have x:(execOp a.eval o).run P w= .ok (.value (.tuple #[.bool jp])) w:=by
   simp only[execOp,ho,D];simp[Instr.next,getObj,Sem.run,A,u,Result.andThen]
  rw[x];simp only[Oper.upon];refine hk M N ⟨(d,.bh [.kb jp])::s.f,s.h,s.nx⟩ _ w (.refl _ _ _ _ _) ?_ (.inl ⟨by omega,rfl⟩);rw[hd]
  exact G.put d _ _ C (.bh _ _ rfl fun j p u=>by
    match j with
    |0=>simp at u;subst u;exact .kb _
    |j+1=>simp at u)
theorem j6{all rest:List Oper}{o:Oper}{u:Operand}{i:Nat}{b:ByteArray}{a0 d:Nat}(ho:o.op= .next u is)(hg:o.guard=io)(j:ev s.f u= .ptr i 0)(hi:s.h.get i=co (.c9 b a0))(hd:o.dst=co d)(hlt:O1 d nt=is)
  (h1:b.size<=a0->GO P nt (.ops all rest::k) Q ⟨(d,.bh [.kb jp])::s.f,s.h,s.nx⟩)
  (x:a0<b.size->GO P nt (.ops all rest::k) Q ⟨(d,.bh [.kb is,.iv (.v (.int .i64 (a0:Nat))),.iv (.v (.int .i32 (Utf8.decode b a0).1))])::s.f,(i,co (.c9 b (a0+(Utf8.decode b a0).2)))::s.h,s.nx⟩):
  GO P nt (.ops all (o::rest)::k) Q s:=by
 refine cG hg (Cu ho j hi hd hlt) fun t y=>?_;rcases y with⟨g1,rfl⟩|⟨g1,rfl⟩
 .exact h1 g1
 .exact x g1
theorem uD(B:bn P ty){all rest:List Oper}{o:Oper}{x:Operand}{t d:Nat}{b:ByteArray}{e:bA}(ho:o.op= .range t x)(hg:o.guard=io)(A:ty t=co e)(hk:e.k= .aJ .string)(J:ev s.f x= .iv (.v (.string b)))(hd:o.dst=co d)(hlt:O1 d nt=is)
  (h:GO P nt (.ops all rest::k) Q ⟨(d,.ptr s.nx 0)::s.f,(s.nx,co (.c9 b 0))::s.h,s.nx+1⟩):GO P nt (.ops all (o::rest)::k) Q s:=by
 have C:P.underlying t=co .string:=by
  have:=(B t _ A).2.1;rw[hk]at this;exact this.1
 refine cG (R:=fun t=>t=⟨(d,.ptr s.nx 0)::s.f,(s.nx,co (.c9 b 0))::s.h,s.nx+1⟩) hg (OT.value (s1:=newObj s (.c9 b 0)) (p:= .ptr s.nx 0) (by cases s;simp only[putDst,newObj,hd,hlt,cond_true,c5]) fun M N a w y=>?_) fun t A=>by subst A;exact h
 have j:=aG y.2.1 x;rw[J]at j;have D:a.eval x= .string b:=by
  generalize a.eval x=v at j;cases j with
  |iv _ _ h=>cases h;rfl
 obtain⟨u,h1,Y,h3,G,I⟩:=y.1.alloc (.stringIter b 0) (.c9 b 0) 0 (fun u g1 g2 g3=>by
  show(w.alloc _).heap[u.az s.nx]? =_
  rw[g1];exact heap_alloc_new w _)
 refine⟨.pointer (co ⟨w.heap.size,0,io⟩),_,M,u,?_,G,dw y G I,?_⟩
 .simp only[execOp,ho,D];simp[Instr.range,run_underlying C]
 .have:=VR.ptr (M:=M) (N:=u) (U:=(· <s.nx+1)) s.nx 0 (by omega);rw[h1]at this;exact this
end
section
variable {P:Program} {ty:Ty} {nt:NT} {s:AS} {Q:AQ} {k:List KI}
theorem BE(c0:bn P ty){all rest:List Oper}{o:Oper}{x:Operand}{t t' u d:Nat}{b:ByteArray}{et e0 eu:bA}(ho:o.op= .convert t t' x)(hg:o.guard=io)(ht:ty t=co et)(hk:et.k= .aJ .string)(n0:ty t'=co e0)(j0:e0.k= .aJ (.slice u))(hu:ty u=co eu)(k0:eu.k= .aJ (.int .u8))
  (hx:ev s.f x= .iv (.v (.string b))) (hd:o.dst=co d) (hlt:O1 d nt=is) (hb:b.size<=1000000)
  (h:GO P nt (.ops all rest::k) Q ⟨(d,.iv (.cp 1 b.data.toList.length fun k=>sK (b.data.toList.getD k ci)))::s.f,s.h,s.nx⟩):GO P nt (.ops all (o::rest)::k) Q s:=by
 have hs:P.underlying t=co .string:=by have:=(c0 t _ ht).2.1;rw[hk]at this;exact this.1
 have m0:P.underlying t'=co (.slice u):=by have:=(c0 t' _ n0).2.1;rw[j0]at this;exact this.1
 have o0:P.underlying u=co (.int .u8):=by have:=(c0 u _ hu).2.1;rw[k0]at this;exact this.1
 refine cG (R:=fun t=>t=⟨(d,.iv (.cp 1 b.data.toList.length fun k=>sK (b.data.toList.getD k ci)))::s.f,s.h,s.nx⟩) hg (OT.value (s1:=s) (p:= .iv (.cp 1 b.data.toList.length fun k=>sK (b.data.toList.getD k ci))) (by cases s;simp only[putDst,hd,hlt,cond_true,c5]) fun M N a w D=>?_) fun t ht=>by subst ht;exact h
 have d0:=aG D.2.1 x;rw[hx]at d0;have p0:a.eval x= .string b:=by
  generalize a.eval x=v at d0;cases d0 with
  |iv _ _ h=>cases h;rfl
 have Y:=Go.run_bytes_of_string (P:=P) w t t' u b hs m0 o0;generalize hC:bytesRow b (grownCap w b.size 0 u)=C at Y;have B:M w.heap.size=io:=by
  cases hm:M w.heap.size with
  |none=>rfl
  |some c=>exact absurd (D.1.dR _ _ hm).lt (RT _)
 have G: ∀c,c<w.heap.size->(w.drew.alloc (.cells C u (C.size,C.size+1))).heap[c]? =w.heap[c]? :=fun c A=>by
  show(w.heap.push _)[c]? =_;rw[QI,be (by omega)]
 have hnew:(w.drew.alloc (.cells C u (C.size,C.size+1))).heap[w.heap.size]? =co (.cells C u (C.size,C.size+1)):=by
  show(w.heap.push _)[w.heap.size]? =_;simp
 have f0: ∀j,j<b.data.toList.length->C[j]? =co (.int .u8 ((b.data.toList.getD j ci).toNat:Int)):=by
  intro j hj;have a0:j<b.data.size:=by simpa using hj
  rw[<-hC];simp only[bytesRow];rw[Pc (by simpa using a0)];simp[OC];exact⟨b.data[j],O4 a0,by rw[O4 a0];rfl⟩
 have I:=grownCap_ge w b.size 0 u;refine⟨.slice (co ⟨w.heap.size,0,io⟩) b.size (grownCap w b.size 0 u),w.drew.alloc (.cells C u (C.size,C.size+1)),M.set w.heap.size (.cells C) B,N,?_,?_,?_,?_⟩
 .simp only[execOp,ho,p0];rw[Sem.run_bind,Y];rfl
 .have q1:M.le (M.set w.heap.size (.cells C) B):=fun c e A=>by
   simp only[Mem.set];rw[be fun e2=>by rw[e2,B]at A;cases A];exact A
  have q2: ∀c e,M c=io->(M.set w.heap.size (.cells C) B) c=co e->w.heap.size<=c∨ ∃i o,s.h.get i=co o∧o.real=is∧N.az i=c:=fun c e h1 h2=>by
   simp only[Mem.set]at h2;by_cases he:c=w.heap.size
   .exact .inl (by omega)
   .rw[be he,h1]at h2;cases h2
  exact⟨rfl,rfl,⟨rfl,Qv _⟩,(by show w.heap.size<=(w.heap.push _).size;simp),fun c A _=>G c A,q1,q2,.refl _ _,fun _ h=>h,fun i o J y=> .inr ⟨i,o,J,y,rfl⟩⟩
 .have g0:M.le (M.set w.heap.size (.cells C) B):=fun c e A=>by
   simp only[Mem.set];rw[be fun e2=>by rw[e2,B]at A;cases A];exact A
  refine⟨⟨fun c e A=>?_,D.1.used,fun i o J y=>?_,fun i o J=>?_,D.1.inj⟩,fun i=>(D.2.1 i).mono g0 (.refl _ _) fun _ h=>h,D.2.2⟩
  .simp only[Mem.set]at A;by_cases he:c=w.heap.size
   .rw[am he]at A;cases A;exact⟨u,(C.size,C.size+1),by rw[he];exact hnew⟩
   .rw[be he]at A;exact(D.1.dR c e A).mono (G c (D.1.dR c e A).lt)
  .simp only[Mem.set];have:=D.1.lt J y;rw[be (by omega)];exact D.1.dD i o J y
  .cases y:o.real with
   |true=>exact(D.1.obj i o J).mono g0 (.refl _ _) (fun _ h=>h) (D.1.used i o J) (G _ (D.1.lt J y))
   |false=>
    cases o with
    |row sz es=>cases es with
     |nil=>exact .inl Z
     |cons=>cases y
    |bf l T=>cases l with
     |nil=>exact .inl Z
     |cons=>cases y
    |_=>cases y
 .have i0:b.data.toList.length=b.size:=by simp
  rw[<-i0]at I ⊢;by_cases h0:b.data.toList.length=0
  .rw[h0];exact .iv _ _ (.fh _ _ _ _)
  .refine .iv _ _ (.cp _ _ _ _ _ _ (by omega) (grownCap_le_maxLen w _ _ _ (by simp only[maxLen];omega)) (fun _ _=>rfl) (fun k j hk hj=>?_) (fun k j p hk hp=>?_))
   .have b0:j=0:=by omega
    subst b0;have:=f0 k hk;simp only[Mem.cell,Mem.set,if_true,O8,Ry,Qn,this,Option.isSome_some]
   .have b0:j=0:=by
     have:=(OB.1 hp).1;simp[sK]at this;exact this
    subst b0;cases hp;have:=f0 k hk;simp only[Mem.cell,Mem.set,if_true,O8,Ry,Qn,this,PA];exact .v _
theorem Hg(B:bn P ty)(l:List UInt8){all rest:List Oper}{o:Oper}{x:Operand}{t C u d i n:Nat}{es:List (List PV)}{et G eu:bA}(ho:o.op= .convert t C x)(hg:o.guard=io)(ht:ty t=co et)(hk:et.k= .aJ (.slice u))(g0:ty C=co G)(d0:G.k= .aJ .string)(hu:ty u=co eu)(e0:eu.k= .aJ (.int .u8))
  (hx:ev s.f x= .sl i 0 n 1) (hi:s.h.get i=co (.row 1 es)) (hd:o.dst=co d) (hlt:O1 d nt=is) (hes:es=l.map fun x=>(sK x).map .iv) (hn:n=l.length)
  (h:GO P nt (.ops all rest::k) Q ⟨(d,.iv (.v (.string ⟨l.toArray⟩)))::s.f,s.h,s.nx⟩):GO P nt (.ops all (o::rest)::k) Q s:=by
 have hs:P.underlying C=co .string:=by have:=(B C _ g0).2.1;rw[d0]at this;exact this.1
 have a0:P.underlying t=co (.slice u):=by have:=(B t _ ht).2.1;rw[hk]at this;exact this.1
 have b0:P.underlying u=co (.int .u8):=by have:=(B u _ hu).2.1;rw[e0]at this;exact this.1
 subst hn;subst hes;refine cG (R:=fun t=>t=⟨(d,.iv (.v (.string ⟨l.toArray⟩)))::s.f,s.h,s.nx⟩) hg (OT.value (s1:=s) (p:= .iv (.v (.string ⟨l.toArray⟩))) (by cases s;simp only[putDst,hd,hlt,cond_true,c5]) fun M N a w hf=>?_) fun t ht=>by subst ht;exact h
 have b:=aG hf.2.1 x;rw[hx]at b;have Y:(convert t C (a.eval x)).run P w= .ok (.string ⟨l.toArray⟩) w:=by
  generalize a.eval x=v at b;cases hor:l with
  |nil=>
   rw[hor]at b;generalize D:PV.sl i 0 ([]:List UInt8).length 1=q at b;cases b with
   |sl _ _ _ _ _ _ h0=>cases D;simp at h0
   |lC _ _ _=>
    have:=run_convert_bytes_nil (P:=P) w t u a0 b0 0 0 C hs;exact this
   |_=>cases D
  |cons x0 r0=>
   rw[<-hor];have J:0<l.length:=by rw[hor];simp
   generalize f0:l.length=n at b J;generalize D:PV.sl i 0 n 1=q at b;cases b with
   |sl _ _ _ _ cap hU h0 hl hc he=>
    cases D;rcases hf.1.obj i _ hi with A|⟨_,c,T,q1,q2,q3,q4,q5⟩
    .rw[hor]at A;cases A
    rw[Qu,<-f0];refine run_convert_bytes_back (P:=P) w t C u ⟨N.az i,0,io⟩ cap l a0 b0 hs fun j hj=>?_;rw[di,O8];have I:j<c.size:=by rw[O7]at q3;omega
    have:=q5 j [.iv (.v (.int .u8 (l[j].toNat:Int)))] 0 _ (by rw[OH,OD hj];rfl) Z;rw[Ry,Qn,Oz,O4 I,PA]at this;simp only[World.cell?,q1];generalize c0:c[j]=y at this;cases this with
    |iv _ _ h=>cases h;simp[I,c0]
   |lC _ _ _=>cases D;omega
   |_=>cases D
 exact⟨_,w,M,N,by simp only[execOp,ho];exact aW Y,.refl _ _ _ _ _,hf,.iv _ _ (.v _)⟩
theorem qX(u:bn P ty){all rest:List Oper}{o:Oper}{x:Operand}{t y d:Nat}{q J:IntKind}{n:Int}{G j:bA}(ho:o.op= .convert t y x)(hg:o.guard=io)(B:ty t=co G)(hk:G.k= .aJ (.int q))(C:ty y=co j)(A:j.k= .aJ .string)
  (hx:ev s.f x= .iv (.v (.int J n))) (hd:o.dst=co d) (hlt:O1 d nt=is)
  (h:GO P nt (.ops all rest::k) Q ⟨(d,.iv (.v (.string (Utf8.encode n))))::s.f,s.h,s.nx⟩):GO P nt (.ops all (o::rest)::k) Q s:=by
 have hs:P.underlying y=co .string:=by have:=(u y _ C).2.1;rw[A]at this;exact this.1
 have Y:P.underlying t=co (.int q):=by have:=(u t _ B).2.1;rw[hk]at this;exact this.1
 refine cG (R:=fun t=>t=⟨(d,.iv (.v (.string (Utf8.encode n))))::s.f,s.h,s.nx⟩) hg (OT.value (s1:=s) (p:= .iv (.v (.string (Utf8.encode n)))) (by cases s;simp only[putDst,hd,hlt,cond_true,c5]) fun M N a w I=>?_) fun t B=>by subst B;exact h
 have b:=aG I.2.1 x;rw[hx]at b;have D:a.eval x= .int J n:=by
  generalize a.eval x=v at b;cases b with
  |iv _ _ h=>cases h;rfl
 refine⟨_,w,M,N,?_,.refl _ _ _ _ _,I,.iv _ _ (.v _)⟩;simp only[execOp,ho,D];refine aW ?_;simp[convert,run_underlying Y,run_underlying hs,Conv.intToString]
end
def dP{kc:KC}{V:Type}(key:V->kc.K)(m:List (kc.K×V))(S:List V):Prop:= ∃T:List V,T.Perm S∧m=T.map fun v=>(key v,v)
section
variable {kc:KC} {V:Type} {key:V->kc.K}
theorem DJ(T:List V)(f:V)(b: ∀u∈T,key u=key f->u=f):cV kc (T.map fun v=>(key v,v)) (key f)=is↔f∈T:=by
 induction T with
 |nil=>simp[cV]
 |cons v r ih=>
  simp only[OZ,cV];have j:=ih fun u hu=>b u (ON _ hu);by_cases e:key v=key f
  .have:=b v (OO ..) e;subst this;simp
  .rw[be e,j,OP];exact⟨.inr,fun q=>q.resolve_left fun q=>e (by rw[q])⟩
theorem vj(T:List V)(f:V)(hn: ∀u∈T,key u≠key f):cq kc (T.map fun v=>(key v,v)) (key f) f=(T++ [f]).map fun v=>(key v,v):=by
 induction T with
 |nil=>rfl
 |cons v r ih=>
  simp only[OZ,cq,PT];rw[be (hn v (OO ..)),ih fun u hu=>hn u (ON _ hu)]
theorem Ec[DecidableEq V](T:List V)(f:V)(b: ∀u∈T,key u=key f->u=f):jh kc (T.map fun v=>(key v,v)) (key f)=(T.erase f).map fun v=>(key v,v):=by
 induction T with
 |nil=>rfl
 |cons v r ih=>
  simp only[OZ,jh];by_cases e:key v=key f
  .have:=b v (OO ..) e;subst this;rw[am Z,List.erase_cons_head]
  .have j: ¬v=f:=fun q=>e (by rw[q])
   rw[be e,ih fun u hu=>b u (ON _ hu),List.erase_cons_tail (by simpa using j),OZ]
theorem dP.perm{m:List (kc.K×V)}{S b:List V}(h:dP key m S)(p:S.Perm b):dP key m b:=by
 obtain⟨T,h1,j⟩:=h;exact⟨T,h1.trans p,j⟩
theorem dP.nil:dP key ([]:List (kc.K×V)) []:=⟨[],.nil,rfl⟩
theorem dP.len{m:List (kc.K×V)}{S:List V}(h:dP key m S):m.length=S.length:=by
 obtain⟨T,h1,rfl⟩:=h;rw[O7,h1.length_eq]
theorem dP.has{m:List (kc.K×V)}{S:List V}(h:dP key m S){f:V}(b: ∀u∈S,key u=key f->u=f):cV kc m (key f)=is↔f∈S:=by
 obtain⟨T,h1,rfl⟩:=h;rw[DJ T f fun u hu=>b u (h1.mem_iff.1 hu),h1.mem_iff]
theorem dP.put{m:List (kc.K×V)}{S:List V}(h:dP key m S){f:V}(b: ∀u∈S,key u=key f->u=f)(hf:f∉S):dP key (cq kc m (key f) f) (f::S):=by
 obtain⟨T,h1,rfl⟩:=h;refine⟨T++ [f],?_,vj T f fun u hu e=>hf (b u (h1.mem_iff.1 hu) e▸h1.mem_iff.1 hu)⟩;exact(List.perm_append_comm).trans ((List.Perm.cons f h1))
theorem dP.del[DecidableEq V]{m:List (kc.K×V)}{S:List V}(h:dP key m S){f:V}(b: ∀u∈S,key u=key f->u=f):dP key (jh kc m (key f)) (S.erase f):=by
 obtain⟨T,h1,rfl⟩:=h;exact⟨T.erase f,h1.erase f,Ec T f fun u hu=>b u (h1.mem_iff.1 hu)⟩
end
section
variable {P:Program} {ty:Ty} {nt:NT} {Q:AQ} {k:List KI} {s:AS}
theorem Hm{o:Oper}{g:FuncId}{x y:Operand}{ts:Array TypeId}{b j v:Value}(ho:o.op= .call ⟨.value (.func g), #[x,y],ts⟩)(D:ev s.f x= .iv (.v b))(G:ev s.f y= .iv (.v j))
  (hc: ∀w,(callFunc g #[b,j]).run P w= .ok (.value v) w) {s':AS} (hp:putDst nt o (.iv (.v v)) s=co s'):OT P nt o s fun t=>t=s':=by
 refine OT.value hp fun M N a w A=>⟨v,w,M,N,?_,.refl _ _ _ _ _,A,.iv _ _ (.v _)⟩
 have h1:=aG A.2.1 x;have u:=aG A.2.1 y;rw[D]at h1;rw[G]at u;have B:a.eval x=b:=by
  generalize a.eval x=z at h1;cases h1 with
  |iv _ _ h=>cases h;rfl
 have C:a.eval y=j:=by
  generalize a.eval y=z at u;cases u with
  |iv _ _ h=>cases h;rfl
 simp only[execOp,ho,resolve,Act.eval,Deferred.ofValue,pure_bind,invoke];have: #[]++Array.map a.eval #[x,y]++ #[]= #[b,j]:=by simp[B,C]
 first
  |(rw[this];exact hc w)
  |(simp only[Act.eval] at*;simpa[B,C]using hc w)
theorem Hb{all rest:List Oper}{o:Oper}{g:FuncId}{x y:Operand}{ts:Array TypeId}{b j:Value}(v:Value)(ho:o.op= .call ⟨.value (.func g), #[x,y],ts⟩)(hg:o.guard=io)(A:ev s.f x= .iv (.v b))(B:ev s.f y= .iv (.v j))
  (hc: ∀w,(callFunc g #[b,j]).run P w= .ok (.value v) w) {s':AS} (hp:putDst nt o (.iv (.v v)) s=co s') (h:GO P nt (.ops all rest::k) Q s'):GO P nt (.ops all (o::rest)::k) Q s:=
 cG hg (Hm ho A B hc hp) fun t u=>by subst u;exact h
end
theorem Da(i sz n:Nat): ∀l:List IV,dQ i sz n (l.map .iv)
 | []=>trivial
 |_::r=>⟨ac,Da i sz n r⟩
theorem GD{α:Type}(i sz n b:Nat)(l:List α)(f:α->List IV):(aT b l f).qO i sz n:=by
 intro k e j p u A;rw[OH,OJ]at u;obtain⟨x,_,rfl⟩:=u;rw[OH,OJ]at A;obtain⟨y,_,rfl⟩:=A;exact⟨y,rfl⟩
section
variable {P:Program} {ty:Ty} {nt:NT} {s:AS}
theorem sc{M:Mem}{N:Nm}{a:Act}{w:World}(hf:Fits M N s nt a w){x:Operand}{k:IntKind}{n:Int}(h:ev s.f x= .iv (.v (.int k n))):a.eval x= .int k n:=by
 have b:=aG hf.2.1 x;rw[h]at b;generalize a.eval x=v at b;cases b with
 |iv _ _ b=>cases b with
  |v=>rfl
theorem MI(D:bn P ty){o:Oper}{t u:TypeId}{l c:Operand}(ho:o.op= .makeSlice t l c){e b:bA}(ht:ty t=co e)(hk:e.k= .aJ (.slice u))(hu:ty u=co b)
  {n m sz:Nat} {kl kc:IntKind} {ml nc:Int} (hl:ev s.f l= .iv (.v (.int kl ml))) (hc:ev s.f c= .iv (.v (.int kc nc))) (i0:ml=(m:Int)) (j0:nc=(n:Int)) (hn:0<n) (q0:n<=100000000000) (hb:b.bytes*n<=281474976710656) (n0:b.size=sz) (G:b.zero.cells.size=sz) (m0:0<sz)
  {z:List PV} (hz:z=aK b.zero) {p:PV} (C:(m=0∧p= .sl s.nx 1 0 sz)∨(m=n∧p= .sl s.nx 0 n sz))
  {s':AS} (hp:putDst nt o p (newObj s (.row sz (QY n z)))=co s'):OT P nt o s (fun t=>t=s'):=by
 refine OT.value hp fun M N a w R=>?_;subst hz n0 i0 j0;obtain⟨⟨ii,b0,c0,a0,d0⟩,_⟩:=D u _ hu
 have o0:P.underlying t=co (.slice u):=by
  have:=(D t _ ht).2.1;rw[hk]at this;exact this.1
 have p0:m<=n:=by rcases C with⟨h,_⟩|⟨h,_⟩<;>omega
 have B:=run_make w t u ii b.zero o0 b0 d0 kl kc (m:Int) (n:Int) (by omega) (by omega) (by rw[a0];omega) (by omega);rw[OG,OG,c0]at B;have I:(aK b.zero).length=b.size:=by rw[(ei (M:=M) (N:=N) (U:=(· <s.nx)) b.zero).1,G]
 have A: ∀(k:Nat) (e:List PV),(QY n (aK b.zero))[k]? =co e->k<n∧e=aK b.zero:=by
  intro k e x;rw[List.getElem?_replicate]at x;split at x
  .exact⟨by assumption,by simpa using x.symm⟩
  .cases x
 obtain⟨J,h1,h2,h8,h9,Y⟩:=R.1.alloc (.cells (madeCells b.zero.cells (n*b.size)) u) (.row b.size (QY n (aK b.zero))) (n*b.size) (fun J g1 g2 g3=>
  .inr ⟨m0,_,u,by rw[g1];exact heap_alloc_new w _,by rw[size_madeCells,g2],by rw[size_madeCells,List.length_replicate];exact OL _,fun k e x=>by rw[(A k e x).2,I],fun k e j p x hj=>by
   obtain⟨f0,rfl⟩:=A k e x;have e0:j<b.size:=by rw[<-I];exact(OB.1 hj).1
   have g0:k*b.size+j<n*b.size:=by
    have:(k+1)*b.size<=n*b.size:=O3 _ f0;rw[PD]at this;omega
   have h7:(madeCells b.zero.cells (n*b.size)).getD (k*b.size+j) undef=b.zero.cells.getD j undef:=by
    have hx:(Rw (n*b.size))[k*b.size+j]? =co (k*b.size+j):=by simp[g0]
    have hm:(k*b.size+j) % b.zero.cells.size=j:=by rw[G,Nat.add_comm,Nat.add_mul_mod_self_right,Nat.mod_eq_of_lt e0]
    rw[madeCells,Oz,QN,hx];simp only[PI,PA,hm];rw[Oz,getElem!_pos b.zero.cells j (by omega),O4 (by omega)];rfl
   rw[h7];exact(ei b.zero).2 j p hj⟩)
 refine⟨.slice (co ⟨w.heap.size,0,io⟩) m n,_,M,J,?_,h9,dw R h9 Y,?_⟩
 .simp only[execOp,ho,sc R hl,sc R hc];rw[Sem.run_bind,B];rfl
 .have k0:(newObj s (.row b.size (QY n (aK b.zero)))).nx=s.nx+1:=by cases s;rfl
  rw[k0];have y:n<=maxLen:=by simp only[maxLen];omega
  rcases C with⟨rfl,rfl⟩|⟨rfl,rfl⟩
  .have:=VR.sle (M:=M) (N:=J) (U:=(· <s.nx+1)) s.nx b.size n (by omega) y (by rw[h2]);rw[h1]at this;exact this
  .have:=VR.sl (M:=M) (N:=J) (U:=(· <s.nx+1)) s.nx 0 m b.size m (by omega) hn (OL _) y (by rw[h2,O8]);rw[h1,Qu]at this;exact this
theorem KF(j:bn P ty){o:Oper}{t u:TypeId}{l c:Operand}(ho:o.op= .makeSlice t l c){e y:bA}(ht:ty t=co e)(hk:e.k= .aJ (.slice u))(hu:ty u=co y)
  {sz:Nat} (el:Nat->List IV) {kl kc:IntKind} {ml nc:Int} (hl:ev s.f l= .iv (.v (.int kl ml))) (hc:ev s.f c= .iv (.v (.int kc nc))) (D:ml=0) (G:nc=0)
  {s':AS} (hp:putDst nt o (.iv (.cp sz 0 el)) (newObj s (.row sz []))=co s'):OT P nt o s (fun t=>t=s'):=by
 refine OT.value hp fun M N a w x=>?_;subst D G;obtain⟨⟨Y,B,b0,a0,C⟩,_⟩:=j u _ hu
 have I:P.underlying t=co (.slice u):=by
  have:=(j t _ ht).2.1;rw[hk]at this;exact this.1
 have b:=run_make w t u Y y.zero I B C kl kc 0 0 (by omega) (by omega) (by omega) (by omega);obtain⟨J,h1,h2,h8,R,A⟩:=x.1.alloc (.cells (madeCells y.zero.cells ((0:Int).toNat*Y.size)) u) (.row sz []) 0 (fun J g1 g2 g3=> .inl Z);refine⟨.slice (co ⟨w.heap.size,0,io⟩) 0 0,_,M,J,?_,R,dw x R A,.iv _ _ (.fh _ _ _ _)⟩;simp only[execOp,ho,sc x hl,sc x hc];rw[Sem.run_bind,b];rfl
theorem K4(B:bn P ty){o:Oper}{t u:TypeId}{x hi:Operand}(ho:o.op= .slice t x io (co hi) io){e I:bA}(ht:ty t=co e)(hk:e.k= .aJ (.slice u))(hu:ty u=co I)
  {i n m sz:Nat} {kc:IntKind} {J:Int} (hx:ev s.f x= .sl i 0 n sz) (hh:ev s.f hi= .iv (.v (.int kc J))) (D:J=(m:Int)) (Y:m<=n) (hn:0<n)
  {p:PV} (G:(m=0∧p= .sl i 1 0 sz)∨(0<m∧p= .sl i 0 m sz)) {s':AS} (hp:putDst nt o p s=co s'):OT P nt o s (fun t=>t=s'):=by
 refine OT.value hp fun M N a w C=>?_;subst D
 have y:P.underlying t=co (.slice u):=by
  have:=(B t _ ht).2.1;rw[hk]at this;exact this.1
 have j:P.elem t=u:=by simp[Program.elem,y]
 have A:=aG C.2.1 x;rw[hx]at A;generalize hv:a.eval x=vx at A;cases A with
 |lC=>omega
 |sl _ _ _ _ cap hU h0 hl hc hext=>
  have b:=run_slice_h (P:=P) (w:=w) t (co ⟨N.az i,0*sz,io⟩) n cap (by rw[j];exact y) kc (m:Int) (by omega) (by omega);rw[j,aO (B u _ hu)]at b;refine⟨sliced (co ⟨N.az i,0*sz,io⟩) 0 m cap I.size,w,M,N,?_,.refl _ _ _ _ _,C,?_⟩
  .simp only[execOp,ho,hv,PI,QR,sc C hh];refine aW ?_;rw[run_sliceAt_slice w t _ _ _ _ (by rw[j];exact y),b];rfl
  .rcases G with⟨rfl,rfl⟩|⟨R,rfl⟩
   .have:=VR.sle (M:=M) (N:=N) (U:=(· <s.nx)) i sz cap hU hc (by rw[<-hext,O8]);simpa[sliced,Addr.add]using this
   .have:=VR.sl (M:=M) (N:=N) (U:=(· <s.nx)) i 0 m sz cap hU R (by omega) hc hext;simpa[sliced,Addr.add]using this
theorem HD(j0:bn P ty){o:Oper}{x y:Operand}{t u:TypeId}(ho:o.op= .call ⟨.builtin .append, #[x,y], #[t,t]⟩){e B:bA}(ht:ty t=co e)(hk:e.k= .aJ (.slice u))(hu:ty u=co B)
  {i sz:Nat} {es news:List (List PV)} {py:PV} (hx:ev s.f x= .sl i 1 0 sz) (hi:s.h.get i=co (.row sz es)) (x0:B.size=sz) (b0:news.length<=es.length) (hm:0<news.length)
  (w0:ev s.f y=py) (hy:Src s.h sz py news) (e0: ∀e∈news,ew e=is)
  {s':AS} (hp:putDst nt o (.sl s.nx 0 news.length sz) (oP s i sz [] news)=co s'):OT P nt o s (fun t=>t=s'):=by
 refine OT.value hp fun M N a w hf=>?_;subst x0;obtain⟨⟨ii,r0,d0,e1,f1⟩,_⟩:=j0 u _ hu
 have z0:P.underlying t=co (.slice u):=by
  have:=(j0 t _ ht).2.1;rw[hk]at this;exact this.1
 have g0:=aG hf.2.1 x;rw[hx]at g0;have n0:=aG hf.2.1 y;rw[w0]at n0;obtain⟨I,ao,c,b1,Y⟩:=hy.ok hf n0;have C: ∀v w',(Builtin.append_ #[t,t] o.type #[a.eval x,a.eval y]).run P w= .ok v w'->(execOp a.eval o).run P w= .ok (.value v) w':=by
  intro v w' h;simp only[execOp,ho,resolve];simp[invoke,builtin,h]
 rw[b1]at C;have J:(AO.row B.size es).real=is:=by cases es with
  |nil=>exact absurd b0 (by simp only[Qa];omega)
  |cons=>rfl
 rcases hf.1.obj i _ hi with rfl|⟨hsz0,cur,T,q1,q2,q3,q4,q5⟩
 .cases J
 generalize a.eval x=vx at g0 C;cases g0 with
 |sl _ _ _ _ _ _ h0=>exact absurd h0 (RT _)
 |sle _ _ cap hU hc hext=>
  have G:cur.size=cap*B.size:=by rw[q2,<-hext]
  have A:news.length<=cap:=by
   have:es.length*B.size<=cap*B.size:=by rw[<-G];exact q3
   have:=Nat.le_of_mul_le_mul_right this hsz0;omega
  obtain⟨b2,d1,p0,a0⟩:=Y (List.ne_nil_of_length_pos hm);subst p0;obtain⟨vs,k0,a1,m0⟩:=ob (s:=s) a0;have R:vs.length=news.length*B.size:=by rw[k0,gV I]
  have q0:vs.length<=cur.size:=by rw[R,G];exact O3 _ A
  have c0: ∀v∈vs,v.oneCell'=is:=by
   intro v hv;obtain⟨j,hj⟩:=Po hv;have s0:j<news.flatten.length:=by rw[<-k0];exact(OB.1 hj).1
   have hp:=OD s0;obtain⟨k,e,i',h1,h2,_⟩:=j9 I j _ hp;have:=(m0 j _ hp).one (gr (e0 e (Pe h1)) i' _ h2);rw[OC,hj]at this;exact this
  have D:=jQ (P:=P) (w:=w) t o.type u ii z0 r0 T (N.az i) 0 cap cur q1 ⟨b2,d1,io⟩ news.length c vs (by rw[R,d0]) a1 c0 (by omega) (by rw[d0];omega);rw[d0]at D;generalize hL:(cur.toList.take (0*B.size)++vs++cur.toList.drop (0*B.size+vs.length)).toArray=L at D;rw[O8]at D;have i0:L.size=cur.size:=by rw[<-hL];simp;omega
  have f0:=setRow_heap w (N.az i) cur L T (0,0) q1;have o0: ∀j,j<vs.length->L.getD j undef=vs.getD j undef:=by
   intro j hj;rw[<-hL,Oz,OC];simp only[Pt];rw[OV (by simp;omega),OQ (by simp)];simp
  obtain⟨h1,h2⟩:=hf.1.move hi J (w.setRow (N.az i) L) (.row B.size ([]++news)) Z Z Z (by simp) (fun b hb=>by
    simp only[World.setRow,Pd]
    rw[be (fun e=>hb e.symm)]) (by
   refine .inr ⟨hsz0,L,T,by simpa using f0,by rw[i0];simpa using q2,by rw[i0,G];exact O3 _ A,fun k e he=>I _ e he,fun k e j p he hj=>?_⟩;have i1:j<B.size:=by rw[<-I _ e he];exact(OB.1 hj).1
   have t0:k<news.length:=(OB.1 he).1;have v0:k*B.size+j<vs.length:=by
    rw[R];have:(k+1)*B.size<=news.length*B.size:=O3 _ t0;rw[PD]at this;omega
   rw[o0 _ v0]
   exact(m0 _ p (lS I _ e j p he hj)).mono (.refl _) (N.eE _ _ _) (fun i hi=>by omega))
  obtain⟨g1,g2⟩:=ma (es:=[]) (news:=news) (i:=i) hf h1 h2;refine⟨_,_,M,_,C _ _ D,g1,g2,?_⟩;have:=VR.sl (M:=M) (N:=N.with s.nx (N.az i) (N.ext i)) (U:=(· <s.nx+1)) s.nx 0 news.length B.size cap (by omega) hm A hc (by simpa using hext);rw[jy];simpa using this
section
variable {Q:AQ} {k:List KI} {all rest:List Oper} {o:Oper} {s':AS}
theorem I1(D:bn P ty){t u:TypeId}{l c:Operand}(n m:Nat)(hg:o.guard=io)(ho:o.op= .makeSlice t l c){e b:bA}(C:ty t=co e)(hk:e.k= .aJ (.slice u))(hu:ty u=co b)
  {R kc:IntKind} {I nc:Int} (hl:ev s.f l= .iv (.v (.int R I))) (hc:ev s.f c= .iv (.v (.int kc nc))) (j:I=(m:Int)) (y:nc=(n:Int)) (hn:0<n) (x:n<=100000000000) (hb:b.bytes*n<=281474976710656) (G:b.zero.cells.size=b.size) (B:0<b.size)
  {z:List PV} (J:z=aK b.zero) {p:PV} (A:(m=0∧p= .sl s.nx 1 0 b.size)∨(m=n∧p= .sl s.nx 0 n b.size))
  (hp:putDst nt o p (newObj s (.row b.size (QY n z)))=co s') (h:GO P nt (.ops all rest::k) Q s'):GO P nt (.ops all (o::rest)::k) Q s:=
 cG hg (MI D ho C hk hu hl hc j y hn x hb Z G B J A hp) fun t C=>by subst C;exact h
theorem DQ(y:bn P ty){t u:TypeId}{l c:Operand}(sz:Nat)(el:Nat->List IV)(hg:o.guard=io)(ho:o.op= .makeSlice t l c){e B:bA}(x:ty t=co e)(hk:e.k= .aJ (.slice u))(hu:ty u=co B)
  {C kc:IntKind} {A nc:Int} (hl:ev s.f l= .iv (.v (.int C A))) (hc:ev s.f c= .iv (.v (.int kc nc))) (b:A=0) (j:nc=0)
  (hp:putDst nt o (.iv (.cp sz 0 el)) (newObj s (.row sz []))=co s') (h:GO P nt (.ops all rest::k) Q s'):GO P nt (.ops all (o::rest)::k) Q s:=
 cG hg (KF y ho x hk hu el hl hc b j hp) fun t x=>by subst x;exact h
theorem Af(B:bn P ty){t u:TypeId}{x hi:Operand}{i n sz:Nat}(m:Nat)(hg:o.guard=io)(ho:o.op= .slice t x io (co hi) io){e D:bA}(A:ty t=co e)(hk:e.k= .aJ (.slice u))(hu:ty u=co D)
  {kc:IntKind} {C:Int} (G:ev s.f x= .sl i 0 n sz) (hh:ev s.f hi= .iv (.v (.int kc C))) (b:C=(m:Int)) (j:m<=n) (hn:0<n)
  {p:PV} (y:(m=0∧p= .sl i 1 0 sz)∨(0<m∧p= .sl i 0 m sz)) (hp:putDst nt o p s=co s') (h:GO P nt (.ops all rest::k) Q s'):GO P nt (.ops all (o::rest)::k) Q s:=
 cG hg (K4 B ho A hk hu G hh b j hn y hp) fun t A=>by subst A;exact h
theorem vO(D:bn P ty){x y:Operand}{t u:TypeId}(hg:o.guard=io)(ho:o.op= .call ⟨.builtin .append, #[x,y], #[t,t]⟩){e j:bA}(C:ty t=co e)(hk:e.k= .aJ (.slice u))(hu:ty u=co j)
  {i:Nat} {es news:List (List PV)} {G:PV} (I:ev s.f x= .sl i 1 0 j.size) (hi:s.h.get i=co (.row j.size es))
  (B:ev s.f y=G) (J:J6 s.h j.size G=co news) (b:news.length<=es.length) (hm:0<news.length) (A: ∀e∈news,ew e=is)
  (hp:putDst nt o (.sl s.nx 0 news.length j.size) (oP s i j.size [] news)=co s') (h:GO P nt (.ops all rest::k) Q s'):GO P nt (.ops all (o::rest)::k) Q s:=
 cG hg (HD D ho C hk hu I hi Z b hm B (gy J) A hp) fun t C=>by subst C;exact h
end
section
variable {Q:AQ} {k:List KI} {all rest:List Oper} {o:Oper} {s':AS}
end
end
theorem dN.take{sz n:Nat}{es:List (List PV)}:dN (.row sz es) (.row sz (es.take n)):=by
 refine⟨fun h=>?_,fun M N U w i h=>?_⟩
 .cases es with
  |nil=>rw[List.take_nil]at h;exact h
  |cons=>rfl
 .rcases h with h|⟨u,c,T,h1,x,y,A,B⟩
  .exact .inl (by rw[h,List.take_nil])
  .refine .inr ⟨u,c,T,h1,x,Pp (O3 _ (by rw[PN];omega)) y,fun k e b=>?_,fun k e j p b C=>?_⟩
   .rw[Pn]at b;split at b
    .exact A k e b
    .cases b
   .rw[Pn]at b;split at b
    .exact B k e j p b C
    .cases b
theorem vM{P:Program}{nt:NT}{Q:AQ}{k:List KI}{s:AS}{body:Code}{σ:Type}(i0 n:Nat)(u:i0<=n)(I:Nat->σ->AS)(J:Nat->σ->Prop)(y:σ)(A:List Nat)(C:J i0 y)(h0:Wk s.nx A s (I i0 y))
  (b: ∀i x,i<=n->J i x->GO P nt (.code body:: .lp (fun t=>i<n∧ ∃j L,J (i+1) j∧Wk s.nx L t (I (i+1) j))::k) Q (I i x)):GO P nt (.code (.loop body)::k) Q s:=by
 refine fW (σ:={p:Nat×σ//p.1<=n∧J p.1 p.2}) (fun p=>I p.1.1 p.1.2) (fun p=>n-p.1.1) ⟨(i0,y),u,C⟩ A h0 fun p=>?_;obtain⟨⟨i,x⟩,h1,B⟩:=p;refine kM ?_ (b i x h1 B)
 rintro t ⟨h3,j,L,h4,h5⟩;exact⟨⟨(i+1,j),h3,h4⟩,L,by show n-(i+1)<n-i;omega,h5⟩
theorem G9{P:Program}{ty:Ty}{nt:NT}{Q:AQ}{k:List KI}{s:AS}(j:bn P ty){all rest:List Oper}{o:Oper}{t:TypeId}{x i:Operand}(p:PV)(ho:o.op= .lookup t x i jp)(hg:o.guard=io)
  {kc:KC} {V:Type} {e:V->IV} {z:V} {y:Value} {m:List (kc.K×V)} (B:ev s.f x= .iv (.dJ kc e z y m)) {q:PV} (hl:r7 ty t jp kc e z y m (ev s.f i)=co (q,True)) (A:q=p)
  {s':AS} (hp:putDst nt o p s=co s') (h:GO P nt (.ops all rest::k) Q s'):GO P nt (.ops all (o::rest)::k) Q s:=by
 have b:gj ty s o.op=co (p,True):=by
  rw[ho,<-A];simp only[gj,B];exact hl
 exact cG hg (rJ j b ac hp) fun u hu=>by subst hu;exact h
section
variable {P:Program} {ty:Ty} {nt:NT} {s:AS}
theorem Cq{o:Oper}{p:PV}{s':AS}(hp:putDst nt o p s=co s')(h: ∀M N a w,Fits M N s nt a w-> ∃x,(execOp a.eval o).run P w= .ok (.value x) w∧VR M N (· <s.nx) p x):
  (s'.h=s.h∧s'.nx=s.nx)∧ ∀M N a w,Fits M N s nt a w-> ∃x,(execOp a.eval o).run P w= .ok (.value x) w∧Fits M N s' nt (a.put o.dst x) w:=by
 cases hd:o.dst with
 |none=>
  have:=eM hp hd;subst this;exact⟨⟨rfl,rfl⟩,fun M N a w b=>let ⟨x,hx,_⟩:=h M N a w b;⟨x,hx,b⟩⟩
 |some d=>
  obtain⟨h1,rfl⟩:=eL hp hd;exact⟨⟨rfl,rfl⟩,fun M N a w b=>let ⟨x,hx,hv⟩:=h M N a w b;⟨x,hx,b.put d p x h1 hv⟩⟩
theorem sv{Q:AQ}{k:List KI}{all:List Oper}{todo pend:List (Nat×Oper)}{o:Oper}{s':AS}{p:PV}(i:Nat)(j:todo.find? (fun x=>O2 x.1 i)=co (i,o))(u:aN o=jp)(y:todo.all (fun x=>!waits o x.1)=is)(hg:bS nt all s.f o=co is)(b:tD all pend o=is)
  (hp:putDst nt o p s=co s') (A: ∀M N a w,Fits M N s nt a w-> ∃x,(execOp a.eval o).run P w= .ok (.value x) w∧VR M N (· <s.nx) p x)
  (h:GO P nt (.bR all (todo.filter fun x=>!O2 x.1 i) ((i,o)::pend)::k) Q s'):GO P nt (.bR all todo pend::k) Q s:=
 have g:=Cq hp A
 su (List.mem_of_find?_eq_some j) u (fun x B=>by simpa using Pj.1 y x B) hg b g.1 g.2 h
end
section
variable {P:Program} {ty:Ty} {nt:NT} {Q:AQ} {k:List KI} {s:AS}
theorem gU{all rest:List Oper}{o:Oper}{t e:TypeId}{x:Operand}{d sz n:Nat}{el:Nat->List IV}(hg:o.guard=io)(ho:o.op= .binOp .eql t x (.const (.slice io 0 0)) t)(hd:o.dst=co d)(A:O1 d nt=is)(G:P.underlying t=co (.slice e))(I:ev s.f x= .iv (.cp sz n el))
  (h: ∀b:Bool,(b=is->n=0)->GO P nt (.ops all rest::k) Q ⟨(d,pB b)::s.f,s.h,s.nx⟩):GO P nt (.ops all (o::rest)::k) Q s:=by
 refine cG (R:=fun u=> ∃b:Bool,(b=is->n=0)∧u=⟨(d,pB b)::s.f,s.h,s.nx⟩) hg (fun M N a w C K Z hk=>?_) fun u ⟨b,hb,hu⟩=>by subst hu;exact h b hb
 have y:=aG C.2.1 x;rw[I]at y;generalize B:a.eval x=v at y;have j: ∀(a0:Option Addr) (l c:Nat),v= .slice a0 l c->(execOp a.eval o).run P w= .ok (.value (.bool a0.isNone)) w:=fun a0 l c y=>by
  unfold execOp;rw[ho];simp only[B,y];exact aW (Lib.run_eql_slice_nil w t e a0 l c 0 0 G)
 have b0: ∀(b:Bool),(b=is->n=0)->(execOp a.eval o).run P w= .ok (.value (.bool b)) w->o.wp P a w K Z:=fun b hb D=>by
  unfold Oper.wp;rw[D];simp only[Oper.upon];rw[hd];exact hk M N ⟨(d,pB b)::s.f,s.h,s.nx⟩ _ w (.refl _ _ _ _ _) (C.put d (pB b) (.bool b) (Oy A) (.iv _ _ (.v _))) ⟨b,hb,rfl⟩
 cases y with
 |iv _ _ hi=>cases hi with
  |fh _ _ a0 cap=>exact b0 _ (fun _=>rfl) (j a0 0 cap rfl)
  |cp _ _ _ b off cap hn hc hl hm D=>exact b0 jp (fun h=>by cases h) (j _ n cap rfl)
theorem jt(j:bn P ty){all rest:List Oper}{o:Oper}{t u:TypeId}{d:Nat}(hg:o.guard=io)(ho:o.op= .buildSlice t 0 #[])(hd:o.dst=co d)(y:O1 d nt=is){e I:bA}(ht:ty t=co e)(hk:e.k= .aJ (.slice u))(hu:ty u=co I)
  (h: ∀b:Nat,GO P nt (.ops all rest::k) Q ⟨(d,.iv (.v (.slice (co ⟨b,0,io⟩) 0 0)))::s.f,(s.nx,co (.row 1 []))::s.h,s.nx+1⟩):GO P nt (.ops all (o::rest)::k) Q s:=by
 refine cG (R:=fun v=> ∃b:Nat,v=⟨(d,.iv (.v (.slice (co ⟨b,0,io⟩) 0 0)))::s.f,(s.nx,co (.row 1 []))::s.h,s.nx+1⟩) hg (fun M N a w Y K Z B=>?_) fun v ⟨b,hv⟩=>by subst hv;exact h b
 have D:P.underlying t=co (.slice u):=by
  have:=(j t _ ht).2.1;rw[hk]at this;exact this.1
 obtain⟨G,h1,h2,h8,J,x⟩:=Y.1.alloc (.cells #[] u) (.row 1 []) 0 (fun G g1 g2 g3=> .inl rfl);have hr:(execOp a.eval o).run P w= .ok (.value (.slice (co ⟨w.heap.size,0,io⟩) 0 0)) (w.alloc (.cells #[] u)):=by
  have C:=aO (w:=w) (j u I hu);simp[execOp,ho,Instr.buildSlice,Sem.run_bind,run_underlying D,Result.andThen_ok,C,newRow,Instr.fill,show Rw 0= #[] from rfl]
 have A:=dw Y J x;unfold Oper.wp;rw[hr];simp only[Oper.upon];rw[hd];exact B M G ⟨(d,.iv (.v (.slice (co ⟨w.heap.size,0,io⟩) 0 0)))::s.f,(s.nx,co (.row 1 []))::s.h,s.nx+1⟩ _ _ J (Fits.put (s:=⟨s.f,(s.nx,co (.row 1 []))::s.h,s.nx+1⟩) A d _ _ (Oy y) (.iv _ _ (.v _))) ⟨_,rfl⟩
theorem ju(d0:bn P ty){all rest:List Oper}{o:Oper}{x y:Operand}{t u:TypeId}(hg:o.guard=io)(ho:o.op= .call ⟨.builtin .append, #[x,y], #[t,t]⟩){e A:bA}(ht:ty t=co e)(hk:e.k= .aJ (.slice u))(hu:ty u=co A)
  {b0 sz:Nat} {news:List (List PV)} {py:PV} (hx:ev s.f x= .iv (.v (.slice (co ⟨b0,0,io⟩) 0 0))) (v0:A.size=sz) (hz:A.zero.cells.size=sz) (t0:0<sz)
  (s0:ev s.f y=py) (hy:Src s.h sz py news) (hm:news≠ []) (hb:news.length*A.bytes<=140737488355328) (d1:news.length<=140737488355328)
  {s':AS} (hp:putDst nt o (.sl s.nx 0 news.length sz) (newObj s (.row sz news))=co s') (h:GO P nt (.ops all rest::k) Q s'):GO P nt (.ops all (o::rest)::k) Q s:=by
 refine cG hg (OT.value hp fun M N a w hf=>?_) fun v hv=>by subst hv;exact h
 subst v0;obtain⟨⟨ii,o0,p0,n0,q0⟩,_⟩:=d0 u _ hu;have w0:P.underlying t=co (.slice u):=by
  have:=(d0 t _ ht).2.1;rw[hk]at this;exact this.1
 have Y:=aG hf.2.1 x;rw[hx]at Y;have f0:=aG hf.2.1 y;rw[s0]at f0;obtain⟨D,ao,c,a1,G⟩:=hy.ok hf f0;have B: ∀v w',(Builtin.append_ #[t,t] o.type #[a.eval x,a.eval y]).run P w= .ok v w'->(execOp a.eval o).run P w= .ok (.value v) w':=by
  intro v w' h;simp only[execOp,ho,resolve];simp[invoke,builtin,h]
 rw[a1]at B;have a0: ∀vs:List Value,vs.length=news.flatten.length->vs.length=news.length*ii.size:=fun vs h=>by rw[h,gV D,p0]
 generalize a.eval x=vx at Y B;cases Y with
 |iv _ _ hi=>cases hi with
  |v=>
   obtain⟨b,b1,j0,I⟩:=G hm;subst j0;obtain⟨vs,e0,x0,z0⟩:=ob (s:=s) I;have j1:0<news.length:=PJ.2 hm;have J:=run_append_grow (P:=P) w t o.type u ii A.zero w0 o0 q0 ⟨b0,0,io⟩ 0 0 [] (by simp) (fun j v hj=>by simp at hj) ⟨b,b1,io⟩ news.length c vs (a0 vs e0) x0 (by omega) (by omega) (growslice_fits (by omega) (by rw[n0,O8];exact hb));have R:vs.length=news.length*A.size:=by rw[e0,gV D]
   have c0:=grownCap_ge w (0+news.length) 0 u;have k0:=grownCap_le_maxLen w (0+news.length) 0 u (by simp only[maxLen];omega);generalize grownCap w (0+news.length) 0 u=cap at*
   generalize i0:([]:List Value).toArray++vs.toArray++Builtin.zeroCells A.zero.cells (cap-(0+news.length))=z at J;have C:z.size=cap*A.size:=by
    rw[<-i0,QB,QB,size_zeroCells,hz];simp only[List.size_toArray,R,Qa,O8] at*
    rw[<-PD,Nat.add_sub_cancel' c0]
   obtain⟨N',h1,h2,h3,h4,h5⟩:=hf.1.drew.alloc (.cells z u) (.row A.size news) z.size (fun N' g1 g2 g3=>by
    refine .inr ⟨t0,z,u,by rw[g1];exact heap_alloc_new _ _,g2.symm,?_,fun k e he=>D _ e he,fun k e j p he hj=>?_⟩
    .rw[C];exact O3 _ (by omega)
    .have f1:j<A.size:=by rw[<-D _ e he];exact(OB.1 hj).1
     have r0:k<news.length:=(OB.1 he).1;have m0:=lS D _ e j p he hj;have i1:k*A.size+j<vs.length:=by
      rw[R];have:(k+1)*A.size<=news.length*A.size:=O3 _ r0;rw[PD]at this;omega
     have:=z0 _ p m0;have e1:z.getD (k*A.size+j) undef=vs.getD (k*A.size+j) undef:=by
      rw[<-i0,Oz,Pc (by simp;omega),OC];simp
     rw[e1];exact this.mono (.refl _) g3 (fun i hi=>by omega))
   have g0:=(Ext.drew (M:=M) (N:=N) (U:=(· <s.nx)) (h:=s.h) (w:=w)).trans h4;refine⟨_,_,M,N',B _ _ J,g0,⟨h5,hf.2.1.ext g0,hf.2.2⟩,?_⟩;have:=VR.sl (M:=M) (N:=N') (U:=(· <s.nx+1)) s.nx 0 (0+news.length) A.size cap (by omega) (by omega) c0 k0 (by rw[h2,C];simp);rw[h1,Qu,show PV.sl s.nx 0 (0+news.length) A.size=PV.sl s.nx 0 news.length A.size by rw[O8]]at this;exact(show(newObj s (.row A.size news)).nx=s.nx+1 from rfl)▸this
theorem j7(G:bn P ty){all rest:List Oper}{o:Oper}{x y:Operand}{t u:TypeId}(hg:o.guard=io)(ho:o.op= .call ⟨.builtin .append, #[x,y], #[t,t]⟩){e Y:bA}(ht:ty t=co e)(hk:e.k= .aJ (.slice u))(hu:ty u=co Y)
  {R sz:Nat} (hx:ev s.f x= .iv (.v (.slice (co ⟨R,0,io⟩) 0 0))) (d0:Y.size=sz)
  {el:Nat->List IV} (c0:ev s.f y= .iv (.cp sz 0 el)) {el2:Nat->List IV}
  {s':AS} (hp:putDst nt o (.iv (.cp sz 0 el2)) s=co s') (h:GO P nt (.ops all rest::k) Q s'):GO P nt (.ops all (o::rest)::k) Q s:=by
 refine cG hg (OT.value hp fun M N a w hf=>?_) fun v hv=>by subst hv;exact h
 subst d0;obtain⟨⟨ii,a0,g0,f0,i0⟩,_⟩:=G u _ hu;have e0:P.underlying t=co (.slice u):=by
  have:=(G t _ ht).2.1;rw[hk]at this;exact this.1
 have B:=aG hf.2.1 x;rw[hx]at B;have C:=aG hf.2.1 y;rw[c0]at C;have j: ∀v w',(Builtin.append_ #[t,t] o.type #[a.eval x,a.eval y]).run P w= .ok v w'->(execOp a.eval o).run P w= .ok (.value v) w':=by
  intro v w' h;simp only[execOp,ho,resolve];simp[invoke,builtin,h]
 generalize a.eval x=vx at B j;generalize a.eval y=vy at C j;have A: ∀(D:Option Addr) (c:Nat),vx= .slice (co ⟨R,0,io⟩) 0 0->vy= .slice D 0 c-> ∃v w' I J,(execOp a.eval o).run P w= .ok (.value v) w'∧Ext M N (· <s.nx) s.h w I J (· <s.nx) s.h w'∧Fits I J s nt a w'∧VR I J (· <s.nx) (.iv (.cp Y.size 0 el2)) v:=fun D c e1 e2=>by
  subst e1 e2;exact⟨_,w,M,N,j _ _ (ib (P:=P) (w:=w) t o.type u ii e0 a0 (co ⟨R,0,io⟩) 0 0 (OL _) D c (.inr ⟨_,_,rfl⟩)),.refl _ _ _ _ _,hf,.iv _ _ (.fh _ _ _ _)⟩
 cases B with
 |iv _ _ hi=>cases hi with
  |v=>cases C with
   |iv _ _ hi=>cases hi with
    |fh _ _ D c=>exact A D c Z Z
    |cp _ _ _ b off cap=>exact A _ _ Z Z
end
section
variable {P:Program} {ty:Ty} {nt:NT} {Q:AQ} {k:List KI} {s:AS}
theorem x9(r0:bn P ty){o:Oper}{t:TypeId}{a x:Operand}(ho:o.op= .store t a x)(hd:o.dst=io){i sz q:Nat}{e:bA}(he:ty t=co e)(z0:e.size=sz){es:List (List PV)}{xs:List PV}
  (ha:ev s.f a= .cD i sz q 0) (hi:s.h.get i=co (.row sz es)) (hq:q<es.length) (v0:(ev s.f x).cells=co xs) (f0:xs.length=sz) (b0:ew xs=is):
  OT P nt o s (fun u=>u=⟨s.f,(i,co (.row sz (es.set q xs)))::s.h,s.nx⟩):=by
 have hp:putDst nt o .any ⟨s.f,(i,co (.row sz (es.set q xs)))::s.h,s.nx⟩=co ⟨s.f,(i,co (.row sz (es.set q xs)))::s.h,s.nx⟩:=by simp only[putDst,hd]
 refine OT.skip hp fun M N b w J=>?_;have hu:=aG J.2.1 a;have hy:=aG J.2.1 x;rw[ha]at hu;generalize s0:b.eval a=u at hu;generalize w0:b.eval x=y at hy
 have key: ∃w',(Instr.storeAt t u y).run P w= .ok () w'∧Ext M N (· <s.nx) s.h w M N (· <s.nx) ((i,co (.row sz (es.set q xs)))::s.h) w'∧Fits M N ⟨s.f,(i,co (.row sz (es.set q xs)))::s.h,s.nx⟩ nt b w':=by
  cases hu with
  |cD _ _ _ _ hU=>
   obtain⟨hl,hv⟩:=l0 hy v0;have a1:y.cells.size=sz:=by omega
   rcases J.1.obj i _ hi with h0|⟨h0,c,T,g1,g2,g3,g4,g5⟩
   .rw[h0]at hq;simp at hq
   have a0:(q+1)*sz<=es.length*sz:=O3 _ hq;have x0:q*sz+sz<=c.size:=by rw[P5]at a0;omega
   have C: ∀z∈y.cells.toList,z.oneCell'=is:=by
    intro v t0;obtain⟨j,hj⟩:=Po t0;have k0:j<y.cells.toList.length:=(OB.1 hj).1;have e0:xs[j]? =co (xs[j]'(by simp at k0;omega)):=OD _;have:=(hv j _ e0).one (gr b0 j _ e0);rw[Oz]at this;have i0:y.cells[j]? =co v:=by simpa using hj
    rw[i0]at this;exact this
   have d0:=run_storeCells_at P (N.az i) (q*sz) T y.cells.toList 0 c w g1 (by simp;omega) C;refine⟨w.setRow (N.az i) (c.toList.take (q*sz+0)++y.cells.toList++c.toList.drop (q*sz+0+y.cells.toList.length)).toArray,?_,?_⟩
   .have D:=aO (w:=w) (r0 t e he);have q0:y.cells.size=e.size:=by omega
    simp only[Instr.storeAt,Instr.sureAddr,pure_bind,storeVar,Sem.run_bind,D,Result.andThen_ok,q0,ne_eq,not_true_eq_false,if_false];exact d0
   .have c0:=setRow_heap w (N.az i) c (c.toList.take (q*sz+0)++y.cells.toList++c.toList.drop (q*sz+0+y.cells.toList.length)).toArray T (0,0) g1;have o0: ∀b,b≠N.az i->(w.setRow (N.az i) (c.toList.take (q*sz+0)++y.cells.toList++c.toList.drop (q*sz+0+y.cells.toList.length)).toArray).heap[b]? =w.heap[b]? :=by
     intro b hb;simp only[World.setRow,Pd];rw[be (fun e=>hb e.symm)]
    have p0:(AO.row sz es).real=is:=by cases es with
     |nil=>simp at hq
     |cons=>rfl
    have g0: ∀m,(c.toList.take (q*sz+0)++y.cells.toList++c.toList.drop (q*sz+0+y.cells.toList.length)).toArray.getD m undef=if q*sz<=m∧m<q*sz+sz then y.cells.getD (m-q*sz) undef else c.getD m undef:=by
     intro m;rw[Oz,Oz,Oz];have m0:y.cells.toList.length=sz:=by simp;omega
     split
     .rename_i hm;have e1:(c.toList.take (q*sz+0)++y.cells.toList++c.toList.drop (q*sz+0+y.cells.toList.length)).toArray[m]? =y.cells[m-q*sz]? :=by
       simp only[Pt];rw[OV (by simp;omega),OQ (by simp;omega)];simp only[PN,Qt,O6];congr 1;omega
      rw[e1]
     .rename_i hm;have e1:(c.toList.take (q*sz+0)++y.cells.toList++c.toList.drop (q*sz+0+y.cells.toList.length)).toArray[m]? =c[m]? :=by
       simp only[Pt];rcases PB m (q*sz) with k1|k1
       .rw[O0,OV (by simp;omega),Pn,am (by omega),O6]
       .rw[OQ (by simp;omega),Py,O6];congr 1;simp;omega
      rw[e1]
    have:=J.1.write hi p0 (w.setRow (N.az i) (c.toList.take (q*sz+0)++y.cells.toList++c.toList.drop (q*sz+0+y.cells.toList.length)).toArray) (.row sz (es.set q xs)) Z Z Z (by simp) o0
     (.inr ⟨h0,_,T,c0,by simp;omega,by simp;omega,fun G Y A=>?_,fun G Y R p2 A I=>?_⟩)
    .exact⟨this.1,this.2,J.2.1,J.2.2⟩
    .rw[Qe]at A;split at A
     .cases A;exact f0
     .exact g4 G Y A
    .rw[g0];rw[Qe]at A;split at A
     .rename_i B;subst B;cases A;have j0:R<sz:=by rw[<-f0];exact(OB.1 I).1
      rw[am (by omega),show q*sz+R-q*sz=R by omega];exact hv R p2 I
     .rename_i B;have j0:R<sz:=by rw[<-g4 G Y A];exact(OB.1 I).1
      rw[be ?_]
      .exact g5 G Y R p2 A I
      .intro⟨e1,Y⟩;rcases QW q G with n0|heq|hgt
       .have:(q+1)*sz<=G*sz:=O3 _ n0;rw[P5]at this;omega
       .exact B heq
       .have:(G+1)*sz<=q*sz:=O3 _ hgt;rw[P5]at this;omega
 obtain⟨w',h1,A,I⟩:=key;refine⟨w',M,N,?_,A,I⟩;simp only[execOp,ho];simp[s0,w0,h1]
end
def Li{σ:Type}(P:Program)(nt:NT)(k:List KI)(Q:AQ)(n0:Nat)(t:σ->AS):AQ:=fun e u=>(e= .normal∧ ∃i L,Wk n0 L u (t i))∨(e≠ .normal∧kp P nt k Q e u)
theorem go_cut{P:Program}{nt:NT}{Q:AQ}{k:List KI}{s:AS}{c:Code}{σ:Type}(n:Nat)(t:σ->AS)(A:c=J8 (u4 n c) (q8 n c))
  (h1:GO P nt ((u4 n c).map KI.code) (Li P nt k Q s.nx t) s) (h2: ∀i,GO P nt (.code (q8 n c)::k) Q (t i)):GO P nt (.code c::k) Q s:=by
 intro M N a w hf;rw[A];have key: ∀(l:List Code) (u:AS) B D I w',Ext M N (· <s.nx) s.h w B D (· <u.nx) u.h w'->Fits B D u nt I w'->
   kp P nt (l.map KI.code) (Li P nt k Q s.nx t) .normal u->(J8 l (q8 n c)).wp P (ln nt M N s w (kp P nt k Q)) I w':=by
  intro l
  induction l with
  |nil=>
   intro u B D I w' J y hk;rcases hk with⟨_,i,L,hw⟩|⟨Y,_⟩
   .exact AW.then (h2 i) (hw.fits y) fun e a2 w2 C G R x b j=>⟨C,G,R,(hw.ext J).trans x,b,j⟩
   .exact absurd Z Y
  |cons c l ih=>
   intro u B D I w' J y hk;refine wp_seq (AW.then hk y fun e a2 w2 C G R x b j=>?_);cases e with
   |normal=>exact ih R C G a2 w2 (J.trans x) b j
   |_=>
    rcases zV (l:=l) (by simp) j with⟨Y,_⟩|⟨_,hq⟩
    .cases Y
    .exact⟨C,G,R,J.trans x,b,hq⟩
 exact key _ s M N a w (.refl _ _ _ _ _) hf h1
theorem Ek{P:Program}{nt:NT}{k:List KI}{Q:AQ}{n0:Nat}{σ:Type}{t:σ->AS}{u:AS}(i:σ)(L:List Nat)(h:Wk n0 L u (t i)):Li P nt k Q n0 t .normal u:= .inl ⟨rfl,i,L,h⟩
section
variable {P:Program} {ty:Ty} {nt:NT} {Q:AQ} {k:List KI} {s:AS}
theorem nR(j:bn P ty){all rest:List Oper}{o:Oper}{t:TypeId}{a:Operand}(ho:o.op= .load t a)(hg:o.guard=io){e:bA}(he:ty t=co e){i sz q off:Nat}{es:List (List PV)}{row:List PV}{v:PV}
  (ha:ev s.f a= .cD i sz q off) (hi:s.h.get i=co (.row sz es)) (x:es[q]? =co row) (hr:fz e (row.drop off)=co v)
  {s':AS} (hp:putDst nt o v s=co s') (h:GO P nt (.ops all rest::k) Q s'):GO P nt (.ops all (o::rest)::k) Q s:=by
 have hb:behind s.h (.cD i sz q off)=co (row.drop off):=by
  simp only[behind,hi,x,Nat.beq_refl]
 have b:gj ty s o.op=co (v,True):=by
  rw[ho];simp only[gj,he,ha,hb,hr]
 exact cG hg (rJ j b ac hp) fun u hu=>by subst hu;exact h
end
section
variable {P:Program} {ty:Ty} {nt:NT} {Q:AQ} {k:List KI} {s:AS}
theorem oc(t0:bn P ty){o:Oper}{t:TypeId}{a x:Operand}(ho:o.op= .store t a x)(hd:o.dst=io){i sz q off:Nat}{e:bA}(he:ty t=co e){es:List (List PV)}{row xs:List PV}
  (ha:ev s.f a= .cD i sz q off) (hi:s.h.get i=co (.row sz es)) (Y:es[q]? =co row) (x0:(ev s.f x).cells=co xs) (d1:xs.length=e.size) (g0:off+e.size<=sz) (b0:ew xs=is):
  OT P nt o s (fun u=>u=⟨s.f,(i,co (.row sz (es.set q (setCells row off xs))))::s.h,s.nx⟩):=by
 have hp:putDst nt o .any ⟨s.f,(i,co (.row sz (es.set q (setCells row off xs))))::s.h,s.nx⟩=co ⟨s.f,(i,co (.row sz (es.set q (setCells row off xs))))::s.h,s.nx⟩:=by simp only[putDst,hd]
 refine OT.skip hp fun M N b w R=>?_;have hu:=aG R.2.1 a;have hy:=aG R.2.1 x;rw[ha]at hu;generalize v0:b.eval a=u at hu;generalize z0:b.eval x=y at hy
 have key: ∃w',(Instr.storeAt t u y).run P w= .ok () w'∧Ext M N (· <s.nx) s.h w M N (· <s.nx) ((i,co (.row sz (es.set q (setCells row off xs))))::s.h) w'∧Fits M N ⟨s.f,(i,co (.row sz (es.set q (setCells row off xs))))::s.h,s.nx⟩ nt b w':=by
  cases hu with
  |cD _ _ _ _ hU=>
   obtain⟨hl,hv⟩:=l0 hy x0;have f1:y.cells.size=e.size:=by omega
   have q0:q<es.length:=(OB.1 Y).1;rcases R.1.obj i _ hi with h0|⟨h0,c,T,g1,g2,g3,g4,g5⟩
   .rw[h0]at Y;simp at Y
   have f0:row.length=sz:=g4 q row Y;have a0:(q+1)*sz<=es.length*sz:=O3 _ q0;have b1:q*sz+off+e.size<=c.size:=by rw[P5]at a0;omega
   have D: ∀z∈y.cells.toList,z.oneCell'=is:=by
    intro v w0;obtain⟨j,hj⟩:=Po w0;have m0:j<y.cells.toList.length:=(OB.1 hj).1;have e0:xs[j]? =co (xs[j]'(by simp at m0;omega)):=OD _;have:=(hv j _ e0).one (gr b0 j _ e0);rw[Oz]at this;have j0:y.cells[j]? =co v:=by simpa using hj
    rw[j0]at this;exact this
   have d0:=run_storeCells_at P (N.az i) (q*sz+off) T y.cells.toList 0 c w g1 (by simp;omega) D;refine⟨w.setRow (N.az i) (c.toList.take ((q*sz+off)+0)++y.cells.toList++c.toList.drop ((q*sz+off)+0+y.cells.toList.length)).toArray,?_,?_⟩
   .have G:=aO (w:=w) (t0 t e he);have s0:y.cells.size=e.size:=by omega
    simp only[Instr.storeAt,Instr.sureAddr,pure_bind,storeVar,Sem.run_bind,G,Result.andThen_ok,s0,ne_eq,not_true_eq_false,if_false];exact d0
   .have c0:=setRow_heap w (N.az i) c (c.toList.take ((q*sz+off)+0)++y.cells.toList++c.toList.drop ((q*sz+off)+0+y.cells.toList.length)).toArray T (0,0) g1;have p0: ∀b,b≠N.az i->(w.setRow (N.az i) (c.toList.take ((q*sz+off)+0)++y.cells.toList++c.toList.drop ((q*sz+off)+0+y.cells.toList.length)).toArray).heap[b]? =w.heap[b]? :=by
     intro b hb;simp only[World.setRow,Pd];rw[be (fun e=>hb e.symm)]
    have r0:(AO.row sz es).real=is:=by cases es with
     |nil=>simp at Y
     |cons=>rfl
    have i0: ∀m,(c.toList.take ((q*sz+off)+0)++y.cells.toList++c.toList.drop ((q*sz+off)+0+y.cells.toList.length)).toArray.getD m undef=if q*sz+off<=m∧m<q*sz+off+e.size then y.cells.getD (m-(q*sz+off)) undef else c.getD m undef:=by
     intro m;rw[Oz,Oz,Oz];have n0:y.cells.toList.length=e.size:=by simp;omega
     split
     .rename_i hm;have e1:(c.toList.take ((q*sz+off)+0)++y.cells.toList++c.toList.drop ((q*sz+off)+0+y.cells.toList.length)).toArray[m]? =y.cells[m-(q*sz+off)]? :=by
       simp only[Pt];rw[OV (by simp;omega),OQ (by simp;omega)];simp only[PN,Qt,O6];congr 1;omega
      rw[e1]
     .rename_i hm;have e1:(c.toList.take ((q*sz+off)+0)++y.cells.toList++c.toList.drop ((q*sz+off)+0+y.cells.toList.length)).toArray[m]? =c[m]? :=by
       simp only[Pt];rcases PB m (q*sz+off) with k1|k1
       .rw[O0,OV (by simp;omega),Pn,am (by omega),O6]
       .rw[OQ (by simp;omega),Py,O6];congr 1;simp;omega
      rw[e1]
    have:=R.1.write hi r0 (w.setRow (N.az i) (c.toList.take ((q*sz+off)+0)++y.cells.toList++c.toList.drop ((q*sz+off)+0+y.cells.toList.length)).toArray) (.row sz (es.set q (setCells row off xs))) Z Z Z (by simp) p0
     (.inr ⟨h0,_,T,c0,by simp;omega,by simp;omega,fun I e2 A=>?_,fun I e2 B p2 A J=>?_⟩)
    .exact⟨this.1,this.2,R.2.1,R.2.2⟩
    .rw[Qe]at A;split at A
     .cases A;rw[cH];exact f0
     .exact g4 I e2 A
    .rw[i0];rw[Qe]at A;split at A
     .rename_i C;subst C;cases A;have k0:B<sz:=by rw[<-f0,<-cH row off xs];exact(OB.1 J).1
      rcases fQ row off xs B p2 J with⟨k1,k3⟩|⟨k1,k3⟩
      .have a1:B-off<xs.length:=(OB.1 k3).1;rw[am (by omega),show q*sz+B-(q*sz+off)=B-off by omega];exact hv _ p2 k3
      .rw[be (by omega)];exact g5 q row B p2 Y k3
     .rename_i C;have k0:B<sz:=by rw[<-g4 I e2 A];exact(OB.1 J).1
      rw[be ?_]
      .exact g5 I e2 B p2 A J
      .intro⟨e1,e3⟩;rcases QW q I with o0|heq|hgt
       .have:(q+1)*sz<=I*sz:=O3 _ o0;rw[P5]at this;omega
       .exact C heq
       .have:(I+1)*sz<=q*sz:=O3 _ hgt;rw[P5]at this;omega
 obtain⟨w',h1,A,J⟩:=key;refine⟨w',M,N,?_,A,J⟩;simp only[execOp,ho];simp[v0,z0,h1]
theorem ug{es:List (List PV)}{q off:Nat}{row xs:List PV}(b:es[q]? =co row)(h:setCells row off xs=row):es.set q (setCells row off xs)=es:=by
 rw[h];refine QE fun i=>?_;rw[Qe];split
 .rename_i e;subst e;split
  .exact b.symm
  .rename_i g;rw[List.getElem?_eq_none (by omega)]
 .rfl
theorem oF(A:bn P ty){all rest:List Oper}{o:Oper}{t:TypeId}{a x:Operand}(ho:o.op= .store t a x)(hd:o.dst=io)(hg:o.guard=io){i sz q off:Nat}{e:bA}(he:ty t=co e){es:List (List PV)}{row xs:List PV}
  (ha:ev s.f a= .cD i sz q off) (hi:s.h.get i=co (.row sz es)) (D:es[q]? =co row) (C:(ev s.f x).cells=co xs) (B:xs.length=e.size) (j:off+e.size<=sz) (y:ew xs=is) (b:setCells row off xs=row)
  (h:GO P nt (.ops all rest::k) Q ⟨s.f,(i,co (.row sz es))::s.h,s.nx⟩):GO P nt (.ops all (o::rest)::k) Q s:=
 cG hg (oc A ho hd he ha hi D C B j y) fun u hu=>by subst hu;rw[ug D b];exact h
theorem kq(A:bn P ty){o:Oper}{t:TypeId}{a x:Operand}(ho:o.op= .store t a x)(hd:o.dst=io){i sz q off:Nat}{e:bA}(he:ty t=co e){es:List (List PV)}{row xs:List PV}
  (ha:ev s.f a= .cD i sz q off) (hi:s.h.get i=co (.row sz es)) (D:es[q]? =co row) (C:(ev s.f x).cells=co xs) (B:xs.length=e.size) (j:off+e.size<=sz) (y:ew xs=is) (b:setCells row off xs=row):
  OT P nt o s fun u=>u=⟨s.f,(i,co (.row sz es))::s.h,s.nx⟩:=by
 have:=oc (P:=P) (nt:=nt) A ho hd he ha hi D C B j y;rwa[ug D b]at this
theorem gP(u:bn P ty){o:Oper}{t:TypeId}{a:Operand}(ho:o.op= .load t a){e:bA}(he:ty t=co e){i sz q off:Nat}{es:List (List PV)}{row:List PV}{v:PV}
  (ha:ev s.f a= .cD i sz q off) (hi:s.h.get i=co (.row sz es)) (A:es[q]? =co row) (hr:fz e (row.drop off)=co v):
  ∀M N b w,Fits M N s nt b w-> ∃x,(execOp b.eval o).run P w= .ok (.value x) w∧VR M N (· <s.nx) v x:=by
 have hb:behind s.h (.cD i sz q off)=co (row.drop off):=by
  simp only[behind,hi,A,Nat.beq_refl]
 have j:gj ty s o.op=co (v,True):=by
  rw[ho];simp only[gj,he,ha,hb,hr]
 intro M N b w y;exact o6 u y j ac
def HL(P:Program)(nt:NT)(all:List Oper)(s:AS):List (Nat×Oper)->Prop
 | []=>True
 |x::r=>eB P nt all s x.2∧HL P nt all s r
theorem HL.mem{all:List Oper}{l:List (Nat×Oper)}(h:HL P nt all s l): ∀x∈l,eB P nt all s x.2:=by
 induction l with
 |nil=>intro x b;cases b
 |cons y r ih=>
  intro x b;rcases OP.1 b with e|m
  .rw[e];exact h.1
  .exact ih h.2 x m
theorem sW(y:bn P ty){all:List Oper}{o:Oper}{t:TypeId}{a:Operand}(ho:o.op= .load t a)(hg:bS nt all s.f o=co is){d:Nat}(hd:o.dst=co d)(j:O1 d nt=is){e:bA}(he:ty t=co e){i sz q off:Nat}{es:List (List PV)}{row:List PV}{v:PV}
  (ha:ev s.f a= .cD i sz q off) (hi:s.h.get i=co (.row sz es)) (A:es[q]? =co row) (hr:fz e (row.drop off)=co v) (hs:an v (s.f.get d)):eB P nt all s o:=fun M N b w u=>by
 obtain⟨x,C,B⟩:=gP y ho he ha hi A hr M N b w u;refine⟨x,.inl ⟨eP hg u,.inl C⟩,?_⟩;rw[hd];exact sV hd Z hs (u.put d v x (Oy j) B)
theorem Hd(A:bn P ty)(H:List Nat){all:List Oper}{todo pend:List (Nat×Oper)}{j:Nat}{o:Oper}{s':AS}{J I:Prop}(hrd:eH todo=[(j,o)])(hg:bS nt all s.f o=co is)(hpb:gI all pend o=is)(hE:mH todo [j]=is)
  (hag:mI ty nt all s todo pend=co J) (hCA:J) (C:OT P nt o s (fun t=>t=s')) (hag2:dy ty nt all s' ((aX pend o).filter fun x=>!H.any (O2 x.1))=co I) (hC2:I) (hH:HL P nt all s' ((aX pend o).filter fun x=>H.any (O2 x.1)))
  (h:GO P nt (.bR all (todo.filter fun x=>!O2 x.1 j) (aX pend o)::k) Q s'):GO P nt (.bR all todo pend::k) Q s:=by
 have u:(j,o)∈eH todo:=by rw[hrd];simp
 obtain⟨R,B⟩:=Pa.1 u;simp only[PF,QD,Pz]at B;have b: ∀y∈todo,aN y.2=is-> ∀y∈pend,eB P nt all s y.2:=by
  intro y D G;unfold mI at hag;split at hag
  .exact c6 A hag hCA
  .rename_i h2;have:=Pz.1 h2 y D;rw[G]at this;exact absurd Z this
 refine qY hE ⟨_,R,B.1⟩ b fun j' o' Y _ hu=>?_;simp only[OM]at Y;subst Y;have:=hu o R;subst this
 refine⟨B.1,fun y D _=>by simpa using B.2 y D,hpb,hg,_,C,fun t ht=>by
  subst ht;refine⟨fun x hx=>?_,h⟩;cases hb:H.any (O2 x.1) with
  |true=>exact hH.mem x (Pa.2 ⟨hx,hb⟩)
  |false=>exact c6 A hag2 hC2 x (Pa.2 ⟨hx,by simp only[hb];rfl⟩)⟩
theorem xL(y:bn P ty)(H:List Nat){all:List Oper}{todo pend:List (Nat×Oper)}{j:Nat}{o:Oper}{c:Call}{g:FuncId}{asv args:List PV}{os:List AO}{r:PV}{C:AH}{D:Nat}{s':AS}{B A:Prop}(L:List Nat)(hc:bI P g args os r C D)
  (hrd:eH todo=[(j,o)]) (ho:o.op= .call c) (ha:bz s.f c=co (g,asv))
  (hn:ch L=is) (hl:L.all (fun j=>O1 j s.nx)=is) (u:L.map s.h.get=os.map fun o=>co (o.cj (sig L s.nx))) (b:asv=cW (sig L s.nx) args) (hp:putDst nt o (r.cj (sig L s.nx)) (aQ s L C D)=co s')
  (hg:bS nt all s.f o=co is) (hpb:gI all pend o=is) (hE:mH todo [j]=is)
  (hag:mI ty nt all s todo pend=co B) (hCA:B) (hag2:dy ty nt all s' ((aX pend o).filter fun x=>!H.any (O2 x.1))=co A) (hC2:A) (hH:HL P nt all s' ((aX pend o).filter fun x=>H.any (O2 x.1)))
  (h:GO P nt (.bR all (todo.filter fun x=>!O2 x.1 j) (aX pend o)::k) Q s'):GO P nt (.bR all todo pend::k) Q s:=
 Hd y H hrd hg hpb hE hag hCA (yU L hc ho ha hn hl u b hp) hag2 hC2 hH h
end
theorem dN.Mu{sz:Nat}{es u:List (List PV)}(hl:es.length=u.length)(h: ∀(k:Nat) (e y:List PV),es[k]? =co e->u[k]? =co y->fN e y):dN (.row sz es) (.row sz u):=by
 have x:u=[]↔es=[]:=by rw[<-P0,<-P0,hl]
 refine⟨fun C=>?_,fun M N U w i D=>?_⟩
 .cases es with
  |nil=>rw[x.2 Z]at C;cases C
  |cons=>rfl
 .rcases D with A|⟨A,c,T,g1,g2,g3,g4,g5⟩
  .exact .inl (x.2 A)
  .refine .inr ⟨A,c,T,g1,g2,by rw[<-hl];exact g3,fun k y b=>?_,fun k y j p b G=>?_⟩
   .have hk:k<es.length:=by rw[hl];exact(OB.1 b).1
    have:=h k _ y (OD hk) b;rw[<-this.length];exact g4 k _ (OD hk)
   .have hk:k<es.length:=by rw[hl];exact(OB.1 b).1
    obtain⟨q,I,B⟩:=(h k _ y (OD hk) b).get j p G;exact B _ _ _ _ (g5 k _ j q (OD hk) I)
def cY:List (List PV)->List (List PV)->Prop
 | [],[]=>True
 |p::r,q::s=>fN p q∧cY r s
 |_,_=>False
theorem cY.length: ∀{a b:List (List PV)},cY a b->a.length=b.length
 | [],[],_=>rfl
 |_::_,_::_,h=>congrArg (· +1) (cY.length h.2)
 | [],_::_,h=>h.elim
 |_::_,[],h=>h.elim
theorem cY.get: ∀{a b:List (List PV)},cY a b-> ∀(k:Nat) (e j:List PV),a[k]? =co e->b[k]? =co j->fN e j
 | [],[],_,_,_,_,h,_=>by simp at h
 |p::r,q::s,hh,k,e,j,h,g=>by
  cases k with
  |zero=>simp at h g;subst h;subst g;exact hh.1
  |succ k=>exact cY.get hh.2 k e j (by simpa using h) (by simpa using g)
 | [],_::_,hh,_,_,_,_,_=>hh.elim
 |_::_,[],hh,_,_,_,_,_=>hh.elim
theorem fN.refl: ∀a:List PV,fN a a
 | []=>trivial
 |p::r=>⟨.refl p,fN.refl r⟩
theorem cY.refl: ∀a:List (List PV),cY a a
 | []=>trivial
 |p::r=>⟨fN.refl p,cY.refl r⟩
theorem cY.app: ∀{a b c d:List (List PV)},cY a b->cY c d->cY (a++c) (b++d)
 | [],[],_,_,_,h=>h
 |_::_,_::_,_,_,h,g=>⟨h.1,cY.app h.2 g⟩
 | [],_::_,_,_,h,_=>h.elim
 |_::_,[],_,_,h,_=>h.elim
theorem Ll{n i:Nat}{σ:Nat->Nat}{h r:AH}{α:Type}{sz:Nat}{es:List (List PV)}{l:List α}{f:α->List IV}(ho:h.get (σ i)=co (.row sz es))(he:cY es (l.map fun x=>(f x).map .iv))(hi:O1 i n=is)(hr:mf n σ h r):mf n σ h ((i,co (aT sz l f))::r):=
 ⟨⟨_,ho,(dN.Mu he.length he.get).trans (zr σ Z)⟩,Oy hi,dG n,hr⟩
section
variable {P:Program} {ty:Ty} {nt:NT} {s:AS}
theorem HB(j:bn P ty){o:Oper}{u v:TypeId}{x:Operand}(ho:o.op= .slice u x io io io){C D:bA}(hu:ty u=co C){n:Nat}(A:C.k= .arr n v)(J:ty v=co D)
  {i off:Nat} (R:ev s.f x= .ptr i off): ∀M N a w,Fits M N s nt a w-> ∃x,(execOp a.eval o).run P w= .ok (.value x) w∧VR M N (· <s.nx) (.mA i off n) x:=by
 intro M N a w I;have B:P.underlying u=co (.array n v):=by
  have:=(j u _ hu).2.1;rw[A]at this;exact this
 have b:=aG I.2.1 x;rw[R]at b;generalize Y:a.eval x=y at b;cases b with
 |ptr _ _ hU=>
  refine⟨.slice (co ⟨N.az i,off,io⟩) n n,?_,.mA _ _ _ hU⟩;simp only[execOp,ho,Y,QR];refine aW ?_;have G:(⟨N.az i,off,io⟩:Addr).add 0=⟨N.az i,off,io⟩:=by rw[di,Qn]
  simp[Instr.sliceAt,run_underlying B,Instr.sliceBounds,aO (j v _ J),Instr.sureAddr,G]
theorem Em(f0:bn P ty){o:Oper}{x y:Operand}{t t' u:TypeId}(ho:o.op= .call ⟨.builtin .copy, #[x,y], #[t,t']⟩){e C:bA}(ht:ty t=co e)(hk:e.k= .aJ (.slice u))(hu:ty u=co C)
  {i off n:Nat} {cs:List PV} {T:Option TypeId} {news:List (List PV)} {py:PV} (hx:ev s.f x= .mA i off n) (hi:s.h.get i=co (.cells cs T)) (x0:ev s.f y=py) (hy:Src s.h C.size py news) (c0: ∀e∈news,ew e=is)
  (hn:news.length<=n) (v0:off+news.length*C.size<=cs.length)
  {s':AS} (hp:putDst nt o (.iv (.v (.int .i64 news.length))) ⟨s.f,(i,co (.cells (cs.take off++news.flatten++cs.drop (off+news.length*C.size)) T))::s.h,s.nx⟩=co s'):OT P nt o s (fun t=>t=s'):=by
 refine OT.value hp fun M N a w J=>?_
 have o0:P.underlying t=co (.slice u):=by
  have:=(f0 t _ ht).2.1;rw[hk]at this;exact this.1
 have g0:=aG J.2.1 x;rw[hx]at g0;have q0:=aG J.2.1 y;rw[x0]at q0;obtain⟨m0,ao,c,s0,G⟩:=hy.ok J q0;have I:=gV m0;obtain⟨B,CT,g1,g2,g3,g4,g5⟩:=J.1.obj i _ hi;have r0:a.eval x= .slice (co ⟨N.az i,off,io⟩) n n:=by
  generalize a.eval x=z at g0;cases g0;rfl
 have D: ∀v w',(Builtin.copy_ #[t,t'] o.type #[a.eval x,a.eval y]).run P w= .ok v w'->(execOp a.eval o).run P w= .ok (.value v) w':=by
  intro v w' h;simp only[execOp,ho,resolve];simp[invoke,builtin,h]
 have a0:Nat.min news.length n=news.length:=Nat.min_eq_left hn;by_cases k0:news=[]
 .subst k0;have t0:cs.take off++([]:List (List PV)).flatten++cs.drop (off+([]:List (List PV)).length*C.size)=cs:=by simp
  rw[t0];obtain⟨q1,q2⟩:=J.1.write hi Z w (.cells cs T) Z Z Z Z (fun _ _=>rfl) ⟨B,CT,g1,g2,g3,g4,g5⟩;refine⟨.int .i64 0,w,M,N,D _ _ ?_,q1,⟨q2,J.2⟩,.iv _ _ (.v _)⟩;rw[r0,s0];have hl:(Builtin.firstCells C.size 0 (.slice ao 0 c)).run P w= .ok #[] w:=by
   cases ao with
   |none=>simp[Builtin.firstCells]
   |some a=>simp[Builtin.firstCells,loadCells,loadCellsFrom]
  simp[Builtin.copy_,run_underlying o0,Builtin.lenOf,aO (f0 u _ hu),hl,storeCells,goInt]
 .obtain⟨b,i0,rfl,R⟩:=G k0;obtain⟨vs,v1,v2,v3⟩:=ob (s:=s) R;have p0:vs.length=news.length*C.size:=by rw[v1,I]
  have Y: ∀z∈vs,z.oneCell'=is:=by
   intro z hz;obtain⟨j,A⟩:=Po hz;have j0:j<news.flatten.length:=by rw[<-v1];exact(OB.1 A).1
   obtain⟨k,e,i2,h1,h2,_⟩:=j9 m0 j _ (OD j0);have h3:=v3 j _ (OD j0);have h4:=h3.one (gr (c0 e (Pe h1)) i2 _ h2);rw[OC,A]at h4;exact h4
  have hl:=run_firstCells_some (P:=P) w C.size news.length ⟨b,i0,io⟩ news.length c vs p0 v2;have n0:=run_storeCells_at P (N.az i) off CT vs 0 B w g1 (by omega) Y;simp only[Qn]at n0;have d0:=setRow_heap w (N.az i) B (B.toList.take off++vs++B.toList.drop (off+vs.length)).toArray CT (0,0) g1;have b0: ∀b,b≠N.az i->(w.setRow (N.az i) (B.toList.take off++vs++B.toList.drop (off+vs.length)).toArray).heap[b]? =w.heap[b]? :=by
   intro b hb;simp only[World.setRow,Pd];rw[be (fun e=>hb e.symm)]
  have w0: ∀(j:Nat) (p:PV),(cs.take off++news.flatten++cs.drop (off+news.length*C.size))[j]? =co p->VR M N (· <s.nx) p ((B.toList.take off++vs++B.toList.drop (off+vs.length)).toArray.getD j undef):=by
   intro j p A;rw[Oz,Pt];have z0:(cs.take off).length=off:=by rw[PN];omega
   have e0:(B.toList.take off).length=off:=by rw[PN,Qt];omega
   rw[O0]at A ⊢;rcases PB j off with h1|h1
   .rw[OV (by omega)]at A ⊢;rw[Pn,am h1]at A ⊢;rw[O6,<-Oz];exact g4 j p A
   .rw[OQ (by omega),z0]at A;rw[OQ (by omega),e0];rcases PB (j-off) news.flatten.length with h2|h2
    .rw[OV h2]at A;rw[OV (by rw[v1];exact h2),<-OC];exact v3 _ p A
    .rw[OQ h2,Py,I]at A;rw[OQ (by rw[v1];exact h2),Py,p0,O6,<-Oz];rw[I]at h2;have e1:off+news.length*C.size+(j-off-news.length*C.size)=j:=by omega
     rw[e1]at A;rw[e1];exact g4 j p A
  obtain⟨q1,q2⟩:=J.1.write hi Z (w.setRow (N.az i) (B.toList.take off++vs++B.toList.drop (off+vs.length)).toArray) (.cells (cs.take off++news.flatten++cs.drop (off+news.length*C.size)) T) Z Z Z (by simp) b0
   ⟨_,CT,d0,by simp;omega,by simp[I];omega,w0,g5⟩
  refine⟨.int .i64 news.length,_,M,N,D _ _ ?_,q1,⟨q2,J.2⟩,.iv _ _ (.v _)⟩;rw[r0,s0];simp[Builtin.copy_,run_underlying o0,Builtin.lenOf,aO (f0 u _ hu),a0,hl,n0,goInt]
end
end
end Go.Al
namespace Go.Al
open Go.Sort Go.RowKit
def EJ(P:Program)(C k:Nat):Prop:=
 (∀{α:Type} [Inhabited α] (enc:α->List Value) (_: ∀x,(enc x).length=k) (_: ∀x,∀v∈enc x,v.oneCell'=is) (j:α->α->Int) (_:SWO fun x y=>kw (j x y<0)) (g:Nat) (B:Array Value) (b a0 b0:Nat) (d:Array α) (w:World)
  (_: ∀args w,(callFunc g args).run P w= .ok (.enter g args) w)
  (_: ∀(m:Nat) (os:Array Obj) (dk:Array α),dk.size=d.size-> ∀x y:α,
   Calls P g (#[.agg (enc x).toArray,.agg (enc y).toArray]++B) (grow (putRowK enc k (Sort.ahead w m) b a0 dk) os) fun e w'=>e= .returned (.int .i64 (j x y))∧ ∃q A,w'=grow ((grow (putRowK enc k (Sort.ahead w m) b a0 dk) os).drewN q) A)
  (_:HoldsK enc k w b a0 d) (_:b<w.heap.size) (_:d.size<4611686018427387904),
  Calls P C #[.slice (co ⟨b,a0,io⟩) d.size b0,.func (.func g) #[] B] w fun e w'=>
   e= .returned (.tuple #[])∧ ∃u n os,PermIn 0 d.size d u∧SortedIn (fun x y=>kw (j x y<0)) 0 d.size u∧w'=grow (putRowK enc k (Sort.ahead w n) b a0 u) os)∧
 ∀(p:Option Addr) (b0:Nat) (D:Value) (w:World),Calls P C #[.slice p 0 b0,D] w fun e w'=>e= .returned (.tuple #[])∧w'=w
def IV.flat:IV->Bool
 | .agg _=>jp
 | .v x=>x.oneCell'
 |_=>is
theorem IR.one{M:Mem}{c:IV}{v:Value}(h:IR M c v)(hf:c.flat=is):v.oneCell'=is:=by
 cases h with
 |v=>exact hf
 |agg=>cases hf
 |_=>rfl
theorem uf{β:Type}{R:β->β->Prop}: ∀{a b:List β},a.Perm b->a.Pairwise R->b.Pairwise R->(∀x∈a,∀y∈a,R x y->R y x->x=y)->a=b
 | [],b,h,_,_,_=>h.nil_eq
 |x::a,[],h,_,_,_=>absurd h.length_eq (by simp)
 |x::a,y::b,h,h1,h2,h3=>by
  rw[PG]at h1 h2;have e:x=y:=by
   have hx:x∈y::b:=h.mem_iff.1 (OO ..);have j:y∈x::a:=h.mem_iff.2 (OO ..);rcases OP.1 hx with hx|hx
   .exact hx
   .rcases OP.1 j with hy'|hy'
    .exact hy'.symm
    .exact h3 x (OO ..) y j (h1.1 y hy') (h2.1 x hx)
  subst e;rw[uf (h.cons_inv) h1.2 h2.2 fun u hu v A=>h3 u (ON _ hu) v (ON _ A)]
theorem G6{M u:Mem}{N x:Nm}{y:Nat->Prop}{D:AH}{U:Nat->Prop}{w w':World}(j:Ext M N U [] w u x y D w'): ∃q os,w'=grow (w.drewN q) os:=by
 refine⟨w'.drawn-w.drawn,w'.heap.extract w.heap.size w'.heap.size,?_⟩;have hh:w'.heap=w.heap++w'.heap.extract w.heap.size w'.heap.size:=by
  refine Array.ext_getElem? fun b=>?_;by_cases hb:b<w.heap.size
  .rw[Pc hb];exact j.dc b hb fun i o G=>nomatch G
  .rw[QX (by omega),Array.getElem?_extract];have:=j.size;split
   .congr 1;omega
   .rw[QP];omega
 have hd:=j.output.drawn;have A:=j.os;have B:=j.tape;have C:=j.output.out;cases w';cases w;simp only[grow,World.drewN] at*
 subst A B C;simp only[World.mk.injEq,and_true,true_and];exact⟨hh,by omega⟩
def x3{β:Type}(M:Mem)(ev:β->List IV)(ok:β->Prop)(k:Nat):Type:=
 {p:β×List Value//ok p.1∧p.2.length=k∧(∀v∈p.2,v.oneCell'=is)∧ ∀j c,(ev p.1)[j]? =co c->IR M c (p.2.getD j undef)}
theorem tV{β:Type}{l:List β}{f:β->List IV}{i:Nat}{e:List PV}(h:(l.map fun x=>(f x).map PV.iv)[i]? =co e): ∃s,l[i]? =co s∧e=(f s).map PV.iv:=by
 rw[OH,OJ]at h;obtain⟨s,h1,rfl⟩:=h;exact⟨s,h1,rfl⟩
set_option maxHeartbeats 1000000 in
theorem AP{P:Program}{fs g k:Nat}{β:Type}(hS:EJ P fs k)(k1:hP P fs)(j1:hP P g)(r0:0<k)(ev:β->List IV)(a0:β->β->Int)(ok:β->Prop)
  (l1: ∀x y,ok x->ok y->Pure P g [ag (ev x),ag (ev y)] (pI (a0 x y))) (e0: ∀x,(ev x).length=k) (n1: ∀x,∀c∈ev x,c.flat=is)
  (MM: ∀x,ok x-> ¬a0 x x<0) (tr: ∀x y z,ok x->ok y->ok z->a0 x y<0->a0 y z<0->a0 x z<0) (NF: ∀x y z,ok x->ok y->ok z-> ¬a0 x y<0-> ¬a0 y z<0-> ¬a0 x z<0)
  (l l':List β) (hl: ∀x∈l,ok x) (Mb: ∀x∈l,∀y∈l,¬a0 x y<0-> ¬a0 y x<0->x=y) (hp:l.Perm l') (hs:l'.Pairwise fun x y=> ¬a0 y x<0) (r1:l.length<=1000000000000)
  (pv:PV) (x1: ∀M N U v,VR M N U pv v->v= .func (.func g) #[] #[]):
  bI P fs [.sl 0 0 l.length k,pv] [aT k l ev] (.bh []) [(0,co (aT k l' ev))] 1:=by
 refine⟨k1,fun M N w vs hr g0 hv=>?_⟩;obtain⟨v,v1,rfl⟩: ∃v v1,vs=[v,v1]:=by
  match vs,g0 with
  | [v,v1],_=>exact⟨v,v1,rfl⟩
 have J:=hv 0 _ Z;have g1:=x1 _ _ _ _ (hv 1 _ Z);simp only[Qs]at J;simp only[PR,Qs]at g1;subst g1;have t1:=hr.obj 0 _ Z;cases l with
 |nil=>
  have q1:l'=[]:=(hp.nil_eq).symm;subst q1;obtain⟨p,b0,rfl⟩: ∃p b0,v= .slice p 0 b0:=by
   generalize B:PV.sl 0 0 ([]:List β).length k=q at J;cases J with
   |sl i off len sz b0 h h0 h1 hc he=>cases B;simp at h0
   |lC i sz h=>exact⟨_,_,rfl⟩
   |sle i sz b0 h hc he=>cases B
   |_=>cases B
  refine(hS.2 p b0 _ w).mono ?_;rintro e w' ⟨rfl,rfl⟩;exact⟨_,M,N,.bh [],_,1,rfl,⟨rfl,rfl,rfl⟩,.refl _ _ _ _ _,hr,.bh [] #[] Z (by simp)⟩
 |cons s0 r=>
  generalize hL:s0::r=L at*
  have k0:0<L.length:=by rw[<-hL];simp
  obtain⟨b0,z1⟩: ∃b0,v= .slice (co ⟨N.az 0,0,io⟩) L.length b0:=by
   generalize hn:L.length=n at J k0;generalize B:PV.sl 0 0 n k=q at J;cases J with
   |sl i off len sz b0 h h0 h1 hc he=>cases B;exact⟨b0,by simp⟩
   |lC i sz h=>cases B;omega
   |_=>cases B
  subst z1;rcases t1 with h0|⟨_,c,T,h1,h2,h3,h4,h5⟩
  .rw[<-hL]at h0;cases h0
  rw[O7]at h3;have t0:(aT k L ev).real=is:=by rw[<-hL];rfl
  have s1:=hr.lt (i:=0) Z t0;have m0: ∀(i:Nat) (x:β),L[i]? =co x-> ∀j q,(ev x)[j]? =co q->IR M q (c.getD (i*k+j) undef):=fun i x u j q B=>by
   have:=h5 i ((ev x).map .iv) j (.iv q) (by rw[OH,u];rfl) (by rw[OH,B];rfl);cases this with
   |iv _ _ h=>exact h
  let x0:(i:Nat)->(h:i<L.length)->x3 M ev ok k:=fun i h=>⟨(L[i],(O9 k).map fun j=>c.getD (i*k+j) undef),by
   have hg: ∀j,j<k-> ∃q,(ev L[i])[j]? =co q:=fun j A=>⟨_,OD (by rw[e0];exact A)⟩
   refine⟨hl _ (Pm h),by simp,fun v hv=>?_,fun j q B=>?_⟩
   .rw[Pg]at hv;obtain⟨j,A,rfl⟩:=hv;obtain⟨q,B⟩:=hg j (PW.1 A);exact(m0 i _ (OD h) j q B).one (n1 _ q (Pe B))
   .have A:j<k:=by rw[<-e0 L[i]];exact(OB.1 B).1
    have:=m0 i _ (OD h) j q B;rw[OC,OH,Q8 A]
    exact this⟩
  haveI:Inhabited (x3 M ev ok k):=⟨x0 0 k0⟩
  let d:Array (x3 M ev ok k):=Array.ofFn (n:=L.length) fun i=>x0 i.1 i.2
  have D:d.size=L.length:=by simp[d]
  let enc:x3 M ev ok k->List Value:=fun x=>x.1.2
  have I: ∀x,(enc x).length=k:=fun x=>x.2.2.1
  have z0: ∀i (h:i<L.length),d[i]! =x0 i h:=fun i h=>by
   rw[getElem!_pos d i (by rw[D];exact h)];simp[d]
  have hH:HoldsK enc k w (N.az 0) 0 d:=by
   intro t ht;rw[size_flatK,D]at ht;have B:t/k<L.length:=Nat.div_lt_of_lt_mul (by rw[RX];exact ht);have hm:t % k<k:=Nat.mod_lt _ r0;have hb:t/k*k+t % k=t:=Nat.div_add_mod' t k;have f1:t<c.size:=by omega
   constructor
   .simp only[World.cell?,h1,O8,Option.isSome_none,Qb,if_false];rw[get_flatK _ _ _ _ (by rw[D];exact ht),z0 _ B];show c[t]? =co (((O9 k).map fun j=>c.getD (t/k*k+j) undef)[t % k]!);rw[getElem!_pos _ _ (by simpa using hm)];simp only[P7,List.getElem_range,hb];rw[O4 f1,Oz,O4 f1];rfl
   .simp[World.frozen?,h1]
  have hO:SWO fun x y:x3 M ev ok k=>kw (a0 x.1.1 y.1.1<0):=
   ⟨fun x=>decide_eq_false (MM _ x.2.1),fun x y z a b=>decide_eq_true (tr _ _ _ x.2.1 y.2.1 z.2.1 (of_decide_eq_true a) (of_decide_eq_true b)),
    fun x y z a b=>decide_eq_false (NF _ _ _ x.2.1 y.2.1 z.2.1 (of_decide_eq_false a) (of_decide_eq_false b))⟩
  have R: ∀x:x3 M ev ok k,VR M N (· <0) (ag (ev x.1.1)) (.agg (enc x).toArray):=fun x=>by
   refine .agg _ _ (by simp[I,e0]) fun j p A=>?_;rw[OH,OJ]at A;obtain⟨q,B,rfl⟩:=A;refine .iv _ _ ?_;have:=x.2.2.2.2 j q B;rw[Oz,Pt,<-OC];exact this
  have p0: ∀(m:Nat) (os:Array Obj) (dk:Array (x3 M ev ok k)),dk.size=d.size-> ∀x y:x3 M ev ok k,
    Calls P g (#[.agg (enc x).toArray,.agg (enc y).toArray]++ #[]) (grow (putRowK enc k (Sort.ahead w m) (N.az 0) 0 dk) os) fun e w'=>
     e= .returned (.int .i64 (a0 x.1.1 y.1.1))∧ ∃q a2,w'=grow ((grow (putRowK enc k (Sort.ahead w m) (N.az 0) 0 dk) os).drewN q) a2:=by
   intro m os dk _ x y;generalize hW:grow (putRowK enc k (Sort.ahead w m) (N.az 0) 0 dk) os=W;have f0: ∀b,b<w.heap.size->b≠N.az 0->W.heap[b]? =w.heap[b]? :=fun b hb hn=>by
    rw[<-hW];show((w.heap.modify (N.az 0) _)++os)[b]? =_;rw[Pc (by simpa using hb),Pd,be fun e=>hn e.symm]
   have v0:Rel M N (· <([]:List AO).length) (cP 0 []) W:=
    ⟨fun b c hb=>(hr.dR b c hb).mono (f0 b (hr.dR b c hb).lt fun e=>by
      have:=hr.dD 0 _ Z t0
      rw[e]at hb;rw[hb]at this;cases this),
     fun i o u=>(nomatch u),fun i o u=>(nomatch u),fun i o u=>(nomatch u),fun i j o p u=>(nomatch u)⟩
   refine((l1 x.1.1 y.1.1 x.2.1 y.2.1).2 M N W [.agg (enc x).toArray,.agg (enc y).toArray] v0 Z fun j p A=>?_).mono ?_
   .match j with
    |0=>cases A;exact R x
    |1=>cases A;exact R y
    |j+2=>simp at A
   .rintro e w' ⟨v,M',N',r,h',n',rfl,⟨rfl,rfl,rfl⟩,hx,_,hv⟩;cases hv with
    |iv _ _ h=>cases h;exact⟨rfl,G6 hx⟩
  have Y:=hS.1 enc I (fun x=>x.2.2.2.1) (fun x y=>a0 x.1.1 y.1.1) hO g #[] (N.az 0) 0 b0 d w j1 p0 hH s1 (by omega);rw[D]at Y;refine Y.mono ?_;rintro e w' ⟨rfl,d',n,os,hpm,hst,rfl⟩;have c0:d'.size=L.length:=hpm.1.trans D;have i1:(d'.toList.map fun x=>x.1.1)=l':=by
   have a1:(d.toList.map fun x=>x.1.1)=L:=by
    refine List.ext_getElem (by simpa using D) fun i h1 h2=>?_;have h3:i<L.length:=h2;have:=z0 i h3;rw[getElem!_pos d i (by omega)]at this;rw[P7,Array.getElem_toList,this]
   have j0:d'.toList.Perm d.toList:=by
    have:=hpm.2.2;rw[show d'.extract 0 L.length=d' by rw[<-c0,RW],show d.extract 0 L.length=d by rw[<-D,RW]]at this;exact this
   refine uf ((j0.map _).trans (by rw[a1];exact hp)) ?_ hs fun x hx y hy a b=>?_
   .rw[PL];intro i j u A p1;simp only[O7,Qt]at u A;have:=of_decide_eq_false (hst i j (OS _) p1 (by omega));rw[getElem!_pos d' i u,getElem!_pos d' j A]at this;simpa using this
   .have hm: ∀z,z∈(d'.toList.map fun x=>x.1.1)->z∈L:=fun z hz=>by
     rw[<-a1];exact((j0.map _).mem_iff).1 hz
    exact Mb x (hm x hx) y (hm y hy) b a
  subst i1;generalize hW:putRowK enc k (Sort.ahead w n) (N.az 0) 0 d'=w1;have q0:w1.heap=w.heap.modify (N.az 0) (onCells (putCells id 0 (flatK enc k d'))):=by rw[<-hW];rfl
  have d1:w1.heap.size=w.heap.size:=by rw[q0];simp
  have w0:OR M N (· <1) w1 0 (aT k (d'.toList.map fun x=>x.1.1) ev):=by
   refine .inr ⟨r0,putCells id 0 (flatK enc k d') c,T,?_,?_,?_,?_,?_⟩
   .rw[q0,Pd,am Z,h1];rfl
   .simp[putCells,h2]
   .simp only[O7,Qt,c0,putCells,Array.size_mapIdx];omega
   .intro i e he;obtain⟨s,_,rfl⟩:=tV he;simp[e0]
   .intro i e j p he A;obtain⟨s,b1,rfl⟩:=tV he;rw[OH,OJ]at A;obtain⟨q,B,rfl⟩:=A;rw[OH,OJ]at b1;obtain⟨y,hy,rfl⟩:=b1;have u:i<d'.size:=by
     have:=(OB.1 hy).1;simpa using this
    have A:j<k:=by rw[<-e0 y.1.1];exact(OB.1 B).1
    have i0:=O3 k (show i+1<=d'.size from u);rw[PD,Nat.one_mul]at i0;have m1:d'[i]! =y:=by
     rw[getElem!_pos d' i u];rw[O6,O4 u]at hy;exact Pl hy
    have d0:(putCells id 0 (flatK enc k d') c).getD (i*k+j) undef=(enc y).getD j undef:=by
     have o1:i*k+j<c.size:=by rw[c0]at i0;omega
     rw[Oz];simp only[putCells,Array.getElem?_mapIdx];rw[O4 o1,PI,PA,am ⟨OS _,by rw[size_flatK];omega⟩,Q4,id,get_flatK _ _ _ _ (by omega)];have e1:(i*k+j)/k=i:=by rw[RX,Nat.mul_add_div r0,Nat.div_eq_of_lt A];rfl
     have e2:(i*k+j) % k=j:=by rw[RX,Nat.mul_add_mod,Nat.mod_eq_of_lt A]
     rw[e1,e2,m1,getElem!_pos _ j (by rw[I];exact A),OC,OD (by rw[I];exact A)];rfl
    rw[d0];exact .iv _ _ (y.2.2.2.2 j q B)
  have G:=hr.write (i:=0) (o0:=aT k L ev) Z t0 w1 (aT k (d'.toList.map fun x=>x.1.1) ev) (by rw[<-hW];rfl) (by rw[<-hW];rfl) (by rw[<-hW];rfl) d1 (fun b hb=>by
   rw[q0,Pd,be fun e=>hb e.symm]) w0 (by rw[<-hW];exact Rn _ _)
  have n0:Rel M N (· <1) ((0,co (aT k (d'.toList.map fun x=>x.1.1) ev))::cP 0 [aT k L ev]) (grow w1 os):=G.2.more fun b hb=>by
   show(w1.heap++os)[b]? =_;rw[Pc hb]
  have C: ∀i o,AH.get [(0,co (aT k (d'.toList.map fun x=>x.1.1) ev))] i=co o->AH.get ((0,co (aT k (d'.toList.map fun x=>x.1.1) ev))::cP 0 [aT k L ev]) i=co o:=by
   intro i o h;rw[AH.au]at h ⊢;split at h
   .rename_i h6;rw[am h6];exact h
   .simp[AH.get]at h
  refine⟨_,M,N,.bh [],_,1,rfl,⟨rfl,rfl,rfl⟩,⟨G.1.os,G.1.tape,⟨G.1.output.out,G.1.output.drawn⟩,?_,?_,.refl _,fun b c h1 h2=>(nomatch (h1.symm.trans h2)),.refl _ _,fun _ h=>h,fun i o u=>G.1.ff i o (C i o u)⟩,?_,.bh [] #[] Z (by simp)⟩
  .show w.heap.size<=(grow w1 os).heap.size;rw[size_grow,d1];omega
  .intro b hb hn;have h7:=G.1.dc b hb hn;show(w1.heap++os)[b]? =_;rw[Pc (by omega)];exact h7
  .exact⟨n0.dR,fun i o u=>n0.used i o (C i o u),fun i o u=>n0.dD i o (C i o u),fun i o u=>n0.obj i o (C i o u),fun i j o p u A=>n0.inj i j o p (C i o u) (C j p A)⟩
end Go.Al
namespace Go.Al
open Go.MapKept
section
section
variable {P:Program} {ty:Ty} {nt:NT} {s:AS} {Q:AQ} {k:List KI}
theorem Bb(Y:bn P ty){o:Oper}{t:TypeId}{x:Operand}(ho:o.op= .range t x){i:Nat}{kc:KC}{V:Type}{e:V->IV}{z:V}{I:Value}{G:PV->V}{m:List (kc.K×V)}(hx:ev s.f x= .mp i)(hi:s.h.get i=co (.map kc e z I G m))
  {te:bA} (ht:ty t=co te) {kt et:TypeId} (R:te.k= .aJ (.map kt et)) {d:Nat} (hd:o.dst=co d) (hlt:d<nt):
  OT P nt o s fun u=> ∃bs clock,bs.length=m.length∧bs.Nodup∧(∀b∈bs,b<clock)∧u=⟨(d,.ptr s.nx 0)::s.f,(s.nx,co (.dB (.mp i) clock []))::(i,co (.gi kc e z I G m bs clock))::s.h,s.nx+1⟩:=by
 have hu:P.underlying t=co (.map kt et):=by
  have:=(Y _ _ ht).2.1;rw[R]at this;exact this.1
 intro M N a w A K Z hk;have B:=aG A.2.1 x;rw[hx]at B;have J:a.eval x= .map (co (N.az i)):=by
  generalize a.eval x=y at B;cases B;rfl
 obtain⟨ents,clock,g1,g2,g3⟩:=A.1.obj i _ hi;obtain⟨q1,q2⟩:=A.1.write hi rfl w (.gi kc e z I G m (ents.toList.map MapEntry.born) clock) rfl rfl rfl rfl (fun _ _=>rfl) ⟨ents,g1,g2,g3,rfl⟩
 obtain⟨D,r1,r2,r3,r4,r5⟩:=q2.alloc (.mapIter (co (N.az i)) clock #[] clock) (.dB (.mp i) clock []) 0 (fun D h1 h2 h3=>
  ⟨N.az i,by have:=VR.mp (M:=M) (N:=D) (U:=(· <s.nx+1)) i (PY (A.1.used i _ hi));rwa[h3.az i (A.1.used i _ hi)]at this,by rw[h1];exact heap_alloc_new w _⟩)
 have C:(execOp a.eval o).run P w= .ok (.value (.pointer (co ⟨w.heap.size,0,io⟩))) (w.alloc (.mapIter (co (N.az i)) clock #[] clock)):=by
  simp only[execOp,ho,J];simp[Instr.range,run_underlying hu,getObj,Sem.run,g1,Result.andThen]
 unfold Oper.wp;rw[C];simp only[Oper.upon];refine hk M D _ _ _ (q1.trans r4) ?_ ⟨_,clock,by simp[g2.size],?_,fun b hb=>?_,rfl⟩
 .rw[hd];refine Fits.put (s:=⟨s.f,(s.nx,co (.dB (.mp i) clock []))::(i,co (.gi kc e z I G m (ents.toList.map MapEntry.born) clock))::s.h,s.nx+1⟩) ⟨r5,fun d=>(A.2.1 d).mono (.refl _) r3 (fun i hi=>PY hi),A.2.2⟩ d _ _ hlt ?_;have:=VR.ptr (M:=M) (N:=D) (U:=(· <s.nx+1)) s.nx 0 (by omega);rw[r1]at this;exact this
 .rw[List.Nodup,List.pairwise_map,PL];intro p q hp hq b0 he;have:=g2.inj p q _ _ (by rw[<-O6,OD hp]) (by rw[<-O6,OD hq]) he;omega
 .obtain⟨x,a0,rfl⟩:=Pg.1 hb;obtain⟨j,hj⟩:=Po a0;exact g2.lt j x (by simpa using hj)
theorem Di{o:Oper}{it:Operand}(ho:o.op= .next it jp){i j:Nat}(n0:ev s.f it= .ptr i 0){kc:KC}{V:Type}{e:V->IV}{z:V}{zv:Value}{dv:PV->V}{m:List (kc.K×V)}{bs A:List Nat}{clock:Nat}
  (hi:s.h.get i=co (.dB (.mp j) clock A)) (hj:s.h.get j=co (.gi kc e z zv dv m bs clock)) {d:Nat} (hd:o.dst=co d) (hlt:d<nt):
  OT P nt o s fun u=>((∀(q b:Nat),bs[q]? =co b->b∈A)∧u=⟨(d,.bh [.kb jp])::s.f,s.h,s.nx⟩)∨
   ∃(q:Nat) (x:kc.K×V) (b:Nat),m[q]? =co x∧bs[q]? =co b∧b∉A∧u=⟨(d,.bh [.kb is,kc.pk x.1,(e x.2).pv])::s.f,(i,co (.dB (.mp j) clock (A++ [b])))::s.h,s.nx⟩:=by
 intro M N a w hf K Z hk;have hx:=aG hf.2.1 it;rw[n0]at hx;have g0:=hf.1.obj i _ hi;have a0:N.az i<w.heap.size:=OR.lt g0 rfl;have f0:a.eval it= .pointer (co ⟨N.az i,0,io⟩):=by
  generalize a.eval it=y at hx;cases hx;rfl
 obtain⟨b0,d0,h1⟩:=g0;have m0:b0=N.az j:=by cases d0;rfl
 subst m0;obtain⟨ents,hb,h3,h4,h5⟩:=hf.1.obj j _ hj;have c0: ∀x∈ents.toList,x.born<clock:=by
  intro x hx;obtain⟨j,hj⟩:=Po hx;exact h3.lt j x (by simpa using hj)
 have e0: ∀q (G:q<ents.size),bs[q]? =co ents[q].born:=fun q G=>by
  rw[<-h5,OH,O6,O4 G];rfl
 unfold Oper.wp;rcases run_next_at (P:=P) w o.type (N.az i) (N.az j) clock clock A.toArray ents clock h1 hb c0 (OL _) with⟨g1,g2⟩|⟨x,k0,I,j0,g2⟩
 .have D:(execOp a.eval o).run P w= .ok (.value (.tuple #[.bool jp])) w:=by
   simp only[execOp,ho,f0];exact aW g2
  rw[D];simp only[Oper.upon]
  refine hk M N ⟨(d,.bh [.kb jp])::s.f,s.h,s.nx⟩ _ w (.refl _ _ _ _ _) (by
   rw[hd]
   exact hf.put d _ _ hlt (.bh _ _ rfl fun j p C=>by
    match j with
    |0=>simp at C;subst C;exact .kb _
    |j+1=>simp at C)) (.inl ⟨fun q b G=>?_,rfl⟩)
  have p0:q<ents.size:=by
   have:=(OB.1 G).1;rw[<-h5]at this;simpa using this
  rw[e0 q p0]at G;cases G;refine Decidable.byContradiction fun hn=>?_
  have:ents[q]∈leftOf ents A.toArray:=by
   simp only[leftOf,Rm];exact⟨by simp,by simpa using hn⟩
  rw[P6 g1]at this;simp at this
 .have D:(execOp a.eval o).run P w= .ok (.value (.tuple #[.bool is,x.key,x.val])) (lD I (N.az i) (.mapIter (co (N.az j)) clock (A.toArray.push x.born) clock)):=by
   simp only[execOp,ho,f0];rw[Sem.run_bind,g2];rfl
  rw[D];simp only[Oper.upon];simp only[leftOf,Array.mem_toList_iff,Rm]at k0;obtain⟨r0,s0⟩:=k0;obtain⟨q,G,i0⟩:=Array.getElem_of_mem r0;have q0:q<m.length:=by rw[<-h3.size];exact G
  have Y:m[q]? =co m[q]:=OD q0;have B:I.heap=w.heap∧I.os=w.os∧I.tape=w.tape∧I.output=w.output:=by
   rcases j0 with rfl|rfl<;>exact⟨rfl,rfl,rfl,rfl⟩
  have o0:OR M N (· <s.nx) (lD I (N.az i) (.mapIter (co (N.az j)) clock (A.toArray.push x.born) clock)) i (.dB (.mp j) clock (A++ [x.born])):=by
   refine⟨N.az j,d0,?_⟩;show(I.heap.setIfInBounds _ _)[_]? =_;rw[O5,am rfl,B.1,am a0];simp
  obtain⟨q1,q2⟩:=hf.1.write hi rfl (lD I (N.az i) (.mapIter (co (N.az j)) clock (A.toArray.push x.born) clock)) _ B.2.1 B.2.2.1 B.2.2.2 (by simp[lD,B.1]) (fun c hc=>by
   show(I.heap.setIfInBounds _ _)[c]? =_
   rw[O5,be (fun e=>hc e.symm),B.1]) o0 (j0.elim (fun e=>e▸OL _) fun e=>e▸Qv _)
  have J:=h3.key q _ Y;have R:=h3.val q _ Y;rw[h3.yL G,i0]at J R
  refine hk M N ⟨(d,.bh [.kb is,kc.pk m[q].1,(e m[q].2).pv])::s.f,(i,co (.dB (.mp j) clock (A++ [x.born])))::s.h,s.nx⟩ _ _ q1 (by
   rw[hd];refine Fits.put (s:=⟨s.f,(i,co (.dB (.mp j) clock (A++ [x.born])))::s.h,s.nx⟩) ⟨q2,hf.2⟩ d _ _ hlt (.bh _ _ rfl fun q p C=>?_)
   match q with
   |0=>simp at C;subst C;exact .kb _
   |1=>simp at C;subst C;simp only[Oz];simp;rw[J];exact ue kc _
   |2=>simp at C;subst C;exact tZ R
   |q+3=>simp at C) (.inr ⟨q,m[q],x.born,Y,by rw[e0 q G,i0],by simpa using s0,rfl⟩)
theorem BM{o:Oper}{Y:Operand}(ho:o.op= .entry Y){i j:Nat}(e0:ev s.f Y= .ptr i 0){kc:KC}{V:Type}{e:V->IV}{z:V}{zv:Value}{dv:PV->V}{m:List (kc.K×V)}{bs A:List Nat}{clock:Nat}
  (hi:s.h.get i=co (.dB (.mp j) clock A)) (hj:s.h.get j=co (.gi kc e z zv dv m bs clock)) {q:Nat} {x:kc.K×V} {b:Nat} (hl:A.getLast? =co b) (hq:bs[q]? =co b) (hm:m[q]? =co x) {s':AS}
  (hp:putDst nt o (.bh [kc.pk x.1,(e x.2).pv]) s=co s'):OT P nt o s fun u=>u=s':=by
 refine OT.value hp fun M N a w hf=>?_;have hx:=aG hf.2.1 Y;rw[e0]at hx
 have d0:a.eval Y= .pointer (co ⟨N.az i,0,io⟩):=by
  generalize a.eval Y=y at hx;cases hx;rfl
 obtain⟨b0,a0,h1⟩:=hf.1.obj i _ hi;have c0:b0=N.az j:=by cases a0;rfl
 subst c0;obtain⟨ents,hb,h3,h4,h5⟩:=hf.1.obj j _ hj;have I:q<ents.size:=by
  have:=(OB.1 hq).1;rw[<-h5]at this;simpa using this
 have J:ents[q].born=b:=by
  rw[<-h5,OH,O6,O4 I]at hq;simpa using hq
 have B:=h3.key q _ hm;have C:=h3.val q _ hm;rw[h3.yL I]at B C;have G:ents.find? (fun e=>e.born==b)=co ents[q]:=by
  rw[Array.find?_eq_some_iff_getElem];refine⟨by simp[J],q,I,rfl,fun p f0=>?_⟩;simp only[PF,beq_eq_false_iff_ne];intro he;have:=h3.inj p q ents[p] ents[q] (by simp) (by simp) (he.trans J.symm);omega
 refine⟨.tuple #[ents[q].key,ents[q].val],w,M,N,?_,.refl _ _ _ _ _,hf,?_⟩
 .simp only[execOp,ho,d0];refine aW ?_;have D:A.toArray.back? =co b:=by simpa using hl
  simp[Instr.entry,getObj,Sem.run,h1,hb,D,G,Result.andThen]
 .refine .bh _ _ Z fun p r R=>?_
  match p with
  |0=>simp at R;subst R;simp only[Oz];simp;rw[B];exact ue kc _
  |1=>simp at R;subst R;exact tZ C
  |p+2=>simp at R
theorem yV(C:bn P ty){o:Oper}{J ko:Operand}{t t':TypeId}(ho:o.op= .call ⟨.builtin .delete, #[J,ko], #[t,t']⟩){j:Nat}(hm:ev s.f J= .mp j){kc:KC}{V:Type}{e:V->IV}{z:V}{zv:Value}{Y:PV->V}{m:List (kc.K×V)}{bs:List Nat}{clock:Nat}
  (hj:s.h.get j=co (.gi kc e z zv Y m bs clock)) {te:bA} (ht:ty t=co te) {kt et:TypeId} (d0:te.k= .aJ (.map kt et)) (I:db ty kt=co kc) {R:kc.K} (b0:kc.dk (ev s.f ko)=co R) {q:Nat} (D:iW kc m R=co q) {s':AS}
  (hp:putDst nt o .any ⟨s.f,(j,co (.gi kc e z zv Y (m.eraseIdx q) (bs.eraseIdx q) clock))::s.h,s.nx⟩=co s'):OT P nt o s fun u=>u=s':=by
 have hu:P.underlying t=co (.map kt et):=by
  have:=(C _ _ ht).2.1;rw[d0]at this;exact this.1
 refine OT.value hp fun M N a w A=>?_;have e0:=Ap b0 (aG A.2.1 ko);have B:=aG A.2.1 J;rw[hm]at B
 have i0:a.eval J= .map (co (N.az j)):=by
  generalize a.eval J=y at B;cases B;rfl
 obtain⟨ents,h1,h2,h3,h4⟩:=A.1.obj j _ hj;have f0:=OR.lt (A.1.obj j _ hj) Z;have a0:=js (P:=P) (w:=w) C I R ents.isEmpty 9994;have G:=kP (P:=P) (w:=w) C I R h2.keys;rw[D]at G;have hg:(getObj (N.az j)).run P w= .ok (.map ents clock) w:=by simp[getObj,Sem.run,h1]
 obtain⟨v,g0,_⟩:=kg D;have j0:=(OB.1 g0).1;have c0:=h2.erase j0
 obtain⟨g3,g4⟩:=A.1.write hj Z (lD w (N.az j) (.map (ents.eraseIdxIfInBounds q) clock)) (.gi kc e z zv Y (m.eraseIdx q) (bs.eraseIdx q) clock) Z Z Z (by simp[lD]) (fun b hb=>by
  show(w.heap.setIfInBounds _ _)[b]? =_
  rw[O5,be (fun e=>hb e.symm)]) ⟨ents.eraseIdxIfInBounds q,by
   show(w.heap.setIfInBounds _ _)[_]? =_;rw[O5,am Z,am f0],c0,h3,by
   rw[<-h4];have key: ∀(l:List MapEntry) (n:Nat),(l.eraseIdx n).map MapEntry.born=(l.map MapEntry.born).eraseIdx n:=by
    intro l
    induction l with
    |nil=>intro n;rfl
    |cons x l ih=>intro n;cases n with
     |zero=>rfl
     |succ n=>simp[List.eraseIdx,ih n]
   simp[key]⟩
 refine⟨.tuple #[],_,M,N,?_,g3,⟨g4,A.2.1,A.2.2⟩,.any _⟩;simp only[execOp,ho,resolve];simp[invoke,builtin,i0,e0,Builtin.delete_,run_underlying hu,hg,a0,G,gE (P:=P) _ h1]
theorem Hz{kc:KC}{V:Type}{e:V->IV}{z:V}{j:Value}{b:PV->V}{m:List (kc.K×V)}{bs:List Nat}{clock:Nat}:dN (.gi kc e z j b m bs clock) (.map kc e z j b m):=
 ⟨fun _=>rfl,fun _ _ _ _ _ ⟨ents,h1,h2,h3,_⟩=>⟨ents,clock,h1,h2,h3⟩⟩
end
def nv(bs vs:List Nat):List Nat:=vs.map fun j=>bs.getD j 0
theorem wK{bs vs:List Nat}{q b:Nat}(hb:bs[q]? =co b)(h:b∉nv bs vs):q∉vs:=fun m=>h (Pg.2 ⟨q,m,by rw[OC,hb];rfl⟩)
theorem y8{n:Nat}{vs:List Nat}(hn:vs.Nodup)(b: ∀j∈vs,j<n)(h: ∀q,q<n->q∈vs):vs.Perm (O9 n):=
 (P2 hn List.nodup_range).2 fun q=>⟨fun m=>PW.2 (b q m),fun m=>h q (PW.1 m)⟩
theorem B4{n:Nat}{vs:List Nat}(hn:vs.Nodup)(u: ∀j∈vs,j<n):vs.length<=n:=by
 have:=PK hn (l₂:=O9 n) (fun i b=>PW.2 (u i b));simpa using this
theorem gm{α:Type}(m:List α)(d:α):(O9 m.length).map (fun j=>m.getD j d)=m:=by
 refine List.ext_getElem (by simp) fun i h1 b=>?_;simp[OD b]
theorem A0{bs vs:List Nat}{b:Nat}:(nv bs vs++ [b]).getLast? =co b:=by simp
theorem tT{bs vs:List Nat}{q b:Nat}(hb:bs[q]? =co b):nv bs (vs++ [q])=nv bs vs++ [b]:=by
 unfold nv;rw[OX,List.map_singleton,OC,hb];rfl
section
variable {P:Program} {nt:NT} {Q:AQ} {k:List KI} {s:AS}
theorem G8{body:Code}(n:Nat)(I:List Nat->AS)(J:List Nat->Prop)(B:List Nat)(R:J [])(h0:Wk s.nx B s (I []))
  (x: ∀vs:List Nat,vs.Nodup->(∀j∈vs,j<n)->J vs->GO P nt (.code body:: .lp (fun t=> ∃j,j<n∧j∉vs∧J (vs++ [j])∧ ∃L,Wk s.nx L t (I (vs++ [j])))::k) Q (I vs)):GO P nt (.code (.loop body)::k) Q s:=by
 refine fW (σ:={vs:List Nat//vs.Nodup∧(∀j∈vs,j<n)∧J vs}) (fun v=>I v.1) (fun v=>n-v.1.length) ⟨[],Pk,by simp,R⟩ B h0 fun v=>?_;obtain⟨vs,h1,C,D⟩:=v;refine kM ?_ (x vs h1 C D)
 rintro t ⟨j,g1,g2,g3,L,g4⟩;have u: ∀i∈vs++ [j],i<n:=by
  intro i hi;rcases OW.1 hi with hi|hi
  .exact C i hi
  .rw[OM.1 hi];exact g1
 have A:(vs++ [j]).Nodup:=by
  rw[PZ];refine⟨h1,by simp,fun a G b hb=>?_⟩;rw[OM.1 hb];intro e;exact g2 (e▸G)
 have y:(vs++ [j]).length<=n:=by
  have:=PK A (l₂:=O9 n) (fun i hi=>PW.2 (u i hi));simpa using this
 refine⟨⟨vs++ [j],A,u,g3⟩,L,?_,g4⟩;show n-(vs++ [j]).length<n-vs.length;simp only[OE,PC]at y ⊢;omega
end
section
variable {n i:Nat} {σ:Nat->Nat} {h r:AH}
theorem hMb{V:Type}{kc:KC}{ev:V->IV}{z:V}{u:Value}{b:PV->V}{m j:List (kc.K×V)}{bs:List Nat}{clock:Nat}(ho:h.get (σ i)=co (.gi kc ev z u b m bs clock))(he:m=j)(hi:O1 i n=is)(hr:mf n σ h r):mf n σ h ((i,co (.map kc ev z u b j))::r):=
 ⟨⟨_,ho,by subst he;exact Hz⟩,Oy hi,ac,hr⟩
end
theorem qD{l:List Nat}(hn:l.Nodup){q j:Nat}(h:l[q]? =co j):l.eraseIdx q=l.filter fun x=>!(x==j):=by
 induction l generalizing q with
 |nil=>simp at h
 |cons y r ih=>
  rw[Pf]at hn;cases q with
  |zero=>
   simp at h;subst h;rw[List.eraseIdx_zero,List.tail_cons,Qd];simp only[beq_self_eq_true,QS,Qb,if_false]
   symm
   rw[Q9];intro x A;have: ¬x=y:=fun e=>hn.1 (e▸A)
   simpa using this
  |succ q=>
   have b:r[q]? =co j:=by simpa using h
   have u:j∈r:=Pe b;have: ¬y=j:=fun e=>hn.1 (e▸u);rw[List.eraseIdx_cons_succ,ih hn.2 b,Qd,am (by simpa using this)]
theorem jG{α β:Type}(f:α->β): ∀(l:List α) (q:Nat),(l.map f).eraseIdx q=(l.eraseIdx q).map f
 | [],_=>rfl
 |_::_,0=>rfl
 |x::r,q+1=>by simp[List.eraseIdx,jG f r q]
def fI(n:Nat)(dl:Nat->Bool)(vs:List Nat):List Nat:=(O9 n).filter fun j=>!(kw (j∈vs)&&dl j)
section
variable {n:Nat} {dl:Nat->Bool} {vs:List Nat}
theorem uz:fI n dl []=O9 n:=by
 unfold fI;rw[Q9];intro j _;simp
theorem xA:(fI n dl vs).Nodup:=QG _ List.nodup_range
theorem xB: ∀j∈fI n dl vs,j<n:=fun _ b=>PW.1 (Pa.1 b).1
theorem yD{j:Nat}(h:dl j=jp):fI n dl (vs++ [j])=fI n dl vs:=by
 unfold fI;refine Qq fun i _=>?_;by_cases e:i=j
 .subst e;simp[h]
 .simp[e]
theorem BA{j q:Nat}(h:dl j=is)(b:(fI n dl vs)[q]? =co j):fI n dl (vs++ [j])=(fI n dl vs).eraseIdx q:=by
 rw[qD xA b];unfold fI;rw[List.filter_filter];refine Qq fun i _=>?_;by_cases e:i=j
 .subst e;simp[h]
 .simp[e]
theorem BB(h: ∀j∈fI n dl vs,j∈vs):fI n dl vs=(O9 n).filter fun j=>!dl j:=by
 unfold fI at*
 refine Qq fun i b=>?_;by_cases e:i∈vs
 .simp[e]
 .have:i∈(O9 n).filter fun j=>!(kw (j∈vs)&&dl j):=Pa.2 ⟨b,by simp[e]⟩
  exact absurd (h i this) e
end
abbrev lP{α:Type}(m:List α)(d:α)(dl:Nat->Bool)(vs:List Nat):List α:=(fI m.length dl vs).map fun j=>m.getD j d
abbrev mQ(n:Nat)(bs:List Nat)(dl:Nat->Bool)(vs:List Nat):List Nat:=(fI n dl vs).map fun j=>bs.getD j 0
section
variable {α:Type} {m:List α} {d:α} {dl:Nat->Bool} {vs:List Nat} {bs:List Nat}
theorem Bv:lP m d dl []=m:=by unfold lP;rw[uz,gm]
theorem Bu:(lP m d dl vs).Sublist m:=by
 have h:((fI m.length dl vs).map fun j=>m.getD j d).Sublist ((O9 m.length).map fun j=>m.getD j d):=List.Sublist.map _ List.filter_sublist;rwa[gm]at h
theorem Bw(h:bs.length=m.length):mQ m.length bs dl []=bs:=by unfold mQ;rw[uz,<-h,gm]
theorem left_at{q b:Nat}{x:α}(hl:bs.length=m.length)(h1:(lP m d dl vs)[q]? =co x)(y:(mQ m.length bs dl vs)[q]? =co b): ∃j,(fI m.length dl vs)[q]? =co j∧m[j]? =co x∧bs[j]? =co b∧j<m.length:=by
 rw[OH,OJ]at h1 y;obtain⟨j,g1,g2⟩:=h1;obtain⟨A,g3,g4⟩:=y;rw[g1]at g3;cases g3;have u:=xB j (Pe g1);refine⟨j,g1,?_,?_,u⟩
 .rw[<-g2,OC,OD u];rfl
 .rw[<-g4,OC,OD (by rw[hl];exact u)];rfl
theorem Dy{q j:Nat}(h:dl j=is)(b:(fI m.length dl vs)[q]? =co j):lP m d dl (vs++ [j])=(lP m d dl vs).eraseIdx q∧mQ m.length bs dl (vs++ [j])=(mQ m.length bs dl vs).eraseIdx q:=by
 unfold lP mQ;rw[BA h b,jG,jG];exact⟨rfl,rfl⟩
theorem Dz(hl:bs.length=m.length)(hn:bs.Nodup)(J: ∀j∈vs,j<m.length)(D:α->Bool)(B: ∀j,dl j=D (m.getD j d))(h: ∀(q b:Nat),(mQ m.length bs dl vs)[q]? =co b->b∈nv bs vs):lP m d dl vs=m.filter fun e=>!D e:=by
 have key: ∀j∈fI m.length dl vs,j∈vs:=by
  intro j y;obtain⟨q,I⟩:=Po y;have G:=xB j y;have hb:=h q (bs.getD j 0) (by unfold mQ;rw[OH,I];rfl);obtain⟨i,x,u⟩:=Pg.1 hb;have C:=J i x;rw[OC,OC,OD (by omega:i<bs.length),OD (by omega:j<bs.length),PA,PA]at u;have A:=PL.1 hn;rcases QW i j with g|g|g
  .exact absurd u (A i j (by omega) (by omega) g)
  .exact g▸x
  .exact absurd u.symm (A j i (by omega) (by omega) g)
 unfold lP;rw[BB key];have:=congrArg (List.filter fun e=>!D e) (gm m d);rw[<-this,List.filter_map];congr 1;refine Qq fun i _=>?_;simp[B]
end
theorem Am{kc:KC}{V:Type}: ∀{m:List (kc.K×V)} {q:Nat} {x:kc.K×V},(m.map (·.1)).Nodup->m[q]? =co x->iW kc m x.1=co q
 | [],q,x,_,h=>by simp at h
 |(a,b)::r,0,x,_,h=>by
  simp at h;subst h;simp[iW]
 |(a,b)::r,q+1,x,hn,h=>by
  rw[OZ,Pf]at hn;have j:r[q]? =co x:=by simpa using h
  have: ¬a=x.1:=fun e=>hn.1 (Pg.2 ⟨x,Pe j,e.symm⟩);simp[iW,this,Am hn.2 j]
def Nm.one(b e:Nat):Nm:=⟨fun _=>b,fun _=>e⟩
inductive SB:Type 1 where
 |obj (o:AO) (e:Nat)
 |out (i e:Nat)
abbrev bg:=Nat->Option SB
def bg.nil:bg:=fun _=>io
def bg.put(X:bg)(b:Nat)(x:SB):bg:=fun c=>if c=b then co x else X c
def bg.still(X:bg):Prop:= ∀b i e,X b≠co (.out i e)
theorem bg.eK(X:bg)(b:Nat)(x:SB):X.put b x b=co x:=by simp[bg.put]
theorem bg.ic(X:bg){b c:Nat}(x:SB)(h:c≠b):X.put b x c=X c:=by simp[bg.put,h]
theorem bg.Gu(X:bg)(b:Nat)(x y:SB):(X.put b x).put b y=X.put b y:=by
 funext c;simp only[bg.put];split<;>rfl
structure dV (M:Mem) (N:Nm) (n:Nat) (h:AH) (X:bg) (w:World):Prop where
 real: ∀b o e,X b=co (.obj o e)->o.real=is
 obj: ∀b o e,X b=co (.obj o e)->OR M (Nm.one b e) (fun _=>False) w 0 o
 dR: ∀b o e,X b=co (.obj o e)->M b=io
 apart: ∀b o e,X b=co (.obj o e)-> ∀i p,h.get i=co p->p.real=is->N.az i≠b
 out: ∀b i e,X b=co (.out i e)->i<n∧N.az i=b∧N.ext i=e
def AO.all(G:PV->Prop):AO->Prop
 | .cells cs _=> ∀p∈cs,G p
 | .row _ es=> ∀e∈es,∀p∈e,G p
 | .dB q _ _=>G q
 |_=>True
theorem AO.all_true(o:AO):o.all fun _=>True:=by cases o<;>simp[AO.all]
theorem OR.move{M I:Mem}{N B:Nm}{U U':Nat->Prop}{w w':World}{i D:Nat}{o:AO}{G:PV->Prop}(hM:M.le I)(R:o.all G)(Y: ∀p x,G p->VR M N U p x->VR I B U' p x)
  (hb:B.az D=N.az i) (he:B.ext D=N.ext i) (hw:w'.heap[N.az i]? =w.heap[N.az i]?) (h:OR M N U w i o):OR I B U' w' D o:=by
 cases o with
 |cells cs T0=>
  obtain⟨c,T,h1,u,y,A,J⟩:=h;exact⟨c,T,by rw[hb,hw,h1],by rw[he,u],y,fun j p C=>Y _ _ (R p (Pe C)) (A j p C),J⟩
 |row sz es=>
  rcases h with h|⟨h0,c,T,h1,u,y,A,J⟩
  .exact .inl h
  exact .inr ⟨h0,c,T,by rw[hb,hw,h1],by rw[he,u],y,A,fun k e j p hk C=>Y _ _ (R e (Pe hk) p (Pe C)) (J k e j p hk C)⟩
 |bf l T=>
  rcases h with h|⟨c,h1,u,y,A⟩
  .exact .inl h
  exact .inr ⟨c,by rw[hb,hw,h1],by rw[he,u],y,A⟩
 |eC=>show w'.heap[B.az D]? =_;rw[hb,hw];exact h
 |map kc ev z zv dv m=>
  obtain⟨e,cl,h1,u,y⟩:=h;exact⟨e,cl,by rw[hb,hw,h1],u.mono hM,y.mono hM⟩
 |bB kc ev m l cu=>
  rcases h with⟨h1,u,y,A⟩|⟨b,e,cl,se,h1,u,y,A⟩
  .exact .inl ⟨h1,u,y,by rw[hb,hw,A]⟩
  .exact .inr ⟨b,e,cl,se,by rw[hb,hw,h1],hM _ _ u,y.mono hM,A⟩
 |c9 s p=>show w'.heap[B.az D]? =_;rw[hb,hw];exact h
 |gi kc ev z zv dv m bs c=>
  obtain⟨e,h1,u,y,A⟩:=h;exact⟨e,by rw[hb,hw,h1],u.mono hM,y.mono hM,A⟩
 |dB q c l=>
  obtain⟨b,h1,u⟩:=h;exact⟨b,Y _ _ R h1,by rw[hb,hw,u]⟩
theorem VR.zw{M b:Mem}{N j:Nm}{u:Nat->Prop}(hM:M.le b){p:PV}{x:Value}(h:VR M N (fun _=>False) p x):VR b j u p x:=
 h.mono hM ⟨fun _ h=>h.elim,fun _ h=>h.elim⟩ (fun _ h=>h.elim)
def PV.flat:PV->Prop
 | .iv _=>True
 | .kb _=>True
 | .any=>True
 |_=>False
theorem VR.FY{M:Mem}{N j:Nm}{U u:Nat->Prop}{p:PV}{x:Value}(hp:p.flat)(h:VR M N U p x):VR M j u p x:=by
 cases h with
 |iv x y h=>exact .iv _ _ h
 |kb b=>exact .kb _
 |any x=>exact .any _
 |_=>exact hp.elim
def Own(N:Nm)(h:AH)(X:bg)(b:Nat):Prop:=(∃i o,h.get i=co o∧o.real=is∧N.az i=b)∨ ∃o e,X b=co (.obj o e)
structure je (M:Mem) (N:Nm) (n:Nat) (h:AH) (X:bg) (w:World) (M':Mem) (N':Nm) (n':Nat) (h':AH) (X':bg) (w':World):Prop where
 os:w'.os=w.os
 tape:w'.tape=w.tape
 output:qw w w'
 size:w.heap.size<=w'.heap.size
 dc: ∀b,b<w.heap.size-> ¬Own N h X b->w'.heap[b]? =w.heap[b]?
 mO:M.le M'
 fO: ∀b c,M b=io->M' b=co c->w.heap.size<=b∨Own N h X b
 nm:N.agree N' (· <n)
 ule:n<=n'
 ff: ∀b,Own N' h' X' b->w.heap.size<=b∨Own N h X b
theorem je.refl(M:Mem)(N:Nm)(n:Nat)(h:AH)(X:bg)(w:World):je M N n h X w M N n h X w:=
 ⟨rfl,rfl,⟨rfl,OL _⟩,OL _,fun _ _ _=>rfl,.refl _,fun b c h1 j=>by simp[h1]at j,.refl _ _,OL _,fun _ h=> .inr h⟩
theorem je.trans{M u x:Mem}{N y A:Nm}{n I J:Nat}{h h1 D:AH}{X B C:bg}{w R Y:World}
  (a:je M N n h X w u y I h1 B R) (b:je u y I h1 B R x A J D C Y):je M N n h X w x A J D C Y where
 os:=b.os.trans a.os
 tape:=b.tape.trans a.tape
 output:=b.output.trans a.output
 size:=Pp a.size b.size
 dc:=fun k hk G=>by
  rw[b.dc k (Qj hk a.size) (fun ho=>?_),a.dc k hk G];rcases a.ff k ho with h3|h3
  .omega
  .exact G h3
 mO:=a.mO.trans b.mO
 fO:=fun k c h3 h4=>by
  cases h5:u k with
  |some c'=>exact a.fO k c' h3 h5
  |none=>
   rcases b.fO k c h5 h4 with h6|h6
   .exact .inl (Pp a.size h6)
   .exact a.ff k h6
 nm:=⟨fun i j=>(b.nm.az i (Qj j a.ule)).trans (a.nm.az i j),fun i j=>(b.nm.ext i (Qj j a.ule)).trans (a.nm.ext i j)⟩
 ule:=Pp a.ule b.ule
 ff:=fun k hk=>by
  rcases b.ff k hk with h3|h3
  .exact .inl (Pp a.size h3)
  .exact a.ff k h3
theorem je.frame{M R:Mem}{N Y:Nm}{n J:Nat}{h h':AH}{X:bg}{w w':World}(x:Ext M N (· <n) h w R Y (· <J) h' w')(hs:dV M N n h X w):
  je M N n h X w R Y J h' X w'∧dV R Y J h' X w':=by
 have D: ∀b o e,X b=co (.obj o e)->b<w.heap.size:=fun b o e hb=>(hs.obj b o e hb).lt (hs.real b o e hb);have B:n<=J:=Qk fun hh=>absurd (x.ule J hh) (RT _);refine⟨⟨x.os,x.tape,x.output,x.size,fun b hb hn=>x.dc b hb fun i o hi I he=>hn (.inl ⟨i,o,hi,I,he⟩),x.mO,fun b c h1 h2=>?_,x.nm,B,fun b hb=>?_⟩,hs.real,fun b o e hb=>?_,fun b o e hb=>?_,fun b o e hb i p hi I a0=>?_,fun b i e hb=>?_⟩
 .rcases x.fO b c h1 h2 with u|⟨i,o,u,C,A⟩
  .exact .inl u
  .exact .inr (.inl ⟨i,o,u,C,A⟩)
 .rcases hb with⟨i,o,u,C,A⟩|hb
  .rcases x.ff i o u C with h6|⟨j,p,h6,h7,h8⟩
   .exact .inl (A▸h6)
   .exact .inr (.inl ⟨j,p,h6,h7,h8.trans A⟩)
  .exact .inr (.inr hb)
 .refine OR.move (G:=fun _=>True) x.mO (AO.all_true o) (fun p y _ hv=>hv.zw x.mO) Z Z ?_ (hs.obj b o e hb);exact x.dc b (D b o e hb) (hs.apart b o e hb)
 .cases hM:R b with
  |none=>rfl
  |some c=>
   rcases x.fO b c (hs.dR b o e hb) hM with u|⟨i,p,u,C,A⟩
   .have:=D b o e hb;omega
   .exact absurd A (hs.apart b o e hb i p u C)
 .rcases x.ff i p hi I with u|⟨j,q,u,C,A⟩
  .have:=D b o e hb;omega
  .exact hs.apart b o e hb j q u C (A.trans a0)
 .obtain⟨h1,h2,u⟩:=hs.out b i e hb;exact⟨Qj h1 B,(x.nm.az i h1).trans h2,(x.nm.ext i h1).trans u⟩
theorem je.JV{M B:Mem}{N C:Nm}{n G:Nat}{h D:AH}{I:bg}{w w':World}(x:je M N n h bg.nil w B C G D I w'):Ext M N (· <n) h w B C (· <G) D w':=by
 have j: ∀b,Own N h bg.nil b-> ∃i o,h.get i=co o∧o.real=is∧N.az i=b:=fun b hb=>by
  rcases hb with hb|⟨o,e,hb⟩
  .exact hb
  .cases hb
 refine⟨x.os,x.tape,x.output,x.size,fun b hb R=>x.dc b hb fun Y=>?_,x.mO,fun b c h1 u=>?_,x.nm,fun i y=>Qj y x.ule,fun i o y A=>?_⟩
 .obtain⟨i,o,h1,u,J⟩:=j b Y;exact R i o h1 u J
 .exact(x.fO b c h1 u).imp id (j b)
 .exact(x.ff _ (.inl ⟨i,o,y,A,rfl⟩)).imp id (j _)
theorem dV.nil(M:Mem)(N:Nm)(n:Nat)(h:AH)(w:World):dV M N n h bg.nil w:=⟨nofun,nofun,nofun,nofun,nofun⟩
abbrev XQ:=Exit->AS->bg->Prop
def me(nt:NT)(M:Mem)(N:Nm)(s:AS)(X:bg)(w:World)(R:XQ):Exit->Act->World->Prop:=fun e x w'=>
 ∃b j s' u,je M N s.nx s.h X w b j s'.nx s'.h u w'∧Fits b j s' nt x w'∧dV b j s'.nx s'.h u w'∧R e s' u
theorem me.later{nt:NT}{M b:Mem}{N j:Nm}{s s':AS}{X u:bg}{w w':World}{R:XQ}{e:Exit}{a:Act}{y:World}
  (x:je M N s.nx s.h X w b j s'.nx s'.h u w') (h:me nt b j s' u w' R e a y):me nt M N s X w R e a y:=by
 obtain⟨A,B,G,C,h1,D⟩:=h;exact⟨A,B,G,C,x.trans h1,D⟩
theorem me.now{nt:NT}{M:Mem}{N:Nm}{s:AS}{X:bg}{w:World}{R:XQ}{e:Exit}{a:Act}(hf:Fits M N s nt a w)(hs:dV M N s.nx s.h X w)(h:R e s X):me nt M N s X w R e a w:=
 ⟨M,N,s,X,.refl _ _ _ _ _ _,hf,hs,h⟩
def AX(P:Program)(nt:NT)(c:Code)(R:XQ)(s:AS)(X:bg):Prop:= ∀M N a w,Fits M N s nt a w->dV M N s.nx s.h X w->c.wp P (me nt M N s X w R) a w
def ALX(P:Program)(nt:NT)(all rest:List Oper)(R:XQ)(s:AS)(X:bg):Prop:= ∀M N a w,Fits M N s nt a w->dV M N s.nx s.h X w->wpList P all.toArray (me nt M N s X w R) rest a w
def SLX(P:Program)(nt:NT)(all rest:List Oper)(R:XQ)(s:AS)(X:bg):Prop:= ∀M N a w,Fits M N s nt a w->dV M N s.nx s.h X w->
 wpStill P all.toArray w (fun b=>me nt M N s X w R .normal b w) rest a
inductive XI where
 |qx (all rest:List Oper)
 |code (c:Code)
 |az (id:Nat)
 |ops (all rest:List Oper)
 |lp (R:AS->bg->Prop)
 |BW
def kx(P:Program)(nt:NT):List XI->XQ->XQ
 | [],Q=>Q
 | .code c::k,Q=>fun e s X=>match e with| .normal=>AX P nt c (kx P nt k Q) s X|e=>kx P nt k Q e s X
 | .ops all rest::k,Q=>fun e s X=>match e with| .normal=>ALX P nt all rest (kx P nt k Q) s X|e=>kx P nt k Q e s X
 | .qx all rest::k,Q=>fun e s X=>match e with| .normal=>SLX P nt all rest (kx P nt k Q) s X|e=>kx P nt k Q e s X
 | .lp R::k,Q=>fun e s X=>match e with| .normal=>R s X|e=>kx P nt k Q e s X
 | .az id::k,Q=>fun e s X=>match e with| .exit j=>if j=id then kx P nt k Q .normal s X else kx P nt k Q (.exit j) s X|e=>kx P nt k Q e s X
 | .BW::k,Q=>fun e s X=>match e with| .goto _=>False|e=>kx P nt k Q e s X
def GX(P:Program)(nt:NT)(k:List XI)(Q:XQ)(s:AS)(X:bg):Prop:=kx P nt k Q .normal s X
section
variable {P:Program} {nt:NT} {Q:XQ} {k:List XI} {s:AS} {X:bg}
theorem AX.then{c:Code}{R:XQ}(h:AX P nt c R s X){M:Mem}{N:Nm}{a:Act}{w:World}(hf:Fits M N s nt a w)(hs:dV M N s.nx s.h X w){Z:Exit->Act->World->Prop}
  (y: ∀e x w' b j s' u,je M N s.nx s.h X w b j s'.nx s'.h u w'->Fits b j s' nt x w'->dV b j s'.nx s'.h u w'->R e s' u->Z e x w'):c.wp P Z a w:=
 wp_mono (h M N a w hf hs) fun e x w' ⟨b,j,s',u,h1,h2,h3,h4⟩=>y e x w' b j s' u h1 h2 h3 h4
theorem MR{j:AQ}{k0:List KI}{c:Code}(h:GX P nt [.code c] (fun e t _=>kp P nt k0 j e t) s bg.nil):GO P nt (.code c::k0) j s:=by
 intro M N a w y;exact AX.then h y (.nil ..) fun e D w' u x s' C B b _ A=>⟨u,x,s',B.JV,b,A⟩
theorem iO{c:Code}(h:GO P nt [.code c] (fun e u=>kx P nt k Q e u X) s):GX P nt (.code c::k) Q s X:=by
 intro M N a w A hs;refine AW.then h A fun e D w' j x s' C b B=>?_;obtain⟨h1,y⟩:=je.frame C hs;exact⟨j,x,s',X,h1,b,y,B⟩
theorem cI{x y:Code}(h:GX P nt (.code x:: .code y::k) Q s X):GX P nt (.code (.seq x y)::k) Q s X:=by
 intro M N a w hf hs;refine wp_seq (AX.then h hf hs fun e a' w' I R s' X' G b j D=>?_);cases e with
 |normal=>exact AX.then D b j fun e a2 w2 J Y s2 X2 C u B A=>⟨J,Y,s2,X2,G.trans C,u,B,A⟩
 |_=>exact⟨I,R,s',X',G,b,j,D⟩
theorem qT(h:GX P nt k Q s X):GX P nt (.code .skip::k) Q s X:=fun _ _ _ _ b hs=>wp_skip (.now b hs h)
theorem qV{id:Nat}(h:kx P nt k Q (.exit id) s X):GX P nt (.code (.exit id)::k) Q s X:=fun _ _ _ _ b hs=>wp_exit (.now b hs h)
theorem DK{id:Nat}(h:GX P nt k Q s X):GX P nt (.az id::k) Q s X:=h
theorem gQ{id:Nat}{x:Code}(h:GX P nt (.code x:: .az id::k) Q s X):GX P nt (.code (.block id x)::k) Q s X:=by
 intro M N a w I hs;refine wp_block (AX.then h I hs fun e J w' A B s' C G b u y=>?_);cases e with
 |exit j=>
  simp only[kx]at y;simp only[Exit.inBlock];split
  .rename_i D;rw[am D]at y;exact⟨A,B,s',C,G,b,u,y⟩
  .rename_i D;rw[be D]at y;exact⟨A,B,s',C,G,b,u,y⟩
 |_=>exact⟨A,B,s',C,G,b,u,y⟩
theorem uB{id:Nat}{ops:Array Oper}(h:GX P nt (.ops ops.toList ops.toList::k) Q s X):GX P nt (.code (.region id ops jp)::k) Q s X:=by
 intro M N a w b hs;refine wp_region_list ?_;have:=h M N a w b hs;simpa using this
theorem sk{all:List Oper}(h:GX P nt k Q s X):GX P nt (.ops all []::k) Q s X:=fun _ _ _ _ b hs=>wpList_nil (me.now b hs h)
theorem qW{c:Operand}{x y:Code}{t:Bool}(hc:ev s.f c= .iv (.v (.bool t)))(h1:t=is->GX P nt (.code x::k) Q s X)(u:t=jp->GX P nt (.code y::k) Q s X):
  GX P nt (.code (.cond c x y)::k) Q s X:=by
 intro M N a w b hs;refine wp_cond_split (b.bool hc) (fun j=>?_) (fun j=>?_)
 .exact h1 j M N a w b hs
 .exact u j M N a w b hs
theorem vq{o:Oper}{a:Act}{w:World}{K K':Act->World->Prop}{Q j:Exit->Act->World->Prop}(h: ∀a w,K a w->K' a w)(u: ∀e a w,e≠ .normal->Q e a w->j e a w)(hh:o.wp P a w K Q):o.wp P a w K' j:=by
 have hl:LetsOut Q->LetsOut j:=fun⟨a,w,x⟩=>⟨a,w,u _ _ _ (by simp) x⟩
 unfold Oper.wp at*
 generalize(execOp a.eval o).run P w=r at*
 cases r with
 |ok n w'=>
  cases n<;>simp only[Oper.upon]at hh ⊢ <;>
   first
    |exact h _ _ hh
    |exact Calls.mono hh (fun e y b=>by cases e<;>first|exact h _ _ b|exact hl b|exact u _ _ _ (by simp) b)
    |exact Rows.mono hh (fun _ _ b=>h _ _ b)
 |halt x w'=>cases x<;>simp only[Oper.upon]at hh ⊢ <;>exact u _ _ _ (by simp) hh
theorem mZ{ops:Array Oper}{u x:Exit->Act->World->Prop}(j:List Oper)(y: ∀a w,u .normal a w->wpList P ops x j a w)(b: ∀e a w,e≠ .normal->u e a w->x e a w): ∀(l:List Oper) (a:Act) (w:World),wpList P ops u l a w->wpList P ops x (l++j) a w
 | [],a,w,h=>y _ _ h
 |o::r,a,w,h=>by
  rw[PT];rw[wpList]at h ⊢;split
  .rename_i A;rw[am A]at h;exact h.imp (vq (mZ j y b r) b) (fun⟨h3,a1,w1,h4⟩=>⟨h3,a1,w1,b _ _ _ (by simp) h4⟩)
  .rename_i A;rw[be A]at h;exact mZ j y b r _ _ h
theorem BD{all I j:List Oper}(h:GO P nt [.ops all I] (fun e u=>kx P nt (.ops all j::k) Q e u X) s):GX P nt (.ops all (I++j)::k) Q s X:=by
 intro M N a w R hs;refine mZ j (fun A w' C=>?_) (fun e A w' J C=>?_) I a w (h M N a w R)
 .obtain⟨x,y,s',G,b,D⟩:=C;obtain⟨h1,B⟩:=je.frame G hs;have:=D x y A w' b B;exact eD (fun _ _ _=>me.later h1) j A w' this
 .obtain⟨x,y,s',G,b,D⟩:=C;obtain⟨h1,B⟩:=je.frame G hs;refine⟨x,y,s',X,h1,b,B,?_⟩;cases e with
  |normal=>exact absurd Z J
  |_=>exact D
theorem qU{all rest:List Oper}(m:Nat)(h:GO P nt [.ops all (rest.take m)] (fun e u=>kx P nt (.ops all (rest.drop m)::k) Q e u X) s):GX P nt (.ops all rest::k) Q s X:=by
 have:=BD h;rwa[QT]at this
def SX(nt:NT)(s:AS)(X:bg)(T:AS->bg->Prop):Prop:= ∀M N a w,Fits M N s nt a w->dV M N s.nx s.h X w->
 ∃b j t Y,je M N s.nx s.h X w b j t.nx t.h Y w∧Fits b j t nt a w∧dV b j t.nx t.h Y w∧T t Y
theorem I0{c:Code}{T:AS->bg->Prop}(h:SX nt s X T)(hk: ∀t Y,T t Y->GX P nt (.code c::k) Q t Y):GX P nt (.code c::k) Q s X:=by
 intro M N a w I hs;obtain⟨R,N',t,Y,h1,C,D,G⟩:=h M N a w I hs;exact AX.then (hk t Y G) C D fun e a2 w2 y A J B x b u j=>⟨y,A,J,B,h1.trans x,b,u,j⟩
theorem vJ{all rest:List Oper}{T:AS->bg->Prop}(h:SX nt s X T)(hk: ∀t Y,T t Y->GX P nt (.ops all rest::k) Q t Y):GX P nt (.ops all rest::k) Q s X:=by
 intro M N a w A hs;obtain⟨b,j,t,Y,h1,u,x,y⟩:=h M N a w A hs;exact eD (fun _ _ _=>me.later h1) rest a w (hk t Y y b j a w u x)
theorem MQ{body:Code}{σ:Type 1}(I:σ->AS)(J:σ->bg)(μ:σ->Nat)(i0:σ)(L0:List Nat)(h0:Wk s.nx L0 s (I i0))(A:J i0=X)(j0: ∀i,(J i).still)
  (B: ∀i,GX P nt (.code body:: .lp (fun t Y=> ∃j L,μ j<μ i∧Wk s.nx L t (I j)∧Y=J j)::k) Q (I i) (J i)):GX P nt (.code (.loop body)::k) Q s X:=by
 intro R N0 a0 w0 d0 g0
 let K:Act->World->Nat->Prop:=fun a w n=> ∃i M N,μ i=n∧je R N0 s.nx s.h X w0 M N (I i).nx (I i).h (J i) w∧Fits M N (I i) nt a w∧dV M N (I i).nx (I i).h (J i) w
 have c0:K a0 w0 (μ i0):=by
  obtain⟨h1,h2⟩:=je.frame (h0.ext (.refl R N0 (· <s.nx) s.h w0)) g0;exact⟨i0,R,N0.comp (sg s.nx L0),rfl,by rw[A];exact h1,h0.fits d0,by rw[A];exact h2⟩
 refine wp_loop (fun a w=> ∃n,K a w n) (fun a w=>by classical exact if h: ∃n,K a w n then Q5 (cK h) else 0) ⟨_,c0⟩ fun a w b0=>?_;obtain⟨⟨i,M,N,y,hx,hf,hs⟩,e0⟩:=Qi (cK b0);refine AX.then (B i) hf hs fun e a' w' M' N' s' X' D C x hr=>?_
 cases e with
 |normal=>
  obtain⟨j,L,hj,G,hY⟩:=hr
  have A:K a' w' (μ j):=⟨j,M',N'.comp (sg s.nx L),rfl,by
   have u:=hx.trans D;rw[hY]at u x;refine⟨u.os,u.tape,u.output,u.size,u.dc,u.mO,u.fO,⟨fun i y=>?_,fun i y=>?_⟩,by have:=G.nx;omega,fun b hb=>u.ff b ?_⟩
   .simp only[Nm.comp,fa y];exact u.nm.az i y
   .simp only[Nm.comp,fa y];exact u.nm.ext i y
   .rcases hb with⟨i,o,h3,h4,h5⟩|hb
    .obtain⟨⟨o',g1,g2⟩,_⟩:=gv G.h i o h3;exact .inl ⟨_,o',g1,g2.real ((AO.bQ _ o).trans h4),h5⟩
    .exact .inr hb,G.fits C,by
   rw[hY]at x;refine⟨x.real,x.obj,x.dR,fun b o e hb i p y f0=>?_,fun b i e hb=>?_⟩
   .obtain⟨⟨o',g1,g2⟩,_⟩:=gv G.h i p y;exact x.apart b o e hb _ o' g1 (g2.real ((AO.bQ _ p).trans f0))
   .exact absurd hb (j0 j b i e)⟩
  refine⟨⟨_,A⟩,?_⟩;simp only[dif_pos b0,dif_pos (⟨_,A⟩: ∃n,K a' w' n)];rw[<-y];exact RV ((Qi (cK (⟨_,A⟩: ∃n,K a' w' n))).2 _ A) hj
 |_=>exact⟨M',N',s',X',hx.trans D,C,x,hr⟩
theorem J0{b e d:Nat}{o:AO}{p:PV}(hX:X b=co (.obj o e))(hp: ∀(M:Mem) (N:Nm) (U:Nat->Prop) (x:Value),U s.nx->N.az s.nx=b->N.ext s.nx=e->VR M N U (s.f.get d) x->VR M N U p x):
  SX nt s X (fun t Y=>t=⟨(d,p)::s.f,(s.nx,co o)::s.h,s.nx+1⟩∧Y=X.put b (.out s.nx e)):=by
 intro M N a w hf hs;obtain⟨f,h,n⟩:=s
 let N':Nm:=⟨fun j=>if j=n then b else N.az j,fun j=>if j=n then e else N.ext j⟩
 have A:N.agree N' (· <n):=⟨fun i D=>be (RE D),fun i D=>be (RE D)⟩
 have I:N'.az n=b:=am Z;have a0:N'.ext n=e:=am Z;have hU: ∀i,i<n->i<n+1:=fun i D=>PY D;have c0:=hs.real b o e hX
 have C: ∀i q,AH.get ((n,co o)::h) i=co q->(i=n∧q=o)∨(i<n∧h.get i=co q):=by
  intro i q D;rw[AH.au]at D;split at D
  .rename_i b0;exact .inl ⟨b0,by simpa using D.symm⟩
  .exact .inr ⟨hf.1.used i q D,D⟩
 refine⟨M,N',⟨(d,p)::f,(n,co o)::h,n+1⟩,X.put b (.out n e),⟨rfl,rfl,⟨rfl,OL _⟩,OL _,fun _ _ _=>rfl,.refl _,fun c m h1 h2=>by simp[h1]at h2,A,Qv _,fun c B=> .inr ?_⟩,⟨⟨hf.1.dR,fun i q D=>?_,fun i q D hr=>?_,fun i q D=>?_,fun i j q r D hj hq hr he=>?_⟩,fun k=>?_,hf.2.2⟩,⟨fun c q g B=>?_,fun c q g B=>?_,fun c q g B=>?_,fun c q g B i r D hr=>?_,fun c i g B=>?_⟩,rfl,rfl⟩
 .rcases B with⟨i,q,h1,h2,h3⟩|⟨q,g,h1⟩
  .rcases C i q h1 with⟨rfl,rfl⟩|⟨J,R⟩
   .rw[I]at h3;subst h3;exact .inr ⟨_,_,hX⟩
   .exact .inl ⟨i,q,R,h2,by rw[<-h3];exact(A.az i J).symm⟩
  .by_cases u:c=b
   .subst u;rw[bg.eK]at h1;cases h1
   .rw[bg.ic _ _ u]at h1;exact .inr ⟨q,g,h1⟩
 .rcases C i q D with⟨rfl,rfl⟩|⟨J,_⟩
  .exact Qc _
  .exact hU i J
 .rcases C i q D with⟨rfl,rfl⟩|⟨J,R⟩
  .rw[I];exact hs.dR _ _ _ hX
  .rw[A.az i J];exact hf.1.dD i q R hr
 .rcases C i q D with⟨rfl,rfl⟩|⟨J,R⟩
  .exact OR.move (G:=fun _=>True) (.refl _) (AO.all_true _) (fun p y _ hv=>hv.zw (.refl _)) I a0 Z (hs.obj b _ e hX)
  .exact(hf.1.obj i q R).mono (.refl _) A hU J Z
 .rcases C i q D with⟨rfl,rfl⟩|⟨J,R⟩<;>rcases C j r hj with⟨h6,rfl⟩|⟨h6,h7⟩
  .exact h6.symm
  .rw[I,A.az j h6]at he;exact absurd he.symm (hs.apart b _ e hX j r h7 hr)
  .subst h6;rw[I,A.az i J]at he;exact absurd he (hs.apart b _ e hX i q R hq)
  .rw[A.az i J,A.az j h6]at he;exact hf.1.inj i j q r R h7 hq hr he
 .rw[AF.au];split
  .rename_i hk;subst hk;exact hp M N' _ _ (Qc _) I a0 ((hf.2.1 k).mono (.refl _) A hU)
  .exact(hf.2.1 k).mono (.refl _) A hU
 all_goals by_cases u:c=b
 .subst u;rw[bg.eK]at B;cases B
 .rw[bg.ic _ _ u]at B;exact hs.real c q g B
 .subst u;rw[bg.eK]at B;cases B
 .rw[bg.ic _ _ u]at B;exact hs.obj c q g B
 .subst u;rw[bg.eK]at B;cases B
 .rw[bg.ic _ _ u]at B;exact hs.dR c q g B
 .subst u;rw[bg.eK]at B;cases B
 .rw[bg.ic _ _ u]at B;rcases C i r D with⟨rfl,rfl⟩|⟨J,R⟩
  .rw[I];exact fun e=>u e.symm
  .rw[A.az i J];exact hs.apart c q g B i r R hr
 .subst u;rw[bg.eK]at B;cases B;exact⟨Qc _,I,a0⟩
 .rw[bg.ic _ _ u]at B;obtain⟨h1,h2,h3⟩:=hs.out c i g B;exact⟨hU i h1,(A.az i h1).trans h2,(A.ext i h1).trans h3⟩
theorem AI{b e d:Nat}{o:AO}(u:X b=co (.obj o e))(hd:s.f.get d= .iv (.v (.map (co b)))):
  SX nt s X (fun t Y=>t=⟨(d,.mp s.nx)::s.f,(s.nx,co o)::s.h,s.nx+1⟩∧Y=X.put b (.out s.nx e)):=
 J0 u fun M N U x hu hb hE j=>by
  rw[hd]at j;cases j with
  |iv _ _ hi=>cases hi with
   |v=>
    have:=VR.mp (M:=M) (N:=N) s.nx hu;rw[hb]at this;exact this
theorem Rel.drop{M:Mem}{N:Nm}{n:Nat}{h:AH}{w:World}(hr:Rel M N (· <n) h w)(i:Nat):Rel M N (· <n) ((i,io)::h) w:=
 ⟨hr.dR,fun j o b=>hr.used j o (aZ j o b).2,fun j o b u=>hr.dD j o (aZ j o b).2 u,fun j o b=>hr.obj j o (aZ j o b).2,fun j l o p b hl y A x=>hr.inj j l o p (aZ j o b).2 (aZ l p hl).2 y A x⟩
theorem zh{M:Mem}{N:Nm}{n:Nat}{h:AH}{w:World}(hr:Rel M N (· <n) h w)(hs:dV M N n h X w){i:Nat}{o:AO}(hi:h.get i=co o)(A:o.real=is)(D:o.all PV.flat):
  je M N n h X w M N n ((i,io)::h) (X.put (N.az i) (.obj o (N.ext i))) w∧dV M N n ((i,io)::h) (X.put (N.az i) (.obj o (N.ext i))) w:=by
 refine⟨⟨rfl,rfl,⟨rfl,OL _⟩,OL _,fun _ _ _=>rfl,.refl _,fun b c h1 B=>by simp[h1]at B,.refl _ _,OL _,fun c y=> .inr ?_⟩,fun c q g y=>?_,fun c q g y=>?_,fun c q g y=>?_,fun c q g y j r I C=>?_,fun c j g y=>?_⟩
 .rcases y with⟨j,q,h1,B,J⟩|⟨q,g,h1⟩
  .exact .inl ⟨j,q,(aZ j q h1).2,B,J⟩
  .by_cases u:c=N.az i
   .exact .inl ⟨i,o,hi,A,u.symm⟩
   .rw[bg.ic _ _ u]at h1;exact .inr ⟨q,g,h1⟩
 all_goals by_cases u:c=N.az i
 .subst u;rw[bg.eK]at y;cases y;exact A
 .rw[bg.ic _ _ u]at y;exact hs.real c q g y
 .subst u;rw[bg.eK]at y;cases y;exact OR.move (G:=PV.flat) (N:=N) (i:=i) (.refl _) D (fun p x R Y=>Y.FY R) Z Z Z (hr.obj i o hi)
 .rw[bg.ic _ _ u]at y;exact hs.obj c q g y
 .subst u;exact hr.dD i o hi A
 .rw[bg.ic _ _ u]at y;exact hs.dR c q g y
 .obtain⟨h1,B⟩:=aZ j r I;subst u;exact fun e=>h1 (hr.inj j i r o B hi C A e)
 .rw[bg.ic _ _ u]at y;exact hs.apart c q g y j r (aZ j r I).2 C
 .subst u;rw[bg.eK]at y;cases y
 .rw[bg.ic _ _ u]at y;exact hs.out c j g y
theorem Mg{b e i:Nat}{o:AO}(B:X b=co (.out i e))(hi:s.h.get i=co o)(x:o.real=is)(u:o.all PV.flat):
  SX nt s X (fun t Y=>t=⟨s.f,(i,io)::s.h,s.nx⟩∧Y=X.put b (.obj o e)):=by
 intro M N a w j hs;obtain⟨h1,rfl,rfl⟩:=hs.out b i e B;obtain⟨y,A⟩:=zh j.1 hs hi x u;exact⟨M,N,⟨s.f,(i,io)::s.h,s.nx⟩,_,y,⟨j.1.drop i,j.2⟩,A,rfl,rfl⟩
theorem J2{i d:Nat}{o:AO}{G:Nat->Nat->PV->Prop}(C:X.still)(hi:s.h.get i=co o)(A:o.real=is)(B:o.all PV.flat)
  (hq: ∀(M:Mem) (N:Nm) (U:Nat->Prop) (x:Value),VR M N U (s.f.get d) x-> ∃q,G (N.az i) (N.ext i) q∧VR M N U q x):
  SX nt s X (fun t Y=> ∃b e q,X b=io∧G b e q∧t=⟨(d,q)::s.f,(i,io)::s.h,s.nx⟩∧Y=X.put b (.obj o e)):=by
 intro M N a w u hs;obtain⟨D,I⟩:=zh u.1 hs hi A B;obtain⟨q,J,R⟩:=hq M N _ _ (u.2.1 d);refine⟨M,N,⟨(d,q)::s.f,(i,io)::s.h,s.nx⟩,_,D,⟨u.1.drop i,fun k=>?_,u.2.2⟩,I,N.az i,N.ext i,q,?_,J,rfl,rfl⟩
 .rw[AF.au];split
  .rename_i hk;subst hk;exact R
  .exact u.2.1 k
 .cases hx:X (N.az i) with
  |none=>rfl
  |some y=>
   cases y with
   |obj p g=>exact absurd Z (hs.apart _ p g hx i o hi A)
   |out j g=>exact absurd hx (C _ _ _)
theorem AJ{i d:Nat}{o:AO}(y:X.still)(hi:s.h.get i=co o)(u:o.real=is)(j:o.all PV.flat)(hd:s.f.get d= .mp i):
  SX nt s X (fun t Y=> ∃b e,X b=io∧t=⟨(d,.iv (.v (.map (co b))))::s.f,(i,io)::s.h,s.nx⟩∧Y=X.put b (.obj o e)):=by
 intro M N a w hf hs
 obtain⟨B,C,t,Y,h1,D,I,b,e,q,J,rfl,R,h9⟩:=J2 (G:=fun b e q=>q= .iv (.v (.map (co b)))) (d:=d) y hi u j (fun M N U x A=>by
  rw[hd]at A;cases A with
  |mp _ hu=>exact⟨_,rfl,.iv _ _ (.v _)⟩) M N a w hf hs
 exact⟨B,C,t,Y,h1,D,I,b,e,J,R,h9⟩
inductive Up (X:bg):Value->IV->Prop
 | row (b len cap sz e:Nat) (es:List (List PV)) (el:Nat->List IV) (hX:X b=co (.obj (.row sz es) e)) (hn:len=es.length) (hl:len<=cap) (hc:cap<=maxLen) (hel: ∀k e,es[k]? =co e->e=(el k).map .iv):
   Up X (.slice (co ⟨b,0,io⟩) len cap) (.cp sz len el)
 |map {V:Type} (b e:Nat) (kc:KC) (ev:V->IV) (z:V) (zv:Value) (dv:PV->V) (m:List (kc.K×V)) (hX:X b=co (.obj (.map kc ev z zv dv m) e)):Up X (.map (co b)) (.dJ kc ev z zv m)
 |eC {V:Type} (b e:Nat) (kc:KC) (ev:V->IV) (z:V) (zv:Value) (hX:X b=co (.obj .eC e)) (hz: ∀M,IR M (ev z) zv):Up X (.map (co b)) (.dJ kc ev z zv [])
 |Mz (y:Value):Up X y (.v y)
 |nil (sz:Nat) (el:Nat->List IV) (a:Option Addr) (cap:Nat):Up X (.slice a 0 cap) (.cp sz 0 el)
theorem Cw{M:Mem}{N:Nm}{n:Nat}{h:AH}{w:World}(hr:Rel M N (· <n) h w)(hs:dV M N n h X w):
  ∃x:Mem,M.le x∧je M N n h X w x N n h bg.nil w∧Rel x N (· <n) h w∧ ∀y p,Up X y p->IR x p y:=by
 let x:Mem:=⟨fun b=>match X b with
  |some (.obj _ _)=>(match w.heap[b]? with|some (.cells c _ _)=>co (.cells c)|some (.map es cl)=>co (.map es cl)|_=>io)
  |_=>M.fn b,fun b c hb=>by
   have:=M.Hh b c hb;cases u:X b with
   |none=>simpa using this
   |some y=>cases y with
    |obj o e=>exact absurd (this.symm.trans (hs.dR b o e u)) (by simp)
    |out i e=>simpa using this⟩
 have A: ∀b,(∀o e,X b≠co (.obj o e))->x b=M b:=fun b hb=>by
  show(match X b with|some (.obj _ _)=>_|_=>M.fn b)=M.fn b;cases u:X b with
  |none=>rfl
  |some y=>cases y with
   |obj o e=>exact absurd u (hb o e)
   |out i e=>rfl
 have D: ∀b o e,X b=co (.obj o e)->x b=(match w.heap[b]? with|some (.cells c _ _)=>co (MB.cells c)|some (.map es cl)=>co (MB.map es cl)|_=>io):=fun b o e hb=>by
  show(match X b with|some (.obj _ _)=>_|_=>M.fn b)=_;rw[hb]
 have B:M.le x:=fun b c hb=>by
  rw[A b fun o e u=>absurd (hb.symm.trans (hs.dR b o e u)) (by simp)];exact hb
 refine⟨x,B,⟨rfl,rfl,⟨rfl,OL _⟩,OL _,fun _ _ _=>rfl,B,fun b c h1 G=>?_,.refl _ _,OL _,fun c I=> .inr ?_⟩,⟨fun b c hb=>?_,hr.used,fun i o hi b0=>?_,fun i o hi=>(hr.obj i o hi).mono B (.refl _ _) (fun _ h=>h) (hr.used i o hi) Z,hr.inj⟩,fun y p hu=>?_⟩
 .cases u:X b with
  |none=>rw[A b (by simp[u]),h1]at G;cases G
  |some y=>cases y with
   |obj o e=>exact .inr (.inr ⟨o,e,u⟩)
   |out i e=>rw[A b (by simp[u]),h1]at G;cases G
 .rcases I with I|⟨o,e,I⟩
  .exact .inl I
  .cases I
 .cases u:X b with
  |none=>rw[A b (by simp[u])]at hb;exact hr.dR b c hb
  |some y=>cases y with
   |out i e=>rw[A b (by simp[u])]at hb;exact hr.dR b c hb
   |obj o e=>
    rw[D b o e u]at hb;split at hb
    .rename_i hh;cases hb;exact⟨_,_,hh⟩
    .rename_i hh;cases hb;exact hh
    .cases hb
 .rw[A _ fun q e u=>hs.apart _ q e u i o hi b0 Z];exact hr.dD i o hi b0
 .cases hu with
  |Mz=>exact .v _
  |nil=>exact .fh _ _ _ _
  |eC b e kc ev z zv hX hz=>
   have h1:=hs.obj b _ e hX;have G:x b=co (.map #[] 0):=by rw[D b _ e hX];rw[show w.heap[b]? =co (.map #[] 0) from h1]
   exact .dJ _ _ _ _ _ b #[] 0 G Z (by simp) (by simp) (hz x) (by simp) (by simp)
  |map b e kc ev z zv dv m hX=>
   obtain⟨ents,cl,h1,G,h3⟩:=hs.obj b _ e hX;have h4:x b=co (.map ents cl):=by rw[D b _ e hX];rw[show w.heap[b]? =co (.map ents cl) from h1]
   have Y:=G.mono B;exact .dJ _ _ _ _ _ b ents cl h4 Y.size Y.key Y.val (h3.mono B) Y.inj Y.lt
  |row b len cap sz e es el hX hn hl I hel=>
   rcases hs.obj b _ e hX with h0|⟨h0,c,T,g1,g2,g3,g4,g5⟩
   .have:=hs.real b _ e hX;rw[h0]at this;cases this
   have h4:x b=co (.cells c):=by rw[D b _ e hX];rw[show w.heap[b]? =co (.cells c T (0,0)) from g1]
   have C: ∀o,x.cell b o=c[o]? :=fun o=>by simp only[Mem.cell,h4]
   have a0: ∀k,k<len-> ∃e,es[k]? =co e:=fun k hk=>⟨_,OD (by omega)⟩
   have c0: ∀k j,k<len->j<sz->k*sz+j<c.size:=fun k j hk hj=>by
    have:(k+1)*sz<=es.length*sz:=O3 _ (by omega);rw[PD]at this;omega
   refine .cp _ _ _ _ _ _ hl I (fun k hk=>?_) (fun k j hk hj=>?_) (fun k j p hk hp=>?_)
   .obtain⟨e,J⟩:=a0 k hk;have:=g4 _ e J;rw[hel _ e J]at this;simpa using this
   .rw[C,O8];simp[c0 k j hk hj]
   .obtain⟨e,J⟩:=a0 k hk;have h9:=g4 _ e J;have R:=hel _ e J;have hj:j<sz:=by rw[<-h9,R,O7];exact(OB.1 hp).1
    have:=g5 _ e j (.iv p) J (by rw[R,OH,hp];rfl);rw[C,O8];rw[Oz]at this;cases this with
    |iv _ _ h=>exact h.mono B
def Up1(X:bg)(p b:PV):Prop:=b=p∨ ∃y q,p= .iv (.v y)∧b= .iv q∧Up X y q
inductive Jc (X:bg):AO->AO->Prop
 | row (sz:Nat) (es es':List (List PV)) (hl:es'.length=es.length) (h: ∀(k:Nat) (e':List PV),es'[k]? =co e'-> ∃e,es[k]? =co e∧e'.length=e.length∧ ∀(j:Nat) (p':PV),e'[j]? =co p'-> ∃p,e[j]? =co p∧Up1 X p p'):
   Jc X (.row sz es) (.row sz es')
 | map {V V':Type} (kc:KC) (ev:V->IV) (z:V) (zv:Value) (dv:PV->V) (m:List (kc.K×V)) (ev':V'->IV) (z':V') (dv':PV->V') (m':List (kc.K×V')) (hl:m'.length=m.length)
   (h: ∀(j:Nat) (x':kc.K×V'),m'[j]? =co x'-> ∃x y,m[j]? =co x∧x'.1=x.1∧ev x.2= .v y∧Up X y (ev' x'.2)) (hz: ∀M,IR M (ev' z') zv):Jc X (.map kc ev z zv dv m) (.map kc ev' z' zv dv' m')
theorem Jc.or{M A:Mem}{N:Nm}{U:Nat->Prop}{w:World}{i:Nat}{o o':AO}(J:M.le A)(hu: ∀y p,Up X y p->IR A p y)(h:Jc X o o')(ho:OR M N U w i o):OR A N U w i o':=by
 have hv: ∀p C x,Up1 X p C->VR M N U p x->VR A N U C x:=by
  rintro p C x (rfl|⟨y,q,rfl,rfl,B⟩) hx
  .exact hx.mono J (.refl _ _) (fun _ h=>h)
  .cases hx with
   |iv _ _ hi=>cases hi with
    |v=>exact .iv _ _ (hu _ _ B)
 cases h with
 |row sz es es' hl h=>
  rcases ho with rfl|⟨h0,c,T,g1,g2,g3,g4,g5⟩
  .left;exact P0.1 hl
  .refine .inr ⟨h0,c,T,g1,g2,by rw[hl];exact g3,fun k D b=>?_,fun k D j C b R=>?_⟩
   .obtain⟨e,h1,G,_⟩:=h k D b;rw[G];exact g4 k e h1
   .obtain⟨e,h1,_,B⟩:=h k D b;obtain⟨p,I,h5⟩:=B j C R;exact hv _ _ _ h5 (g5 k e j p h1 I)
 |map kc ev z zv dv m ev' z' dv' m' hl h hz=>
  obtain⟨ents,cl,g1,g2,g3⟩:=ho;refine⟨ents,cl,g1,⟨g2.size.trans hl.symm,fun j Y u=>?_,fun j Y u=>?_,g2.inj,g2.lt⟩,hz A⟩
  .obtain⟨x,y,h1,G,_⟩:=h j Y u;rw[G];exact g2.key j x h1
  .obtain⟨x,y,h1,_,B,I⟩:=h j Y u;have:=g2.val j x h1;rw[B]at this;generalize(ents.getD j ci).val=v at this ⊢;cases this with
   |v=>exact hu _ _ I
theorem Jc.real{o o':AO}(h:Jc X o o'):o'.real=o.real:=by
 cases h with
 |row sz es es' hl h=>cases es<;>cases es'<;>first|rfl|simp at hl
 |map=>rfl
theorem J4{i:Nat}{o o':AO}(hi:s.h.get i=co o)(hu:Jc X o o'):SX nt s X (fun t Y=>t=⟨s.f,(i,co o')::s.h,s.nx⟩∧Y=bg.nil):=by
 intro M N a w B hs;obtain⟨I,h1,A,C,J⟩:=Cw B.1 hs;have u: ∀j q,AH.get ((i,co o')::s.h) j=co q-> ∃y,s.h.get j=co y∧q.real=y.real∧(q=y∨(j=i∧q=o')):=by
  intro j q x;rw[AH.au]at x;split at x
  .rename_i D;subst D;cases x;exact⟨o,hi,hu.real,.inr ⟨rfl,rfl⟩⟩
  .exact⟨q,x,rfl,.inl Z⟩
 refine⟨I,N,⟨s.f,(i,co o')::s.h,s.nx⟩,bg.nil,?_,⟨⟨C.dR,fun j q x=>?_,fun j q x G=>?_,fun j q x=>?_,fun j k q r x hk hq G R=>?_⟩,fun k=>(B.2.1 k).mono h1 (.refl _ _) (fun _ h=>h),B.2.2⟩,.nil ..,rfl,rfl⟩
 .exact⟨A.os,A.tape,A.output,A.size,A.dc,A.mO,A.fO,A.nm,A.ule,fun b hb=> .inr<|by
   rcases hb with⟨j,q,g1,g2,g3⟩|⟨q,g,g1⟩
   .obtain⟨y,g4,g5,_⟩:=u j q g1;exact .inl ⟨j,y,g4,g5▸g2,g3⟩
   .cases g1⟩
 .obtain⟨y,g4,_⟩:=u j q x;exact B.1.used j y g4
 .obtain⟨y,g4,g5,_⟩:=u j q x;exact C.dD j y g4 (g5▸G)
 .obtain⟨y,g4,_,rfl|⟨rfl,rfl⟩⟩:=u j q x
  .exact C.obj j _ g4
  .exact hu.or h1 J (B.1.obj j o hi)
 .obtain⟨y,g4,g5,_⟩:=u j q x;obtain⟨r',g6,g7,_⟩:=u k r hk;exact B.1.inj j k y r' g4 g6 (g5▸hq) (g7▸G) R
end
section
variable {P:Program}
section
variable {nt:NT} {Q:XQ} {k0:List XI} {s:AS} {X:bg}
theorem F1{t:AS}(hh:t.h=s.h)(hn:t.nx=s.nx)(h: ∀M N a w,Fits M N s nt a w->dV M N s.nx s.h X w->FR M N (· <s.nx) t.f a.tmps):SX nt s X (fun j Y=>j=t∧Y=X):=by
 intro M N a w b hs;obtain⟨f,u,n⟩:=t;simp only at hh hn;subst hh;subst hn;exact⟨M,N,⟨f,s.h,s.nx⟩,X,.refl _ _ _ _ _ _,⟨b.1,h M N a w b hs,b.2.2⟩,hs,rfl,rfl⟩
theorem Cl{b j e d:Nat}{p:PV}(B:X b=co (.out j e))(hp: ∀(M:Mem) (N:Nm) (U:Nat->Prop) (x:Value),U j->N.az j=b->N.ext j=e->VR M N U (s.f.get d) x->VR M N U p x):
  SX nt s X (fun t Y=>t=⟨(d,p)::s.f,s.h,s.nx⟩∧Y=X):=
 F1 Z Z fun M N a w u hs k=>by
  obtain⟨h1,y,A⟩:=hs.out b j e B;rw[AF.au];split
  .rename_i hk;subst hk;exact hp M N _ _ h1 y A (u.2.1 k)
  .exact u.2.1 k
theorem yl{M:Mem}{N:Nm}{n:Nat}{h:AH}{w:World}(hr:Rel M N (· <n) h w){i:Nat}{o o':AO}(hi:h.get i=co o)(B:o'.real=is->o.real=is)(ho:OR M N (· <n) w i o'):Rel M N (· <n) ((i,co o')::h) w:=by
 have b: ∀j q,AH.get ((i,co o')::h) j=co q->(j=i∧q=o')∨(j≠i∧h.get j=co q):=by
  intro j q x;rw[AH.au]at x;split at x
  .rename_i A;exact .inl ⟨A,by simpa using x.symm⟩
  .rename_i A;exact .inr ⟨A,x⟩
 refine⟨hr.dR,fun j q x=>?_,fun j q x u=>?_,fun j q x=>?_,fun j k q r x hk G u D=>?_⟩
 .rcases b j q x with⟨rfl,rfl⟩|⟨_,y⟩
  .exact hr.used j o hi
  .exact hr.used j q y
 .rcases b j q x with⟨rfl,rfl⟩|⟨_,y⟩
  .exact hr.dD j o hi (B u)
  .exact hr.dD j q y u
 .rcases b j q x with⟨rfl,rfl⟩|⟨_,y⟩
  .exact ho
  .exact hr.obj j q y
 .rcases b j q x with⟨rfl,rfl⟩|⟨g1,y⟩<;>rcases b k r hk with⟨g2,C⟩|⟨g2,C⟩
  .exact g2.symm
  .exact hr.inj j k o r hi C (B G) u D
  .subst g2;subst C;exact hr.inj j k q o y hi G (B u) D
  .exact hr.inj j k q r y C G u D
theorem J1{i:Nat}{o o':AO}(hi:s.h.get i=co o)(A:o'.real=is->o.real=is)(ho: ∀M N w,dV M N s.nx s.h X w->OR M N (· <s.nx) w i o->OR M N (· <s.nx) w i o'):
  SX nt s X (fun t Y=>t=⟨s.f,(i,co o')::s.h,s.nx⟩∧Y=X):=by
 intro M N a w D hs;have u: ∀j q,AH.get ((i,co o')::s.h) j=co q->q.real=is-> ∃y,s.h.get j=co y∧y.real=is:=by
  intro j q x B;rw[AH.au]at x;split at x
  .rename_i G;subst G;cases x;exact⟨o,hi,A B⟩
  .exact⟨q,x,B⟩
 refine⟨M,N,⟨s.f,(i,co o')::s.h,s.nx⟩,X,⟨rfl,rfl,⟨rfl,OL _⟩,OL _,fun _ _ _=>rfl,.refl _,fun b c h1 C=>by simp[h1]at C,.refl _ _,OL _,fun b hb=> .inr ?_⟩,
  ⟨yl D.1 hi A (ho M N w hs (D.1.obj i o hi)),D.2⟩,⟨hs.real,hs.obj,hs.dR,fun b p e hb j q x B=>?_,hs.out⟩,rfl,rfl⟩
 .rcases hb with⟨j,q,h1,C,I⟩|hb
  .obtain⟨y,g1,g2⟩:=u j q h1 C;exact .inl ⟨j,y,g1,g2,I⟩
  .exact .inr hb
 .obtain⟨y,g1,g2⟩:=u j q x B;exact hs.apart b p e hb j y g1 g2
theorem J3{i:Nat}{o o':AO}(hi:s.h.get i=co o)(b:dN o o'):SX nt s X (fun t Y=>t=⟨s.f,(i,co o')::s.h,s.nx⟩∧Y=X):=
 J1 hi b.1 fun M N w _ h=>b.2 M N _ w i h
end
end
section
variable {P:Program} {nt:NT} {Q:XQ} {k0:List XI} {s:AS} {X:bg} {ty:Ty}
theorem yC{c:Code}{R u:AS->bg->Prop}(h: ∀t Y,R t Y->u t Y)(hg:GX P nt (.code c:: .lp R::k0) Q s X):GX P nt (.code c:: .lp u::k0) Q s X:=by
 intro M N a w C hs;refine AX.then hg C hs fun e G w' y A s' B D b j x=>⟨y,A,s',B,D,b,j,?_⟩
 cases e with
 |normal=>exact h _ _ x
 |_=>exact x
theorem vK{body:Code}{σ:Type 1}(i0 n:Nat)(y:i0<=n)(I:Nat->σ->AS)(J:Nat->σ->bg->Prop)(B:σ)(C:List Nat)(G:J i0 B X)(h0:Wk s.nx C s (I i0 B))(A: ∀i x Y,J i x Y->Y.still)
  (b: ∀i x Y,i<=n->J i x Y->GX P nt (.code body:: .lp (fun t u=>i<n∧ ∃j L,J (i+1) j u∧Wk s.nx L t (I (i+1) j))::k0) Q (I i x) Y):GX P nt (.code (.loop body)::k0) Q s X:=by
 refine MQ (σ:={p:Nat×σ×bg//p.1<=n∧J p.1 p.2.1 p.2.2}) (fun p=>I p.1.1 p.1.2.1) (fun p=>p.1.2.2) (fun p=>n-p.1.1) ⟨(i0,B,X),y,G⟩ C h0 Z (fun p=>A _ _ _ p.2.2) fun p=>?_;obtain⟨⟨i,x,Y⟩,h1,D⟩:=p;refine yC ?_ (b i x Y h1 D)
 rintro t u ⟨h3,j,L,h4,h5⟩;exact⟨⟨(i+1,j,u),h3,h4⟩,L,by show n-(i+1)<n-i;omega,h5,rfl⟩
end
section
variable {P:Program} {nt:NT} {Q:XQ} {k:List XI} {s:AS} {X:bg}
def GoW(P:Program)(nt:NT)(k:List XI)(Q:XQ)(X:bg)(n0:Nat)(t:AS):AQ:=fun e u=>(e= .normal∧ ∃L,Wk n0 L u t)∨(e≠ .normal∧kx P nt k Q e u X)
theorem uC{n0:Nat}{t u:AS}(L:List Nat)(h:Wk n0 L u t):GoW P nt k Q X n0 t .normal u:= .inl ⟨rfl,L,h⟩
theorem sq{c:Code}(t:AS)(h1:GO P nt [.code c] (GoW P nt k Q X s.nx t) s)(C:GX P nt k Q t X):GX P nt (.code c::k) Q s X:=by
 intro M N a w D hs;refine AW.then h1 D fun e G w' x B u A b j=>?_;rcases j with⟨rfl,L,y⟩|⟨_,j⟩
 .obtain⟨g1,g2⟩:=je.frame (y.ext A) hs;exact⟨x,_,t,X,g1,y.fits b,g2,C⟩
 .obtain⟨g1,g2⟩:=je.frame A hs;exact⟨x,B,u,X,g1,b,g2,j⟩
end
def To(s t:AS):Prop:= ∀M N (nt:NT) a w,Fits M N s nt a w-> ∃b j,Ext M N (· <s.nx) s.h w b j (· <t.nx) t.h w∧Fits b j t nt a w
theorem To.refl(s:AS):To s s:=fun M N _ _ _ b=>⟨M,N,.refl _ _ _ _ _,b⟩
theorem To.trans{s t u:AS}(h:To s t)(g:To t u):To s u:=fun M N nt a w A=>by
 obtain⟨b,x,B,f1⟩:=h M N nt a w A;obtain⟨j,y,C,f2⟩:=g b x nt a w f1;exact⟨j,y,B.trans C,f2⟩
theorem To.wk{s t:AS}{L:List Nat}(hw:Wk s.nx L s t):To s t:=fun M N _ _ _ b=>⟨M,_,hw.ext (.refl _ _ _ _ _),hw.fits b⟩
theorem To.row{s:AS}(i:Nat){sz:Nat}{es:List (List PV)}(el:Nat->List IV)(hi:s.h.get i=co (.row sz es))(a0: ∀k e,es[k]? =co e->e=(el k).map .iv)
  (hf:s.f.qO i sz es.length) (hh:s.h.tk i sz es.length):To s ⟨s.f.iR i sz el,(i,io)::s.h.iQ i sz el,s.nx⟩:=by
 intro M N nt a w b;obtain⟨J,h1,u,h4⟩:=vP b.1 hi a0;have B: ∀j o,AH.get ((i,io)::s.h.iQ i sz el) j=co o-> ∃p,AH.get ((i,io)::s.h) j=co p∧s.h.get j=co p∧o=p.iQ i sz el:=by
  intro j o x;obtain⟨g1,g2⟩:=aZ j o x;rw[AH.pA,OJ]at g2;obtain⟨p,g3,g4⟩:=g2;exact⟨p,by rw[AH.au,be g1];exact g3,g3,g4.symm⟩
 have hE:Ext M N (· <s.nx) s.h w J N (· <s.nx) ((i,io)::s.h.iQ i sz el) w:=⟨h1.os,h1.tape,h1.output,h1.size,h1.dc,h1.mO,h1.fO,h1.nm,h1.ule,fun j o x y=>by
  obtain⟨p,g1,_,rfl⟩:=B j o x;rw[AO.nS]at y
  exact h1.ff j p g1 y⟩
 have hR:Rel J N (· <s.nx) ((i,io)::s.h.iQ i sz el) w:=by
  refine⟨u.dR,fun j o x=>?_,fun j o x y=>?_,fun j o x=>?_,fun j k o p x hk ho D=>?_⟩
  .obtain⟨p,g1,_,rfl⟩:=B j o x;exact u.used j p g1
  .obtain⟨p,g1,_,rfl⟩:=B j o x;rw[AO.nS]at y;exact u.dD j p g1 y
  .obtain⟨p,g1,g2,rfl⟩:=B j o x;cases p with
   |cells cs T0=>
    obtain⟨c,T,q1,q2,q3,q4,q5⟩:=b.1.obj j _ g2;have hok:=AH.ot hh j _ g2;refine⟨c,T,q1,q2,by simpa[fY]using q3,fun k q hq=>?_,q5⟩;rw[fY,OH,OJ]at hq;obtain⟨Y,I,rfl⟩:=hq;exact h4 _ _ (q4 k Y I) (gp hok k Y I)
   |row s2 es2=>
    have hok:=AH.ot hh j _ g2;rcases b.1.obj j _ g2 with rfl|⟨Y,c,T,q1,q2,q3,q4,q5⟩
    .exact .inl Z
    .refine .inr ⟨Y,c,T,q1,q2,by simpa using q3,fun k e C=>?_,fun k e j2 p C D=>?_⟩
     .rw[OH,OJ]at C;obtain⟨R,A,rfl⟩:=C;rw[fY,O7];exact q4 k R A
     .rw[OH,OJ]at C;obtain⟨R,A,rfl⟩:=C;rw[fY,OH,OJ]at D;obtain⟨p0,G,rfl⟩:=D;exact h4 _ _ (q5 k R j2 p0 A G) (gp (hok R (Pe A)) j2 p0 G)
   |bf=>exact u.obj j _ g1
   |eC=>exact u.obj j _ g1
   |map=>exact u.obj j _ g1
   |bB=>exact u.obj j _ g1
   |c9=>exact u.obj j _ g1
   |gi=>exact u.obj j _ g1
   |dB=>exact u.obj j _ g1
  .obtain⟨o',g1,_,rfl⟩:=B j o x;obtain⟨p',g2,_,rfl⟩:=B k p hk;rw[AO.nS]at ho D;exact u.inj j k o' p' g1 g2 ho D
 have b0:Fits J N ⟨s.f.iR i sz el,(i,io)::s.h.iQ i sz el,s.nx⟩ nt a w:=⟨hR,fun d=>by
  rw[AF.iP];exact h4 _ _ (b.2.1 d) (AF.ky hf d),b.2.2⟩
 exact⟨J,N,hE,b0⟩
section
variable {P:Program} {nt:NT} {Q:AQ} {k:List KI} {s t:AS}
theorem yI{all rest:List Oper}(y:To s t)(h:GO P nt (.ops all rest::k) Q t):GO P nt (.ops all rest::k) Q s:=by
 intro M N a w x;obtain⟨j,u,A,b⟩:=y M N nt a w x;exact eD (fun e a2 B ⟨M2,N2,s2,hx2,hf2,hr2⟩=>⟨M2,N2,s2,A.trans hx2,hf2,hr2⟩) _ _ _ (h j u a w b)
end
end
end Go.Al
namespace Go
section
variable {P:Program}
theorem tc{g:Operand}{ps:Array Tmp}{assign body:Code}{Q:Exit->Act->World->Prop}{a:Act}{w:World}
  (h: ∀fn,∃(l:Nat) (j:List Deferred) (J:World) (d:Deferred) (B:World) (f:FuncId) (args:Array Value) (R:World),
   (Instr.enterLoop fn a.tmps ps assign body io).run P w= .ok (l,j) J∧(resolve a.eval (rangeCall g l) 0).run P J= .ok d B∧(invoke d.target d.args).run P B= .ok (.enter f args) R∧
   Calls P f args R fun e w₃=> ∃v,e= .returned v∧ ∃I,(Instr.endLoop l).run P w₃= .ok io I∧Q .normal {a with defers:=j++a.defers} I):
  (Code.rangeFunc g ps assign body).wp P Q a w:=by
 intro b k cs;obtain⟨l,j,J,d,B,f,args,R,he,G,D,A⟩:=h b.fn;have Y: ∀a todo,b.at a todo=Frame.atR {b with roundOf:=io} a todo:=fun _ _=>rfl;have u:=stepR_rangeFunc (P:=P) (b:={b with roundOf:=io}) (a:=a) (k:=k) (cs:=cs) (w:=w) he G D;obtain⟨e,w₃,fr,⟨v,rfl,I,C,hq⟩,y,a0,x⟩:=A (Frame.atR {b with roundOf:=io} {a with defers:=j++a.defers} (.inRangeFunc l::k)::cs);refine⟨.normal,_,I,hq,?_⟩;show Steps P _ _;rw[Y,Y];refine Steps.trans (.one u) (Steps.trans y (.head ?_ (.one (stepR_endRangeFunc C))));rw[<-finish_atR_inRangeFunc l v];exact step_leave_returned x
theorem pK{f:FuncId}{fn:Func}{c:Code}{args:Array Value}{w:World}{R:Ending->World->Prop}(hf:P.funcs[f]? =co fn)(hb:fn.body=co c)
  (h:c.wp P (fun e a w=>(e= .normal∨e= .ret)∧ ∃d r w' v,a.defers=[d]∧d.target= .collected r∧(Instr.takeDeferred r).run P w= .ok [] w'∧(results fn a.tmps).run P w'= .ok v w'∧R (.returned v) w') {tmps:=args++P4 (fn.ntmps-args.size) undef,defers:=[]} w):
  Calls P f args w R:=by
 intro cs
 let b:Frame:={(default:Frame) with fn:=f,kind:= .normal}
 have u:Frame.enter P f args .normal=
   b.at {tmps:=args++P4 (fn.ntmps-args.size) undef,defers:=[]} [.code c]:=by
  simp[Frame.enter,Frame.at,hf,hb,b]
 obtain⟨e,y,w',⟨C,d,r,x,v,hd,B,hk,A,hR⟩,j⟩:=h b [] cs;rw[<-u]at j;rcases C with rfl|rfl
 .have h1:=step_collected (fr:={b.at y []with mode:= .returning}) (cs:=cs) (by simp) hd B hk;exact⟨.returned v,x,_,hR,Steps.trans j (Steps.trans (.one step_end) (.one h1)),rfl,rfl,rfl,rfl,fn,hf,A⟩
 .obtain⟨todo,hs⟩:=j;have h1:=step_collected (fr:={b.at y todo with mode:= .returning}) (cs:=cs) (by simp) hd B hk;exact⟨.returned v,x,_,hR,Steps.trans hs (.one h1),rfl,rfl,rfl,rfl,fn,hf,A⟩
end
end Go
namespace Go.Al
section
def mJ(w w':World):Prop:= ∀(b:Nat) (o:Obj),w.heap[b]? =co o->(∀x,o≠Obj.deferred x)->(∀x,o≠Obj.loop x)->w'.heap[b]? =co o
theorem mJ.alloc{w:World}(o:Obj):mJ w (w.alloc o):=fun b _ hb _ _=>by
 have j:b<w.heap.size:=(Pv.1 hb).1;show(w.heap.push o)[b]? =_;rw[Rk j,<-O4 j];exact hb
theorem mJ.trans{w u x:World}(h:mJ w u)(g:mJ u x):mJ w x:=fun b o hb h1 j=>g b o (h b o hb h1 j) h1 j
theorem mJ.put{w:World}{r:Nat}{o':Obj}(o:Obj)(hr:w.heap[r]? =co o')(h:(∃x,o'= .deferred x)∨ ∃x,o'= .loop x):mJ w (w.putObj r o):=fun b u hb h1 j=>by
 by_cases e:b=r
 .subst e;rw[hr]at hb;cases hb;rcases h with⟨x,rfl⟩|⟨x,rfl⟩
  .exact absurd Z (h1 x)
  .exact absurd Z (j x)
 .rw[World.putObj_heap_other e];exact hb
section
variable {M:Mem} {N:Nm} {U:Nat->Prop} {h:AH} {w w':World}
theorem MB.vG.dc{b:Nat}{m:MB}(hk:mJ w w')(hm:m.vG w b):m.vG w' b:=by
 cases m with
 |cells c=>obtain⟨T,j,h1⟩:=hm;exact⟨T,j,hk _ _ h1 (by simp) (by simp)⟩
 |map es cl=>exact hk _ _ hm (by simp) (by simp)
theorem OR.dc{i:Nat}{o:AO}(hk:mJ w w')(ho:OR M N U w i o):OR M N U w' i o:=by
 cases o with
 |cells cs T0=>obtain⟨c,T,h1,j⟩:=ho;exact⟨c,T,hk _ _ h1 (by simp) (by simp),j⟩
 |row sz es=>
  rcases ho with h|⟨x,c,T,h1,j⟩
  .exact .inl h
  .exact .inr ⟨x,c,T,hk _ _ h1 (by simp) (by simp),j⟩
 |bf l T=>
  rcases ho with h|⟨c,h1,j⟩
  .exact .inl h
  .exact .inr ⟨c,hk _ _ h1 (by simp) (by simp),j⟩
 |eC=>exact hk _ _ ho (by simp) (by simp)
 |map kc ev z zv dv m=>obtain⟨e,cl,h1,j⟩:=ho;exact⟨e,cl,hk _ _ h1 (by simp) (by simp),j⟩
 |bB kc ev m vs cur=>
  rcases ho with⟨h1,j,y,A⟩|⟨b,e,cl,u,h1,j⟩
  .exact .inl ⟨h1,j,y,hk _ _ A (by simp) (by simp)⟩
  .exact .inr ⟨b,e,cl,u,hk _ _ h1 (by simp) (by simp),j⟩
 |c9 s pos=>exact hk _ _ ho (by simp) (by simp)
 |gi kc ev z zv dv m bs cl=>obtain⟨e,h1,j⟩:=ho;exact⟨e,hk _ _ h1 (by simp) (by simp),j⟩
 |dB mp cl u=>obtain⟨b,h1,j⟩:=ho;exact⟨b,h1,hk _ _ j (by simp) (by simp)⟩
theorem Rel.dc(hk:mJ w w')(hr:Rel M N U h w):Rel M N U h w':=
 ⟨fun b c hb=>(hr.dR b c hb).dc hk,hr.used,hr.dD,fun i o j=>(hr.obj i o j).dc hk,hr.inj⟩
theorem OR.not_def{i:Nat}{o:AO}(ho:OR M N U w i o)(j:o.real=is)(x:Option (List Deferred)):w.heap[N.az i]? ≠co (.deferred x):=by
 intro e;cases o with
 |cells cs T0=>obtain⟨c,T,h1,_⟩:=ho;rw[e]at h1;cases h1
 |row sz es=>
  rcases ho with rfl|⟨_,c,T,h1,_⟩
  .cases j
  .rw[e]at h1;cases h1
 |bf l T=>
  rcases ho with rfl|⟨c,h1,_⟩
  .cases j
  .rw[e]at h1;cases h1
 |eC=>exact absurd (e.symm.trans ho) (by simp)
 |map kc ev z zv dv m=>obtain⟨u,cl,h1,_⟩:=ho;rw[e]at h1;cases h1
 |bB kc ev m vs cur=>
  rcases ho with⟨_,_,_,A⟩|⟨b,u,cl,B,h1,_⟩
  .rw[e]at A;cases A
  .rw[e]at h1;cases h1
 |c9 s pos=>exact absurd (e.symm.trans ho) (by simp)
 |gi kc ev z zv dv m bs cl=>obtain⟨u,h1,_⟩:=ho;rw[e]at h1;cases h1
 |dB mp cl B=>obtain⟨b,_,y⟩:=ho;rw[e]at y;cases y
end
def Hp:List Code->Code->Code
 | [],t=>t
 |c::r,t=> .seq c (Hp r t)
theorem sa{P:Program}{nt:NT}{Q:AQ}{e:Exit}{s:AS}(he:e≠ .normal): ∀b:List Code,kp P nt (b.map .code) Q e s->Q e s
 | [],h=>h
 |c::r,h=>by
  rw[OZ]at h;unfold kp at h;cases e<;>first|exact absurd Z he|exact sa he r h
theorem DE{P:Program}{nt:NT}{Q:AQ}{b:Code}: ∀cs:List Code,kp P nt ((cs++ [b]).map .code) Q=kp P nt (cs.map .code) (kp P nt [.code b] Q)
 | []=>rfl
 |c::r=>by
  rw[PT,OZ,OZ]
  funext e s
  unfold kp;rw[DE r]
theorem Ag{P:Program}{nt:NT}{Q:AQ}{T:Code}{Z:Exit->Act->World->Prop}: ∀(cs:List Code) {s:AS} {M:Mem} {N:Nm} {a:Act} {w:World},GO P nt (cs.map .code) Q s->Fits M N s nt a w->(∀e s',Q e s'->e= .normal)->
  (∀u w' b j s',Ext M N (· <s.nx) s.h w b j (· <s'.nx) s'.h w'->Fits b j s' nt u w'->Q .normal s'->T.wp P Z u w')->(Hp cs T).wp P Z a w
 | [],s,M,N,a,w,h,hf,_,hz=>hz a w M N s (.refl _ _ _ _ _) hf h
 |c::r,s,M,N,a,w,h,hf,hq,hz=>by
  refine wp_seq (AW.then (R:=kp P nt (r.map .code) Q) h hf fun e u w' b j s' I y hk=>?_);by_cases x:e= .normal
  .subst x;exact Ag r hk y hq fun a2 Y D G J C A B=>hz a2 Y D G J (I.trans C) A B
  .exact absurd (hq e s' (sa x r hk)) x
section
variable {P:Program} {s:AS} {n:Nat}
abbrev rY(D:Nat):List Deferred:=[{target:= .collected D,args:= #[]}]
theorem Ln{g:Operand}{ps:Array Tmp}{J bd:Code}{kf:FuncId}{asv args:Nat->List PV}{os:List AO}{r:PV}{h':AH}{n':Nat}(L:List Nat)(hc: ∀l,bI P kf (args l) os r h' n')(ha: ∀l,bz s.f (rangeCall g l)=co (kf,asv l))
  (hnd:L.Nodup) (hL: ∀j∈L,j<s.nx) (r0:L.map s.h.get=os.map fun o=>co (o.cj (sig L s.nx))) (B: ∀l,asv l=cW (sig L s.nx) (args l))
  {M:Mem} {N:Nm} {a:Act} {w:World} (hf:Fits M N s ⟨n,[]⟩ a w) {Z:Exit->Act->World->Prop}
  (hz: ∀M' N' D w',Ext M N (· <s.nx) s.h w M' N' (· <(aQ s L h' n').nx) (aQ s L h' n').h w'->Fits M' N' (aQ s L h' n') ⟨n,rY D⟩ {a with defers:=rY D} w'->w'.heap[D]? =co (.deferred (co []))->w.heap.size<=D->Z .normal {a with defers:=rY D} w'):
  (Code.rangeFunc g ps J bd).wp P Z a w:=by
 refine tc fun fn=>?_;obtain⟨a0,C⟩: ∃a0:Loop,a0={state:= .ready,pending:=io,fn,tmps:=a.tmps,params:=ps,assign:=J,body:=bd,defers:=w.heap.size}:=⟨_,rfl⟩
 obtain⟨A,u⟩: ∃A,A=(w.alloc (.deferred (co []))).alloc (.loop a0):=⟨_,rfl⟩
 have p0:mJ w A:=u▸(mJ.alloc _).trans (mJ.alloc _);have s0:A.heap.size=w.heap.size+2:=by rw[u,World.size_alloc,World.size_alloc]
 have c0: ∀b,b<w.heap.size->A.heap[b]? =w.heap[b]? :=fun b hb=>by
  rw[u];show((w.heap.push _).push _)[b]? =_;rw[Rk (by simp;omega),Array.getElem_push_lt hb,<-O4 hb]
 have k0:A.heap[w.heap.size]? =co (.deferred (co [])):=by
  rw[u];show((w.heap.push _).push _)[w.heap.size]? =_;rw[Rk (by simp),Array.getElem_push_eq]
 have q0:A.heap[w.heap.size+1]? =co (.loop a0):=by
  have:=World.alloc_heap_new (w.alloc (.deferred (co []))) (.loop a0);rw[World.size_alloc]at this;rw[u];exact this
 have j0:Rel M N (· <s.nx) s.h A:=hf.1.dc p0;have o0:Fits M N s ⟨n,[]⟩ a A:=⟨j0,hf.2.1,hf.2.2⟩
 have i0: ∀b,w.heap.size<=b-> ∀i o,s.h.get i=co o->o.real=is->N.az i≠b:=fun b hb i o hi ho e=>by
  have:=(hf.1.obj i o hi).lt ho;omega
 let o:Oper:={(default:Oper) with op:= .call (rangeCall g (w.heap.size+1))}
 obtain⟨vs,y,b0,hv⟩:=xQ o0 (o:=o) rfl (ha _) (hc 0).1;simp only[execOp,o]at y;rw[Sem.run_bind]at y;generalize f0:(resolve a.eval (rangeCall g (w.heap.size+1)) _).run P A=rr at y;cases rr with
 |halt _ _=>simp[Result.andThen]at y
 |ok d w1'=>
  simp only[Result.andThen]at y;refine⟨_,_,A,d,w1',kf,vs.toArray,A,by rw[run_enterLoop_outer,u,C],f0,y,?_⟩;have I:(args (w.heap.size+1)).length=vs.length:=by rw[<-b0,B,bx,O7]
  have G:=(hc (w.heap.size+1)).calls hnd hL r0 j0 I fun j p hp=>hv j _ (by rw[B,bx,OH,hp];rfl);refine G.mono ?_
  rintro e w3 ⟨x,M',N',r',h1',n1',rfl,⟨rfl,rfl,rfl⟩,hx,hr,hvr⟩;have Y:w3.heap[w.heap.size+1]? =co (.loop a0):=by rw[hx.dc _ (by omega) (i0 _ (by omega))];exact q0
  have m0:w3.heap[w.heap.size]? =co (.deferred (co [])):=by rw[hx.dc _ (by omega) (i0 _ (by omega))];exact k0
  refine⟨x,rfl,_,(by rw[run_endLoop Y (by rw[C];simp),C]),?_⟩;have n0:a.defers=[]:=hf.2.2.1;rw[n0,Pw];refine hz M' N' w.heap.size _ ?_ ⟨hr.dc (mJ.put _ Y (.inr ⟨_,rfl⟩)),hf.2.1.ext hx,rfl,hf.2.2.2⟩ (by rw[World.putObj_heap_other (by omega)];exact m0) (OL _);have d0:A.os=w.os:=by rw[u];rfl
  have g0:A.tape=w.tape:=by rw[u];rfl
  have e0:A.output=w.output:=by rw[u];rfl
  have R:A.drawn=w.drawn:=by rw[u];rfl
  have t0:=hx.size
  exact⟨hx.os.trans d0,hx.tape.trans g0,⟨hx.output.out.trans e0,by have:=hx.output.drawn;rw[R]at this;exact this⟩,by rw[World.putObj_size];omega,
   fun b hb hn=>by rw[World.putObj_heap_other (by omega),hx.dc b (by omega) hn,c0 b hb],hx.mO,
   fun b c h1 h2=>(hx.fO b c h1 h2).imp (fun h=>by omega) id,hx.nm,hx.ule,fun i o hi ho=>(hx.ff i o hi ho).imp (fun h=>by omega) id⟩
end
section
variable {P:Program}
theorem KV{k:FuncId}{args:List PV}{os:List AO}{R:PV->AH->Nat->Prop}
  (key:Fn P k args os fun J G n0=>gZ G n0 J fun A C=> ∃r u y L,R r u y∧Wk os.length L ⟨[(0,C)],A,n0⟩ ⟨[(0,r)],u,y⟩):Fn P k args os R:=by
 refine⟨key.1,fun M N w vs Y j hv=>(key.2 M N w vs Y j hv).mono ?_⟩;rintro e w' ⟨x,M',N',J,G,n0,rfl,hF,hx,hr',hvr⟩;obtain⟨D,A,C,g1,g2,g3,r,u,y,L,hR,I⟩:=hF M' N' w' hr'
 have B:Fits D N' ⟨[(0,C)],A,n0⟩ ⟨1,[]⟩ ⟨#[x],[]⟩ w':=⟨g2,fun d=>by
  rw[AF.au];by_cases hd:d=0
  .subst hd;rw[am Z];exact g3 x hvr
  .rw[be hd];exact .any _,rfl,rfl⟩
 have b:=I.fits B;refine⟨x,D,_,r,u,y,rfl,hR,I.ext (hx.trans g1),b.1,?_⟩;have:=b.2.1 0;exact this
theorem yO{M:Mem}{N:Nm}{w:World}{args:List PV}{os:List AO}{vs:List Value}{m nt:Nat}(hm:m=nt)(hr:Rel M N (· <os.length) (cP 0 os) w)(b:args.length=vs.length)(x:args.length<=nt)(y: ∀(j:Nat) (p:PV),args[j]? =co p->VR M N (· <os.length) p (vs.getD j undef)):
  Fits M N ⟨kY 0 args,cP 0 os,os.length⟩ nt {tmps:=vs.toArray++P4 (m-vs.toArray.size) undef,defers:=[]} w:=by
 refine⟨hr,fun i=>?_,rfl,by simp;omega⟩;rw[oO,am (OS _),Q4,OC];cases hi:args[i]? with
 |none=>exact .any _
 |some p=>
  have u:i<vs.length:=by rw[<-b];exact(OB.1 hi).1
  have:=y i p hi;have e:(vs.toArray++P4 (m-vs.toArray.size) undef).getD i undef=vs.getD i undef:=by
   rw[Oz,Pc (by simpa using u),OC];simp
  simp only[PA];rw[e];exact this
theorem Gz {ty:Ty} (p0:bn P ty) {k:FuncId} {fn:Func} {cs:List Code} {c0:Code} {id:Nat} {g:Operand} {ps:Array Tmp} {g0 bd T:Code} (hf:P.funcs[k]? =co fn) (hb:fn.body=co (Hp cs (.seq (.seq c0 (.block id (.rangeFunc g ps g0 bd))) T))) (hn:(fn.name== "runtime.NumGoroutine")=jp) {nt:Nat} (m0:fn.ntmps=nt)
  {l:List ResultVar} (hl:fn.results.toList=l) {u:List PV} (j0:u.length<=nt) {r0:PV} (hlow:r0.low 0=is) (s:AS) (y:GO P nt ((cs++ [c0]).map .code) (fun e t=>e= .normal∧ ∃L0,Wk t.nx L0 t s) ⟨kY 0 u,[],0⟩)
  {kf:FuncId} {asv args:Nat->List PV} {os:List AO} {r:PV} {h':AH} {n':Nat} (L:List Nat) (hc: ∀l,bI P kf (args l) os r h' n') (ha: ∀l,bz s.f (rangeCall g l)=co (kf,asv l))
  (hnd:ch L=is) (hL:L.all (fun j=>O1 j s.nx)=is) (n0:L.map s.h.get=os.map fun o=>co (o.cj (sig L s.nx))) (C: ∀l,asv l=cW (sig L s.nx) (args l))
  (I: ∀D,GO P ⟨nt,rY D⟩ [.code T] (y1 ty l r0) (aQ s L h' n')):Pure P k u r0:=by
 refine KV ⟨bc hf hb hn,fun M N w vs hr b0 hv=>?_⟩;refine pK hf hb ?_;unfold GO at y;rw[DE]at y;refine Ag cs y (yO m0 hr b0 j0 hv) (fun e s' h=>PM fun he=>he (sa he [c0] h).1) fun a0 w0 M0 N0 s0 q0 i0 o0=>?_;refine wp_seq (wp_seq (AW.then (R:=fun e t=>e= .normal∧ ∃L0,Wk t.nx L0 t s) o0 i0 fun e a1 w1 M1 N1 s1 A G hq=>?_));obtain⟨rfl,L0,hw⟩:=hq
 replace A:=q0.trans A
 replace A:=A.trans (hw.ext (.refl _ _ _ _ _))
 replace G:=hw.fits G
 refine wp_block (Ln L hc ha (ej hnd) (fun j hj=>Oy (Pj.1 hL j hj)) n0 C G fun M2 N2 D w2 t0 Y hD z0=>?_);show T.wp P _ _ w2;refine AW.then (I D) Y fun e a3 w3 M3 N3 s3 f0 B e0=>?_;simp only[kp]at e0;obtain⟨he,q,g1,g2⟩:=e0;have k0:D<w2.heap.size:=(Pv.1 hD).1
 have J:w3.heap[D]? =co (.deferred (co [])):=by
  rw[f0.dc D k0 fun i o hi ho e=>(Y.1.obj i o hi).not_def ho (co []) (by rw[e];exact hD)];exact hD
 have d0:Fits M3 N3 s3 ⟨nt,rY D⟩ a3 (w3.putObj D (.deferred io)):=⟨B.1.dc (mJ.put _ J (.inl ⟨_,rfl⟩)),B.2.1,B.2.2⟩
 obtain⟨x,v0,x0⟩:=ve p0 d0 hl g1;have E:=(A.trans t0).trans f0;have b1:=A.size;refine⟨he,_,D,_,x,B.2.2.1,rfl,run_takeDeferred J,v0,x,M3,N3,q,s3.h,s3.nx,rfl,?_,?_,d0.1,x0⟩
 .intro M N w hr;obtain⟨M2,h2,r2,q1,q2,q3,q4⟩:=g2 M N w hr;refine⟨M2,h2,r2,q1,q2,q3,r0,[],0,[],⟨rfl,rfl,rfl⟩,rfl,OS _,by simp,⟨?_,hlow,ac⟩,ac,Pk⟩;rw[PV.ir _ _ hlow];exact q4
 .exact⟨E.os,E.tape,⟨E.output.out,E.output.drawn⟩,by rw[World.putObj_size];exact E.size,fun b hb hn=>by rw[World.putObj_heap_other (by omega)];exact E.dc b hb hn,E.mO,E.fO,E.nm,E.ule,E.ff⟩
def qM:Code->List Code×Code×Nat×Operand×Array Tmp×Code×Code×Code
 | .seq (.seq x (.block i (.rangeFunc g ps a b))) t=>([],x,i,g,ps,a,b,t)
 | .seq x y=>(x::(qM y).1,(qM y).2)
 |_=>([],.skip,0,.tmp 0, #[],.skip,.skip,.skip)
def KL(p:List Code×Code×Nat×Operand×Array Tmp×Code×Code×Code):Code:=Hp p.1 (.seq (.seq p.2.1 (.block p.2.2.1 (.rangeFunc p.2.2.2.1 p.2.2.2.2.1 p.2.2.2.2.2.1 p.2.2.2.2.2.2.1))) p.2.2.2.2.2.2.2)
end
end
end Go.Al
namespace Go.Proofs.YtllkaddcplhklaaGreatDoor
open Go Go.Al Go.Proofs.Tryz
def ty2:bA:=⟨.aJ (.int .i64),1,8,.int .i64 (0),jp⟩
theorem Lz:ai prog 2 ty2:=⟨ad (by kernel_rfl),⟨underlying2,rfl⟩,fun h=>nomatch h⟩
def ty3:bA:=⟨.aJ (.int .i64),1,8,.int .i64 (0),jp⟩
theorem Ly:ai prog 3 ty3:=⟨ad (by kernel_rfl),⟨underlying3,rfl⟩,fun h=>nomatch h⟩
def ty4:bA:=⟨.aJ (.bool),1,1,.bool jp,jp⟩
theorem Lx:ai prog 4 ty4:=⟨ad (by kernel_rfl),⟨underlying4,rfl⟩,fun h=>nomatch h⟩
def ty5:bA:=⟨.aJ (.int .u8),1,1,.int .u8 (0),jp⟩
theorem Lw:ai prog 5 ty5:=⟨ad (by kernel_rfl),⟨underlying5,rfl⟩,fun h=>nomatch h⟩
def ty9:bA:=⟨.aJ (.string),1,16,.string OI,jp⟩
theorem Lv:ai prog 9 ty9:=⟨ad (by kernel_rfl),⟨underlying9,rfl⟩,fun h=>nomatch h⟩
def Ma:bA:=⟨.aJ (.int .i32),1,4,.int .i32 (0),jp⟩
theorem JS:ai prog 21 Ma:=⟨ad (by kernel_rfl),⟨underlying21,rfl⟩,fun h=>nomatch h⟩
def L9:bA:=⟨.aJ (.pointer 70),1,8,.pointer io,jp⟩
theorem JR:ai prog 23 L9:=⟨ad (by kernel_rfl),⟨underlying23,rfl⟩,fun h=>nomatch h⟩
def L8:bA:=⟨.aJ (.int .i64),1,8,.int .i64 (0),jp⟩
theorem JQ:ai prog 24 L8:=⟨ad (by kernel_rfl),⟨underlying24,rfl⟩,fun h=>nomatch h⟩
def L7:bA:=⟨.aJ (.slice 3),1,24,.slice io 0 0,jp⟩
theorem JP:ai prog 27 L7:=⟨ad (by kernel_rfl),⟨underlying27,rfl⟩,fun h=>nomatch h⟩
def L6:bA:=⟨.cE [(0,3),(1,3)],2,16,.agg #[.int .i64 (0),.int .i64 (0)],is⟩
theorem JO:ai prog 29 L6:=⟨ad (by kernel_rfl),⟨_,underlying29,rfl⟩,fun _=>b7 underlying29 Tryz.stoodInHeld29 Tryz.eqGuardType29 (by decide)⟩
def L5:bA:=⟨.cE [(0,9),(1,27),(2,29)],4,56,.agg #[.string OI,.slice io 0 0,.int .i64 (0),.int .i64 (0)],is⟩
theorem JN:ai prog 31 L5:=⟨ad (by kernel_rfl),⟨_,underlying31,rfl⟩,fun _=>b7 underlying31 Tryz.stoodInHeld31 Tryz.eqGuardType31 (by decide)⟩
def L4:bA:=⟨.aJ (.slice 31),1,24,.slice io 0 0,jp⟩
theorem JM:ai prog 32 L4:=⟨ad (by kernel_rfl),⟨underlying32,rfl⟩,fun h=>nomatch h⟩
def L3:bA:=⟨.aJ (.slice 99),1,24,.slice io 0 0,jp⟩
theorem JL:ai prog 33 L3:=⟨ad (by kernel_rfl),⟨underlying33,rfl⟩,fun h=>nomatch h⟩
def L2:bA:=⟨.cE [(0,32),(1,33)],2,48,.agg #[.slice io 0 0,.slice io 0 0],is⟩
theorem JK:ai prog 35 L2:=⟨ad (by kernel_rfl),⟨_,underlying35,rfl⟩,fun _=>b7 underlying35 Tryz.stoodInHeld35 Tryz.eqGuardType35 (by decide)⟩
def L1:bA:=⟨.aJ (.slice 42),1,24,.slice io 0 0,jp⟩
theorem JJ:ai prog 36 L1:=⟨ad (by kernel_rfl),⟨underlying36,rfl⟩,fun h=>nomatch h⟩
def LZ:bA:=⟨.aJ (.slice 72),1,24,.slice io 0 0,jp⟩
theorem JI:ai prog 37 LZ:=⟨ad (by kernel_rfl),⟨underlying37,rfl⟩,fun h=>nomatch h⟩
def LY:bA:=⟨.cE [(0,9),(1,37)],2,40,.agg #[.string OI,.slice io 0 0],is⟩
theorem JH:ai prog 39 LY:=⟨ad (by kernel_rfl),⟨_,underlying39,rfl⟩,fun _=>b7 underlying39 Tryz.stoodInHeld39 Tryz.eqGuardType39 (by decide)⟩
def LX:bA:=⟨.cE [(0,4),(1,39)],3,48,.agg #[.bool jp,.string OI,.slice io 0 0],is⟩
theorem JG:ai prog 42 LX:=⟨ad (by kernel_rfl),⟨_,underlying42,rfl⟩,fun _=>b7 underlying42 Tryz.stoodInHeld42 Tryz.eqGuardType42 (by decide)⟩
def LW:bA:=⟨.aJ (.func #[39] #[4] jp),1,8,.nilFunc,jp⟩
theorem JF:ai prog 46 LW:=⟨ad (by kernel_rfl),⟨underlying46,rfl⟩,fun h=>nomatch h⟩
def LV:bA:=⟨.aJ (.slice 39),1,24,.slice io 0 0,jp⟩
theorem JE:ai prog 48 LV:=⟨ad (by kernel_rfl),⟨underlying48,rfl⟩,fun h=>nomatch h⟩
def LU:bA:=⟨.aJ (.func #[46] #[] jp),1,8,.nilFunc,jp⟩
theorem JD:ai prog 56 LU:=⟨ad (by kernel_rfl),⟨underlying56,rfl⟩,fun h=>nomatch h⟩
def LS:bA:=⟨.aJ (.func #[46] #[] jp),1,8,.nilFunc,jp⟩
theorem JC:ai prog 57 LS:=⟨ad (by kernel_rfl),⟨underlying57,rfl⟩,fun h=>nomatch h⟩
def LR:bA:=⟨.aJ (.func #[39,39] #[4] jp),1,8,.nilFunc,jp⟩
theorem JB:ai prog 61 LR:=⟨ad (by kernel_rfl),⟨underlying61,rfl⟩,fun h=>nomatch h⟩
def LQ:bA:=⟨.cE [(0,24),(1,29)],3,24,.agg #[.int .i64 (0),.int .i64 (0),.int .i64 (0)],is⟩
theorem JA:ai prog 63 LQ:=⟨ad (by kernel_rfl),⟨_,underlying63,rfl⟩,fun _=>b7 underlying63 Tryz.stoodInHeld63 Tryz.eqGuardType63 (by decide)⟩
def LP:bA:=⟨.aJ (.map 78 39),1,8,.map io,jp⟩
theorem Jz:ai prog 65 LP:=⟨ad (by kernel_rfl),⟨underlying65,rfl⟩,fun h=>nomatch h⟩
def LO:bA:=⟨.cE [(0,65)],1,8,.agg #[.map io],is⟩
theorem Jy:ai prog 67 LO:=⟨ad (by kernel_rfl),⟨_,underlying67,rfl⟩,fun _=>b7 underlying67 Tryz.stoodInHeld67 Tryz.eqGuardType67 (by decide)⟩
def LN:bA:=⟨.cE [(0,67),(1,35),(3,3)],4,64,.agg #[.map io,.slice io 0 0,.slice io 0 0,.int .i64 (0)],is⟩
theorem Jx:ai prog 70 LN:=⟨ad (by kernel_rfl),⟨_,underlying70,rfl⟩,fun _=>b7 underlying70 Tryz.stoodInHeld70 Tryz.eqGuardType70 (by decide)⟩
def LM:bA:=⟨.cE [(0,3),(1,3),(2,9)],3,32,.agg #[.int .i64 (0),.int .i64 (0),.string OI],is⟩
theorem Jw:ai prog 72 LM:=⟨ad (by kernel_rfl),⟨_,underlying72,rfl⟩,fun _=>b7 underlying72 Tryz.stoodInHeld72 Tryz.eqGuardType72 (by decide)⟩
def LL:bA:=⟨.aJ (.map 78 42),1,8,.map io,jp⟩
theorem Jv:ai prog 73 LL:=⟨ad (by kernel_rfl),⟨underlying73,rfl⟩,fun h=>nomatch h⟩
def LK:bA:=⟨.arr 8 72,24,256,.agg #[.int .i64 (0),.int .i64 (0),.string OI,.int .i64 (0),.int .i64 (0),.string OI,.int .i64 (0),.int .i64 (0),.string OI,.int .i64 (0),.int .i64 (0),.string OI,.int .i64 (0),.int .i64 (0),.string OI,.int .i64 (0),.int .i64 (0),.string OI,.int .i64 (0),.int .i64 (0),.string OI,.int .i64 (0),.int .i64 (0),.string OI],jp⟩
theorem Ju:ai prog 76 LK:=⟨ad (by kernel_rfl),underlying76,fun h=>nomatch h⟩
def eV:bA:=⟨.cE [(0,9),(1,3),(2,76)],26,280,.agg #[.string OI,.int .i64 (0),.int .i64 (0),.int .i64 (0),.string OI,.int .i64 (0),.int .i64 (0),.string OI,.int .i64 (0),.int .i64 (0),.string OI,.int .i64 (0),.int .i64 (0),.string OI,.int .i64 (0),.int .i64 (0),.string OI,.int .i64 (0),.int .i64 (0),.string OI,.int .i64 (0),.int .i64 (0),.string OI,.int .i64 (0),.int .i64 (0),.string OI],is⟩
theorem Jt:ai prog 78 eV:=⟨ad (by kernel_rfl),⟨_,underlying78,rfl⟩,fun _=>b7 underlying78 Tryz.stoodInHeld78 Tryz.eqGuardType78 (by decide)⟩
def LJ:bA:=⟨.aJ (.pointer 67),1,8,.pointer io,jp⟩
theorem Js:ai prog 81 LJ:=⟨ad (by kernel_rfl),⟨underlying81,rfl⟩,fun h=>nomatch h⟩
def LI:bA:=⟨.aJ (.func #[39,39] #[3] jp),1,8,.nilFunc,jp⟩
theorem Jr:ai prog 85 LI:=⟨ad (by kernel_rfl),⟨underlying85,rfl⟩,fun h=>nomatch h⟩
def LH:bA:=⟨.aJ (.map 9 92),1,8,.map io,jp⟩
theorem Jq:ai prog 88 LH:=⟨ad (by kernel_rfl),⟨underlying88,rfl⟩,fun h=>nomatch h⟩
def LG:bA:=⟨.aJ (.map 9 92),1,8,.map io,jp⟩
theorem Jp:ai prog 89 LG:=⟨ad (by kernel_rfl),⟨underlying89,rfl⟩,fun h=>nomatch h⟩
def LF:bA:=⟨.aJ (.map 9 3),1,8,.map io,jp⟩
theorem Jo:ai prog 92 LF:=⟨ad (by kernel_rfl),⟨underlying92,rfl⟩,fun h=>nomatch h⟩
def LD:bA:=⟨.aJ (.slice 104),1,24,.slice io 0 0,jp⟩
theorem Jn:ai prog 94 LD:=⟨ad (by kernel_rfl),⟨underlying94,rfl⟩,fun h=>nomatch h⟩
def LC:bA:=⟨.cE [(0,9),(1,94)],2,40,.agg #[.string OI,.slice io 0 0],is⟩
theorem Jm:ai prog 96 LC:=⟨ad (by kernel_rfl),⟨_,underlying96,rfl⟩,fun _=>b7 underlying96 Tryz.stoodInHeld96 Tryz.eqGuardType96 (by decide)⟩
def LB:bA:=⟨.aJ (.slice 128),1,24,.slice io 0 0,jp⟩
theorem Jl:ai prog 97 LB:=⟨ad (by kernel_rfl),⟨underlying97,rfl⟩,fun h=>nomatch h⟩
def LA:bA:=⟨.cE [(0,96),(2,97),(3,29)],5,80,.agg #[.string OI,.slice io 0 0,.slice io 0 0,.int .i64 (0),.int .i64 (0)],is⟩
theorem Jk:ai prog 99 LA:=⟨ad (by kernel_rfl),⟨_,underlying99,rfl⟩,fun _=>b7 underlying99 Tryz.stoodInHeld99 Tryz.eqGuardType99 (by decide)⟩
def IL:bA:=⟨.cE [(0,3),(1,9),(2,72)],5,56,.agg #[.int .i64 (0),.string OI,.int .i64 (0),.int .i64 (0),.string OI],is⟩
theorem FW:ai prog 104 IL:=⟨ad (by kernel_rfl),⟨_,underlying104,rfl⟩,fun _=>b7 underlying104 Tryz.stoodInHeld104 Tryz.eqGuardType104 (by decide)⟩
def IK:bA:=⟨.aJ (.func #[78,42] #[4] jp),1,8,.nilFunc,jp⟩
theorem FV:ai prog 111 IK:=⟨ad (by kernel_rfl),⟨underlying111,rfl⟩,fun h=>nomatch h⟩
def IJ:bA:=⟨.aJ (.func #[42,42] #[3] jp),1,8,.nilFunc,jp⟩
theorem FU:ai prog 114 IJ:=⟨ad (by kernel_rfl),⟨underlying114,rfl⟩,fun h=>nomatch h⟩
def II:bA:=⟨.aJ (.slice 124),1,24,.slice io 0 0,jp⟩
theorem FT:ai prog 122 II:=⟨ad (by kernel_rfl),⟨underlying122,rfl⟩,fun h=>nomatch h⟩
def IH:bA:=⟨.cE [(0,3),(1,9),(2,72),(5,3),(6,122)],7,88,.agg #[.int .i64 (0),.string OI,.int .i64 (0),.int .i64 (0),.string OI,.int .i64 (0),.slice io 0 0],is⟩
theorem FQ:ai prog 124 IH:=⟨ad (by kernel_rfl),⟨_,underlying124,rfl⟩,fun _=>b7 underlying124 Tryz.stoodInHeld124 Tryz.eqGuardType124 (by decide)⟩
def IG:bA:=⟨.cE [(0,3),(1,9),(2,124),(9,97)],10,136,.agg #[.int .i64 (0),.string OI,.int .i64 (0),.string OI,.int .i64 (0),.int .i64 (0),.string OI,.int .i64 (0),.slice io 0 0,.slice io 0 0],is⟩
theorem FP:ai prog 126 IG:=⟨ad (by kernel_rfl),⟨_,underlying126,rfl⟩,fun _=>b7 underlying126 Tryz.stoodInHeld126 Tryz.eqGuardType126 (by decide)⟩
def IF:bA:=⟨.cE [(0,3),(1,96),(3,3),(4,124),(11,124),(18,126),(28,29)],30,384,.agg #[.int .i64 (0),.string OI,.slice io 0 0,.int .i64 (0),.int .i64 (0),.string OI,.int .i64 (0),.int .i64 (0),.string OI,.int .i64 (0),.slice io 0 0,.int .i64 (0),.string OI,.int .i64 (0),.int .i64 (0),.string OI,.int .i64 (0),.slice io 0 0,.int .i64 (0),.string OI,.int .i64 (0),.string OI,.int .i64 (0),.int .i64 (0),.string OI,.int .i64 (0),.slice io 0 0,.slice io 0 0,.int .i64 (0),.int .i64 (0)],is⟩
theorem FO:ai prog 128 IF:=⟨ad (by kernel_rfl),⟨_,underlying128,rfl⟩,fun _=>b7 underlying128 Tryz.stoodInHeld128 Tryz.eqGuardType128 (by decide)⟩
def IE:bA:=⟨.aJ (.slice 9),1,24,.slice io 0 0,jp⟩
theorem FN:ai prog 129 IE:=⟨ad (by kernel_rfl),⟨underlying129,rfl⟩,fun h=>nomatch h⟩
def ID:bA:=⟨.aJ (.func #[63] #[4] jp),1,8,.nilFunc,jp⟩
theorem FL:ai prog 132 ID:=⟨ad (by kernel_rfl),⟨underlying132,rfl⟩,fun h=>nomatch h⟩
def IC:bA:=⟨.aJ (.func #[9] #[3] jp),1,8,.nilFunc,jp⟩
theorem FJ:ai prog 133 IC:=⟨ad (by kernel_rfl),⟨underlying133,rfl⟩,fun h=>nomatch h⟩
def IB:bA:=⟨.aJ (.pointer 128),1,8,.pointer io,jp⟩
theorem FI:ai prog 139 IB:=⟨ad (by kernel_rfl),⟨underlying139,rfl⟩,fun h=>nomatch h⟩
def IA:bA:=⟨.aJ (.map 9 31),1,8,.map io,jp⟩
theorem FH:ai prog 142 IA:=⟨ad (by kernel_rfl),⟨underlying142,rfl⟩,fun h=>nomatch h⟩
def Iz:bA:=⟨.aJ (.int .u64),1,8,.int .u64 (0),jp⟩
theorem FG:ai prog 147 Iz:=⟨ad (by kernel_rfl),⟨underlying147,rfl⟩,fun h=>nomatch h⟩
def Iy:bA:=⟨.aJ (.func #[72,72] #[3] jp),1,8,.nilFunc,jp⟩
theorem FF:ai prog 151 Iy:=⟨ad (by kernel_rfl),⟨underlying151,rfl⟩,fun h=>nomatch h⟩
def Ix:bA:=⟨.aJ (.map 9 3),1,8,.map io,jp⟩
theorem FE:ai prog 155 Ix:=⟨ad (by kernel_rfl),⟨underlying155,rfl⟩,fun h=>nomatch h⟩
def Iw:bA:=⟨.aJ (.func #[124] #[4] jp),1,8,.nilFunc,jp⟩
theorem FD:ai prog 157 Iw:=⟨ad (by kernel_rfl),⟨underlying157,rfl⟩,fun h=>nomatch h⟩
def Iv:bA:=⟨.aJ (.func #[126] #[4] jp),1,8,.nilFunc,jp⟩
theorem FC:ai prog 158 Iv:=⟨ad (by kernel_rfl),⟨underlying158,rfl⟩,fun h=>nomatch h⟩
def Iu:bA:=⟨.aJ (.func #[128] #[4] jp),1,8,.nilFunc,jp⟩
theorem FB:ai prog 162 Iu:=⟨ad (by kernel_rfl),⟨underlying162,rfl⟩,fun h=>nomatch h⟩
def It:bA:=⟨.aJ (.int .i64),1,8,.int .i64 (0),jp⟩
theorem FA:ai prog 167 It:=⟨ad (by kernel_rfl),⟨underlying167,rfl⟩,fun h=>nomatch h⟩
def Is:bA:=⟨.aJ (.int .u32),1,4,.int .u32 (0),jp⟩
theorem Fz:ai prog 175 Is:=⟨ad (by kernel_rfl),⟨underlying175,rfl⟩,fun h=>nomatch h⟩
def Ir:bA:=⟨.aJ (.int .u64),1,8,.int .u64 (0),jp⟩
theorem Fy:ai prog 177 Ir:=⟨ad (by kernel_rfl),⟨underlying177,rfl⟩,fun h=>nomatch h⟩
def Iq:bA:=⟨.aJ (.func #[3] #[4] jp),1,8,.nilFunc,jp⟩
theorem Fx:ai prog 185 Iq:=⟨ad (by kernel_rfl),⟨underlying185,rfl⟩,fun h=>nomatch h⟩
def Ip:bA:=⟨.aJ (.pointer 229),1,8,.pointer io,jp⟩
theorem Fw:ai prog 189 Ip:=⟨ad (by kernel_rfl),⟨underlying189,rfl⟩,fun h=>nomatch h⟩
def Io:bA:=⟨.aJ (.slice 96),1,24,.slice io 0 0,jp⟩
theorem Fv:ai prog 192 Io:=⟨ad (by kernel_rfl),⟨underlying192,rfl⟩,fun h=>nomatch h⟩
def Im:bA:=⟨.aJ (.func #[96] #[4] jp),1,8,.nilFunc,jp⟩
theorem Fu:ai prog 194 Im:=⟨ad (by kernel_rfl),⟨underlying194,rfl⟩,fun h=>nomatch h⟩
def Il:bA:=⟨.cE [(0,24),(1,185)],2,16,.agg #[.int .i64 (0),.nilFunc],is⟩
theorem Ft:ai prog 195 Il:=⟨ad (by kernel_rfl),⟨_,underlying195,rfl⟩,fun _=>b7 underlying195 Tryz.stoodInHeld195 Tryz.eqGuardType195 (by decide)⟩
def Ik:bA:=⟨.aJ (.pointer 238),1,8,.pointer io,jp⟩
theorem Fs:ai prog 197 Ik:=⟨ad (by kernel_rfl),⟨underlying197,rfl⟩,fun h=>nomatch h⟩
def Ij:bA:=⟨.aJ (.slice 195),1,24,.slice io 0 0,jp⟩
theorem Fq:ai prog 199 Ij:=⟨ad (by kernel_rfl),⟨underlying199,rfl⟩,fun h=>nomatch h⟩
def Ii:bA:=⟨.aJ (.func #[72] #[4] jp),1,8,.nilFunc,jp⟩
theorem Fp:ai prog 209 Ii:=⟨ad (by kernel_rfl),⟨underlying209,rfl⟩,fun h=>nomatch h⟩
def Ih:bA:=⟨.aJ (.int .u64),1,8,.int .u64 (0),jp⟩
theorem Fo:ai prog 210 Ih:=⟨ad (by kernel_rfl),⟨underlying210,rfl⟩,fun h=>nomatch h⟩
def Ig:bA:=⟨.aJ (.pointer 3),1,8,.pointer io,jp⟩
theorem Fm:ai prog 214 Ig:=⟨ad (by kernel_rfl),⟨underlying214,rfl⟩,fun h=>nomatch h⟩
def Ie:bA:=⟨.aJ (.pointer 225),1,8,.pointer io,jp⟩
theorem Fl:ai prog 219 Ie:=⟨ad (by kernel_rfl),⟨underlying219,rfl⟩,fun h=>nomatch h⟩
def Ic:bA:=⟨.aJ (.pointer 223),1,8,.pointer io,jp⟩
theorem Fk:ai prog 220 Ic:=⟨ad (by kernel_rfl),⟨underlying220,rfl⟩,fun h=>nomatch h⟩
def Ib:bA:=⟨.aJ (.slice 5),1,24,.slice io 0 0,jp⟩
theorem Fj:ai prog 221 Ib:=⟨ad (by kernel_rfl),⟨underlying221,rfl⟩,fun h=>nomatch h⟩
def Ia:bA:=⟨.cE [(0,220),(1,221)],2,32,.agg #[.pointer io,.slice io 0 0],is⟩
theorem Fi:ai prog 223 Ia:=⟨ad (by kernel_rfl),⟨_,underlying223,rfl⟩,fun _=>b7 underlying223 Tryz.stoodInHeld223 Tryz.eqGuardType223 (by decide)⟩
def H9:bA:=⟨.cE [(0,223),(2,4),(3,3)],4,48,.agg #[.pointer io,.slice io 0 0,.bool jp,.int .i64 (0)],is⟩
theorem Fh:ai prog 225 H9:=⟨ad (by kernel_rfl),⟨_,underlying225,rfl⟩,fun _=>b7 underlying225 Tryz.stoodInHeld225 Tryz.eqGuardType225 (by decide)⟩
def H8:bA:=⟨.cE [(0,99),(5,155)],6,88,.agg #[.string OI,.slice io 0 0,.slice io 0 0,.int .i64 (0),.int .i64 (0),.map io],is⟩
theorem Fg:ai prog 229 H8:=⟨ad (by kernel_rfl),⟨_,underlying229,rfl⟩,fun _=>b7 underlying229 Tryz.stoodInHeld229 Tryz.eqGuardType229 (by decide)⟩
def H7:bA:=⟨.aJ (.func #[104] #[4] jp),1,8,.nilFunc,jp⟩
theorem Ff:ai prog 233 H7:=⟨ad (by kernel_rfl),⟨underlying233,rfl⟩,fun h=>nomatch h⟩
def H6:bA:=⟨.aJ (.map 244 244),1,8,.map io,jp⟩
theorem Fe:ai prog 234 H6:=⟨ad (by kernel_rfl),⟨underlying234,rfl⟩,fun h=>nomatch h⟩
def H5:bA:=⟨.aJ (.map 244 3),1,8,.map io,jp⟩
theorem Fc:ai prog 235 H5:=⟨ad (by kernel_rfl),⟨underlying235,rfl⟩,fun h=>nomatch h⟩
def H4:bA:=⟨.aJ (.slice 246),1,24,.slice io 0 0,jp⟩
theorem Fb:ai prog 236 H4:=⟨ad (by kernel_rfl),⟨underlying236,rfl⟩,fun h=>nomatch h⟩
def H3:bA:=⟨.cE [(0,189),(1,234),(2,236),(3,235)],4,48,.agg #[.pointer io,.map io,.slice io 0 0,.map io],is⟩
theorem Fa:ai prog 238 H3:=⟨ad (by kernel_rfl),⟨_,underlying238,rfl⟩,fun _=>b7 underlying238 Tryz.stoodInHeld238 Tryz.eqGuardType238 (by decide)⟩
def H2:bA:=⟨.cE [(0,9),(1,3)],2,24,.agg #[.string OI,.int .i64 (0)],is⟩
theorem E9:ai prog 244 H2:=⟨ad (by kernel_rfl),⟨_,underlying244,rfl⟩,fun _=>b7 underlying244 Tryz.stoodInHeld244 Tryz.eqGuardType244 (by decide)⟩
def H0:bA:=⟨.cE [(0,3),(1,244),(3,3),(4,3)],5,48,.agg #[.int .i64 (0),.string OI,.int .i64 (0),.int .i64 (0),.int .i64 (0)],is⟩
theorem E8:ai prog 246 H0:=⟨ad (by kernel_rfl),⟨_,underlying246,rfl⟩,fun _=>b7 underlying246 Tryz.stoodInHeld246 Tryz.eqGuardType246 (by decide)⟩
def HZ:bA:=⟨.aJ (.func #[21] #[4] jp),1,8,.nilFunc,jp⟩
theorem E7:ai prog 256 HZ:=⟨ad (by kernel_rfl),⟨underlying256,rfl⟩,fun h=>nomatch h⟩
def HY:bA:=⟨.aJ (.pointer 210),1,8,.pointer io,jp⟩
theorem E6:ai prog 258 HY:=⟨ad (by kernel_rfl),⟨underlying258,rfl⟩,fun h=>nomatch h⟩
def HX:bA:=⟨.arr 7 9,7,112,.agg #[.string OI,.string OI,.string OI,.string OI,.string OI,.string OI,.string OI],jp⟩
theorem E5:ai prog 266 HX:=⟨ad (by kernel_rfl),underlying266,fun h=>nomatch h⟩
def HW:bA:=⟨.aJ (.pointer 5),1,8,.pointer io,jp⟩
theorem E4:ai prog 281 HW:=⟨ad (by kernel_rfl),⟨underlying281,rfl⟩,fun h=>nomatch h⟩
def HV:bA:=⟨.arr 5 9,5,80,.agg #[.string OI,.string OI,.string OI,.string OI,.string OI],jp⟩
theorem E3:ai prog 283 HV:=⟨ad (by kernel_rfl),underlying283,fun h=>nomatch h⟩
def HU:bA:=⟨.aJ (.unsafePointer),1,8,.pointer io,jp⟩
theorem E2:ai prog 291 HU:=⟨ad (by kernel_rfl),⟨underlying291,rfl⟩,fun h=>nomatch h⟩
def HT:bA:=⟨.arr 24 5,24,24,.agg (.replicate 24 (.int .u8 (0))),jp⟩
theorem E1:ai prog 295 HT:=⟨ad (by kernel_rfl),underlying295,fun h=>nomatch h⟩
def HS:bA:=⟨.arr 20 177,20,160,.agg (.replicate 20 (.int .u64 (0))),jp⟩
theorem E0:ai prog 300 HS:=⟨ad (by kernel_rfl),underlying300,fun h=>nomatch h⟩
def HR:bA:=⟨.arr 65 5,65,65,.agg (.replicate 65 (.int .u8 (0))),jp⟩
theorem EZ:ai prog 301 HR:=⟨ad (by kernel_rfl),underlying301,fun h=>nomatch h⟩
def HQ:bA:=⟨.arr 32 5,32,32,.agg (.replicate 32 (.int .u8 (0))),jp⟩
theorem EY:ai prog 302 HQ:=⟨ad (by kernel_rfl),underlying302,fun h=>nomatch h⟩
def HP:bA:=⟨.arr 64 5,64,64,.agg (.replicate 64 (.int .u8 (0))),jp⟩
theorem EX:ai prog 303 HP:=⟨ad (by kernel_rfl),underlying303,fun h=>nomatch h⟩
def Cc:TT:=(.node (.node (.node (.node (.node (.node (.node .leaf 2 ty2 .leaf) 3 ty3 .leaf) 4 ty4 (.node (.node .leaf 5 ty5 .leaf) 9 ty9 .leaf)) 21 Ma (.node (.node (.node .leaf 23 L9 .leaf) 24 L8 .leaf) 27 L7 (.node (.node .leaf 29 L6 .leaf) 31 L5 .leaf))) 32 L4 (.node (.node (.node (.node .leaf 33 L3 .leaf) 35 L2 .leaf) 36 L1 (.node (.node .leaf 37 LZ .leaf) 39 LY .leaf)) 42 LX (.node (.node (.node .leaf 46 LW .leaf) 48 LV .leaf) 56 LU (.node (.node .leaf 57 LS .leaf) 61 LR .leaf)))) 63 LQ (.node (.node (.node (.node (.node .leaf 65 LP .leaf) 67 LO .leaf) 70 LN (.node (.node .leaf 72 LM .leaf) 73 LL .leaf)) 76 LK (.node (.node (.node .leaf 78 eV .leaf) 81 LJ .leaf) 85 LI (.node (.node .leaf 88 LH .leaf) 89 LG .leaf))) 92 LF (.node (.node (.node (.node .leaf 94 LD .leaf) 96 LC .leaf) 97 LB (.node (.node .leaf 99 LA .leaf) 104 IL .leaf)) 111 IK (.node (.node (.node .leaf 114 IJ .leaf) 122 II .leaf) 124 IH (.node (.node .leaf 126 IG .leaf) 128 IF .leaf))))) 129 IE (.node (.node (.node (.node (.node (.node .leaf 132 ID .leaf) 133 IC .leaf) 139 IB (.node (.node .leaf 142 IA .leaf) 147 Iz .leaf)) 151 Iy (.node (.node (.node .leaf 155 Ix .leaf) 157 Iw .leaf) 158 Iv (.node (.node .leaf 162 Iu .leaf) 167 It .leaf))) 175 Is (.node (.node (.node (.node .leaf 177 Ir .leaf) 185 Iq .leaf) 189 Ip (.node (.node .leaf 192 Io .leaf) 194 Im .leaf)) 195 Il (.node (.node (.node .leaf 197 Ik .leaf) 199 Ij .leaf) 209 Ii (.node (.node .leaf 210 Ih .leaf) 214 Ig .leaf)))) 219 Ie (.node (.node (.node (.node (.node .leaf 220 Ic .leaf) 221 Ib .leaf) 223 Ia (.node (.node .leaf 225 H9 .leaf) 229 H8 .leaf)) 233 H7 (.node (.node (.node .leaf 234 H6 .leaf) 235 H5 .leaf) 236 H4 (.node (.node .leaf 238 H3 .leaf) 244 H2 .leaf))) 246 H0 (.node (.node (.node (.node .leaf 256 HZ .leaf) 258 HY .leaf) 266 HX (.node (.node .leaf 281 HW .leaf) 283 HV .leaf)) 291 HU (.node (.node (.node .leaf 295 HT .leaf) 300 HS .leaf) 301 HR (.node (.node .leaf 302 HQ .leaf) 303 HP .leaf))))))
theorem x5:Cc.Nv (ai prog):=⟨FN,⟨JA,⟨JM,⟨JS,⟨Lx,⟨Ly,⟨Lz,ac,ac⟩,ac⟩,⟨Lv,⟨Lw,ac,ac⟩,ac⟩⟩,⟨JP,⟨JQ,⟨JR,ac,ac⟩,ac⟩,⟨JN,⟨JO,ac,ac⟩,ac⟩⟩⟩,⟨JG,⟨JJ,⟨JK,⟨JL,ac,ac⟩,ac⟩,⟨JH,⟨JI,ac,ac⟩,ac⟩⟩,⟨JD,⟨JE,⟨JF,ac,ac⟩,ac⟩,⟨JB,⟨JC,ac,ac⟩,ac⟩⟩⟩⟩,⟨Jo,⟨Ju,⟨Jx,⟨Jy,⟨Jz,ac,ac⟩,ac⟩,⟨Jv,⟨Jw,ac,ac⟩,ac⟩⟩,⟨Jr,⟨Js,⟨Jt,ac,ac⟩,ac⟩,⟨Jp,⟨Jq,ac,ac⟩,ac⟩⟩⟩,⟨FV,⟨Jl,⟨Jm,⟨Jn,ac,ac⟩,ac⟩,⟨FW,⟨Jk,ac,ac⟩,ac⟩⟩,⟨FQ,⟨FT,⟨FU,ac,ac⟩,ac⟩,⟨FO,⟨FP,ac,ac⟩,ac⟩⟩⟩⟩⟩,⟨Fl,⟨Fz,⟨FF,⟨FI,⟨FJ,⟨FL,ac,ac⟩,ac⟩,⟨FG,⟨FH,ac,ac⟩,ac⟩⟩,⟨FC,⟨FD,⟨FE,ac,ac⟩,ac⟩,⟨FA,⟨FB,ac,ac⟩,ac⟩⟩⟩,⟨Ft,⟨Fw,⟨Fx,⟨Fy,ac,ac⟩,ac⟩,⟨Fu,⟨Fv,ac,ac⟩,ac⟩⟩,⟨Fp,⟨Fq,⟨Fs,ac,ac⟩,ac⟩,⟨Fm,⟨Fo,ac,ac⟩,ac⟩⟩⟩⟩,⟨E8,⟨Ff,⟨Fi,⟨Fj,⟨Fk,ac,ac⟩,ac⟩,⟨Fg,⟨Fh,ac,ac⟩,ac⟩⟩,⟨Fb,⟨Fc,⟨Fe,ac,ac⟩,ac⟩,⟨E9,⟨Fa,ac,ac⟩,ac⟩⟩⟩,⟨E2,⟨E5,⟨E6,⟨E7,ac,ac⟩,ac⟩,⟨E3,⟨E4,ac,ac⟩,ac⟩⟩,⟨EZ,⟨E0,⟨E1,ac,ac⟩,ac⟩,⟨EX,⟨EY,ac,ac⟩,ac⟩⟩⟩⟩⟩⟩
def ni:Ty:=Cc.find
theorem ab:bn prog ni:=TT.sD x5
theorem KG:prog.follows .mixedOrders=is:=rfl
theorem fb{Q:AQ}{nt:NT}{k:List KI}{s:AS}{C:Prop}{b:NT}{st:Stop}(h:bp ni ⟨fun _=>io,0,jp⟩ 400 nt k s True=co (C,b,st))(hC:C)(hg:eh prog b Q st):GO prog nt k Q s:=yJ KG ab 400 h hC hg
theorem gA{Q:AQ}{nt:NT}{k:List KI}{s:AS}{C:Prop}{b:NT}{st:Stop}(h:bp ni ⟨fun _=>io,0,jp⟩ 400 nt k s True=co (C,b,st))(hg:eh prog b Q st)
  (hC:C:=by(repeat' (first|exact ac|exact rfl|exact an.refl _|exact an.bk (by assumption)|apply OF))<;>first|omega|exact fL (fun _=>rfl) _|(simp only[OG];omega)|(simp;done)|(simp;omega)):GO prog nt k Q s:=yJ KG ab 400 h hC hg
theorem gM(N:Nat){Q:AQ}{nt:NT}{k:List KI}{s:AS}{C:Prop}{b:NT}{st:Stop}(h:bp ni ⟨fun _=>io,0,jp⟩ N nt k s True=co (C,b,st))(hg:eh prog b Q st)
  (hC:C:=by(repeat' (first|exact ac|exact rfl|exact an.refl _|exact an.bk (by assumption)|apply OF))<;>first|omega|exact fL (fun _=>rfl) _|(simp only[OG];omega)|(simp;done)|(simp;omega)):GO prog nt k Q s:=yJ KG ab N h hC hg
theorem zp{nt:NT}{Q:AQ}{k:List KI}{s:AS}{all rest:List Oper}{o:Oper}{c:Call}{g:FuncId}{args:List PV}{r:PV}{s':AS}(hc:Al.Pure prog g args r)(h:GO prog nt (.ops all rest::k) Q s')(ho:o.op= .call c:=by exact rfl)(hg:o.guard=io:=by exact rfl)(ha:bz s.f c=co (g,args):=by exact rfl)(hl:bb 0 args=is:=by exact rfl)(hr:r.low 0=is:=by exact rfl)(hp:putDst nt o r s=co s':=by exact rfl):GO prog nt (.ops all (o::rest)::k) Q s:=aA hc ho hg ha hl hr hp h
theorem zL{ty:Ty}{j:List ResultVar}{e:Exit}{s:AS}{r r0:PV}(b:an r0 r)(he:e= .normal∨e= .ret:=by first|exact .inr Z|exact .inl Z)(h:iF ty s j=co r0:=by exact rfl):y1 ty j r e s:=aH he h b
theorem zq{nt:NT}{Q:AQ}{k:List KI}{s:AS}{all rest:List Oper}{o:Oper}{c:Call}{g:FuncId}{asv args:List PV}{os:List AO}{r:PV}{x:AH}{y:Nat}{s':AS}(L:List Nat)(hc:bI prog g args os r x y)(h:GO prog nt (.ops all rest::k) Q s')(ho:o.op= .call c:=by exact rfl)(hg:o.guard=io:=by exact rfl)(ha:bz s.f c=co (g,asv):=by exact rfl)(hn:ch L=is:=by exact rfl)(hl:L.all (fun j=>O1 j s.nx)=is:=by exact rfl)(u:L.map s.h.get=os.map fun o=>co (o.cj (sig L s.nx)):=by exact rfl)(b:asv=cW (sig L s.nx) args:=by exact rfl)(hp:putDst nt o (r.cj (sig L s.nx)) (aQ s L x y)=co s':=by exact rfl):GO prog nt (.ops all (o::rest)::k) Q s:=cJ L hc ho hg ha hn hl u b hp h
theorem zd{nt:NT}{Q:AQ}{k:List KI}{s:AS}{all:List Oper}{todo pend:List (Nat×Oper)}{j:Nat}{o:Oper}{c:Call}{g:FuncId}{asv args:List PV}{os:List AO}{r:PV}{B:AH}{C:Nat}{s':AS}{A y:Prop}(L:List Nat)(hc:bI prog g args os r B C)(h:GO prog nt (.bR all (todo.filter fun x=>!O2 x.1 j) (aX pend o)::k) Q s')(hrd:eH todo=[(j,o)]:=by exact rfl)(ho:o.op= .call c:=by exact rfl)(ha:bz s.f c=co (g,asv):=by exact rfl)(hn:ch L=is:=by exact rfl)(hl:L.all (fun j=>O1 j s.nx)=is:=by exact rfl)(u:L.map s.h.get=os.map fun o=>co (o.cj (sig L s.nx)):=by exact rfl)(b:asv=cW (sig L s.nx) args:=by exact rfl)(hp:putDst nt o (r.cj (sig L s.nx)) (aQ s L B C)=co s':=by exact rfl)(hg:bS nt all s.f o=co is:=by exact rfl)(hpb:gI all pend o=is:=by exact rfl)(hE:mH todo [j]=is:=by exact rfl)(hag:mI ni nt all s todo pend=co A:=by exact rfl)(hCA:A:=by(repeat' (first|exact ac|exact rfl|exact an.refl _|exact an.bk (by assumption)|apply OF))<;>first|omega|(simp only[OG];omega)|(simp;done)|(simp;omega))(hag2:dy ni nt all s' (aX pend o)=co y:=by exact rfl)(hC2:y:=by(repeat' (first|exact ac|exact rfl|exact an.refl _|exact an.bk (by assumption)|apply OF))<;>first|omega|(simp only[OG];omega)|(simp;done)|(simp;omega)):GO prog nt (.bR all todo pend::k) Q s:=bD ab L hc hrd ho ha hn hl u b hp hg hpb hE hag hCA hag2 hC2 h
theorem y3{nt:NT}{Q:AQ}{k:List KI}{s:AS}{all:List Oper}{todo pend:List (Nat×Oper)}{j:Nat}{o:Oper}{c:Call}{g:FuncId}{asv args:List PV}{r:PV}{s':AS}{y u:Prop}(hc:Al.Pure prog g args r)(h:GO prog nt (.bR all (todo.filter fun x=>!O2 x.1 j) (aX pend o)::k) Q s')(hrd:eH todo=[(j,o)]:=by exact rfl)(ho:o.op= .call c:=by exact rfl)(ha:bz s.f c=co (g,asv):=by exact rfl)(b:asv=cW (sig [] s.nx) args:=by exact rfl)(hp:putDst nt o (r.cj (sig [] s.nx)) (aQ s [] [] 0)=co s':=by exact rfl)(hg:bS nt all s.f o=co is:=by exact rfl)(hpb:gI all pend o=is:=by exact rfl)(hE:mH todo [j]=is:=by exact rfl)(hag:mI ni nt all s todo pend=co y:=by exact rfl)(hCA:y:=by(repeat' (first|exact ac|exact rfl|exact an.refl _|exact an.bk (by assumption)|apply OF))<;>first|omega|(simp only[OG];omega)|(simp;done)|(simp;omega))(hag2:dy ni nt all s' (aX pend o)=co u:=by exact rfl)(hC2:u:=by(repeat' (first|exact ac|exact rfl|exact an.refl _|exact an.bk (by assumption)|apply OF))<;>first|omega|(simp only[OG];omega)|(simp;done)|(simp;omega)):GO prog nt (.bR all todo pend::k) Q s:=bD ab [] hc.q9 hrd ho ha Z Z Z b hp hg hpb hE hag hCA hag2 hC2 h
theorem zW{n0:Nat}{L:List Nat}{s t:AS}(hh:mf t.nx (sg n0 L) s.h t.h)(h1:O2 t.nx (n0+L.length)=is:=by exact rfl)(b:Qx n0 s.nx=is:=by exact rfl)(u:L.all (fun j=>O1 j s.nx)=is:=by exact rfl)(hf:B2 t.nx (sg n0 L) s.f t.f:=by repeat' (first|exact ac|exact an.refl _|exact rfl|apply OF))(x:ch (dX (sg n0 L) t.h)=is:=by exact rfl):Wk n0 L s t:=wk h1 b u hf hh x
theorem zM{n0:Nat}{L:List Nat}{s t:AS}(hf:B2 t.nx (sg n0 L) s.f t.f)(hh:mf t.nx (sg n0 L) s.h t.h)(h1:O2 t.nx (n0+L.length)=is:=by exact rfl)(b:Qx n0 s.nx=is:=by exact rfl)(u:L.all (fun j=>O1 j s.nx)=is:=by exact rfl)(x:ch (dX (sg n0 L) t.h)=is:=by exact rfl):Wk n0 L s t:=wk h1 b u hf hh x
theorem zK{n i:Nat}{σ:Nat->Nat}{h r:AH}{cs:List PV}{b:Option TypeId}{c:List IV}(hr:mf n σ h r)(ho:h.get (σ i)=co (.cells cs b):=by exact rfl)(he:cs=c.map .iv:=by exact rfl)(hi:O1 i n=is:=by exact rfl):mf n σ h ((i,co (ay c))::r):=hC ho he hi hr
theorem zS{n i:Nat}{σ:Nat->Nat}{h r:AH}{α:Type}{sz:Nat}{es:List (List PV)}{l:List α}{f:α->List IV}(hr:mf n σ h r)(ho:h.get (σ i)=co (.row sz es):=by exact rfl)(he:es=l.map fun x=>(f x).map .iv:=by exact rfl)(hi:O1 i n=is:=by exact rfl):mf n σ h ((i,co (aT sz l f))::r):=hR ho he hi hr
theorem zI{a b:Prop}(l:a)(r:b):a∧b:=⟨l,r⟩
theorem zO{n i:Nat}{σ:Nat->Nat}{h r:AH}{o:AO}(hr:mf n σ h r)(he: ∃p,h.get (σ i)=co p∧dN p (o.cj σ):=by exact⟨_,rfl,.of_eq Z⟩)(hi:i<n:=by exact Oy Z)(hl:o.low n:=by exact rfl):mf n σ h ((i,co o)::r):=⟨he,hi,hl,hr⟩
theorem zD{ty:Ty}{s:AS}{l:List ResultVar}{m:Nat}{r r0:PV}{h:AH}{n:Nat}{e:Exit}(L:List Nat)(hr:iF ty s l=co r0)(hw:Wk m L ⟨[(0,r0)],s.h,s.nx⟩ ⟨[(0,r)],h,n⟩)(he:e= .normal∨e= .ret:=by first|exact .inr Z|exact .inl Z):y2 ty l m r h n e s:=bj L he hr hw
theorem zU{ty:Ty}{j:List ResultVar}{nt:NT}{k:List KI}{s s':AS}{e:Exit}{C:Prop}{b:NT}{r r0:PV}(h:bp ni ⟨fun _=>io,0,jp⟩ 400 nt k s True=co (C,b,.fin e s'))(hr:r0=r:=by exact rfl)(he:e= .normal∨e= .ret:=by first|exact .inr Z|exact .inl Z)(h1:iF ty s' j=co r0:=by exact rfl)(hC:C:=by(repeat' (first|exact ac|exact rfl|exact an.refl _|exact an.bk (by assumption)|apply OF))<;>first|omega|exact fL (fun _=>rfl) _|(simp only[OG];omega)|(simp;done)|(simp;omega)):GO prog nt k (y1 ty j r) s:=gA h (aH he h1 (.of_eq hr)) hC
theorem zC{n i:Nat}{σ:Nat->Nat}{h r:AH}{V:Type}{kc:KC}{ev:V->IV}{z:V}{u:Value}{b:PV->V}{m j:List (kc.K×V)}(hr:mf n σ h r)(ho:h.get (σ i)=co (.map kc ev z u b m):=by exact rfl)(he:m=j:=by exact rfl)(hi:O1 i n=is:=by exact rfl):mf n σ h ((i,co (.map kc ev z u b j))::r):=hM ho he hi hr
theorem zJ{Q:AQ}{nt:NT}{k:List KI}{s:AS}{C:Prop}{j:NT}{st:Stop}{a b:Prop}(h:bp ni ⟨fun _=>io,0,jp⟩ 400 nt k s True=co (C,j,st))(e:eh prog j Q st=(a∧b))(l:a)(r:b)(hC:C:=by(repeat' (first|exact ac|exact rfl|exact an.refl _|exact an.bk (by assumption)|apply OF))<;>first|omega|exact fL (fun _=>rfl) _|(simp only[OG];omega)|(simp;done)|(simp;omega)):GO prog nt k Q s:=gA h (e.mpr ⟨l,r⟩) hC
theorem zE{Q:AQ}{nt:NT}{k:List KI}{s:AS}{C:Prop}{j:NT}{st:Stop}{a b:Prop}(h:bp ni ⟨fun _=>io,0,jp⟩ 400 nt k s True=co (C,j,st))(e:eh prog j Q st=(a∧b))(r:b)(l:a)(hC:C:=by(repeat' (first|exact ac|exact rfl|exact an.refl _|exact an.bk (by assumption)|apply OF))<;>first|omega|exact fL (fun _=>rfl) _|(simp only[OG];omega)|(simp;done)|(simp;omega)):GO prog nt k Q s:=gA h (e.mpr ⟨l,r⟩) hC
theorem zT{p:Prop}[Decidable p](h:decide p=is):p:=of_decide_eq_true h
theorem zF{p:Prop}[Decidable p](h:decide p=jp): ¬p:=of_decide_eq_false h
theorem zN{a b:Nat}(h:kw ((a:Int)<(b:Int))=is):a<b:=Int.ofNat_lt.1 (of_decide_eq_true h)
theorem zG{a b:Nat}(h:kw ((a:Int)<(b:Int))=jp):b<=a:=Qk fun hh=>absurd (Int.ofNat_lt.2 hh) (of_decide_eq_false h)
end Go.Proofs.YtllkaddcplhklaaGreatDoor
namespace Go.Proofs.YtllkaddcplhklaaGreatDoor
open Go Go.Al
abbrev ak:=ByteArray
structure dM where
 kind:Int
 num:Int
 sym:ak
 deriving Inhabited,DecidableEq
structure Term where
 kind:Int
 var:ak
 val:dM
 deriving Inhabited,DecidableEq
inductive Expr where
 |mk (kind:Int) (var:ak) (val:dM) (op:Int) (args:List Expr)
instance:Inhabited Expr:=⟨.mk 0 OI ⟨0,0,OI⟩ 0 []⟩
def Expr.kind:Expr->Int| .mk k _ _ _ _=>k
def Expr.var:Expr->ak| .mk _ v _ _ _=>v
def Expr.val:Expr->dM| .mk _ _ v _ _=>v
def Expr.op:Expr->Int| .mk _ _ _ o _=>o
def Expr.args:Expr->List Expr| .mk _ _ _ _ a=>a
structure Atom where
 rel:ak
 aj:List Term
 deriving Inhabited,DecidableEq
structure Pos where
 line:Int
 EP:Int
 deriving Inhabited,DecidableEq
inductive Lit where
 |mk (kind:Int) (atom:Atom) (op:Int) (left right:Expr) (dL:Int) (bw:ak) (ji:Expr) (ar:List Lit) (at_:Pos)
instance:Inhabited Lit:=⟨.mk 0 ci 0 ci ci 0 OI ci [] ⟨0,0⟩⟩
def Lit.kind:Lit->Int| .mk k _ _ _ _ _ _ _ _ _=>k
def Lit.atom:Lit->Atom| .mk _ a _ _ _ _ _ _ _ _=>a
def Lit.op:Lit->Int| .mk _ _ o _ _ _ _ _ _ _=>o
def Lit.left:Lit->Expr| .mk _ _ _ l _ _ _ _ _ _=>l
def Lit.right:Lit->Expr| .mk _ _ _ _ r _ _ _ _ _=>r
def Lit.dL:Lit->Int| .mk _ _ _ _ _ f _ _ _ _=>f
def Lit.bw:Lit->ak| .mk _ _ _ _ _ _ v _ _ _=>v
def Lit.ji:Lit->Expr| .mk _ _ _ _ _ _ _ o _ _=>o
def Lit.ar:Lit->List Lit| .mk _ _ _ _ _ _ _ _ b _=>b
def Lit.at:Lit->Pos| .mk _ _ _ _ _ _ _ _ _ p=>p
structure ft where
 func:Int
 var:ak
 iJ:Expr
 body:List Lit
 deriving Inhabited
def Lit.agg(l:Lit):ft:=⟨l.dL,l.bw,l.ji,l.ar⟩
structure aw where
 head:Atom
 body:List Lit
 at_:Pos
 deriving Inhabited
structure Decl where
 name:ak
 types:List Int
 at_:Pos
 deriving Inhabited
structure Prog where
 aR:List Decl
 rules:List aw
 deriving Inhabited
structure Fact where
 rel:ak
 args:List dM
 deriving Inhabited
def dM.c(v:dM):List IV:=[iI v.kind,iI v.num,iS v.sym]
def Term.c(t:Term):List IV:=[iI t.kind,iS t.var,iI t.val.kind,iI t.val.num,iS t.val.sym]
def cM(s:ak):List IV:=[iS s]
def j5(n:Int):List IV:=[iI n]
abbrev strs(l:List ak):IV:=bV 1 l cM
def Atom.c(a:Atom):List IV:=[iS a.rel,bV 5 a.aj Term.c]
mutual
def Expr.cr:Expr->List IV
 | .mk k v val op args=> [iI k,iS v,iI val.kind,iI val.num,iS val.sym,iI op,.cp 7 args.length (fun j=>(Expr.vT args).getD j [])]
def Expr.vT:List Expr->List (List IV)
 | []=> []
 |e::r=>e.cr::Expr.vT r
end
def Expr.c(e:Expr):List IV:=[iI e.kind,iS e.var,iI e.val.kind,iI e.val.num,iS e.val.sym,iI e.op,.cp 7 e.args.length (fun j=>(Expr.vT e.args).getD j [])]
def Expr.c1(e:Expr):List IV:=[iI e.kind,iS e.var,iI e.val.kind,iI e.val.num,iS e.val.sym,iI e.op,bV 7 e.args Expr.c]
theorem Expr.El(e:Expr):e.cr=e.c:=by cases e;rfl
theorem Expr.nX: ∀(l:List Expr) (k:Nat),k<l.length->(Expr.vT l).getD k []=(l.getD k ci).c
 |e::r,0,_=>by simp[Expr.vT,Expr.El]
 |e::r,k+1,h=>by simpa[Expr.vT]using Expr.nX r k (by simpa using h)
 | [],k,h=>by simp at h
theorem K0(e:Expr):km (.cp 7 e.args.length (fun j=>(Expr.vT e.args).getD j [])) (bV 7 e.args Expr.c):= .cp Z (Expr.nX e.args)
theorem Hn(e:Expr):km (bV 7 e.args Expr.c) (.cp 7 e.args.length (fun j=>(Expr.vT e.args).getD j [])):= .cp Z (fun k hk=>(Expr.nX e.args k hk).symm)
mutual
def Lit.cr:Lit->List IV
 | .mk kind atom op left right dL bw ji ar at_=>
  iI kind::(atom.c++(iI op::(left.c++(right.c++(iI dL::iS bw::(ji.c++ [.cp 30 ar.length (fun j=>(Lit.vT ar).getD j []),iI at_.line,iI at_.EP]))))))
def Lit.vT:List Lit->List (List IV)
 | []=> []
 |e::r=>e.cr::Lit.vT r
end
def Lit.cw(l:Lit)(b:IV):List IV:=
 [iI l.kind,iS l.atom.rel,bV 5 l.atom.aj Term.c,iI l.op,
  iI l.left.kind,iS l.left.var,iI l.left.val.kind,iI l.left.val.num,iS l.left.val.sym,iI l.left.op,.cp 7 l.left.args.length (fun j=>(Expr.vT l.left.args).getD j []),
  iI l.right.kind,iS l.right.var,iI l.right.val.kind,iI l.right.val.num,iS l.right.val.sym,iI l.right.op,.cp 7 l.right.args.length (fun j=>(Expr.vT l.right.args).getD j []),
  iI l.dL,iS l.bw,
  iI l.ji.kind,iS l.ji.var,iI l.ji.val.kind,iI l.ji.val.num,iS l.ji.val.sym,iI l.ji.op,.cp 7 l.ji.args.length (fun j=>(Expr.vT l.ji.args).getD j []),
  b,iI l.at.line,iI l.at.EP]
def sN(l:List Lit):IV:= .cp 30 l.length (fun j=>(Lit.vT l).getD j [])
def Lit.c(l:Lit):List IV:=l.cw (sN l.ar)
abbrev lits(l:List Lit):IV:=bV 30 l Lit.c
def Lit.c1(l:Lit):List IV:=l.cw (lits l.ar)
theorem Lit.El(e:Lit):e.cr=e.c:=by cases e;rfl
theorem Lit.nX: ∀(l:List Lit) (k:Nat),k<l.length->(Lit.vT l).getD k []=(l.getD k ci).c
 |e::r,0,_=>by simp[Lit.vT,Lit.El]
 |e::r,k+1,h=>by simpa[Lit.vT]using Lit.nX r k (by simpa using h)
 | [],k,h=>by simp at h
theorem lO(l:List Lit):km (sN l) (lits l):= .cp Z (Lit.nX l)
theorem Dv(l:List Lit):km (lits l) (sN l):= .cp Z (fun k hk=>(Lit.nX l k hk).symm)
def ft.cw(a:ft)(b:IV):List IV:=[iI a.func,iS a.var,iI a.iJ.kind,iS a.iJ.var,iI a.iJ.val.kind,iI a.iJ.val.num,iS a.iJ.val.sym,iI a.iJ.op,.cp 7 a.iJ.args.length (fun j=>(Expr.vT a.iJ.args).getD j []),b]
def ft.c(a:ft):List IV:=a.cw (sN a.body)
def ft.c1(a:ft):List IV:=a.cw (lits a.body)
def aw.c(r:aw):List IV:=[iS r.head.rel,bV 5 r.head.aj Term.c,lits r.body,iI r.at_.line,iI r.at_.EP]
def Decl.c(r:Decl):List IV:=[iS r.name,bV 1 r.types j5,iI r.at_.line,iI r.at_.EP]
def Prog.c(p:Prog):List IV:=[bV 4 p.aR Decl.c,bV 5 p.rules aw.c]
def Fact.c(f:Fact):List IV:=[iS f.rel,bV 3 f.args dM.c]
theorem Expr.DA(e:Expr):an (ag e.c) (ag e.c1):= .agg ⟨.refl _,.refl _,.refl _,.refl _,.refl _,.refl _,.iv (K0 e),ac⟩
theorem Expr.G0(e:Expr):an (ag e.c1) (ag e.c):= .agg ⟨.refl _,.refl _,.refl _,.refl _,.refl _,.refl _,.iv (Hn e),ac⟩
theorem Lit.Ar(l:Lit){b j:IV}(h:km b j):an (ag (l.cw b)) (ag (l.cw j)):=
 .agg ⟨.refl _,.refl _,.refl _,.refl _,.refl _,.refl _,.refl _,.refl _,.refl _,.refl _,.refl _,.refl _,.refl _,.refl _,.refl _,.refl _,.refl _,.refl _,.refl _,.refl _,.refl _,.refl _,.refl _,.refl _,.refl _,.refl _,.refl _,.iv h,.refl _,.refl _,ac⟩
theorem Lit.DA(l:Lit):an (ag l.c) (ag l.c1):=l.Ar (lO _)
theorem ft.Ar(l:ft){b j:IV}(h:km b j):an (ag (l.cw b)) (ag (l.cw j)):=
 .agg ⟨.refl _,.refl _,.refl _,.refl _,.refl _,.refl _,.refl _,.refl _,.refl _,.iv h,ac⟩
theorem ft.DA(l:ft):an (ag l.c) (ag l.c1):=l.Ar (lO _)
theorem ft.G0(l:ft):an (ag l.c1) (ag l.c):=l.Ar (Dv _)
mutual
def Expr.size:Expr->Nat
 | .mk _ _ _ _ args=>1+Expr.aE args
def Expr.aE:List Expr->Nat
 | []=>0
 |e::r=>e.size+Expr.aE r
end
mutual
def Lit.size:Lit->Nat
 | .mk _ a _ l r _ _ o b _=>2+a.aj.length+l.size+r.size+o.size+Lit.aE b
def Lit.aE:List Lit->Nat
 | []=>0
 |e::r=>e.size+Lit.aE r
end
theorem Expr.size_eq(e:Expr):e.size=1+Expr.aE e.args:=by cases e;rfl
theorem Lit.size_eq(l:Lit):l.size=2+l.atom.aj.length+l.left.size+l.right.size+l.ji.size+Lit.aE l.ar:=by cases l;rfl
theorem Expr.bN: ∀(l:List Expr) (k:Nat),k<l.length->(l.getD k ci).size<=Expr.aE l
 |e::r,0,_=>by simp[Expr.aE]
 |e::r,k+1,h=>by
  have:=Expr.bN r k (by simpa using h);simp only[PR,Expr.aE];omega
 | [],k,h=>by simp at h
theorem Lit.bN: ∀(l:List Lit) (k:Nat),k<l.length->(l.getD k ci).size<=Lit.aE l
 |e::r,0,_=>by simp[Lit.aE]
 |e::r,k+1,h=>by
  have:=Lit.bN r k (by simpa using h);simp only[PR,Lit.aE];omega
 | [],k,h=>by simp at h
theorem Expr.size_pos(e:Expr):1<=e.size:=by rw[e.size_eq];omega
theorem Lit.size_pos(e:Lit):2<=e.size:=by rw[e.size_eq];omega
theorem Expr.aF: ∀(l:List Expr),l.length<=Expr.aE l
 | []=>OL _
 |e::r=>by have:=e.size_pos;have:=Expr.aF r;simp only[Pb,Expr.aE];omega
theorem Lit.aF: ∀(l:List Lit),l.length<=Lit.aE l
 | []=>OL _
 |e::r=>by have:=e.size_pos;have:=Lit.aF r;simp only[Pb,Lit.aE];omega
def aw.size(r:aw):Nat:=r.head.aj.length+Lit.aE r.body
def dp(l:List ak)(s:ak):Bool:=l.any fun x=>kw (x=s)
def dE(s:ak)(a:List ak×Bool)(x:ak):List ak×Bool:=
 if(a.2||decide (x=s))=jp∧(!(Op.bytesLess x.toList s.toList||decide (x=s)))=is then(a.1++ [s]++ [x],is) else(a.1++ [x],a.2||decide (x=s))
def fG(l:List ak)(s:ak):List ak:=
 let r:=l.foldl (dE s) ([],jp)
 if r.2 then r.1 else r.1++ [s]
def mg(l m:List ak):List ak:=m.foldl fG l
def x6(a:List ak)(t:Term):List ak:=if t.kind=1 then fG a t.var else a
def oN(a:Atom):List ak:=a.aj.foldl x6 []
theorem Lit.rB: ∀(l:List Lit) (i:Nat),Lit.aE (l.take i)<=Lit.aE l
 | [],i=>by simp
 |e::r,0=>by simp[Lit.aE]
 |e::r,i+1=>by have:=Lit.rB r i;simp only[PX,Lit.aE];omega
theorem Expr.dq: ∀(l:List Expr) (i:Nat),i<l.length->Expr.aE (l.take i)+(l.getD i ci).size<=Expr.aE l
 |e::r,0,_=>by simp[Expr.aE]
 |e::r,i+1,h=>by have:=Expr.dq r i (by simpa using h);simp only[PX,PR,Expr.aE];omega
 | [],i,h=>by simp at h
theorem Lit.dq: ∀(l:List Lit) (i:Nat),i<l.length->Lit.aE (l.take i)+(l.getD i ci).size<=Lit.aE l
 |e::r,0,_=>by simp[Lit.aE]
 |e::r,i+1,h=>by have:=Lit.dq r i (by simpa using h);simp only[PX,PR,Lit.aE];omega
 | [],i,h=>by simp at h
def ft.size(a:ft):Nat:=a.iJ.size+Lit.aE a.body
section
def wg(n:Int):IV:= .v (.int .i64 n)
def NR(p:PV):Int:=match p with
 | .iv (.v (.int _ n))=>n
 |_=>0
abbrev NM:=List ((KC.str).K×Int)
abbrev cy(m:NM):AO:= .map .str wg 0 (.int .i64 0) NR m
abbrev xn(m:NM):IV:= .dJ .str wg 0 (.int .i64 0) m
theorem eS: ∀M,IR M (wg 0) (.int .i64 0):=fun _=> .v _
def bump(m:NM)(s:ak):NM:=cq .str m s (dm .str m s 0+1)
def aD(l:List ak):NM:=l.foldl bump []
theorem cS(l:List ak)(s:ak):aD (l++ [s])=bump (aD l) s:=by simp[aD]
section
variable {V:Type}
theorem jZ{m:List ((KC.str).K×V)}{s t:ak}{v z:V}:dm .str (cq .str m s v) t z=if s=t then v else dm .str m t z:=by
 induction m with
 |nil=>simp only[cq,dm]
 |cons x r ih=>
  obtain⟨a,b⟩:=x;simp only[cq];by_cases h:a=s
  .rw[am h];simp only[dm];by_cases j:s=t
   .simp[j]
   .have: ¬a=t:=fun e=>j (h▸e)
    rw[be j,be j,be this]
  .rw[be h];simp only[dm,ih];by_cases j:a=t
   .have: ¬s=t:=fun e=>h (j.trans e.symm)
    simp[j,this]
   .simp[j]
theorem xE{m:List ((KC.str).K×V)}{t:ak}:cV .str m t=is↔t∈m.map Px:=by
 induction m with
 |nil=>simp[cV]
 |cons x r ih=>
  obtain⟨a,b⟩:=x;simp only[cV,OZ,OP];by_cases h:a=t
  .simp[h]
  .have: ¬t=a:=fun e=>h e.symm
   simp[h,this,ih]
theorem oz{m:List ((KC.str).K×V)}{s:ak}{v:V}(h:s∈m.map Px):(cq .str m s v).map Px=m.map Px:=by
 induction m with
 |nil=>simp at h
 |cons x r ih=>
  obtain⟨a,b⟩:=x;simp only[cq];by_cases j:a=s
  .rw[am j];simp[j]
  .have: ¬s=a:=fun e=>j e.symm
   rw[be j,OZ,ih (by simpa[this]using h)];rfl
theorem du{m:List ((KC.str).K×V)}{s:ak}{v:V}(h:s∉m.map Px):(cq .str m s v).map Px=m.map Px++ [s]:=by
 induction m with
 |nil=>simp[cq]
 |cons x r ih=>
  obtain⟨a,b⟩:=x;simp only[OZ,OP,not_or]at h;have: ¬a=s:=fun e=>h.1 e.symm;simp only[cq,be this,OZ,ih h.2];rfl
theorem yv{m:List ((KC.str).K×V)}{t:ak}{z:V}(h:t∉m.map Px):dm .str m t z=z:=by
 induction m with
 |nil=>rfl
 |cons x r ih=>
  obtain⟨a,b⟩:=x;simp only[OZ,OP,not_or]at h;have: ¬a=t:=fun e=>h.1 e.symm;simp only[dm,be this];exact ih h.2
end
theorem od{α:Type}{p:List α->Prop}(h0:p [])(h1: ∀l a,p l->p (l++ [a]))(l:List α):p l:=by
 have key: ∀r:List α,p r.reverse:=by
  intro r
  induction r with
  |nil=>exact h0
  |cons a r ih=>rw[List.reverse_cons];exact h1 _ _ ih
 simpa using key l.reverse
def nY(l:List ak)(t:ak):Nat:=(l.filter fun x=>kw (x=t)).length
theorem xS(l m:List ak)(t:ak):nY (l++m) t=nY l t+nY m t:=by simp[nY]
theorem fq(l:List ak)(t:ak):nY l t<=l.length:=PQ _ _
theorem sH{l:List ak}{t:ak}:0<nY l t↔t∈l:=by
 rw[nY,List.length_pos_iff_exists_mem];constructor
 .rintro⟨x,hx⟩;obtain⟨h1,b⟩:=Pa.1 hx;exact(zT b)▸h1
 .exact fun h=>⟨t,Pa.2 ⟨h,by simp⟩⟩
theorem pJ{l:List ak}{t:ak}:nY l t=0↔t∉l:=by
 rw[<-sH];omega
theorem bt(l:List ak)(t:ak):dm .str (aD l) t 0=(nY l t:Int):=by
 induction l using od with
 |h0=>rfl
 |h1 l s ih=>
  rw[cS,bump,jZ,xS];by_cases h:s=t
  .subst h;rw[ih];simp[nY]
  .rw[be h,ih];simp[h,nY]
theorem dH(l:List ak):((aD l).map Px).Nodup∧ ∀t:ak,t∈(aD l).map Px↔t∈l:=by
 induction l using od with
 |h0=>simp[aD]
 |h1 l s ih=>
  rw[cS,bump];obtain⟨h1,j⟩:=ih;by_cases h:s∈(aD l).map Px
  .rw[oz h];refine⟨h1,fun t=>?_⟩;rw[j,OW,OM];exact⟨.inl,fun u=>u.elim id fun e=>e▸(j s).1 h⟩
  .rw[du h];refine⟨?_,fun t=>by rw[OW,j,OW]⟩;rw[PZ];refine⟨h1,Pf.2 ⟨Ro,Pk⟩,fun a x b hb e=>?_⟩;rw[OM]at hb;exact h ((e.trans hb)▸x)
def cx(a:Atom):List ak:=a.aj.flatMap fun t=>if t.kind=1 then[t.var] else[]
theorem bK{α β:Type}[Inhabited α]{l:List α}{f:α->List β}{i:Nat}(h:i<l.length):(l.take (i+1)).flatMap f=(l.take i).flatMap f++f (l.getD i ci):=by
 rw[cd h,Ra];simp
theorem ry: ∀l:List Term,(l.flatMap fun t=>if t.kind=1 then[t.var] else[]).length<=l.length
 | []=>by simp
 |t::r=>by
  have:=ry r;have b:(if t.kind=1 then[t.var] else[]).length<=1:=by split<;>simp
  rw[PH,OE,Pb];omega
theorem gY(a:Atom):(cx a).length<=a.aj.length:=ry a.aj
theorem d88(occ:List ak)(a:Atom)(hb:occ.length+a.aj.length<=1000000000000):bI Tryz.prog 135 [.mp 0,ag a.c] [cy (aD occ)] (.bh []) [(0,co (cy (aD (occ++cx a))))] 1:=by
 refine ax ab Tryz.func135 Z (by decide) Tryz.ntmps135 Z (by simp) ?_;refine gA Z ?_;refine aM 0 a.aj.length (OS _) (fun i=>⟨[(0,.mp 0),(3,.ptr 1 0),(7,.iv (bV 5 a.aj Term.c)),(8,pI a.aj.length),(9,pI i)],[(0,co (cy (aD (occ++(a.aj.take i).flatMap fun t=>if t.kind=1 then[t.var] else[]))))],2⟩) (fun _=>True) [] ac
  (zW (hM Z (by simp) Z trivial)) fun i y _=>?_
 have hl:=ry (a.aj.take i);simp only[PN]at hl;refine zJ Z Z (fun h1=>?_) fun h1=>?_
 .have h1:i<a.aj.length:=by simpa using h1
  have hs:=bK (f:=fun t:Term=>if t.kind=1 then[t.var] else[]) h1;have x:=bt (occ++(a.aj.take i).flatMap fun t=>if t.kind=1 then[t.var] else[]) (a.aj.getD i ci).var;have j:=fq (occ++(a.aj.take i).flatMap fun t=>if t.kind=1 then[t.var] else[]) (a.aj.getD i ci).var;rw[OE]at j;refine zJ Z Z (fun b=>?_) fun b=>?_
  .have b:(a.aj.getD i ci).kind=1:=by simpa using b
   rw[am b]at hs;refine gA Z ⟨h1,ac,[],zW (hM Z (by rw[hs,<-O0,cS];rfl) Z ac)⟩
  .have b: ¬(a.aj.getD i ci).kind=1:=by simpa using b
   rw[be b,Pw]at hs;refine gA Z ⟨h1,ac,[],zW (hM Z (by rw[hs]) Z ac)⟩
 .have h1:a.aj.length<=i:=by simpa using h1
  have u:a.aj.take i=a.aj:=OY h1;refine gA Z (zD [] Z (zW (hM Z (by rw[u];rfl) Z ac)))
end
end Go.Proofs.YtllkaddcplhklaaGreatDoor
