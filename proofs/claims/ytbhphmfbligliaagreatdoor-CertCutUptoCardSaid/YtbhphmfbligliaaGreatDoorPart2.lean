/-
  What the proofs of the claims need: part 2 of 5.
-/
import Derived.Test.YtbhphmfbligliaaGreatDoorPart1
import Derived.Deep.Slices
import Derived.ReadAgain
import Derived.ChangeStays
import Derived.ChangeSame
import Derived.WideShapes
import Derived.RowKit
import Derived.Lib.AppendStr
import Derived.Laws.IdiomStrings
import Derived.Laws.BytesArg
import Derived.Laws.MakeOwn
import Derived.Laws.Slices
import Derived.RangeFuncRecord
import Derived.RangeFuncCalls
import Derived.TacticsIn
import Derived.Lib.SliceRun
import Derived.StillTail
import Derived.Lib.SlBytesConst
open Array renaming append_assoc→V1,empty_append→WZ,foldl_toList→Wn,getD_eq_getD_getElem?→Tl,getElem?_append_left→T6,getElem?_append_right→Vu,getElem?_eq_getElem→Uq,getElem?_eq_some_iff→Uf,getElem?_map→Vw,getElem?_modify→T8,getElem?_push→VF,getElem?_setIfInBounds→Ua,getElem?_toList→T5,length_toList→VX,range→Wu,replicate→U3,size_append→UZ,size_setIfInBounds→Wx,toArray_toList→UH,toList_append→VG,toList_zip→W9
open Bool renaming and_eq_true→TZ,not_eq_true'→UD,or_eq_false_iff→Vh,or_eq_true→Vr
open Classical renaming choose→VV,choose_spec→Vk
open Int renaming toNat_natCast→Tt
open List.Nodup renaming length_le_of_subset→U7
open List renaming all_cons→VZ,all_eq_true→T7,any_eq_false→Uo,any_eq_true→UO,append_assoc→Tz,append_nil→T1,cons_append→TV,eq_nil_of_length_eq_zero→Ud,ext_getElem?→VD,foldl_cons→Uc,getD_eq_getElem?_getD→Tr,getElem?_append_left→TG,getElem?_append_right→TI,getElem?_cons_succ→VH,getElem?_drop→Uz,getElem?_eq_getElem→Ts,getElem?_eq_some_iff→Tp,getElem?_map→Tu,getElem?_of_mem→UB,getElem?_range→Wi,getElem?_set→U9,getElem?_take→T4,getElem?_toArray→Ul,getElem_mem→Uw,length_append→Tn,length_cons→TO,length_drop→U5,length_eq_zero_iff→UC,length_map→T2,length_nil→UJ,length_pos_iff→UE,length_take→TY,map_append→TA,map_congr_left→UX,map_cons→TD,map_fst_zip→Xa,map_map→Ve,mem_append_left→Ue,mem_append_right→UQ,mem_cons→TQ,mem_cons_of_mem→TH,mem_cons_self→TJ,mem_filter→Ub,mem_of_getElem?→Uv,mem_range→Vx,mem_singleton→TF,nil_append→T3,nodup_cons→UF,nodup_nil→Us,range→Uk,replicate→VQ,size_toArray→VC,take_append_drop→Um,take_of_length_le→TE,take_succ_eq_append_getElem→V8
open List.cons renaming injEq→WI
open Nat renaming add_assoc→Ux,add_comm→V6,add_mul→Ug,add_zero→Vd,beq→TR,beq_refl→WD,ble→Vm,ble_eq_true_of_le→Uu,blt→TU,eq_of_beq_eq_true→TM,le_of_ble_eq_true→Tk,le_of_not_lt→UR,le_refl→Tv,le_succ→Vg,le_trans→Uh,lt_irrefl→WV,lt_of_le_of_lt→WY,lt_of_lt_of_le→Vf,lt_or_ge→Un,lt_succ_of_lt→U0,lt_succ_self→US,mod_eq_of_lt→VU,mul_le_mul_right→TN,mul_one→VP,ne_of_lt→WC,sub_mul→WO,sub_zero→V4,succ_mul→U4,zero_add→TL,zero_le→TB,zero_mul→U6
open Option renaming getD_some→UI,map_eq_some_iff→Tw,map_none→VA,map_some→Ut
open Option.some renaming inj→Uy,injEq→Tm
open Prod.mk renaming injEq→TC
set_option maxRecDepth 100000
open Bool renaming false→jp,true→is
open Decidable renaming decide→kw
open Inhabited renaming default→co
open Option renaming none→io,some→dl
namespace Go.Al
section
def Ad:Op->Bool
  | .binOp .add _ _ _ _=>is
  | .binOp .sub _ _ _ _=>is
  | .binOp .mul _ _ _ _=>is
  | .binOp .rem _ _ _ _=>is
  | .binOp .quo _ _ _ _=>is
  | .indexAddr ..=>is
  | .index ..=>is
  | .slice ..=>is
  |_=>jp
theorem yf{ty:Ty}{s:AS}{o:Op}{p:PV}{C:Prop}(h:iu ty s o=dl (p,C))(ho:Ad o=jp):C:=by
  cases o with
  | binOp op t x y t'=>
    simp only[iu]at h;split at h
    · unfold DB at h
      split at h
      · split at h<;>first|(cases h;done)|(simp only[Tm,TC]at h;rw[<-h.2];trivial)
      · split at h<;>first|(cases h;done)|(simp only[Tm,TC]at h;rw[<-h.2];trivial)
      · cases h
    unfold yL at h;split at h
    · split at h
      · unfold BO at h
        split at h
        · unfold rZ at h
          split at h<;>first
            |(cases h;done)
            |(split at h<;>first|(cases h;done)|(simp only[Tm,TC]at h;rw[<-h.2];trivial))
        · unfold rZ at h
          split at h<;>first
            |(cases h;done)
            |(split at h<;>first|(cases h;done)|(simp only[Tm,TC]at h;rw[<-h.2];trivial))
        unfold C8 at h;split at h<;>first|(cases h;done)|(simp[Ad]at ho;done)|(simp only[Tm,TC]at h;rw[<-h.2];trivial)
      · unfold rZ at h
        split at h<;>first
          |(cases h;done)
          |(split at h<;>first|(cases h;done)|(simp only[Tm,TC]at h;rw[<-h.2];trivial))
    · unfold Ct at h
      split at h<;>first|(cases h;done)|(simp[Ad]at ho;done)|(simp only[Tm,TC]at h;rw[<-h.2];trivial)
    · split at h
      all_goals first
        |(cases h;done)
        | (unfold nF at h
           split at h
           · split at h<;>first|(cases h;done)|(simp only[Tm,TC]at h;rw[<-h.2];trivial)
           · cases h)
    · split at h
      all_goals first
        |(cases h;done)
        | (unfold nF at h
           split at h
           · split at h<;>first|(cases h;done)|(simp only[Tm,TC]at h;rw[<-h.2];trivial)
           · cases h)
    all_goals first
      |(cases h;done)
      | (unfold sd at h
         split at h
         · split at h<;>first|(cases h;done)|(simp only[Tm,TC]at h;rw[<-h.2];trivial)
         · cases h)
  |indexAddr t x i=>simp[Ad]at ho
  |index t x i=>simp[Ad]at ho
  |slice t x lo hi mx=>simp[Ad]at ho
  | call c=>
    obtain⟨callee,args,d⟩:=c;cases callee with
    | builtin b=>
      cases b with
      | len=>
        simp only[iu]at h;split at h
        · split at h
          · split at h<;>first|(cases h;done)|(simp only[vR,Tm,TC]at h;rw[<-h.2];trivial)
          · split at h<;>first|(cases h;done)|(simp only[vR,Tm,TC]at h;rw[<-h.2];trivial)
          · split at h
            · simp only[Tm,TC]at h;rw[<-h.2];trivial
            · split at h<;>first|(cases h;done)|(simp only[Tm,TC]at h;rw[<-h.2];trivial)
            · cases h
          · cases h
        · cases h
      | max=>
        simp only[iu]at h;split at h
        · split at h<;>first|(cases h;done)|(simp only[Tm,TC]at h;rw[<-h.2];trivial)
        · cases h
      | min=>
        simp only[iu]at h;split at h
        · split at h<;>first|(cases h;done)|(simp only[Tm,TC]at h;rw[<-h.2];trivial)
        · cases h
      |_=>simp[iu]at h
    |_=>simp[iu]at h
  | unOp op t x=>
    cases op with
    |not=>simp only[iu]at h;split at h<;>first|(cases h;done)|(simp only[Tm,TC]at h;rw[<-h.2];trivial)
    |_=>simp[iu]at h
  | lookup t x i ok=>
    have key: ∀{kc:KC} {V:Type} {e:V->IV} {z:V} {j:Value} {m:List (kc.K×V)},uF ty t ok kc e z j m (ev s.f i)=dl (p,C)->C:=by
      intro kc V e z j m h;unfold uF at h;split at h
      · split at h
        · split at h
          · split at h<;>(simp only[Tm,TC]at h;rw[<-h.2];trivial)
          · cases h
        · cases h
      · cases h
    simp only[iu]at h;split at h
    · exact key h
    · split at h
      · exact key h
      · cases h
    · cases h
  | _=>
    simp only[iu]at h
    repeat' (first|(cases h;done)|(simp only[dh,Tm,TC]at h;rw[<-h.2];trivial)|split at h)
inductive HU where
  |read (i:Nat) (o:Oper) (p:PV) (C:Prop)
  |skip (i:Nat) (o:Oper)
  |split (d:Nat) (t:Bool)
def lf(ty:Ty)(nt:NT)(s:AS)(all:List Oper)(todo pend:List (Nat×Oper)):List (Nat×Oper)->Option HU
  | []=>io
  | (i,o)::r=>match todo.any (fun y=>waits o y.1)||aS o with
    |true=>lf ty nt s all todo pend r
    | false=>match bV nt all s.f o with
      | some is=>match iu ty s o.op with
        | some (p,C)=>match vZ all pend o with
          |true=>dl (.read i o p C)
          |false=>lf ty nt s all todo pend r
        |none=>lf ty nt s all todo pend r
      | some jp=>match vZ all pend o with
        |true=>dl (.skip i o)
        |false=>lf ty nt s all todo pend r
      | none=>match o.guard with
        | some (g,_)=>match guardOf all s.f g with
          |some (d,.iv (.v (.bool t)))=>dl (.split d t)
          |_=>lf ty nt s all todo pend r
        |none=>lf ty nt s all todo pend r
def de(ty:Ty)(nt:NT)(all:List Oper)(s:AS):List (Nat×Oper)->Option Prop
  | []=>dl True
  | (_,o)::r=>match de ty nt all s r with
    |none=>io
    | some R=>match bV nt all s.f o with
      | some is=>match iu ty s o.op with
        | some (p,C)=>match o.dst with
          |some d=>bif TU d nt then dl ((aj p (s.f.get d)∧C)∧R) else io
          |none=>dl (C∧R)
        |none=>io
      | some jp=>match o.dst with
        |some d=>dl (s.f.get d= .iv (.v (.tuple #[]))∧R)
        |none=>dl R
      |none=>io
def dX(todo:List (Nat×Oper)):List (Nat×Oper):=todo.filter fun x=>!(aS x.2||todo.any fun y=>waits x.2 y.1)
def mF(ty:Ty)(nt:NT)(all:List Oper)(s:AS)(todo pend:List (Nat×Oper)):Option Prop:=
  match todo.any fun y=>aS y.2 with
  |true=>de ty nt all s pend
  |false=>dl True
def nG(all:List Oper)(i:Nat)(o:Oper):Nat->List Oper->Bool
  |_,[]=>is
  |k,q::r=>(TR k i||((waits q i||!looks all q o)&&(match o.dst,q.dst with|some d,dl e=>!TR d e|_,_=>is)))&&nG all i o (k+1) r
def j9(ty:Ty)(nt:NT)(all:List Oper):Nat->List Oper->Bool
  |_,[]=>is
  | i,o::r=>(match o.op with
    | .alloc t=>match o.guard,o.dst,ty t with
      |none,dl d,dl _=>TU d nt&&((o.after.toList.all fun e=>!Region.binds .any e)&&nG all i o 0 all)
      |_,_,_=>jp
    |_=>is)&&j9 ty nt all (i+1) r
def Ab(todo:List (Nat×Oper)):List (Nat×Oper)->Option (Nat×Oper)
  | []=>io
  | (i,o)::r=>match aS o,yO todo i with
    |true,is=>dl (i,o)
    |_,_=>Ab todo r
inductive Stop where
  |fin (e:Exit) (s:AS)
  |cond (c:Operand) (t:Bool) (x y:Code) (k:List KI) (s:AS)
  |guard (all rest:List Oper) (o:Oper) (d:Nat) (want t:Bool) (k:List KI) (s:AS)
  |op (all rest:List Oper) (o:Oper) (k:List KI) (s:AS)
  |loop (b:Code) (k:List KI) (s:AS)
  |draw (id:Nat) (ops:Array Oper) (k:List KI) (s:AS)
  |again (R:AS->Prop) (s:AS)
  |N6 (all rest:List Oper) (o:Oper) (d:Nat) (want t:Bool) (k:List KI) (s:AS)
  |Hc (all:List Oper) (todo pend:List (Nat×Oper)) (d:Nat) (t:Bool) (k:List KI) (s:AS)
  |Hf (all:List Oper) (todo pend:List (Nat×Oper)) (k:List KI) (s:AS)
  |bad (why:Nat) (k:List KI) (s:AS)
  |out (k:List KI) (s:AS)
def mR(id:Nat):List KI->Option (List KI)
  | []=>io
  | .aC j::k=>bif TR id j then dl k else mR id k
  | .code _::k=>mR id k
  | .ops _ _::k=>mR id k
  | .lp _::k=>mR id k
  | .sR _ _::k=>mR id k
  | .bY _ _ _::k=>mR id k
  | .DI _ _::k=>mR id k
  | .EX::k=>mR id k
  | .KJ ..::_=>io
  | .KK ..::_=>io
def gj:List KI->Option (List KI)
  | []=>io
  | .aC _::k=>gj k
  | .code _::k=>gj k
  | .ops _ _::k=>gj k
  | .lp _::k=>gj k
  | .sR _ _::k=>gj k
  | .bY _ _ _::k=>gj k
  | .DI _ _::k=>gj k
  | .EX::k=>gj k
  |k=>dl k
structure Ti where
  nt:Nat
  res:List ResultVar
  body:Code
abbrev R8:=Nat->Option Ti
def HT(P:Program)(d:R8):Prop:= ∀g e,d g=dl e-> ∃fn,P.funcs[g]? =dl fn∧fn.body=dl e.body∧(fn.name== "runtime.NumGoroutine")=jp∧fn.ntmps=e.nt∧fn.results.toList=e.res
def A4{α:Type _}:Nat->List PV->(AF->α)->α
  |_,[],k=>k []
  |n,p::r,k=>uZ p fun d=>A4 (n+1) r fun f=>k ((n,d)::f)
theorem vn{α:Type _}: ∀(l:List PV) (n:Nat) (k:AF->α),A4 n l k=k (kS n l)
  | [],_,_=>rfl
  |p::r,n,k=>by simp only[A4,dO,vn r,kS]
def callee(d:R8)(s:AS):Op->Option (Ti×List PV)
  | .call c=>match bM s.f c with
    | some (g,asv)=>match d g with
      | some e=>match Vm asv.length e.nt with
        |true=>dl (e,asv)
        |false=>io
      |none=>io
    |none=>io
  |_=>io
structure Way where
  fns:R8
  un:Nat
  cl:Bool
def bK(ty:Ty)(y:Way):Nat->NT->List KI->AS->Prop->Option (Prop×NT×Stop)
  |0,nt,k,s,C=>dl (C,nt,.out k s)
  |_+1,nt,[],s,C=>dl (C,nt,.fin .normal s)
  |n+1,nt,.aC _::k,s,C=>bK ty y n nt k s C
  |_+1,nt,.lp R::_,s,C=>dl (C,nt,.again R s)
  |n+1,nt,.EX::k,s,C=>bK ty y n nt k s C
  |n+1,nt,.code (.scope b)::k,s,C=>bK ty y n nt (.code b:: .EX::k) s C
  | n+1,nt,.DI b m::k,s,C=>match m with
    |0=>dl (C,nt,.bad 2 k s)
    |m+1=>bK ty y n nt (.code b:: .DI b m::k) s C
  | n+1,_,.KJ nt f res o all rest::k,s,C=>match res s with
    |none=>dl (C,nt,.bad 3 k s)
    | some r=>match putDst nt o r ⟨f,s.h,s.nx⟩ with
      |none=>dl (C,nt,.bad 4 k s)
      |some s'=>bK ty y n nt (.ops all rest::k) s' C
  | n+1,_,.KK nt f res j o all todo pend::k,s,C=>match res s with
    |none=>dl (C,nt,.bad 5 k s)
    | some r=>match putDst nt o r ⟨f,s.h,s.nx⟩ with
      |none=>dl (C,nt,.bad 6 k s)
      | some s'=>match de ty nt all s' (a8 pend o) with
        |none=>dl (C,nt,.bad 7 k s)
        |some C''=>bK ty y n nt (.bY all (todo.filter fun x=>!TR x.1 j) (a8 pend o)::k) s' (C∧C'')
  |n+1,nt,.code .skip::k,s,C=>bK ty y n nt k s C
  |n+1,nt,.code (.label _)::k,s,C=>bK ty y n nt k s C
  |n+1,nt,.code (.seq a b)::k,s,C=>bK ty y n nt (.code a:: .code b::k) s C
  |n+1,nt,.code (.block id b)::k,s,C=>bK ty y n nt (.code b:: .aC id::k) s C
  | n+1,nt,.code (.region id ops d)::k,s,C=>match d with
    |false=>bK ty y n nt (.ops ops.toList ops.toList::k) s C
    | true=>match uz ops.toList,ik 0 ops.toList,j9 ty nt ops.toList 0 ops.toList with
      |true,is,is=>bK ty y n nt (.bY ops.toList (iW 0 ops.toList) []::k) s C
      |_,_,_=>dl (C,nt,.draw id ops k s)
  |n+1,nt,.bY _ [] _::k,s,C=>bK ty y n nt k s C
  | n+1,nt,.bY all (x::todo) pend::k,s,C=>match lf ty nt s all (x::todo) pend (x::todo) with
    | some (.read i o p C')=>match putDst nt o p s with
      |none=>dl (C,nt,.bad 8 k s)
      | some s'=>match Ad o.op with
        |true=>bK ty y n nt (.bY all ((x::todo).filter fun x=>!TR x.1 i) ((i,o)::pend)::k) s' (C∧C')
        |false=>bK ty y n nt (.bY all ((x::todo).filter fun x=>!TR x.1 i) ((i,o)::pend)::k) s' C
    |some (.skip i o)=>bK ty y n nt (.bY all ((x::todo).filter fun x=>!TR x.1 i) ((i,o)::pend)::k) (gE o s) C
    | some (.split d _)=>match s.f.get d with
      | .iv (.v (.bool t'))=>match y.cl with
        |false=>dl (C,nt,.Hc all (x::todo) pend d t' k s)
        | true=>match t' with
          |true=>bK ty y n nt (.bY all (x::todo) pend::k) (setBool s (.tmp d) is) C
          |false=>bK ty y n nt (.bY all (x::todo) pend::k) (setBool s (.tmp d) jp) C
      |_=>dl (C,nt,.bad 9 k s)
    | none=>match dX (x::todo) with
      | [(j,o)]=>match bV nt all s.f o,hQ all pend o,mC (x::todo) [j] with
        | some is,is,is=>match mF ty nt all s (x::todo) pend with
          |none=>dl (C,nt,.bad 101 k s)
          | some CA=>match iu ty s o.op with
            | some (p,C')=>match putDst nt o p s with
              |none=>dl (C,nt,.bad 102 k s)
              | some s'=>match de ty nt all s' (a8 pend o) with
                |none=>dl (C,nt,.bad 103 k s)
                |some C''=>bK ty y n nt (.bY all ((x::todo).filter fun x=>!TR x.1 j) (a8 pend o)::k) s' (C∧(CA∧C'∧C''))
            | none=>match Gr ty s o.op with
              | none=>match callee y.fns s o.op with
                | none=>match R3 ty s o.op with
                  |none=>dl (C,nt,.Hf all (x::todo) pend k s)
                  | some (C',p,s1)=>match putDst nt o p s1 with
                    |none=>dl (C,nt,.bad 109 k s)
                    | some s'=>match de ty nt all s' (a8 pend o) with
                      |none=>dl (C,nt,.bad 110 k s)
                      |some C''=>bK ty y n nt (.bY all ((x::todo).filter fun x=>!TR x.1 j) (a8 pend o)::k) s' (C∧(CA∧C'∧C''))
                |some (e,asv)=>A4 0 asv fun f=>bK ty y n e.nt (.code e.body:: .KK nt s.f (jy ty · e.res) j o all (x::todo) pend::k) ⟨f,s.h,s.nx⟩ (C∧CA)
              | some (p,s1)=>match putDst nt o p s1 with
                |none=>dl (C,nt,.bad 104 k s)
                | some s'=>match de ty nt all s' (a8 pend o) with
                  |none=>dl (C,nt,.bad 105 k s)
                  |some C''=>bK ty y n nt (.bY all ((x::todo).filter fun x=>!TR x.1 j) (a8 pend o)::k) s' (C∧(CA∧C''))
        |_,_,_=>dl (C,nt,.Hf all (x::todo) pend k s)
      | []=>match Ab (x::todo) (x::todo) with
        |none=>dl (C,nt,.Hf all (x::todo) pend k s)
        | some (i,o)=>match o.op,o.dst with
          | .alloc t,dl d=>match ty t with
            |none=>dl (C,nt,.bad 106 k s)
            | some e=>je (cy e.zero) fun A=>match de ty nt all s pend,de ty nt all (ke s d A) pend with
              |some C1,dl C2=>bK ty y n nt (.bY all ((x::todo).filter fun x=>!TR x.1 i) pend::k) (ke s d A) (C∧(C1∧C2))
              |_,_=>dl (C,nt,.bad 107 k s)
          |_,_=>dl (C,nt,.bad 108 k s)
      |_=>dl (C,nt,.Hf all (x::todo) pend k s)
  | n+1,nt,.code (.cond c u v)::k,s,C=>match ev s.f c with
    | .iv (.v (.bool t))=>match y.cl with
      |false=>dl (C,nt,.cond c t u v k s)
      | true=>match t with
        |true=>bK ty y n nt (.code u::k) s C
        |false=>bK ty y n nt (.code v::k) s C
    | .kb is=>bK ty y n nt (.code u::k) s C
    | .kb jp=>bK ty y n nt (.code v::k) s C
    |_=>dl (C,nt,.bad 14 k s)
  | n+1,nt,.code .ret::k,s,C=>match gj k with
    |some k'=>bK ty y n nt k' s C
    |none=>dl (C,nt,.fin .ret s)
  | n+1,nt,.code (.exit id)::k,s,C=>match mR id k with
    |some k'=>bK ty y n nt k' s C
    |none=>dl (C,nt,.bad 15 k s)
  | n+1,nt,.code (.loop b)::k,s,C=>match y.un with
    |0=>dl (C,nt,.loop b k s)
    |u+1=>bK ty y n nt (.code b:: .DI b u::k) s C
  |_+1,nt,.code _::k,s,C=>dl (C,nt,.bad 16 k s)
  |_+1,nt,.sR _ _::k,s,C=>dl (C,nt,.bad 17 k s)
  |n+1,nt,.ops _ []::k,s,C=>bK ty y n nt k s C
  | n+1,nt,.ops all (o::r)::k,s,C=>match o.guard with
    | some (j,want)=>match guardOf all s.f j with
      | some (d,.iv (.v (.bool t)))=>bif TU d nt then(match y.cl with
        |false=>dl (C,nt,.guard all r o d want t k s)
        | true=>match t with
          |true=>bK ty y n nt (.ops all (o::r)::k) (setBool s (.tmp d) is) C
          |false=>bK ty y n nt (.ops all (o::r)::k) (setBool s (.tmp d) jp) C) else dl (C,nt,.bad 18 k s)
      | some (d,.kb t)=>bif TU d nt then(match t,want,o with
        |true,is,⟨a1,a2,a3,a4,a5,_⟩=>bK ty y n nt (.ops all (⟨a1,a2,a3,a4,a5,io⟩::r)::k) s C
        |false,jp,⟨a1,a2,a3,a4,a5,_⟩=>bK ty y n nt (.ops all (⟨a1,a2,a3,a4,a5,io⟩::r)::k) s C
        |_,_,o=>bK ty y n nt (.ops all r::k) (gE o s) C) else dl (C,nt,.bad 19 k s)
      |some (_,.iv (.v (.tuple _)))=>bK ty y n nt (.ops all r::k) (gE o s) C
      |_=>dl (C,nt,.bad 20 k s)
    | none=>match iu ty s o.op with
      | none=>match Gr ty s o.op with
        | none=>match callee y.fns s o.op with
          | none=>match R3 ty s o.op with
            |none=>dl (C,nt,.op all r o k s)
            | some (C',p,s1)=>match putDst nt o p s1 with
              |none=>dl (C,nt,.bad 111 k s)
              |some s'=>bK ty y n nt (.ops all r::k) s' (C∧C')
          |some (e,asv)=>A4 0 asv fun f=>bK ty y n e.nt (.code e.body:: .KJ nt s.f (jy ty · e.res) o all r::k) ⟨f,s.h,s.nx⟩ C
        | some (p,s1)=>match putDst nt o p s1 with
          |none=>dl (C,nt,.bad 21 k s)
          |some s'=>bK ty y n nt (.ops all r::k) s' C
      | some (p,C')=>match putDst nt o p s with
        |none=>dl (C,nt,.bad 22 k s)
        | some s'=>match Ad o.op with
          |true=>bK ty y n nt (.ops all r::k) s' (C∧C')
          |false=>bK ty y n nt (.ops all r::k) s' C
def fq(P:Program)(nt:NT)(Q:AQ):Stop->Prop
  | .fin e s=>Q e s
  | .cond c t x y k s=>(t=is->GO P nt (.code x::k) Q (setBool s c is))∧(t=jp->GO P nt (.code y::k) Q (setBool s c jp))
  | .guard all r o d want t k s=>(t=want->GO P nt (.ops all ({o with guard:=io}::r)::k) Q (setBool s (.tmp d) want))∧(t=!want->GO P nt (.ops all r::k) Q (gE o (setBool s (.tmp d) (!want))))
  | .op all r o k s=>GO P nt (.ops all (o::r)::k) Q s
  | .loop b k s=>GO P nt (.code (.loop b)::k) Q s
  | .draw id ops k s=>GO P nt (.code (.region id ops is)::k) Q s
  | .again R s=>R s
  | .N6 all r o d want t k s=>(t=want->GO P nt (.sR all ({o with guard:=io}::r)::k) Q (setBool s (.tmp d) want))∧(t=!want->GO P nt (.sR all r::k) Q (gE o (setBool s (.tmp d) (!want))))
  | .Hc all todo pend d t k s=>(t=is->GO P nt (.bY all todo pend::k) Q (setBool s (.tmp d) is))∧(t=jp->GO P nt (.bY all todo pend::k) Q (setBool s (.tmp d) jp))
  | .Hf all todo pend k s=>GO P nt (.bY all todo pend::k) Q s
  | .bad _ _ _=>False
  | .out k s=>GO P nt k Q s
section
variable {P:Program} {ty:Ty} {nt:NT} {Q:AQ}
theorem l4: ∀(k:List KI) {nt:NT} {s:AS},gj k=io->Q .ret s->kp P nt k Q .ret s
  | [],_,_,_,h=>h
  | .code _::k,_,_,g,h=>l4 k g h
  | .aC _::k,_,_,g,h=>l4 k g h
  | .ops _ _::k,_,_,g,h=>l4 k g h
  | .lp _::k,_,_,g,h=>l4 k g h
  | .sR _ _::k,_,_,g,h=>l4 k g h
  | .bY _ _ _::k,_,_,g,h=>l4 k g h
  | .DI _ _::k,_,_,g,h=>l4 k g h
  | .EX::k,_,_,g,h=>l4 k g h
  | .KJ ..::_,_,_,g,_=>by simp[gj]at g
  | .KK ..::_,_,_,g,_=>by simp[gj]at g
theorem dR: ∀(k:List KI) {nt:NT} {s:AS} {d:List KI},gj k=dl d->GO P nt d Q s->kp P nt k Q .ret s
  | [],_,_,_,g,_=>by simp[gj]at g
  | .code _::k,_,_,_,g,h=>dR k g h
  | .aC _::k,_,_,_,g,h=>dR k g h
  | .ops _ _::k,_,_,_,g,h=>dR k g h
  | .lp _::k,_,_,_,g,h=>dR k g h
  | .sR _ _::k,_,_,_,g,h=>dR k g h
  | .bY _ _ _::k,_,_,_,g,h=>dR k g h
  | .DI _ _::k,_,_,_,g,h=>dR k g h
  | .EX::k,_,_,_,g,h=>dR k g h
  | .KJ ..::_,_,_,_,g,h=>by
    simp only[gj,Tm]at g;subst g;exact⟨.inr I,h.2⟩
  | .KK ..::_,_,_,_,g,h=>by
    simp only[gj,Tm]at g;subst g;exact⟨.inr I,h.2⟩
theorem dr{id:Nat}: ∀(k:List KI) {nt:NT} {d:List KI} {s:AS},mR id k=dl d->GO P nt d Q s->kp P nt k Q (.exit id) s
  | [],_,_,_,h,_=>by cases h
  | .code _::k,_,_,_,h,g=>dr k h g
  | .ops _ _::k,_,_,_,h,g=>dr k h g
  | .lp _::k,_,_,_,h,g=>dr k h g
  | .sR _ _::k,_,_,_,h,g=>dr k h g
  | .bY _ _ _::k,_,_,_,h,g=>dr k h g
  | .DI _ _::k,_,_,_,h,g=>dr k h g
  | .EX::k,_,_,_,h,g=>dr k h g
  | .KJ ..::_,_,_,_,h,_=>by cases h
  | .KK ..::_,_,_,_,h,_=>by cases h
  | .aC j::k,nt,d,s,h,g=>by
    simp only[mR]at h;show if id=j then _ else _;cases hb:TR id j with
    | true=>
      simp only[hb,cond_true,Tm]at h;subst h;rw[am (TM hb)];exact g
    | false=>
      simp only[hb,cond_false]at h;rw[be (fun e=>by subst e;simp at hb)];exact dr k h g
theorem uf(u:bE P ty){s s':AS}{o:Oper}{p:PV}{C:Prop}(h:iu ty s o.op=dl (p,C))(hC:C)(hp:putDst nt o p s=dl s'):OT P nt o s (fun t=>t=s'):=by
  intro M N a w j K Z y;obtain⟨x,D,B⟩:=re u j h hC;unfold Oper.wp;rw[D];simp only[Oper.upon];cases hd:o.dst with
  | none=>
    have:=dx hp hd;subst this;exact y M N s' _ w (.refl _ _ _ _ _) j I
  | some d=>
    obtain⟨A,rfl⟩:=dw hp hd;exact y M N {s with f:=(d,p)::s.f} _ w (.refl _ _ _ _ _) (j.put d p x A B) I
theorem nR(u:bE P ty){s s':AS}{o:Oper}{p:PV}{C:Prop}(h:iu ty s o.op=dl (p,C))(hC:C)(hp:putDst nt o p s=dl s'):
    (s'.h=s.h∧s'.nx=s.nx)∧ ∀M N a w,Fits M N s nt a w-> ∃x,(execOp a.eval o).run P w= .ok (.value x) w∧Fits M N s' nt (a.put o.dst x) w:=by
  cases hd:o.dst with
  | none=>
    have:=dx hp hd;subst this;exact⟨⟨rfl,rfl⟩,fun M N a w j=>let ⟨x,hx,_⟩:=re u j h hC;⟨x,hx,j⟩⟩
  | some d=>
    obtain⟨y,rfl⟩:=dw hp hd;exact⟨⟨rfl,rfl⟩,fun M N a w j=>let ⟨x,hx,hv⟩:=re u j h hC;⟨x,hx,j.put d p x y hv⟩⟩
theorem uo{s:AS}{all:List Oper}{todo pend:List (Nat×Oper)}: ∀{l:List (Nat×Oper)} {i:Nat} {o:Oper},(∀x∈l,x∈todo)->
    ((∀{p C},lf ty nt s all todo pend l=dl (.read i o p C)->(i,o)∈todo∧aS o=jp∧(∀x∈todo,waits o x.1=jp)∧bV nt all s.f o=dl is∧vZ all pend o=is∧iu ty s o.op=dl (p,C))∧
     (lf ty nt s all todo pend l=dl (.skip i o)->(i,o)∈todo∧aS o=jp∧(∀x∈todo,waits o x.1=jp)∧bV nt all s.f o=dl jp∧vZ all pend o=is))
  | [],i,o,_=>⟨fun h=>by simp[lf]at h,fun h=>by simp[lf]at h⟩
  | (j,q)::r,i,o,hl=>by
    have d:=uo (s:=s) (all:=all) (todo:=todo) (pend:=pend) (l:=r) (i:=i) (o:=o) (fun x F=>hl x (TH _ F));have u:(todo.any (fun y=>waits q y.1)||aS q)=jp->aS q=jp∧ ∀x∈todo,waits q x.1=jp:=fun h=>by
      simp only[Vh,Uo]at h;exact⟨h.2,fun x F=>by simpa using h.1 x F⟩
    constructor
    · intro p C h
      simp only[lf]at h;split at h
      · exact d.1 h
      · rename_i A
        split at h
        · rename_i D
          split at h
          · rename_i G
            split at h
            · rename_i B
              simp only[Tm,HU.read.injEq]at h;obtain⟨rfl,rfl,rfl,rfl⟩:=h;exact⟨hl _ (by simp),(u A).1,(u A).2,D,B,G⟩
            · exact d.1 h
          · exact d.1 h
        · split at h
          · cases h
          · exact d.1 h
        · split at h
          · split at h
            · cases h
            · exact d.1 h
          · exact d.1 h
    · intro h
      simp only[lf]at h;split at h
      · exact d.2 h
      · rename_i A
        split at h
        · split at h
          · split at h
            · cases h
            · exact d.2 h
          · exact d.2 h
        · rename_i D
          split at h
          · rename_i B
            simp only[Tm,HU.skip.injEq]at h;obtain⟨rfl,rfl⟩:=h;exact⟨hl _ (by simp),(u A).1,(u A).2,D,B⟩
          · exact d.2 h
        · split at h
          · split at h
            · cases h
            · exact d.2 h
          · exact d.2 h
theorem qP{s s1:AS}{o:Oper}{d:Nat}{p:PV}(hd:o.dst=dl d)(hs:s1={s with f:=(d,p)::s.f})(hp:aj p (s.f.get d)){M:Mem}{N:Nm}{a:Act}{w:World}(hf:Fits M N s1 nt a w):Fits M N s nt a w:=by
  subst hs;refine⟨hf.1,fun k=>?_,hf.2.2⟩;have:=hf.2.1 k;rw[AF.ax]at this;split at this
  · rename_i j;subst j;exact hp _ _ _ _ this
  · exact this
theorem cI(u:bE P ty){all:List Oper}{s:AS}: ∀{l:List (Nat×Oper)} {C:Prop},de ty nt all s l=dl C->C-> ∀x∈l,eN P nt all s x.2
  | [],_,_,_,x,hx=>(nomatch hx)
  | (i,o)::r,C,h,hC,x,hx=>by
    simp only[de]at h;split at h
    · cases h
    · rename_i R hR
      have key:R->(∀M N b w,Fits M N s nt b w-> ∃v,YieldsAt P all.toArray w o v b∧Fits M N s nt (b.put o.dst v) w)->eN P nt all s x.2:=by
        intro B hh;rcases TQ.1 hx with rfl|hx
        · exact hh
        · exact cI u hR B x hx
      split at h
      · rename_i y
        split at h
        · rename_i p Z B
          split at h
          · rename_i d hd
            cases hb:TU d nt with
            |false=>simp[hb]at h
            | true=>
              simp only[hb,cond_true,Tm]at h;subst h;obtain⟨⟨D,J⟩,Y⟩:=hC;refine key Y fun M N b w j=>?_;obtain⟨v,G,A⟩:=re u j B J;refine⟨v,.inl ⟨eV y j,.inl G⟩,?_⟩;rw[hd];exact qP hd I D (j.put d p v (Tk hb) A)
          · rename_i hd
            simp only[Tm]at h;subst h;refine key hC.2 fun M N b w j=>?_;obtain⟨v,G,A⟩:=re u j B hC.1;exact⟨v,.inl ⟨eV y j,.inl G⟩,by rw[hd];exact j⟩
        · cases h
      · rename_i y
        have F: ∀d,o.dst=dl d->s.f.get d= .iv (.v (.tuple #[]))-> ∀M N b w,Fits M N s nt b w-> ∃v,YieldsAt P all.toArray w o v b∧Fits M N s nt (b.put o.dst v) w:=fun d hd D M N b w j=>by
          refine⟨undef,.inr ⟨eV y j,rfl⟩,?_⟩;have:=j.skip o;unfold gE at this;rw[hd]at this ⊢;exact qP hd I (D▸aj.refl _) this
        split at h
        · rename_i d hd
          simp only[Tm]at h;subst h;exact key hC.2 (F d hd hC.1)
        · rename_i hd
          simp only[Tm]at h;subst h;exact key hC fun M N b w j=>⟨undef,.inr ⟨eV y j,rfl⟩,by rw[hd];exact j⟩
      · cases h
theorem Df{all:List Oper}{o:Oper}{r:List Oper}{d:Nat}{t:Bool}{k:List KI}{s:AS}{c:Bool}(hc:c=t)(x:s.f.get d= .iv (.v (.bool t)))(h:GO P nt (.ops all (o::r)::k) Q (setBool s (.tmp d) c)):GO P nt (.ops all (o::r)::k) Q s:=by
  subst hc;intro M N a w u;have j:=u.setBool (c:= .tmp d) x;exact AL.same (s:=s) h (jw _ _ _) j
theorem uW{c:Operand}{u v:Code}{t:Bool}{k:List KI}{s:AS}(hc:ev s.f c= .iv (.v (.bool t)))(h:GO P nt (.code (bif t then u else v)::k) Q s):GO P nt (.code (.cond c u v)::k) Q s:=by
  intro M N a w d;refine wp_cond (d.bool hc) ?_;cases t
  · exact h M N a w d
  · exact h M N a w d
theorem sA{all:List Oper}{f:AF}{j d:Nat}{p:PV}(h:guardOf all f j=dl (d,p)):f.get d=p:=by
  unfold guardOf at h;split at h
  · split at h
    · simp only[Tm,TC]at h;rw[<-h.1];exact h.2
    · cases h
  · cases h
theorem Aa{todo:List (Nat×Oper)}: ∀{l:List (Nat×Oper)} {i:Nat} {o:Oper},(∀x∈l,x∈todo)->Ab todo l=dl (i,o)->(i,o)∈todo∧yO todo i=is
  | [],_,_,_,h=>by simp[Ab]at h
  | (j,q)::r,i,o,hl,h=>by
    simp only[Ab]at h;split at h
    · rename_i d
      simp only[Tm,TC]at h;obtain⟨rfl,rfl⟩:=h;exact⟨hl _ (by simp),d⟩
    · exact Aa (fun x u=>hl x (TH _ u)) h
theorem sN{all:List Oper}{i:Nat}{o:Oper}: ∀{l:List Oper} {n:Nat},nG all i o n l=is-> ∀k q,l[k]? =dl q->n+k≠i->(waits q i=is∨looks all q o=jp)∧ ∀d,o.dst=dl d->q.dst≠dl d
  | [],_,_,k,q,hk,_=>by simp at hk
  | c::l,n,h,k,q,hk,hne=>by
    simp only[nG,TZ,Vr,UD]at h;cases k with
    | zero=>
      simp at hk;subst hk;rcases h.1 with j|⟨j,y⟩
      · exact absurd (TM j) (by simpa using hne)
      · refine⟨j,fun d u x=>?_⟩
        rw[u,x]at y;simp at y
    |succ k=>exact sN h.2 k q (by simpa using hk) (by omega)
theorem vY(C:bE P ty){all:List Oper}(h:j9 ty nt all 0 all=is):jh P nt all:=by
  have key: ∀(l:List Oper) (n:Nat),j9 ty nt all n l=is-> ∀k o,l[k]? =dl o->aS o=is->
      o.guard=io∧(∃d,o.dst=dl d∧d<nt)∧(∃t v,o.op= .alloc t∧ ∀w,(zeroValue t).run P w= .ok v w)∧(∀k,waits o k=jp)∧nG all (n+k) o 0 all=is:=by
    intro l
    induction l with
    |nil=>intro n _ k o u;simp at u
    | cons c l ih=>
      intro n h k o u x;simp only[j9,TZ]at h;cases k with
      | zero=>
        simp at u;subst u;have j:=h.1;split at j
        · rename_i t B
          split at j
          · rename_i d e Y hd y
            simp only[TZ]at j;refine⟨Y,⟨d,hd,Tk j.1⟩,⟨t,_,B,fun w=>dC (C _ _ y)⟩,fun k=>?_,j.2.2⟩;unfold waits;refine Uo.2 fun e y=>?_;have:=T7.1 j.2.1 e y;simp only[UD]at this;simp[this]
          · cases j
        · rename_i A
          unfold aS at x;split at x
          · rename_i t B;exact absurd B (A t)
          · cases x
      | succ k=>
        have:=ih (n+1) h.2 k o (by simpa using u) x;rw[show n+(k+1)=n+1+k by omega];exact this
  intro i o ho x;obtain⟨j,F,G,J,D⟩:=key all 0 h i o ho x;refine⟨j,F,G,J,fun k q u Z=>?_⟩;rw[TL]at D;exact sN D k q u (by omega)
theorem xt{d:R8}(j:HT P d){s:AS}{o:Op}{e:Ti}{asv:List PV}(h:callee d s o=dl (e,asv)):
    ∃g c fn,o= .call c∧bM s.f c=dl (g,asv)∧asv.length<=e.nt∧P.funcs[g]? =dl fn∧fn.body=dl e.body∧(fn.name== "runtime.NumGoroutine")=jp∧fn.ntmps=e.nt∧fn.results.toList=e.res:=by
  unfold callee at h;split at h
  · rename_i c
    split at h
    · rename_i g u D
      split at h
      · rename_i G F
        split at h
        · rename_i hb
          simp only[Tm,TC]at h;obtain⟨rfl,rfl⟩:=h;obtain⟨fn,x,y,A,B,C⟩:=j _ _ F;exact⟨g,c,fn,rfl,D,Tk hb,x,y,A,B,C⟩
        · cases h
      · cases h
    · cases h
  · cases h
theorem Oy(hm:P.follows .mixedOrders=is)(B:bE P ty){y:Way}(w0:HT P y.fns): ∀(n:Nat) (nt:NT) (k:List KI) (s:AS) (C0 C:Prop) (J:NT) (st:Stop),bK ty y n nt k s C0=dl (C,J,st)->(C->C0)∧(C->fq P J Q st->GO P nt k Q s):=by
  intro n
  induction n with
  | zero=>
    intro nt k s C0 C J st h;simp only[bK,Tm,TC]at h;obtain⟨rfl,rfl,rfl⟩:=h;exact⟨fun h=>h,fun _ g=>g⟩
  | succ n ih=>
    intro nt k s C0 C J st h;have A: ∀{Y:NT} {k2:List KI} {s2:AS},bK ty y n Y k2 s2 C0=dl (C,J,st)->(GO P Y k2 Q s2->GO P nt k Q s)->(C->C0)∧(C->fq P J Q st->GO P nt k Q s):=
      fun h f=>have:=ih _ _ _ _ _ _ _ h;⟨this.1,fun hC g=>f (this.2 hC g)⟩
    have F: ∀{Y:NT} {k2:List KI} {s2:AS} {C1:Prop},bK ty y n Y k2 s2 (C0∧C1)=dl (C,J,st)->(C1->GO P Y k2 Q s2->GO P nt k Q s)->(C->C0)∧(C->fq P J Q st->GO P nt k Q s):=
      fun h f=>have:=ih _ _ _ _ _ _ _ h;⟨fun hC=>(this.1 hC).1,fun hC g=>f (this.1 hC).2 (this.2 hC g)⟩
    have D: ∀{t0:Stop},dl (C0,nt,t0)=dl (C,J,st)->(fq P nt Q t0->GO P nt k Q s)->(C->C0)∧(C->fq P J Q st->GO P nt k Q s):=by
      intro t0 h f;simp only[Tm,TC]at h;obtain⟨rfl,rfl,rfl⟩:=h;exact⟨fun h=>h,fun _ g=>f g⟩
    have a0: ∀{Y:NT} {x0:Nat} {k2:List KI} {s2:AS},dl (C0,Y,Stop.bad x0 k2 s2)=dl (C,J,st)->(C->C0)∧(C->fq P J Q st->GO P nt k Q s):=by
      intro Y x0 k2 s2 h;simp only[Tm,TC]at h;obtain⟨rfl,rfl,rfl⟩:=h;exact⟨fun h=>h,fun _ g=>g.elim⟩
    cases k with
    |nil=>simp only[bK]at h;exact D h fun g=>g
    | cons i k=>
      cases i with
      |lp R=>simp only[bK]at h;exact D h fun g=>g
      |aC id=>simp only[bK]at h;exact A h Pa
      |EX=>simp only[bK]at h;exact A h fun g=>g
      | DI b m=>
        simp only[bK]at h;split at h
        · exact a0 h
        · exact A h go_round
      | KJ Y f res o all rest=>
        simp only[bK]at h;split at h
        · exact a0 h
        · rename_i r hr
          split at h
          · exact a0 h
          · rename_i s' G
            exact A h fun g=>⟨.inl I,r,s',hr,G,g⟩
      | KK Y f res j o all todo pend=>
        simp only[bK]at h;split at h
        · exact a0 h
        · rename_i r hr
          split at h
          · exact a0 h
          · rename_i s' G
            split at h
            · exact a0 h
            · rename_i m0 d0
              exact F h fun hC g=>⟨.inl I,r,s',hr,G,cI B d0 hC,g⟩
      | code c=>
        cases c with
        |skip=>simp only[bK]at h;exact A h go_skip
        |scope b=>simp only[bK]at h;exact A h GQ
        |label l=>simp only[bK]at h;exact A h GU
        |seq a b=>simp only[bK]at h;exact A h O6
        |block id b=>simp only[bK]at h;exact A h G1
        | region id ops d=>
          cases d with
          |false=>simp only[bK]at h;exact A h go_region
          | true=>
            simp only[bK]at h;split at h
            · rename_i h1 h2 h3
              exact A h (GZ hm (Ek h1) h2 (vY B h3))
            · exact D h fun g=>g
        | cond c u v=>
          simp only[bK]at h;split at h
          · rename_i t he
            split at h
            · exact D h fun g=>KE he g.1 g.2
            · split at h
              · exact A h (uW he)
              · exact A h (uW he)
          · rename_i he
            exact A h (uV he)
          · rename_i he
            exact A h (uV he)
          · exact a0 h
        | ret=>
          simp only[bK]at h;split at h
          · rename_i k' G
            exact A h fun g=>go_ret (dR k G g)
          · rename_i G
            exact D h fun g=>go_ret (l4 k G g)
        | exit id=>
          simp only[bK]at h;split at h
          · rename_i k' G
            exact A h fun g=>KA (dr k G g)
          · exact a0 h
        | loop b=>
          simp only[bK]at h;split at h
          · exact D h fun g=>g
          · exact A h yA
        |_=>simp only[bK]at h;exact a0 h
      |sR all rest=>simp only[bK]at h;exact a0 h
      | bY all todo pend=>
        cases todo with
        |nil=>simp only[bK]at h;exact A h Az
        | cons x todo=>
          have g0: ∀{j:Nat} {o:Oper},dX (x::todo)=[(j,o)]->(j,o)∈(x::todo)∧aS o=jp∧ ∀y∈(x::todo),waits o y.1=jp:=by
            intro j o h1;have h2:(j,o)∈dX (x::todo):=by rw[h1];simp
            obtain⟨h3,h4⟩:=Ub.1 h2;simp only[UD,Vh,Uo]at h4;exact⟨h3,h4.1,fun y Z=>by simpa using h4.2 y Z⟩
          have b0: ∀{CA:Prop},mF ty nt all s (x::todo) pend=dl CA->CA-> ∀y∈(x::todo),aS y.2=is-> ∀y∈pend,eN P nt all s y.2:=by
            intro CA h1 f0 y Z j1;unfold mF at h1;split at h1
            · exact cI B h1 f0
            · rename_i h2
              have:=Uo.1 h2 y Z;rw[j1]at this;exact absurd I this
          have e0: ∀{j:Nat} {o:Oper} {s':AS},dX (x::todo)=[(j,o)]->bV nt all s.f o=dl is->hQ all pend o=is->mC (x::todo) [j]=is->(∀y∈(x::todo),aS y.2=is-> ∀y∈pend,eN P nt all s y.2)->OT P nt o s (fun t=>t=s')->
              (∀y∈a8 pend o,eN P nt all s' y.2)->GO P nt (.bY all ((x::todo).filter fun x=>!TR x.1 j) (a8 pend o)::k) Q s'->GO P nt (.bY all (x::todo) pend::k) Q s:=by
            intro j o s' h1 h2 h3 h4 ha h5 h6 h7;obtain⟨c0,q0,s0⟩:=g0 h1;refine nV h4 ⟨_,c0,q0⟩ ha fun j' o' hj _ hu=>?_;simp only[TF]at hj;subst hj;have:=hu o c0;subst this;exact⟨q0,fun y Z _=>s0 y Z,h3,h2,_,h5,fun t ht=>by subst ht;exact⟨h6,h7⟩⟩
          simp only[bK]at h;split at h
          · rename_i i o p C' r0
            obtain⟨g1,ga,gb,g2,g3,g4⟩:=(uo (fun _ h=>h)).1 r0;split at h
            · exact a0 h
            · rename_i s' G
              split at h
              · exact F h fun hC g=>uU g1 ga gb g2 g3 (nR B g4 hC G).1 (nR B g4 hC G).2 g
              · rename_i ho
                exact A h fun g=>uU g1 ga gb g2 g3 (nR B g4 (yf g4 ho) G).1 (nR B g4 (yf g4 ho) G).2 g
          · rename_i i o r0
            obtain⟨g1,ga,gb,g2,g3⟩:=(uo (fun _ h=>h)).2 r0;exact A h (GY g1 ga gb g2 g3)
          · split at h
            · rename_i t' Z
              split at h
              · exact D h fun g=>rD Z g.1 g.2
              · split at h
                · exact A h fun g=>rD Z (fun _=>g) (fun h=>by cases h)
                · exact A h fun g=>rD Z (fun h=>by cases h) (fun _=>g)
            · exact a0 h
          · split at h
            · rename_i j o l0
              split at h
              · rename_i i0 j0 k0
                split at h
                · exact a0 h
                · rename_i CA f0
                  split at h
                  · rename_i p C' hr
                    split at h
                    · exact a0 h
                    · rename_i s' G
                      split at h
                      · exact a0 h
                      · rename_i m0 d0
                        exact F h fun hC g=>e0 l0 i0 j0 k0 (b0 f0 hC.1) (uf B hr hC.2.1 G) (cI B d0 hC.2.2) g
                  · split at h
                    · split at h
                      · split at h
                        · exact D h fun g=>g
                        · rename_i C' p s1 n0
                          split at h
                          · exact a0 h
                          · rename_i s' G
                            split at h
                            · exact a0 h
                            · rename_i m0 d0
                              exact F h fun hC g=>e0 l0 i0 j0 k0 (b0 f0 hC.1) (E2 B n0 hC.2.1 G) (cI B d0 hC.2.2) g
                      · rename_i e z0 o0
                        rw[vn]at h;obtain⟨g,c,fn,ho,ha,he,h1,h2,h3,h4,h5⟩:=xt w0 o0;obtain⟨c0,q0,s0⟩:=g0 l0;exact F h fun hC gg=>KD B c0 k0 s0 (b0 f0 hC) j0 i0 ho ha h1 h2 h3 h4 h5 he gg
                    · rename_i p s1 p0
                      split at h
                      · exact a0 h
                      · rename_i s' G
                        split at h
                        · exact a0 h
                        · rename_i m0 d0
                          exact F h fun hC g=>e0 l0 i0 j0 k0 (b0 f0 hC.1) (Gq B p0 G) (cI B d0 hC.2) g
              · exact D h fun g=>g
            · split at h
              · exact D h fun g=>g
              · rename_i i o i1
                split at h
                · rename_i t d f1 e1
                  split at h
                  · exact a0 h
                  · rename_i e he
                    rw[dh]at h;split at h
                    · rename_i C1 C2 b1 d1
                      obtain⟨m1,m2⟩:=Aa (fun _ h=>h) i1;exact F h fun hC g=>EB m1 f1 (fun w=>dC (B _ _ he)) e1 m2 (cI B b1 hC.1) (cI B d1 hC.2) g
                    · exact a0 h
                · exact a0 h
            · exact D h fun g=>g
      | ops all rest=>
        cases rest with
        |nil=>simp only[bK]at h;exact A h BT
        | cons o r=>
          simp only[bK]at h;split at h
          · rename_i j v0 hg
            split at h
            · rename_i d t Z
              cases hb:TU d nt with
              |false=>simp only[hb,cond_false]at h;exact a0 h
              | true=>
                simp only[hb,cond_true]at h;split at h
                · exact D h fun g=>GV hg Z (Tk hb) g.1 g.2
                · split at h
                  · exact A h (Df I (sA Z))
                  · exact A h (Df I (sA Z))
            · rename_i d t Z
              cases hb:TU d nt with
              |false=>simp only[hb,cond_false]at h;exact a0 h
              | true=>
                simp only[hb,cond_true]at h;obtain⟨a1,a2,a3,a4,a5,a6⟩:=o;cases t<;>cases v0<;>simp only at h
                all_goals exact A h fun g=>Ay hg Z (Tk hb) g
            · rename_i d vs Z
              exact A h fun g=>Ax hg Z g
            · exact a0 h
          · rename_i hg
            split at h
            · split at h
              · split at h
                · split at h
                  · exact D h fun g=>g
                  · rename_i C' p s1 n0
                    split at h
                    · exact a0 h
                    · rename_i s' G
                      exact F h fun hC g=>bF hg (E2 B n0 hC G) fun t ht=>by subst ht;exact g
                · rename_i e z0 o0
                  rw[vn]at h;obtain⟨g,c,fn,ho,ha,he,h1,h2,h3,h4,h5⟩:=xt w0 o0;exact A h fun gg=>O7 B hg ho ha h1 h2 h3 h4 h5 he gg
              · rename_i p s1 p0
                split at h
                · exact a0 h
                · rename_i s' G
                  exact A h fun g=>bF hg (Gq B p0 G) fun t ht=>by subst ht;exact g
            · rename_i p C' hr
              split at h
              · exact a0 h
              · rename_i s' G
                split at h
                · exact F h fun hC g=>bF hg (uf B hr hC G) fun t ht=>by subst ht;exact g
                · rename_i ho
                  exact A h fun g=>bF hg (uf B hr (yf hr ho) G) fun t ht=>by subst ht;exact g
theorem OO:HT P (fun _=>io):=fun _ _ h=>nomatch h
theorem BS(hm:P.follows .mixedOrders=is)(j:bE P ty)(n:Nat){k:List KI}{s:AS}{C:Prop}{d:NT}{st:Stop}(h:bK ty ⟨fun _=>io,0,jp⟩ n nt k s True=dl (C,d,st))(hC:C)(hg:fq P d Q st):GO P nt k Q s:=
  (Oy hm j OO n nt k s True C d st h).2 hC hg
end
mutual
def PV.low(n:Nat):PV->Bool
 | .iv _=>is
 | .agg cs=>bD n cs
 | .aZ cs=>bD n cs
 | .ptr i _=>TU i n
 | .c6 i _ _ _=>TU i n
 | .fj _ i=>TU i n
 | .pJ i _ _=>TU i n
 | .sl i _ _ _=>TU i n
 | .mp i=>TU i n
 | .cN _ first caps=>match bD n first with
  |true=>bD n caps
  |false=>jp
 | .kb _=>is
 | .any=>is
def bD(n:Nat):List PV->Bool
 | []=>is
 |p::r=>match PV.low n p with
  |true=>bD n r
  |false=>jp
end
theorem gL{n:Nat}: ∀{l:List PV},bD n l=is-> ∀(j:Nat) (p:PV),l[j]? =dl p->p.low n=is
 | [],_,j,p,h=>by simp at h
 |c::l,hb,j,p,h=>by
  simp only[bD]at hb;split at hb
  .rename_i d;cases j with
   |zero=>simp at h;subst h;exact d
   |succ j=>exact gL hb j p (by simpa using h)
  .cases hb
def AO.low(n:Nat):AO->Prop
 | .cells cs _=>bD n cs=is
 | .row _ es=> ∀(k:Nat) (e:List PV),es[k]? =dl e->bD n e=is
 | .bA _ _=>True
 | .fx=>True
 | .map ..=>True
 | .b5 ..=>True
 | .dQ _ _=>True
 | .om ..=>True
 | .iZ q _ _=>q.low n=is
 | .fy _ _ f=> ∀d,(AF.get f d).low n=is
section
variable {M:Mem} {N:Nm} {U:Nat->Prop} {n:Nat}
theorem VR.down{p:PV}{x:Value}(h:VR M N U p x):p.low n=is->VR M N (· <n) p x:=by
 induction h with
 |iv x y h=>exact fun _=> .iv x y h
 |agg cs ys hl hr ih=>exact fun hb=> .agg _ _ hl fun j p d=>ih j p d (gL hb j p d)
 |aZ cs ys hl hr ih=>exact fun hb=> .aZ _ _ hl fun j p d=>ih j p d (gL hb j p d)
 |ptr i off h=>exact fun hb=> .ptr i off (Tk hb)
 |c6 i sz k off h=>exact fun hb=> .c6 i sz k off (Tk hb)
 |fj z i h=>exact fun hb=> .fj z i (Tk hb)
 |pJ i o m h=>exact fun hb=> .pJ i o m (Tk hb)
 |sl i off len sz cap h u hl hc he=>exact fun hb=> .sl i off len sz cap (Tk hb) u hl hc he
 |lK i sz h=>exact fun hb=> .lK i sz (Tk hb)
 |sle i sz cap h hc he=>exact fun hb=> .sle i sz cap (Tk hb) hc he
 |mp i h=>exact fun hb=> .mp i (Tk hb)
 |cN fn first caps f' c' h1 h2 hr1 hr2 ih1 ih2=>
  intro hb;simp only[PV.low]at hb;split at hb
  .rename_i u;exact .cN _ _ _ _ _ h1 h2 (fun j p d=>ih1 j p d (gL u j p d)) (fun j p d=>ih2 j p d (gL hb j p d))
  .cases hb
 |kb b=>exact fun _=> .kb b
 |any x=>exact fun _=> .any x
theorem OR.down{w:World}{i:Nat}{o:AO}(h:OR M N U w i o)(hb:o.low n):OR M N (· <n) w i o:=by
 cases o with
 |cells cs T0=>obtain⟨c,T,u,x,y,A,B⟩:=h;exact⟨c,T,u,x,y,fun j p F=>(A j p F).down (gL hb j p F),B⟩
 |row sz es=>
  rcases h with h|⟨C,c,T,u,x,y,A,B⟩
  .exact .inl h
  exact .inr ⟨C,c,T,u,x,y,A,fun k e j p D G=>(B k e j p D G).down (gL (hb k e D) j p G)⟩
 |bA l T=>exact h
 |fx=>exact h
 |map kc ev z zv dv m=>exact h
 |b5 kc ev m l cu=>exact h
 |dQ s p=>exact h
 |om kc ev z zv dv m bs c=>exact h
 |iZ q c l=>obtain⟨b,u,x⟩:=h;exact⟨b,u.down hb,x⟩
 |fy l c f=>
  obtain⟨C,r,u,x,y,A,B,J,Y,Z⟩:=h;exact⟨C,r,u,x,y,A,B,J,Y,fun d=>(Z d).down (hb d)⟩
end
def Lk(n:Nat)(f:AF):AF->Prop
 | []=>True
 |(d,p)::r=>f.get d=p∧p.low n=is∧Lk n f r
def Ce(n:Nat)(h:AH):AH->Prop
 | []=>True
 |(_,io)::r=>Ce n h r
 |(i,dl o)::r=>h.get i=dl o∧i<n∧o.low n∧Ce n h r
structure RZ (s t:AS):Prop where
 nx:t.nx<=s.nx
 f:Lk t.nx s.f t.f
 h:Ce t.nx s.h t.h
theorem qT{n:Nat}{h:AH}: ∀{g:AH},Ce n h g-> ∀i o,g.get i=dl o->h.get i=dl o∧i<n∧o.low n
 | [],_,i,o,hi=>by simp[AH.get]at hi
 |(k,io)::r,hw,i,o,hi=>by
  rw[AH.ax]at hi;split at hi
  .cases hi
  .exact qT (g:=r) hw i o hi
 |(k,dl p)::r,hw,i,o,hi=>by
  obtain⟨d,j,u,x⟩:=hw;rw[AH.ax]at hi;split at hi
  .rename_i e;subst e;simp only[Tm]at hi;subst hi;exact⟨d,j,u⟩
  .exact qT x i o hi
theorem RZ.ext{s t:AS}(hw:RZ s t){M x:Mem}{N y:Nm}{n:Nat}{h:AH}{w A:World}(d:Ext M N (· <n) h w x y (· <s.nx) s.h A)(hn:n<=t.nx):Ext M N (· <n) h w x y (· <t.nx) t.h A:=
 ⟨d.os,d.tape,d.output,d.size,d.eU,d.mz,d.eT,d.nm,fun _ j=>Vf j hn,fun i o j u=>d.dY i o (qT hw.h i o j).1 u⟩
theorem dd{p:Nat->Prop}(h: ∃n,p n): ∃n,p n∧ ∀m,p m->n<=m:=by
 obtain⟨n,x⟩:=h
 induction n using Nat.strongRecOn with
 |_ n ih=>
  by_cases u: ∃m,m<n∧p m
  .obtain⟨m,d,j⟩:=u;exact ih m d j
  .exact⟨n,x,fun m j=>UR fun d=>u ⟨m,d,j⟩⟩
section
variable {P:Program} {nt:NT} {Q:AQ} {k:List KI} {s:AS}
end
section
variable {P:Program}
def Pure(P:Program)(k:FuncId)(args:List PV)(r:PV):Prop:=Fn P k args [] fun q h n=>q=r∧h=[]∧n=0
end
mutual
theorem PV.jz(σ:Nat->Nat): ∀p:PV,p.low 0=is->p.bZ σ=p
 | .iv _,_=>rfl
 | .agg cs,h=>by simp only[PV.bZ];rw[hP σ cs (by simpa[PV.low]using h)]
 | .aZ cs,h=>by simp only[PV.bZ];rw[hP σ cs (by simpa[PV.low]using h)]
 | .ptr i o,h=>by simp[PV.low,TU]at h
 | .c6 i _ _ o,h=>by simp[PV.low,TU]at h
 | .fj _ i,h=>by simp[PV.low,TU]at h
 | .pJ i _ _,h=>by simp[PV.low,TU]at h
 | .sl i _ _ _,h=>by simp[PV.low,TU]at h
 | .mp i,h=>by simp[PV.low,TU]at h
 | .cN fn a b,h=>by
  simp only[PV.low]at h;simp only[PV.bZ];split at h
  .rename_i d;rw[hP σ a d,hP σ b h]
  .cases h
 | .kb _,_=>rfl
 | .any,_=>rfl
theorem hP(σ:Nat->Nat): ∀l:List PV,bD 0 l=is->db σ l=l
 | [],_=>rfl
 |p::r,h=>by
  simp only[bD]at h;split at h
  .rename_i d;simp only[db];rw[PV.jz σ p d,hP σ r h]
  .cases h
end
section
variable {P:Program} {nt:NT} {Q:AQ} {k:List KI} {s:AS}
theorem aP{all rest:List Oper}{o:Oper}{c:Call}{g:FuncId}{args:List PV}{r:PV}{s':AS}(hc:Pure P g args r)(ho:o.op= .call c)(hg:o.guard=io)(ha:bM s.f c=dl (g,args))(d:bD 0 args=is)
  (hr:r.low 0=is) (hp:putDst nt o r s=dl s') (h:GO P nt (.ops all rest::k) Q s'):GO P nt (.ops all (o::rest)::k) Q s:=by
 refine bF (R:=fun t=>t=s') hg ?_ (fun t j=>by subst j;exact h);refine kH ho ha hc (L:=[]) (by simp) (by simp) I (hP _ _ d).symm ?_;rintro q u x ⟨rfl,rfl,rfl⟩;exact⟨s',by rw[PV.jz _ _ hr];exact hp,rfl⟩
end
def dK(o q:AO):Prop:=(q.real=is->o.real=is)∧ ∀(M:Mem) (N:Nm) (U:Nat->Prop) (w:World) (i:Nat),OR M N U w i o->OR M N U w i q
theorem aj.of_eq{p q:PV}(h:p=q):aj p q:=h▸ .refl p
theorem aj.trans{p q r:PV}(a:aj p q)(b:aj q r):aj p r:=fun M N U x h=>b M N U x (a M N U x h)
theorem jG.refl(p:IV):jG p p:=fun _ _ h=>h
theorem jG.of_eq{p q:IV}(h:p=q):jG p q:=h▸ .refl p
theorem dK.refl(o:AO):dK o o:=⟨id,fun _ _ _ _ _ h=>h⟩
theorem dK.of_eq{o q:AO}(h:o=q):dK o q:=h▸ .refl o
theorem dK.trans{o q r:AO}(a:dK o q)(b:dK q r):dK o r:=⟨fun h=>a.1 (b.1 h),fun M N U w i h=>b.2 M N U w i (a.2 M N U w i h)⟩
theorem aj.iv{p q:IV}(h:jG p q):aj (.iv p) (.iv q):=fun M N U x d=>by
 cases d with
 |iv _ _ hi=>exact .iv _ _ (h M x hi)
theorem jG.nil(sz:Nat)(el:Nat->List IV):jG (.v (.slice io 0 0)) (.bU sz 0 el):=fun M x h=>by
 cases h;exact .fN _ _ _ _
theorem aj.nil(sz:Nat)(el:Nat->List IV):aj (.iv (.v (.slice io 0 0))) (.iv (.bU sz 0 el)):= .iv (.nil sz el)
theorem aj.kb(b:Bool):aj (.kb b) (.iv (.v (.bool b))):=fun M N U x h=>by
 cases h;exact .iv _ _ (.v _)
theorem jG.bU{sz n y:Nat}{el d:Nat->List IV}(hn:n=y)(h: ∀k,k<n->el k=d k):jG (.bU sz n el) (.bU sz y d):=by
 subst hn;intro M x B;cases B with
 |fN=>exact .fN _ _ _ _
 |bU _ _ _ b off cap hn hc hl hm hr=>
  exact .bU _ _ _ _ _ _ hn hc (fun k u=>by rw[<-h k u];exact hl k u) hm (fun k j p u A=>hr k j p u (by rw[h k u];exact A))
theorem aj.bU{sz n j:Nat}{el d:Nat->List IV}(hn:n=j)(h: ∀k,k<n->el k=d k):aj (.iv (.bU sz n el)) (.iv (.bU sz j d)):= .iv (.bU hn h)
def fR:List PV->List PV->Prop
 | [],[]=>True
 |p::r,q::s=>aj p q∧fR r s
 |_,_=>False
theorem fR.length: ∀{a b:List PV},fR a b->a.length=b.length
 | [],[],_=>rfl
 |_::_,_::_,h=>congrArg (· +1) (fR.length h.2)
 | [],_::_,h=>h.elim
 |_::_,[],h=>h.elim
theorem fR.get: ∀{a b:List PV},fR a b-> ∀(j:Nat) (q:PV),b[j]? =dl q-> ∃p,a[j]? =dl p∧aj p q
 | [],[],_,j,q,h=>by simp at h
 |p::r,q0::s,hh,j,q,h=>by
  cases j with
  |zero=>simp at h;subst h;exact⟨p,rfl,hh.1⟩
  |succ j=>simpa using fR.get hh.2 j q (by simpa using h)
 | [],_::_,hh,_,_,_=>hh.elim
 |_::_,[],hh,_,_,_=>hh.elim
theorem aj.agg{a b:List PV}(h:fR a b):aj (.agg a) (.agg b):=fun M N U x u=>by
 cases u with
 |agg _ ys hl hr=>exact .agg _ _ (h.length▸hl) fun j q d=>let ⟨p,hp,hle⟩:=h.get j q d;hle M N U _ (hr j p hp)
theorem aj.aZ{a b:List PV}(h:fR a b):aj (.aZ a) (.aZ b):=fun M N U x u=>by
 cases u with
 |aZ _ ys hl hr=>exact .aZ _ _ (h.length▸hl) fun j q d=>let ⟨p,hp,hle⟩:=h.get j q d;hle M N U _ (hr j p hp)
theorem dK.cells{a b:List PV}{d:Option TypeId}(h:fR a b):dK (.cells a d) (.cells b d):=⟨fun h=>h,fun M N U w i ⟨c,T,h1,h2,h3,h4,h5⟩=>
 ⟨c,T,h1,h2,h.length▸h3,fun j q u=>let ⟨p,hp,hle⟩:=h.get j q u;hle M N U _ (h4 j p hp),h5⟩⟩
theorem dK.Ln(a:List PV)(d:Option TypeId):dK (.cells a d) (.cells a):=⟨fun h=>h,fun M N U w i ⟨c,T,h1,h2,h3,h4,_⟩=>⟨c,T,h1,h2,h3,h4,.none _⟩⟩
theorem Fn.le{P:Program}{k:FuncId}{aa args:List PV}{os:List AO}{R:PV->AH->Nat->Prop}(h:Fn P k args os R)(d:fR aa args):Fn P k aa os R:=
 ⟨h.1,fun M N w vs y x A=>h.2 M N w vs y (by rw[<-d.length];exact x) fun j q u=>let ⟨p,hp,hpq⟩:=d.get j q u;hpq M N _ _ (A j p hp)⟩
theorem Pure.le{P:Program}{k:FuncId}{aa args:List PV}{r:PV}(h:Pure P k args r)(d:fR aa args):Pure P k aa r:=Fn.le h d
def sg(n0:Nat)(L:List Nat)(i:Nat):Nat:=bif TU i n0 then i else L.getD (i-n0) 0
theorem fZ{n0:Nat}{L:List Nat}{i:Nat}(h:i<n0):sg n0 L i=i:=by
 have:TU i n0=is:=Uu h;simp[sg,this]
def EU(n:Nat)(σ:Nat->Nat)(f:AF):AF->Prop
 | []=>True
 |(d,p)::r=>aj (f.get d) (p.bZ σ)∧p.low n=is∧EU n σ f r
def mH(n:Nat)(σ:Nat->Nat)(h:AH):AH->Prop
 | []=>True
 |(_,io)::r=>mH n σ h r
 |(i,dl o)::r=>(∃d,h.get (σ i)=dl d∧dK d (o.bZ σ))∧i<n∧o.low n∧mH n σ h r
def fi(σ:Nat->Nat):AH->List Nat
 | []=> []
 |(_,io)::r=>fi σ r
 |(i,dl _)::r=>σ i::fi σ r
structure Wk (n0:Nat) (L:List Nat) (s t:AS):Prop where
 nx:t.nx=n0+L.length
 ns:n0<=s.nx
 lt: ∀j∈L,j<s.nx
 f:EU t.nx (sg n0 L) s.f t.f
 h:mH t.nx (sg n0 L) s.h t.h
 inj:(fi (sg n0 L) t.h).Nodup
theorem Cd{n:Nat}{σ:Nat->Nat}{f:AF}: ∀{g:AF},EU n σ f g-> ∀d,g.get d= .any∨(aj (f.get d) ((g.get d).bZ σ)∧(g.get d).low n=is)
 | [],_,_=> .inl I
 |(k,p)::r,h,d=>by
  obtain⟨j,u,x⟩:=h;rw[AF.ax];by_cases hd:d=k
  .subst hd;rw[am I];exact .inr ⟨j,u⟩
  .rw[be hd];exact Cd x d
theorem iM{n:Nat}{σ:Nat->Nat}{h:AH}: ∀{g:AH},mH n σ h g-> ∀i o,g.get i=dl o->(∃d,h.get (σ i)=dl d∧dK d (o.bZ σ))∧i<n∧o.low n
 | [],_,i,o,hi=>by simp[AH.get]at hi
 |(k,io)::r,hw,i,o,hi=>by
  rw[AH.ax]at hi;split at hi
  .cases hi
  .exact iM (g:=r) hw i o hi
 |(k,dl p)::r,hw,i,o,hi=>by
  obtain⟨j,u,x,y⟩:=hw;rw[AH.ax]at hi;split at hi
  .rename_i e;subst e;simp only[Tm]at hi;subst hi;exact⟨j,u,x⟩
  .exact iM y i o hi
theorem jA{σ:Nat->Nat}: ∀{g:AH} {i:Nat} {o:AO},g.get i=dl o->σ i∈fi σ g
 | [],i,o,h=>by simp[AH.get]at h
 |(k,io)::r,i,o,h=>by
  rw[AH.ax]at h;split at h
  .cases h
  .exact jA (g:=r) h
 |(k,dl p)::r,i,o,h=>by
  rw[AH.ax]at h;split at h
  .rename_i e;subst e;simp[fi]
  .exact TH _ (jA h)
theorem lR{σ:Nat->Nat}: ∀{g:AH},(fi σ g).Nodup-> ∀i j o p,g.get i=dl o->g.get j=dl p->σ i=σ j->i=j
 | [],_,i,j,o,p,h,_,_=>by simp[AH.get]at h
 |(k,io)::r,hn,i,j,o,p,hi,hj,he=>by
  rw[AH.ax]at hi hj;split at hi
  .cases hi
  .split at hj
   .cases hj
   .exact lR (g:=r) hn i j o p hi hj he
 |(k,dl q)::r,hn,i,j,o,p,hi,hj,he=>by
  rw[AH.ax]at hi hj;simp only[fi,UF]at hn;split at hi
  .rename_i u;split at hj
   .rename_i d;rw[u,d]
   .subst u;exact absurd (he▸jA hj) hn.1
  .split at hj
   .rename_i d;subst d;exact absurd (he▸jA hi) hn.1
   .exact lR hn.2 i j o p hi hj he
section
variable {n0:Nat} {L:List Nat} {s t:AS} {M:Mem} {N:Nm} {w:World}
theorem dK.real{o q:AO}(h:dK o q)(d:q.real=is):o.real=is:=h.1 d
theorem Wk.fits(hw:Wk n0 L s t){nt:NT}{a:Act}(hf:Fits M N s nt a w):Fits M (N.comp (sg n0 L)) t nt a w:=by
 refine⟨⟨hf.1.ey,fun i o u=>(iM hw.h i o u).2.1,fun i o u C=>?_,fun i o u=>?_,fun i j o p u F J Y G=>?_⟩,fun d=>?_,hf.2.2⟩
 .obtain⟨⟨D,x,y⟩,B,A⟩:=iM hw.h i o u;exact hf.1.dI _ D x (y.real ((AO.cj _ o).trans C))
 .obtain⟨⟨D,x,y⟩,B,A⟩:=iM hw.h i o u;exact(OR.pM (y.2 M N _ w _ (hf.1.obj _ _ x))).down A
 .obtain⟨⟨D,x,y⟩,_⟩:=iM hw.h i o u;obtain⟨⟨Z,B,A⟩,_⟩:=iM hw.h j p F;have:=hf.1.inj _ _ _ _ x B (y.real ((AO.cj _ o).trans J)) (A.real ((AO.cj _ p).trans Y)) G;exact lR hw.inj i j o p u F this
 .rcases Cd hw.f d with h|⟨x,y⟩
  .rw[h];exact .any _
  .exact((x M N _ _ (hf.2.1 d)).pM I).down y
theorem Wk.ext(hw:Wk n0 L s t){x:Mem}{y:Nm}{h0:AH}{A:World}(d:Ext x y (· <n0) h0 A M N (· <s.nx) s.h w):Ext x y (· <n0) h0 A M (N.comp (sg n0 L)) (· <t.nx) t.h w:=by
 refine⟨d.os,d.tape,d.output,d.size,d.eU,d.mz,d.eT,⟨fun i j=>?_,fun i j=>?_⟩,fun i j=>by have:=hw.nx;omega,fun i o j u=>?_⟩
 .simp only[Nm.comp,fZ j];exact d.nm.aC i j
 .simp only[Nm.comp,fZ j];exact d.nm.ext i j
 .obtain⟨⟨D,B,C⟩,_⟩:=iM hw.h i o j;exact d.dY _ D B (C.real ((AO.cj _ o).trans u))
end
theorem pg{P:Program}{nt:NT}{Q:AQ}{k:List KI}{s:AS}{c:Code}{R j:AS->Prop}(h: ∀t,R t->j t)(hg:GO P nt (.code c:: .lp R::k) Q s):GO P nt (.code c:: .lp j::k) Q s:=by
 intro M N a w A;refine AW.then hg A fun e C D x y s' B d u=>⟨x,y,s',B,d,?_⟩
 cases e with
 |normal=>exact h _ u
 |_=>exact u
section
variable {P:Program} {nt:NT} {Q:AQ} {k:List KI} {s:AS}
theorem lA{body:Code}{σ:Type}(I:σ->AS)(μ:σ->Nat)(i0:σ)(F:List Nat)(h0:Wk s.nx F s (I i0))
  (d: ∀i,GO P nt (.code body:: .lp (fun t=> ∃j L,μ j<μ i∧Wk s.nx L t (I j))::k) Q (I i)):GO P nt (.code (.loop body)::k) Q s:=by
 intro Y N0 a0 w0 C
 let J:Act->World->Nat->Prop:=fun a w n=> ∃i M N,μ i=n∧Ext Y N0 (· <s.nx) s.h w0 M N (· <(I i).nx) (I i).h w∧Fits M N (I i) nt a w
 have B:J a0 w0 (μ i0):=⟨i0,Y,N0.comp (sg s.nx F),rfl,h0.ext (.refl _ _ _ _ _),h0.fits C⟩
 refine wp_loop (fun a w=> ∃n,J a w n) (fun a w=>by classical exact if h: ∃n,J a w n then VV (dd h) else 0) ⟨_,B⟩ fun a w b0=>?_;obtain⟨⟨i,M,N,hi,hx,hf⟩,c0⟩:=Vk (dd b0);refine AW.then (d i) hf fun e A D G Z s' x u hr=>?_
 cases e with
 |normal=>
  obtain⟨j,L,hj,hw⟩:=hr;have y:J A D (μ j):=⟨j,G,Z.comp (sg s.nx L),rfl,hw.ext (hx.trans x),hw.fits u⟩
  refine⟨⟨_,y⟩,?_⟩;simp only[dif_pos b0,dif_pos (⟨_,y⟩: ∃n,J A D n)];rw[<-hi];exact WY ((Vk (dd (⟨_,y⟩: ∃n,J A D n))).2 _ y) hj
 |_=>exact⟨G,Z,s',hx.trans x,u,hr⟩
end
section
variable {P:Program} {nt:NT} {Q:AQ} {k:List KI} {s:AS}
theorem aG{body:Code}(i0 n:Nat)(j:i0<=n)(I:Nat->AS)(J:Nat->Prop)(u:List Nat)(A:J i0)(h0:Wk s.nx u s (I i0))
  (d: ∀i,i<=n->J i->GO P nt (.code body:: .lp (fun t=>i<n∧J (i+1)∧ ∃L,Wk s.nx L t (I (i+1)))::k) Q (I i)):GO P nt (.code (.loop body)::k) Q s:=by
 refine lA (σ:={i:Nat//i<=n∧J i}) (fun i=>I i.1) (fun i=>n-i.1) ⟨i0,j,A⟩ u h0 fun i=>?_;obtain⟨i,x,y⟩:=i;have:=d i x y;refine pg ?_ this
 rintro t ⟨h3,h4,L,h5⟩;exact⟨⟨i+1,h3,h4⟩,L,by show n-(i+1)<n-i;omega,h5⟩
end
theorem jC{P:Program}{nt:NT}{Q:AQ}{k:List KI}{s:AS}{c:Code}(t sz:Nat)(B:s.f.get t= .iv (.v (.slice io 0 0)))(h:GO P nt (.code c::k) Q (tI s t sz)):GO P nt (.code c::k) Q s:=by
 intro M N a w d;obtain⟨Z,sh,sn⟩:=s;obtain⟨F,G⟩:=d.1.A8 sz;have j:Fits M N (tI ⟨Z,sh,sn⟩ t sz) nt a w:=by
  refine⟨G,fun k=>?_,d.2.2⟩;simp only[tI];rw[AF.ax];split
  .rename_i x;subst x;have:=d.2.1 k;simp only at B this;rw[B]at this;generalize a.tmps.getD k undef=v at this;cases this with
   |iv _ _ h=>cases h with
    |v=>exact .lK _ _ (US _)
  .exact(d.2.1 k).mono (.refl _) (.refl _ _) (fun i J=>U0 J)
 exact AW.then h j fun e a2 w2 C D Y A u y=>⟨C,D,Y,F.trans A,u,y⟩
mutual
def PV.ey(i sz:Nat)(el:Nat->List IV):PV->PV
 | .iv x=> .iv x
 | .agg cs=> .agg (qD i sz el cs)
 | .aZ cs=> .aZ (qD i sz el cs)
 | .sl j off len sz'=>bif TR j i then .iv (.bU sz len (fun k=>el (off+k))) else .sl j off len sz'
 | .ptr j o=> .ptr j o
 | .c6 j a b c=> .c6 j a b c
 | .fj z j=> .fj z j
 | .pJ j o n=> .pJ j o n
 | .mp j=> .mp j
 | .cN fn a b=> .cN fn a b
 | .kb b=> .kb b
 | .any=> .any
def qD(i sz:Nat)(el:Nat->List IV):List PV->List PV
 | []=> []
 |p::r=>PV.ey i sz el p::qD i sz el r
end
theorem eY(i sz:Nat)(el:Nat->List IV): ∀l:List PV,qD i sz el l=l.map (PV.ey i sz el)
 | []=>rfl
 |p::r=>by simp[qD,eY i sz el r]
mutual
def PV.bh(i sz n:Nat):PV->Prop
 | .agg cs=>bg i sz n cs
 | .aZ cs=>bg i sz n cs
 | .sl j off len sz'=>if j=i then sz'=sz∧off+len<=n else True
 |_=>True
def bg(i sz n:Nat):List PV->Prop
 | []=>True
 |p::r=>PV.bh i sz n p∧bg i sz n r
end
theorem fM{i sz n:Nat}: ∀{l:List PV},bg i sz n l-> ∀(j:Nat) (p:PV),l[j]? =dl p->p.bh i sz n
 | [],_,j,p,h=>by simp at h
 |c::l,hh,j,p,h=>by
  cases j with
  |zero=>simp at h;subst h;exact hh.1
  |succ j=>exact fM hh.2 j p (by simpa using h)
theorem qA{M:Mem}{N:Nm}{n:Nat}{h:AH}{w:World}(hr:Rel M N (· <n) h w){i sz:Nat}{es:List (List PV)}(hi:h.get i=dl (.row sz es)){el:Nat->List IV}
  (i0: ∀k e,es[k]? =dl e->e=(el k).map .iv): ∃A,Ext M N (· <n) h w A N (· <n) ((i,io)::h) w∧Rel A N (· <n) ((i,io)::h) w∧
   ∀p x,VR M N (· <n) p x->p.bh i sz es.length->VR A N (· <n) (p.ey i sz el) x:=by
 have key: ∀A:Mem,M.le A->(∀a0 len b0 b,a0+len<=es.length->0<len->len<=b0->b0<=maxLen->b=N.aC i->IR A (.bU sz len (fun k=>el (a0+k))) (.slice (dl ⟨b,a0*sz,io⟩) len b0))->
   ∀p x,VR M N (· <n) p x->p.bh i sz es.length->VR A N (· <n) (p.ey i sz el) x:=by
  intro A hM hs p x hx
  induction hx with
  |iv x y h=>exact fun _=> .iv _ _ (h.mono hM)
  |agg cs ys hl hr ih=>
   intro C;refine .agg _ _ (by simpa[eY]using hl) fun j q hq=>?_;rw[eY,Tu,Tw]at hq;obtain⟨q0,G,rfl⟩:=hq
   exact ih j q0 G (fM (by simpa[PV.bh]using C) j q0 G)
  |aZ cs ys hl hr ih=>
   intro C;refine .aZ _ _ (by simpa[eY]using hl) fun j q hq=>?_;rw[eY,Tu,Tw]at hq;obtain⟨q0,G,rfl⟩:=hq
   exact ih j q0 G (fM (by simpa[PV.bh]using C) j q0 G)
  |ptr i a0 h=>exact fun _=> .ptr _ _ h
  |c6 i sz k a0 h=>exact fun _=> .c6 _ _ _ _ h
  |fj z i h=>exact fun _=> .fj _ _ h
  |pJ i o n h=>exact fun _=> .pJ _ _ _ h
  |sl j a0 len sz' b0 h h0 hl hc Z=>
   intro C;simp only[PV.bh]at C;simp only[PV.ey];by_cases u:j=i
   .subst u;rw[am I]at C;obtain⟨rfl,C⟩:=C;have:TR j j=is:=by simp
    rw[this,cond_true];exact .iv _ _ (hs a0 len b0 _ C h0 hl hc I)
   .have:TR j i=jp:=Bool.eq_false_iff.2 (fun e=>u (TM e));rw[this,cond_false];exact .sl _ _ _ _ _ h h0 hl hc Z
  |lK j sz' h=>
   intro C;simp only[PV.ey];cases hb:TR j i with
   |true=>exact .iv _ _ (.fN _ _ _ _)
   |false=>exact .lK _ _ h
  |sle j sz' b0 h hc Z=>
   intro C;simp only[PV.ey];cases hb:TR j i with
   |true=>exact .iv _ _ (.fN _ _ _ _)
   |false=>exact .sle _ _ _ h hc Z
  |mp i h=>exact fun _=> .mp _ h
  |cN fn first caps f' c' D Y hr1 hr2 ih1 ih2=>exact fun _=> .cN _ _ _ _ _ D Y (fun j p u=>(hr1 j p u).mono hM (.refl _ _) (fun _ h=>h)) (fun j p u=>(hr2 j p u).mono hM (.refl _ _) (fun _ h=>h))
  |kb b=>exact fun _=> .kb _
  |any x=>exact fun _=> .any _
 rcases hr.obj i _ hi with h0|⟨h0,c,T,D,Y,h3,h4,h5⟩
 .subst h0;exact⟨M,(Ext.refl _ _ _ _ _).del i,hr.del i,key M (.refl _) fun a0 len b0 b D Y=>by simp at D;omega⟩
 .have d0:es≠ []∨es=[]:=by cases es<;>simp
  rcases d0 with d0|rfl;rotate_left
  .exact⟨M,(Ext.refl _ _ _ _ _).del i,hr.del i,key M (.refl _) fun a0 len b0 b D Y=>by simp at D;omega⟩
  have J:(AO.row sz es).real=is:=by cases es with
   |nil=>exact absurd I d0
   |cons=>rfl
  have f0:=hr.dI i _ hi J
  let A:Mem:=M.set (N.aC i) (.cells c) f0
  have hM:M.le A:=fun b d hb=>by
   simp only[A,Mem.set];by_cases B:b=N.aC i
   .rw[B,f0]at hb;cases hb
   .rw[be B];exact hb
  have hnew: ∀b d,M b=io->A b=dl d->b=N.aC i:=fun b d D Y=>by
   simp only[A,Mem.set]at Y;by_cases B:b=N.aC i
   .exact B
   .rw[be B,D]at Y;cases Y
  refine⟨A,?_,?_,key A hM fun a0 len b0 b hb h6 h7 h8 j0=>?_⟩
  .exact⟨rfl,rfl,⟨rfl,Tv _⟩,Tv _,fun _ _ _=>rfl,hM,fun b d D Y=> .inr ⟨i,_,hi,J,(hnew b d D Y).symm⟩,.refl _ _,fun _ h=>h,fun j o u J=> .inr ⟨j,o,(ba j o u).2,J,rfl⟩⟩
  .refine⟨fun b d hb=>?_,fun j o u=>hr.used j o (ba j o u).2,fun j o u c0=>?_,fun j o u=>?_,fun j k o p u hk=>hr.inj j k o p (ba j o u).2 (ba k p hk).2⟩
   .simp only[A,Mem.set]at hb;by_cases B:b=N.aC i
    .rw[am B]at hb;cases hb;exact⟨T,(0,0),by rw[B,D]⟩
    .rw[be B]at hb;exact hr.ey b d hb
   .obtain⟨g1,g2⟩:=ba j o u;simp only[A,Mem.set];rw[be fun e=>g1 (hr.inj j i o _ g2 hi c0 J e)];exact hr.dI j o g2 c0
   .obtain⟨g1,g2⟩:=ba j o u;exact(hr.obj j o g2).mono hM (.refl _ _) (fun _ h=>h) (hr.used j o g2) I
  .subst j0;have F: ∀o,A.cell (N.aC i) o=c[o]? :=fun o=>by simp[Mem.cell,A,Mem.set]
   have k0: ∀k j,k<len->j<sz->a0*sz+k*sz+j<c.size:=by
    intro k j hk u;have:(a0+k+1)*sz<=es.length*sz:=TN _ (by omega);rw[Ug,Ug]at this;omega
   have g0: ∀k,k<len-> ∃e,es[a0+k]? =dl e:=fun k hk=>⟨_,Ts (by omega)⟩
   refine .bU _ _ _ _ _ _ h7 h8 (fun k hk=>?_) (fun k j hk u=>?_) (fun k j p hk C=>?_)
   .obtain⟨e,Z⟩:=g0 k hk;have:=h4 _ e Z;rw[i0 _ e Z]at this;simpa using this
   .rw[F];simp[k0 k j hk u]
   .obtain⟨e,Z⟩:=g0 k hk;have h9:=h4 _ e Z;have e0:=i0 _ e Z;have u:j<sz:=by rw[<-h9,e0,T2];exact(Tp.1 C).1
    have:=h5 _ e j (.iv p) Z (by rw[e0,Tu,C];rfl);rw[F];have e2:a0*sz+k*sz+j=(a0+k)*sz+j:=by rw[Ug]
    rw[e2];rw[Tl]at this;cases this with
    |iv _ _ h=>exact h.mono hM
def fD(h:AH)(n:Nat)(r:PV)(K:AH->PV->Prop):Prop:= ∀M N w,Rel M N (· <n) h w-> ∃d j u,Ext M N (· <n) h w d N (· <n) j w∧Rel d N (· <n) j w∧(∀x,VR M N (· <n) r x->VR d N (· <n) u x)∧K j u
theorem fD.done{h:AH}{n:Nat}{r:PV}{K:AH->PV->Prop}(d:K h r):fD h n r K:=fun M N w j=>⟨M,h,r,.refl _ _ _ _ _,j,fun _ h=>h,d⟩
theorem fD.row{h:AH}{n:Nat}{r:PV}{K:AH->PV->Prop}(i:Nat){sz:Nat}{es:List (List PV)}(el:Nat->List IV)(hi:h.get i=dl (.row sz es))(d: ∀k e,es[k]? =dl e->e=(el k).map .iv)
  (j:r.bh i sz es.length) (F:fD ((i,io)::h) n (r.ey i sz el) K):fD h n r K:=by
 intro M N w G;obtain⟨u,B,C,D⟩:=qA G hi d;obtain⟨y,A,Y,g1,g2,g3,g4⟩:=F u N w C;exact⟨y,A,Y,B.trans g1,g2,fun x J=>g3 x (D _ _ J j),g4⟩
def Lh(ty:Ty)(l:List ResultVar)(m:Nat)(R:PV->AH->Nat->Prop):AQ:=fun e s=>
 (e= .normal∨e= .ret)∧ ∃u,jy ty s l=dl u∧fD s.h s.nx u fun x y=> ∃r d j L,R r d j∧Wk m L ⟨[(0,y)],x,s.nx⟩ ⟨[(0,r)],d,j⟩
section
variable {P:Program}
theorem mc {ty:Ty} (Z:bE P ty) {k:FuncId} {fn:Func} {c:Code} (hf:P.funcs[k]? =dl fn) (hb:fn.body=dl c) (hn:(fn.name== "runtime.NumGoroutine")=jp) {nt:Nat} (Y:fn.ntmps=nt)
  {l:List ResultVar} (hl:fn.results.toList=l) {args:List PV} (J:args.length<=nt) {os:List AO} {R:PV->AH->Nat->Prop}
  (h:GO P nt [.code c] (Lh ty l os.length R) ⟨kS 0 args,dD 0 os,os.length⟩):Fn P k args os R:=by
 have key:Fn P k args os (fun r0 h0 n0=>fD h0 n0 r0 fun j r2=> ∃r C D L,R r C D∧Wk os.length L ⟨[(0,r2)],j,n0⟩ ⟨[(0,r)],C,D⟩):=by
  refine BV Z hf hb hn Y hl J ?_;intro M N a w y;refine wp_mono (h M N a w y) fun e a' w' hp=>?_;obtain⟨F,B,s',h1,j,h3⟩:=hp;refine⟨F,B,s',h1,j,?_⟩;simp only[kp]at h3 ⊢;obtain⟨he,r,g1,g2⟩:=h3;exact⟨he,r,g1,g2⟩
 refine⟨key.1,fun M N w vs hr A hv=>(key.2 M N w vs hr A hv).mono ?_⟩;rintro e w' ⟨x,F,B,r0,h0,n0,rfl,hF,hx,hr',hvr⟩;obtain⟨M2,j,r2,g1,g2,g3,r,C,D,L,hR,hw⟩:=hF F B w' hr'
 have G:Fits M2 B ⟨[(0,r2)],j,n0⟩ ⟨1,[]⟩ ⟨#[x],[]⟩ w':=⟨g2,fun d=>by
  rw[AF.ax];by_cases hd:d=0
  .subst hd;rw[am I];exact g3 x hvr
  .rw[be hd];exact .any _,rfl,rfl⟩
 have u:=hw.fits G;refine⟨x,M2,_,r,C,D,rfl,hR,hw.ext (hx.trans g1),u.1,?_⟩;have:=u.2.1 0;exact this
def pH(ty:Ty)(l:List ResultVar)(r:PV):AQ:=fun e s=>
 (e= .normal∨e= .ret)∧ ∃d,jy ty s l=dl d∧fD s.h s.nx d fun _ j=>aj j r
theorem ai {ty:Ty} (y:bE P ty) {k:FuncId} {fn:Func} {c:Code} (hf:P.funcs[k]? =dl fn) (hb:fn.body=dl c) (hn:(fn.name== "runtime.NumGoroutine")=jp) {nt:Nat} (x:fn.ntmps=nt)
  {l:List ResultVar} (J:fn.results.toList=l) {args:List PV} (u:args.length<=nt) {r:PV} (hlow:r.low 0=is)
  (h:GO P nt [.code c] (pH ty l r) ⟨kS 0 args,[],0⟩):Pure P k args r:=by
 refine mc y hf hb hn x J u ?_;intro M N a w d;refine wp_mono (h M N a w d) fun e a' w' Y=>?_;obtain⟨B,D,s',F,j,A⟩:=Y;refine⟨B,D,s',F,j,?_⟩;simp only[kp]at A ⊢;obtain⟨G,r0,g1,g2⟩:=A;refine⟨G,r0,g1,fun M N w Z=>?_⟩;obtain⟨C,j,r2,q1,q2,q3,q4⟩:=g2 M N w Z;refine⟨C,j,r2,q1,q2,q3,r,[],0,[],⟨rfl,rfl,rfl⟩,rfl,TB _,by simp,⟨?_,hlow,ac⟩,ac,Us⟩;rw[PV.jz _ _ hlow];exact q4
theorem aN{ty:Ty}{l:List ResultVar}{r r0:PV}{e:Exit}{s:AS}(he:e= .normal∨e= .ret)(h:jy ty s l=dl r0)(d:aj r0 r):pH ty l r e s:=⟨he,r0,h,.done d⟩
end
section
variable {P:Program}
theorem G8{k:FuncId}{args:List PV}{os:List AO}{R:PV->AH->Nat->Prop}(hc:lJ P k){n:Nat}(hn: ∃sz u,PV.iv (.bU sz n u)∈args)(h:n<=maxLen->Fn P k args os R):Fn P k args os R:=by
 refine⟨hc,fun M N w vs B A x=>?_⟩;obtain⟨sz,u,hn⟩:=hn;obtain⟨j,y⟩:=UB hn;have:=x j _ y;have d:n<=maxLen:=by
  generalize vs.getD j undef=v at this;cases this with
  |iv _ _ hi=>cases hi with
   |fN=>exact TB _
   |bU=>omega
 exact(h d).2 M N w vs B A x
theorem F8{k:FuncId}{args:List PV}{r:PV}(hc:lJ P k){n:Nat}(hn: ∃sz d,PV.iv (.bU sz n d)∈args)(h:n<=maxLen->Pure P k args r):Pure P k args r:=G8 hc hn h
end
abbrev iI(n:Int):IV:= .v (.int .i64 n)
abbrev iS(s:ByteArray):IV:= .v (.string s)
abbrev pI(n:Int):PV:= .iv (iI n)
abbrev pS(s:ByteArray):PV:= .iv (iS s)
abbrev pB(b:Bool):PV:= .iv (.v (.bool b))
abbrev ag(l:List IV):PV:= .agg (l.map .iv)
abbrev bp{α:Type}[Inhabited α](sz:Nat)(l:List α)(f:α->List IV):IV:= .bU sz l.length (fun k=>f (l.getD k co))
def aX{α:Type}(sz:Nat)(l:List α)(f:α->List IV):AO:= .row sz (l.map fun x=>(f x).map .iv)
theorem nS(σ:Nat->Nat): ∀l:List IV,db σ (l.map .iv)=l.map .iv
 | []=>rfl
 |x::r=>by simp only[TD,db,PV.bZ,nS σ r]
theorem n8(n:Nat): ∀l:List IV,bD n (l.map .iv)=is
 | []=>rfl
 |x::r=>by simp only[TD,bD,PV.low,n8 n r]
section
variable {α:Type} {sz:Nat} {l:List α} {f:α->List IV}
theorem bL(σ:Nat->Nat):(aX sz l f).bZ σ=aX sz l f:=by
 simp only[aX,AO.bZ,Ve];congr 1;exact UX fun x _=>nS σ _
theorem cQ(n:Nat):(aX sz l f).low n:=by
 intro k e d;rw[Tu,Tw]at d;obtain⟨x,_,rfl⟩:=d;exact n8 n _
theorem CF{es:List (List PV)}(σ:Nat->Nat)(h:es=l.map fun x=>(f x).map .iv):dK (.row sz es) ((aX sz l f).bZ σ):=by
 rw[bL];exact .of_eq (by rw[h];rfl)
theorem dq[Inhabited α]{es:List (List PV)}(h:es=l.map fun x=>(f x).map .iv): ∀k e,es[k]? =dl e->e=(f (l.getD k co)).map .iv:=by
 subst h;intro k e d;rw[Tu,Tw]at d;obtain⟨x,j,rfl⟩:=d;rw[Tr,j];rfl
theorem pR[Inhabited α](l:List α)(f:α->List IV):(Uk l.length).map (fun k=>(f (l.getD k co)).map PV.iv)=l.map fun x=>(f x).map .iv:=by
 apply VD;intro k;rw[Tu,Tu];rcases Un k l.length with h|h
 .rw[Wi h,Ts h];simp[Tr,h]
 .simp[h]
theorem fQ(h: ∀x,eM ((f x).map .iv)=is)(l:List α):allOnes (l.map fun x=>(f x).map .iv)=is:=by
 induction l with
 |nil=>rfl
 |cons x r ih=>simp only[TD,allOnes,h x,ih]
theorem gW[Inhabited α](h: ∀x,eM ((f x).map .iv)=is)(l:List α):allOnes ((Uk l.length).map (fun k=>(f (l.getD k co)).map PV.iv))=is:=by
 rw[pR];exact fQ h l
end
def az(l:List IV):AO:= .cells (l.map .iv)
theorem vc(σ:Nat->Nat)(l:List IV):(az l).bZ σ=az l:=by
 simp only[az,AO.bZ,nS]
theorem EL{cs:List PV}{d:Option TypeId}{l:List IV}(σ:Nat->Nat)(h:cs=l.map .iv):dK (.cells cs d) ((az l).bZ σ):=by
 rw[vc];exact .trans (.Ln cs d) (.of_eq (by rw[h];rfl))
def cz:List Nat->Bool
 | []=>is
 |x::r=>!r.elem x&&cz r
theorem eG: ∀{l:List Nat},cz l=is->l.Nodup
 | [],_=>Us
 |x::r,h=>by
  simp only[cz,TZ,UD,List.elem_eq_mem,decide_eq_false_iff_not]at h;exact UF.2 ⟨h.1,eG h.2⟩
theorem wk{n0:Nat}{L:List Nat}{s t:AS}(h1:TR t.nx (n0+L.length)=is)(d:Vm n0 s.nx=is)(u:L.all (fun j=>TU j s.nx)=is)(hf:EU t.nx (sg n0 L) s.f t.f)(hh:mH t.nx (sg n0 L) s.h t.h)
  (x:cz (fi (sg n0 L) t.h)=is):Wk n0 L s t:=
 ⟨TM h1,Tk d,fun j y=>Tk (T7.1 u j y),hf,hh,eG x⟩
theorem wk0{n0:Nat}{s t:AS}(h1:t.nx=n0)(d:Vm n0 s.nx=is)(hf:EU t.nx (sg n0 []) s.f t.f)(hh:t.h=[]):Wk n0 [] s t:=
 ⟨by simpa using h1,Tk d,by simp,hf,by rw[hh];trivial,by rw[hh];exact Us⟩
section
variable {n i:Nat} {σ:Nat->Nat} {h r:AH}
theorem hC{cs:List PV}{d:Option TypeId}{c:List IV}(ho:h.get (σ i)=dl (.cells cs d))(he:cs=c.map .iv)(hi:TU i n=is)(hr:mH n σ h r):mH n σ h ((i,dl (az c))::r):=
 ⟨⟨_,ho,EL σ he⟩,Tk hi,n8 n c,hr⟩
theorem hR{α:Type}{sz:Nat}{es:List (List PV)}{l:List α}{f:α->List IV}(ho:h.get (σ i)=dl (.row sz es))(he:es=l.map fun x=>(f x).map .iv)(hi:TU i n=is)(hr:mH n σ h r):mH n σ h ((i,dl (aX sz l f))::r):=
 ⟨⟨_,ho,CF σ he⟩,Tk hi,cQ n,hr⟩
theorem hM{V:Type}{kc:KC}{ev:V->IV}{z:V}{u:Value}{d:PV->V}{m j:List (kc.K×V)}(ho:h.get (σ i)=dl (.map kc ev z u d m))(he:m=j)(hi:TU i n=is)(hr:mH n σ h r):mH n σ h ((i,dl (.map kc ev z u d j))::r):=
 ⟨⟨_,ho,.of_eq (by rw[he];rfl)⟩,Tk hi,ac,hr⟩
theorem O4{V:Type}{kc:KC}{ev:V->IV}{z:V}{d:Value}{u:PV->V}(ho:h.get (σ i)=dl .fx)(y: ∀M,IR M (ev z) d)(hi:TU i n=is)(hr:mH n σ h r):mH n σ h ((i,dl (.map kc ev z d u []))::r):=
 ⟨⟨_,ho,id,fun M N U w j x=>⟨#[],0,x,⟨rfl,by simp,by simp,by simp,by simp⟩,y M⟩⟩,Tk hi,ac,hr⟩
theorem hI{V:Type}{kc:KC}{ev:V->IV}{m:List (kc.K×V)}{vs x:List Nat}{C d:Option (kc.K×V)}(ho:h.get (σ i)=dl (.b5 kc ev m vs C))(he:vs=x)(hc:d=C∨d=io)(hi:TU i n=is)(hr:mH n σ h r):mH n σ h ((i,dl (.b5 kc ev m x d))::r):=by
 refine⟨⟨_,ho,id,fun M N U w j D=>?_⟩,Tk hi,ac,hr⟩;subst he;rcases hc with rfl|rfl
 .exact D
 .rcases D with⟨y,A,_,B⟩|⟨b,ents,clock,u,y,A,F,B,G,J,Y⟩
  .exact .inl ⟨y,A,rfl,B⟩
  .exact .inr ⟨b,ents,clock,u,y,A,F,B,G,J,by simp⟩
end
theorem eA{ty:Ty}{d:List ResultVar}{e:Exit}{s:AS}{α:Type}[Inhabited α]{i n sz:Nat}{es:List (List PV)}{L:List α}{f:α->List IV}(he:e= .normal∨e= .ret)(h:jy ty s d=dl (.sl i 0 n sz))(hi:s.h.get i=dl (.row sz es))
  (hes:es=L.map fun x=>(f x).map .iv) (hn:n=L.length):pH ty d (.iv (bp sz L f)) e s:=by
 refine⟨he,_,h,.row i (fun k=>f (L.getD k co)) hi (dq hes) ?_ (.done ?_)⟩
 .subst hes;subst hn;simp[PV.bh]
 .have:TR i i=is:=by simp
  simp only[PV.ey,this,cond_true,TL];subst hn;exact .refl _
theorem aj.bk{b c:Bool}(h:b=c):aj (pB b) (.kb c):=fun _ _ _ _ d=>by
 subst h;cases d with
 |iv _ _ h=>cases h;exact .kb _
theorem aj.Sw{b c:Bool}(h:b=c):aj (.kb b) (pB c):=h▸ .kb b
theorem aj.row{i n m sz:Nat}(h:n=m):aj (.sl i 0 n sz) (.sl i 0 m sz):= .of_eq (by rw[h])
section
variable {α:Type} [Inhabited α] {l:List α} {f:α->Bool} {i:Nat}
theorem c7(h:(l.take i).any f=jp)(hi:i<l.length):((l.take (i+1)).any f=jp↔f (l.getD i co)=jp):=by
 rw[V8 hi,List.any_append,h,Tr,Ts hi];simp
theorem DA(hi:i<l.length)(h:f (l.getD i co)=is):l.any f=is:=by
 rw[Tr,Ts hi]at h;exact UO.2 ⟨_,Uw hi,h⟩
omit [Inhabited α] in
theorem any_none(h:(l.take i).any f=jp)(hi:l.length<=i):l.any f=jp:=by
 rwa[TE hi]at h
theorem bc(hi:i<l.length):l.take (i+1)=l.take i++ [l.getD i co]:=by
 rw[V8 hi,Tr,Ts hi];rfl
theorem iG{β:Type}{g:β->α->β}{b:β}(hi:i<l.length):(l.take (i+1)).foldl g b=g ((l.take i).foldl g b) (l.getD i co):=by
 rw[bc hi,List.foldl_append];rfl
end
theorem ig{P:Program}{nt:NT}{Q:AQ}{k:List KI}{s:AS}{body:Code}{K:Type}(m:List K)(I:List Nat->AS)(J:List Nat->Prop)(B:List Nat)(Y:J [])(h0:Wk s.nx B s (I []))
  (u: ∀vs:List Nat,J vs->GO P nt (.code body:: .lp (fun t=> ∃j x,m[j]? =dl x∧j∉vs∧J (j::vs)∧ ∃L,Wk s.nx L t (I (j::vs)))::k) Q (I vs)):GO P nt (.code (.loop body)::k) Q s:=by
 refine lA (σ:={vs:List Nat//vs.Nodup∧(∀j∈vs,j<m.length)∧J vs}) (fun v=>I v.1) (fun v=>m.length-v.1.length) ⟨[],Us,by simp,Y⟩ B h0 fun v=>?_;obtain⟨vs,C,D,F⟩:=v;refine pg ?_ (u vs F)
 rintro t ⟨j,x,g1,g2,g3,L,g4⟩;have G:j<m.length:=(Tp.1 g1).1;have d: ∀i∈j::vs,i<m.length:=by
  intro i hi;rcases TQ.1 hi with rfl|hi
  .exact G
  .exact D i hi
 have A:(j::vs).Nodup:=UF.2 ⟨g2,C⟩;have y:(j::vs).length<=m.length:=by
  have:=U7 A (l₂:=Uk m.length) (fun i hi=>Vx.2 (d i hi));simpa using this
 refine⟨⟨j::vs,A,d,g3⟩,L,?_,g4⟩;show m.length-(j::vs).length<m.length-vs.length;simp only[TO]at y ⊢;omega
def bC(P:Program)(k:FuncId)(args:List PV)(os:List AO)(r:PV)(h:AH)(n:Nat):Prop:=Fn P k args os fun q d j=>q=r∧d=h∧j=n
def qQ:List AO->List AO->Prop
 | [],[]=>True
 |p::r,q::s=>dK p q∧qQ r s
 |_,_=>False
theorem qQ.length: ∀{a b:List AO},qQ a b->a.length=b.length
 | [],[],_=>rfl
 |_::_,_::_,h=>congrArg (· +1) (qQ.length h.2)
 | [],_::_,h=>h.elim
 |_::_,[],h=>h.elim
theorem qQ.get: ∀{a b:List AO},qQ a b-> ∀(j:Nat) (q:AO),b[j]? =dl q-> ∃p,a[j]? =dl p∧dK p q
 | [],[],_,j,q,h=>by simp at h
 |p::r,q0::s,hh,j,q,h=>by
  cases j with
  |zero=>simp at h;subst h;exact⟨p,rfl,hh.1⟩
  |succ j=>simpa using qQ.get hh.2 j q (by simpa using h)
 | [],_::_,hh,_,_,_=>hh.elim
 |_::_,[],hh,_,_,_=>hh.elim
theorem Fn.MS{P:Program}{k:FuncId}{args:List PV}{os ps:List AO}{R:PV->AH->Nat->Prop}(h:Fn P k args os R)(F:qQ ps os):Fn P k args ps R:=by
 have G:=F.length;have d: ∀i o,(dD 0 os).get i=dl o-> ∃p,(dD 0 ps).get i=dl p∧dK p o:=by
  intro i o u;rw[rC,am (TB _)]at u ⊢;exact F.get _ _ u
 refine⟨h.1,fun M N w vs C hl hv=>?_⟩;rw[G]at C hv ⊢;have Z:Rel M N (· <os.length) (dD 0 os) w:=by
  refine⟨C.ey,fun i o u=>?_,fun i o u a0=>?_,fun i o u=>?_,fun i j o p u hj J hp he=>?_⟩
  .obtain⟨p,y,A⟩:=d i o u;exact C.used i p y
  .obtain⟨p,y,A⟩:=d i o u;exact C.dI i p y (A.1 a0)
  .obtain⟨p,y,A⟩:=d i o u;exact A.2 _ _ _ _ _ (C.obj i p y)
  .obtain⟨o',y,A⟩:=d i o u;obtain⟨p',B,D⟩:=d j p hj;exact C.inj i j o' p' y B (A.1 J) (D.1 hp) he
 refine(h.2 M N w vs Z hl hv).mono ?_;rintro e w' ⟨x,M',N',r,h',n',rfl,hR,hx,hrr,hvr⟩;refine⟨x,M',N',r,h',n',rfl,hR,⟨hx.os,hx.tape,hx.output,hx.size,fun b hb hn=>hx.eU b hb fun i o u J=>?_,hx.mz,fun b c y A=>?_,hx.nm,hx.ule,fun i o u J=>?_⟩,hrr,hvr⟩
 .obtain⟨p,y,A⟩:=d i o u;exact hn i p y (A.1 J)
 .rcases hx.eT b c y A with B|⟨i,o,B,D,Y⟩
  .exact .inl B
  .obtain⟨p,g1,g2⟩:=d i o B;exact .inr ⟨i,p,g1,g2.1 D,Y⟩
 .rcases hx.dY i o u J with B|⟨j,q,B,D,Y⟩
  .exact .inl B
  .obtain⟨p,g1,g2⟩:=d j q B;exact .inr ⟨j,p,g1,g2.1 D,Y⟩
theorem bC.MS{P:Program}{k:FuncId}{args:List PV}{os j:List AO}{r:PV}{h:AH}{n:Nat}(hc:bC P k args os r h n)(d:qQ j os):bC P k args j r h n:=Fn.MS hc d
theorem bC.le{P:Program}{k:FuncId}{aa args:List PV}{os:List AO}{r:PV}{h:AH}{n:Nat}(hc:bC P k args os r h n)(d:fR aa args):bC P k aa os r h n:=Fn.le hc d
theorem Pure.A6{P:Program}{k:FuncId}{args:List PV}{r:PV}(h:Pure P k args r):bC P k args [] r [] 0:=h
section
variable {P:Program} {ty:Ty} {nt:NT} {Q:AQ} {k:List KI} {s:AS}
theorem u6{o:Oper}{c:Call}{g:FuncId}{asv args:List PV}{os:List AO}{r:PV}{x:AH}{y:Nat}{s':AS}(L:List Nat)(hc:bC P g args os r x y)(ho:o.op= .call c)(ha:bM s.f c=dl (g,asv))
  (hn:cz L=is) (B:L.all (fun j=>TU j s.nx)=is) (u:L.map s.h.get=os.map fun o=>dl (o.bZ (sig L s.nx))) (d:asv=db (sig L s.nx) args) (hp:putDst nt o (r.bZ (sig L s.nx)) (aO s L x y)=dl s'):
  OT P nt o s (fun t=>t=s'):=
 kH ho ha hc (eG hn) (fun j A=>Tk (T7.1 B j A)) u d (by rintro q C n0 ⟨rfl,rfl,rfl⟩;exact⟨s',hp,rfl⟩)
theorem aE{all rest:List Oper}{o:Oper}{c:Call}{g:FuncId}{asv args:List PV}{os:List AO}{r:PV}{x:AH}{y:Nat}{s':AS}(L:List Nat)(hc:bC P g args os r x y)(ho:o.op= .call c)(hg:o.guard=io)(ha:bM s.f c=dl (g,asv))
  (hn:cz L=is) (A:L.all (fun j=>TU j s.nx)=is) (u:L.map s.h.get=os.map fun o=>dl (o.bZ (sig L s.nx))) (d:asv=db (sig L s.nx) args) (hp:putDst nt o (r.bZ (sig L s.nx)) (aO s L x y)=dl s')
  (h:GO P nt (.ops all rest::k) Q s'):GO P nt (.ops all (o::rest)::k) Q s:=
 bF hg (u6 L hc ho ha hn A u d hp) fun t B=>by subst B;exact h
theorem mb(A:bE P ty){all:List Oper}{todo pend:List (Nat×Oper)}{j:Nat}{o:Oper}{s':AS}{J G:Prop}(hrd:dX todo=[(j,o)])(hg:bV nt all s.f o=dl is)(hpb:hQ all pend o=is)(hE:mC todo [j]=is)
  (hag:mF ty nt all s todo pend=dl J) (hCA:J) (C:OT P nt o s (fun t=>t=s')) (hag2:de ty nt all s' (a8 pend o)=dl G) (hC2:G)
  (h:GO P nt (.bY all (todo.filter fun x=>!TR x.1 j) (a8 pend o)::k) Q s'):GO P nt (.bY all todo pend::k) Q s:=by
 have u:(j,o)∈dX todo:=by rw[hrd];simp
 obtain⟨Y,B⟩:=Ub.1 u;simp only[UD,Vh,Uo]at B;have d: ∀y∈todo,aS y.2=is-> ∀y∈pend,eN P nt all s y.2:=by
  intro y D F;unfold mF at hag;split at hag
  .exact cI A hag hCA
  .rename_i h2;have:=Uo.1 h2 y D;rw[F]at this;exact absurd I this
 refine nV hE ⟨_,Y,B.1⟩ d fun j' o' Z _ hu=>?_;simp only[TF]at Z;subst Z;have:=hu o Y;subst this;exact⟨B.1,fun y D _=>by simpa using B.2 y D,hpb,hg,_,C,fun t ht=>by subst ht;exact⟨cI A hag2 hC2,h⟩⟩
theorem ck(y:bE P ty){all:List Oper}{todo pend:List (Nat×Oper)}{j:Nat}{o:Oper}{c:Call}{g:FuncId}{asv args:List PV}{os:List AO}{r:PV}{C:AH}{D:Nat}{s':AS}{B A:Prop}(L:List Nat)(hc:bC P g args os r C D)
  (hrd:dX todo=[(j,o)]) (ho:o.op= .call c) (ha:bM s.f c=dl (g,asv))
  (hn:cz L=is) (F:L.all (fun j=>TU j s.nx)=is) (u:L.map s.h.get=os.map fun o=>dl (o.bZ (sig L s.nx))) (d:asv=db (sig L s.nx) args) (hp:putDst nt o (r.bZ (sig L s.nx)) (aO s L C D)=dl s')
  (hg:bV nt all s.f o=dl is) (hpb:hQ all pend o=is) (hE:mC todo [j]=is)
  (hag:mF ty nt all s todo pend=dl B) (hCA:B) (hag2:de ty nt all s' (a8 pend o)=dl A) (hC2:A)
  (h:GO P nt (.bY all (todo.filter fun x=>!TR x.1 j) (a8 pend o)::k) Q s'):GO P nt (.bY all todo pend::k) Q s:=
 mb y hrd hg hpb hE hag hCA (u6 L hc ho ha hn F u d hp) hag2 hC2 h
def B8(ty:Ty)(l:List ResultVar)(m:Nat)(r:PV)(h:AH)(n:Nat):AQ:=Lh ty l m fun q d j=>q=r∧d=h∧j=n
theorem aq {nt:Nat} (x:bE P ty) {g:FuncId} {fn:Func} {c:Code} (hf:P.funcs[g]? =dl fn) (hb:fn.body=dl c) (hn:(fn.name== "runtime.NumGoroutine")=jp) (u:fn.ntmps=nt)
  {l:List ResultVar} (y:fn.results.toList=l) {args:List PV} (j:args.length<=nt) {os:List AO} {r:PV} {h:AH} {n:Nat}
  (d:GO P nt [.code c] (B8 ty l os.length r h n) ⟨kS 0 args,dD 0 os,os.length⟩):bC P g args os r h n:=mc x hf hb hn u y j d
theorem aD{l:List ResultVar}{m:Nat}{r r0:PV}{h:AH}{n:Nat}{e:Exit}(L:List Nat)(he:e= .normal∨e= .ret)(hr:jy ty s l=dl r0)(hw:Wk m L ⟨[(0,r0)],s.h,s.nx⟩ ⟨[(0,r)],h,n⟩):B8 ty l m r h n e s:=
 ⟨he,r0,hr,.done ⟨r,h,n,L,⟨rfl,rfl,rfl⟩,hw⟩⟩
end
theorem fD.map{h:AH}{n:Nat}{r:PV}{K:AH->PV->Prop}(i:Nat){kc:KC}{V:Type}{e:V->IV}{z:V}{d:Value}{y:PV->V}{m:List (kc.K×V)}(hi:h.get i=dl (.map kc e z d y m))
  (F:fD ((i,io)::h.fO i (.eP kc e z d m)) n (r.fO i (.eP kc e z d m)) K):fD h n r K:=by
 intro M N w G;obtain⟨j,B,C,_,D⟩:=qC G hi;obtain⟨u,A,Y,g1,g2,g3,g4⟩:=F j N w C;exact⟨u,A,Y,B.trans g1,g2,fun x J=>g3 x (D _ _ J),g4⟩
mutual
def PV.rJ(i:Nat)(l:List IV):PV->PV
 | .iv x=> .iv x
 | .agg cs=> .agg (AI i l cs)
 | .aZ cs=> .aZ (AI i l cs)
 | .ptr j o=>bif TR j i then .iv (.i7 (l.drop o)) else .ptr j o
 | .sl j off len sz'=> .sl j off len sz'
 | .c6 j a b c=> .c6 j a b c
 | .fj z j=> .fj z j
 | .pJ j o n=> .pJ j o n
 | .mp j=> .mp j
 | .cN fn a b=> .cN fn a b
 | .kb b=> .kb b
 | .any=> .any
def AI(i:Nat)(l:List IV):List PV->List PV
 | []=> []
 |p::r=>PV.rJ i l p::AI i l r
end
theorem nn(i:Nat)(x:List IV): ∀l:List PV,AI i x l=l.map (PV.rJ i x)
 | []=>rfl
 |p::r=>by simp[AI,nn i x r]
theorem xb{M:Mem}{N:Nm}{n:Nat}{h:AH}{w:World}(hr:Rel M N (· <n) h w){i:Nat}{l:List IV}{cs:List PV}{T0:Option TypeId}(hi:h.get i=dl (.cells cs T0))(b0:cs=l.map .iv):
  ∃B,Ext M N (· <n) h w B N (· <n) ((i,io)::h) w∧Rel B N (· <n) ((i,io)::h) w∧ ∀p x,VR M N (· <n) p x->VR B N (· <n) (p.rJ i l) x:=by
 subst b0;have Z:=hr.dI i _ hi I;obtain⟨c,T,J,F,h3,h4,h5⟩:=hr.obj i _ hi
 let B:Mem:=M.set (N.aC i) (.cells c) Z
 have hM:M.le B:=fun b d hb=>by
  simp only[B,Mem.set];by_cases u:b=N.aC i
  .rw[u,Z]at hb;cases hb
  .rw[be u];exact hb
 have hnew: ∀b d,M b=io->B b=dl d->b=N.aC i:=fun b d J F=>by
  simp only[B,Mem.set]at F;by_cases u:b=N.aC i
  .exact u
  .rw[be u,J]at F;cases F
 have C: ∀o,B.cell (N.aC i) o=c[o]? :=fun o=>by simp[Mem.cell,B,Mem.set]
 refine⟨B,?_,?_,fun p x hx=>?_⟩
 .exact⟨rfl,rfl,⟨rfl,Tv _⟩,Tv _,fun _ _ _=>rfl,hM,fun b d J F=> .inr ⟨i,_,hi,rfl,(hnew b d J F).symm⟩,.refl _ _,fun _ h=>h,fun j o A c0=> .inr ⟨j,o,(ba j o A).2,c0,rfl⟩⟩
 .refine⟨fun b d hb=>?_,fun j o A=>hr.used j o (ba j o A).2,fun j o A G=>?_,fun j o A=>?_,fun j k o p A hk=>hr.inj j k o p (ba j o A).2 (ba k p hk).2⟩
  .simp only[B,Mem.set]at hb;by_cases u:b=N.aC i
   .rw[am u]at hb;cases hb;exact⟨T,(0,0),by rw[u];exact J⟩
   .rw[be u]at hb;exact hr.ey b d hb
  .obtain⟨g1,g2⟩:=ba j o A;simp only[B,Mem.set];rw[be fun e=>g1 (hr.inj j i o _ g2 hi G I e)];exact hr.dI j o g2 G
  .obtain⟨g1,g2⟩:=ba j o A;exact(hr.obj j o g2).mono hM (.refl _ _) (fun _ h=>h) (hr.used j o g2) I
 .induction hx with
  |iv x y h=>exact .iv _ _ (h.mono hM)
  |agg cs ys hl _ ih=>
   refine .agg _ _ (by simpa[nn]using hl) fun j q D=>?_;rw[nn,Tu,Tw]at D;obtain⟨q0,Y,rfl⟩:=D
   exact ih j q0 Y
  |aZ cs ys hl _ ih=>
   refine .aZ _ _ (by simpa[nn]using hl) fun j q D=>?_;rw[nn,Tu,Tw]at D;obtain⟨q0,Y,rfl⟩:=D
   exact ih j q0 Y
  |ptr j off h=>
   simp only[PV.rJ];cases hb:TR j i with
   |true=>
    have A:=TM hb;subst A;have a0:l.length=c.size:=by simpa using h3
    refine .iv _ _ (.i7 _ _ _ (fun k hk=>?_) fun k q D=>?_)
    .rw[U5]at hk;rw[C];simp[show off+k<c.size by omega]
    .rw[Uz]at D;have d0:off+k<c.size:=by rw[<-a0];exact(Tp.1 D).1
     have:=h4 (off+k) (.iv q) (by rw[Tu,D];rfl);rw[C];rw[Tl]at this;cases this with
     |iv _ _ h=>exact h.mono hM
   |false=>exact .ptr _ _ h
  |c6 i sz k off h=>exact .c6 _ _ _ _ h
  |fj z i h=>exact .fj _ _ h
  |pJ i o n h=>exact .pJ _ _ _ h
  |sl j off len sz' cap h h0 hl hc he=>exact .sl _ _ _ _ _ h h0 hl hc he
  |lK j sz' h=>exact .lK _ _ h
  |sle j sz' cap h hc he=>exact .sle _ _ _ h hc he
  |mp j h=>exact .mp _ h
  |cN fn first caps f' c' J F hr1 hr2 _ _=>exact .cN _ _ _ _ _ J F (fun j p A=>(hr1 j p A).mono hM (.refl _ _) (fun _ h=>h)) (fun j p A=>(hr2 j p A).mono hM (.refl _ _) (fun _ h=>h))
  |kb b=>exact .kb _
  |any x=>exact .any _
theorem fD.cells{h:AH}{n:Nat}{r:PV}{K:AH->PV->Prop}(i:Nat)(l:List IV){cs:List PV}{y:Option TypeId}(hi:h.get i=dl (.cells cs y))(d:cs=l.map .iv)(F:fD ((i,io)::h) n (r.rJ i l) K):fD h n r K:=by
 intro M N w G;obtain⟨j,B,C,D⟩:=xb G hi d;obtain⟨u,A,Y,g1,g2,g3,g4⟩:=F j N w C;exact⟨u,A,Y,B.trans g1,g2,fun x J=>g3 x (D _ _ J),g4⟩
theorem iP{ty:Ty}{l:List ResultVar}{r r0:PV}{e:Exit}{s:AS}(he:e= .normal∨e= .ret)(h:jy ty s l=dl r0)(d:fD s.h s.nx r0 fun _ j=>aj j r):pH ty l r e s:=⟨he,r0,h,d⟩
section
variable {P:Program} {ty:Ty} {nt:NT} {Q:AQ} {k:List KI} {s:AS}
theorem oC{all rest:List Oper}{o:Oper}{c:Call}{g:FuncId}{asv args:List PV}{os:List AO}{R:PV->AH->Nat->Prop}(L:List Nat)(hc:Fn P g args os R)(ho:o.op= .call c)(hg:o.guard=io)(ha:bM s.f c=dl (g,asv))
  (hn:cz L=is) (B:L.all (fun j=>TU j s.nx)=is) (u:L.map s.h.get=os.map fun o=>dl (o.bZ (sig L s.nx))) (d:asv=db (sig L s.nx) args)
  (h: ∀r x y,R r x y-> ∃s',putDst nt o (r.bZ (sig L s.nx)) (aO s L x y)=dl s'∧GO P nt (.ops all rest::k) Q s'):GO P nt (.ops all (o::rest)::k) Q s:=
 bF (R:=fun t=>GO P nt (.ops all rest::k) Q t) hg (kH ho ha hc (eG hn) (fun j A=>Tk (T7.1 B j A)) u d h) fun t C=>C
theorem iO{R:PV->AH->Nat->Prop}{l:List ResultVar}{m:Nat}{r r0:PV}{h:AH}{n:Nat}{e:Exit}(L:List Nat)(he:e= .normal∨e= .ret)(hr:jy ty s l=dl r0)(hR:R r h n)(hw:Wk m L ⟨[(0,r0)],s.h,s.nx⟩ ⟨[(0,r)],h,n⟩):Lh ty l m R e s:=
 ⟨he,r0,hr,.done ⟨r,h,n,L,hR,hw⟩⟩
end
theorem fm{P:Program}{nt:NT}{Q:AQ}{k:List KI}{s:AS}{c:Code}(i j sz:Nat){cs:List PV}{u:Option TypeId}(hi:s.h.get i=dl (.cells cs u))(hj:cs[j]? =dl (.iv (.v (.slice io 0 0))))
  (h:GO P nt (.code c::k) Q ⟨s.f,(i,dl (.cells (cs.set j (.sl s.nx 0 0 sz)) u))::(s.nx,dl (.row sz []))::s.h,s.nx+1⟩):GO P nt (.code c::k) Q s:=by
 intro M N a w A;obtain⟨sf,sh,y⟩:=s;obtain⟨h1,Z⟩:=A.1.A8 sz;have D:i≠y:=fun e=>by have:=A.1.used i _ hi;simp only at this;omega
 have d:AH.get ((y,dl (AO.row sz []))::sh) i=dl (.cells cs u):=by
  rw[AH.ax,be D];exact hi
 obtain⟨J,T,e1,e2,e3,Y,e5⟩:=Z.obj i _ d
 obtain⟨g1,g2⟩:=Z.write (i:=i) (o0:= .cells cs u) d I w (.cells (cs.set j (.sl y 0 0 sz)) u) I I I I (fun _ _=>rfl) ⟨J,T,e1,e2,by rw[List.length_set];exact e3,fun k p x=>by
  rw[U9]at x;split at x
  .rename_i hk;subst hk;split at x
   .cases x;have:=Y j _ hj;generalize J.getD j undef=v at this ⊢;cases this with
    |iv _ _ h=>cases h with
     |v=>exact .lK _ _ (US _)
   .cases x
  .exact Y k p x,e5⟩
 have B:Fits M N ⟨sf,(i,dl (.cells (cs.set j (.sl y 0 0 sz)) u))::(y,dl (.row sz []))::sh,y+1⟩ nt a w:=
  ⟨g2,fun k=>(A.2.1 k).mono (.refl _) (.refl _ _) (fun i hi=>U0 hi),A.2.2⟩
 exact AW.then h B fun e a2 w2 M2 N2 s2 G C F=>⟨M2,N2,s2,(h1.trans g1).trans G,C,F⟩
theorem fD.gG{h:AH}{n:Nat}{r:PV}{K:AH->PV->Prop}{α:Type}[Inhabited α](i:Nat){sz:Nat}{es:List (List PV)}(L:List α)(f:α->List IV)(hi:h.get i=dl (.row sz es))(hes:es=L.map fun x=>(f x).map .iv)
  (d:r.bh i sz L.length) (j:fD ((i,io)::h) n (r.ey i sz fun k=>f (L.getD k co)) K):fD h n r K:=
 .row i (fun k=>f (L.getD k co)) hi (dq hes) (by subst hes;simpa using d) j
def AO.jn(i sz:Nat)(el:Nat->List IV):AO->AO
 | .cells cs T=> .cells (qD i sz el cs) T
 |o=>o
def AO.iw(i sz n:Nat):AO->Prop
 | .cells cs _=>bg i sz n cs
 | .row _ es=> ∀(k:Nat) (e:List PV) (j:Nat) (p:PV),es[k]? =dl e->e[j]? =dl p-> ∃y,p= .iv y
 |_=>True
def AH.jn(i sz:Nat)(el:Nat->List IV):AH->AH
 | []=> []
 |(k,io)::r=>(k,io)::AH.jn i sz el r
 |(k,dl o)::r=>(k,dl (o.jn i sz el))::AH.jn i sz el r
def AH.iw(i sz n:Nat):AH->Prop
 | []=>True
 |(_,io)::r=>AH.iw i sz n r
 |(_,dl o)::r=>o.iw i sz n∧AH.iw i sz n r
def AF.jn(i sz:Nat)(el:Nat->List IV):AF->AF
 | []=> []
 |(d,p)::r=>(d,p.ey i sz el)::AF.jn i sz el r
def AF.iw(i sz n:Nat):AF->Prop
 | []=>True
 |(_,p)::r=>p.bh i sz n∧AF.iw i sz n r
theorem AH.jd(i sz:Nat)(el:Nat->List IV): ∀(h:AH) (j:Nat),(AH.jn i sz el h).get j=(h.get j).map (AO.jn i sz el)
 | [],_=>rfl
 |(k,io)::r,j=>by
  simp only[AH.jn,AH.ax,AH.jd i sz el r j];split<;>rfl
 |(k,dl o)::r,j=>by
  simp only[AH.jn,AH.ax,AH.jd i sz el r j];split<;>rfl
theorem AH.kB{i sz n:Nat}: ∀{h:AH} (_:h.iw i sz n) (j:Nat) (o:AO),h.get j=dl o->o.iw i sz n
 | [],_,j,o,ho=>nomatch ho
 |(k,io)::r,hh,j,o,ho=>by
  rw[AH.ax]at ho;split at ho
  .cases ho
  .exact AH.kB (h:=r) hh j o ho
 |(k,dl q)::r,hh,j,o,ho=>by
  rw[AH.ax]at ho;split at ho
  .cases ho;exact hh.1
  .exact AH.kB (h:=r) hh.2 j o ho
theorem AF.jd(i sz:Nat)(el:Nat->List IV): ∀(f:AF) (d:Nat),(AF.jn i sz el f).get d=(f.get d).ey i sz el
 | [],_=>rfl
 |(k,p)::r,d=>by
  simp only[AF.jn,AF.ax,AF.jd i sz el r d];split<;>rfl
theorem AF.kB{i sz n:Nat}: ∀{f:AF} (_:f.iw i sz n) (d:Nat),(f.get d).bh i sz n
 | [],_,d=>trivial
 |(k,p)::r,h,d=>by
  rw[AF.ax];split
  .exact h.1
  .exact AF.kB (f:=r) h.2 d
theorem AO.rG(i sz:Nat)(el:Nat->List IV)(o:AO):(o.jn i sz el).real=o.real:=by
 cases o<;>rfl
theorem eW{P:Program}{nt:NT}{Q:AQ}{k:List KI}{s:AS}{c:Code}(i:Nat){sz:Nat}{es:List (List PV)}(el:Nat->List IV)(hi:s.h.get i=dl (.row sz es))(G: ∀k e,es[k]? =dl e->e=(el k).map .iv)
  (hf:s.f.iw i sz es.length) (hh:s.h.iw i sz es.length) (h:GO P nt (.code c::k) Q ⟨s.f.jn i sz el,(i,io)::s.h.jn i sz el,s.nx⟩):GO P nt (.code c::k) Q s:=by
 intro M N a w u;obtain⟨F,y,x,h4⟩:=qA u.1 hi G;have hM:M.le F:=y.mz;have C: ∀j o,AH.get ((i,io)::s.h.jn i sz el) j=dl o-> ∃p,AH.get ((i,io)::s.h) j=dl p∧s.h.get j=dl p∧o=p.jn i sz el:=by
  intro j o A;obtain⟨g1,g2⟩:=ba j o A;rw[AH.jd,Tw]at g2;obtain⟨p,g3,g4⟩:=g2;exact⟨p,by rw[AH.ax,be g1];exact g3,g3,g4.symm⟩
 have hE:Ext M N (· <s.nx) s.h w F N (· <s.nx) ((i,io)::s.h.jn i sz el) w:=⟨y.os,y.tape,y.output,y.size,y.eU,y.mz,y.eT,y.nm,y.ule,fun j o A B=>by
  obtain⟨p,g1,_,rfl⟩:=C j o A;rw[AO.rG]at B
  exact y.dY j p g1 B⟩
 have hR:Rel F N (· <s.nx) ((i,io)::s.h.jn i sz el) w:=by
  refine⟨x.ey,fun j o A=>?_,fun j o A B=>?_,fun j o A=>?_,fun j k o p A hk ho hp=>?_⟩
  .obtain⟨p,g1,_,rfl⟩:=C j o A;exact x.used j p g1
  .obtain⟨p,g1,_,rfl⟩:=C j o A;rw[AO.rG]at B;exact x.dI j p g1 B
  .obtain⟨p,g1,g2,rfl⟩:=C j o A;cases p with
   |cells cs T0=>
    obtain⟨c,T,q1,q2,q3,q4,q5⟩:=u.1.obj j _ g2;have Z:=AH.kB hh j _ g2;refine⟨c,T,q1,q2,by simpa[eY]using q3,fun k q hq=>?_,q5⟩;rw[eY,Tu,Tw]at hq;obtain⟨q0,D,rfl⟩:=hq;exact h4 _ _ (q4 k q0 D) (fM Z k q0 D)
   |row=>exact x.obj j _ g1
   |bA=>exact x.obj j _ g1
   |fx=>exact x.obj j _ g1
   |map=>exact x.obj j _ g1
   |b5=>exact x.obj j _ g1
   |dQ=>exact x.obj j _ g1
   |om=>exact x.obj j _ g1
   |iZ=>exact x.obj j _ g1
   |fy=>exact x.obj j _ g1
  .obtain⟨o',g1,_,rfl⟩:=C j o A;obtain⟨p',g2,_,rfl⟩:=C k p hk;rw[AO.rG]at ho hp;exact x.inj j k o' p' g1 g2 ho hp
 have J:Fits F N ⟨s.f.jn i sz el,(i,io)::s.h.jn i sz el,s.nx⟩ nt a w:=⟨hR,fun d=>by
  rw[AF.jd];exact h4 _ _ (u.2.1 d) (AF.kB hf d),u.2.2⟩
 exact AW.then h J fun e a2 w2 M2 N2 s2 b0 Y a0=>⟨M2,N2,s2,hE.trans b0,Y,a0⟩
def AO.gx(i sz:Nat)(el:Nat->List IV):AO->AO
 | .cells cs T=> .cells (qD i sz el cs) T
 | .row s es=> .row s (es.map (qD i sz el))
 |o=>o
def AO.yk(i sz n:Nat):AO->Prop
 | .cells cs _=>bg i sz n cs
 | .row _ es=> ∀e∈es,bg i sz n e
 |_=>True
def AH.gx(i sz:Nat)(el:Nat->List IV):AH->AH
 | []=> []
 |(k,io)::r=>(k,io)::AH.gx i sz el r
 |(k,dl o)::r=>(k,dl (o.gx i sz el))::AH.gx i sz el r
def AH.yk(i sz n:Nat):AH->Prop
 | []=>True
 |(_,io)::r=>AH.yk i sz n r
 |(_,dl o)::r=>o.yk i sz n∧AH.yk i sz n r
theorem AH.nY(i sz:Nat)(el:Nat->List IV): ∀(h:AH) (j:Nat),(AH.gx i sz el h).get j=(h.get j).map (AO.gx i sz el)
 | [],_=>rfl
 |(k,io)::r,j=>by
  simp only[AH.gx,AH.ax,AH.nY i sz el r j];split<;>rfl
 |(k,dl o)::r,j=>by
  simp only[AH.gx,AH.ax,AH.nY i sz el r j];split<;>rfl
theorem AH.lj{i sz n:Nat}: ∀{h:AH} (_:h.yk i sz n) (j:Nat) (o:AO),h.get j=dl o->o.yk i sz n
 | [],_,j,o,ho=>nomatch ho
 |(k,io)::r,hh,j,o,ho=>by
  rw[AH.ax]at ho;split at ho
  .cases ho
  .exact AH.lj (h:=r) hh j o ho
 |(k,dl q)::r,hh,j,o,ho=>by
  rw[AH.ax]at ho;split at ho
  .cases ho;exact hh.1
  .exact AH.lj (h:=r) hh.2 j o ho
theorem AO.iF(i sz:Nat)(el:Nat->List IV)(o:AO):(o.gx i sz el).real=o.real:=by
 cases o with
 |row s es=>cases es<;>rfl
 |_=>rfl
def N8:List Code->Code->Code
 | [],r=>r
 |c::l,r=> .seq c (N8 l r)
def xM:Nat->Code->List Code
 |n+1,.seq a b=>a::xM n b
 |_,_=> []
def tp:Nat->Code->Code
 |n+1,.seq _ b=>tp n b
 |_,c=>c
theorem C3{P:Program}{nt:NT}{R:AQ}: ∀{l:List Code} {e:Exit} {s:AS},e≠ .normal->kp P nt (l.map KI.code) R e s->R e s
 | [],_,_,_,h=>h
 |c::l,e,s,he,h=>by
  cases e with
  |normal=>exact absurd I he
  |_=>exact C3 (l:=l) he h
end
end Go.Al
namespace Go.Al
open Go.ChangeShapes Go.WideShapes Go.RowKit
section
def xc(W:World)(b:Nat):Option MB:=match W.heap[b]? with
 |some (.cells c _ _)=>dl (.cells c)
 |some (.map es cl)=>dl (.map es cl)
 |_=>io
def lI(W:World):Prop:= ∀b c,O5 b=dl c-> ∃T d,W.heap[b]? =dl (.cells c T d)
def Mem.pb(W:World)(h:lI W):Mem:=⟨xc W,fun b c hb=>by obtain⟨T,d,e⟩:=h b c hb;simp[xc,e]⟩
def PB:Nm:=⟨fun _=>0,fun _=>0⟩
theorem JY(W:World)(h:lI W):Rel (Mem.pb W h) PB (· <0) [] W:=by
 refine⟨fun b c hb=>?_,fun i o u=>by simp[AH.get]at u,fun i o u=>by simp[AH.get]at u,fun i o u=>by simp[AH.get]at u,fun i j o p u=>by simp[AH.get]at u⟩;have d:xc W b=dl c:=hb;unfold xc at d;split at d
 .rename_i y T x e;obtain rfl:=Uy d;exact⟨T,x,e⟩
 .rename_i es A e;obtain rfl:=Uy d;exact e
 .cases d
theorem A3{W:World}{h:lI W}{b o:Nat}{v:Value}(hc:W.cell? ⟨b,o,io⟩=dl v):(Mem.pb W h).cell b o=dl v:=by
 show(match xc W b with|some (.cells c)=>c[o]? |_=>io)=dl v;unfold World.cell? at hc;unfold xc;split at hc
 .rename_i c T d e;simp only at e;rw[e];simpa using hc
 .cases hc
def CR(M:Mem)(l:List IV)(cs:List Value):Prop:=l.length=cs.length∧ ∀j p,l[j]? =dl p->IR M p (cs.getD j undef)
theorem CR.nil(M:Mem):CR M [] []:=⟨rfl,fun j p h=>by simp at h⟩
theorem CR.one{M:Mem}{p:IV}{v:Value}(h:IR M p v):CR M [p] [v]:=⟨rfl,fun j q d=>by
 cases j with
 |zero=>simp at d;subst d;simpa using h
 |succ j=>simp at d⟩
theorem CR.append{M:Mem}{l x:List IV}{cs d:List Value}(h:CR M l cs)(k:CR M x d):CR M (l++x) (cs++d):=by
 refine⟨by simp[h.1,k.1],fun j p u=>?_⟩;rcases Un j l.length with hj|hj
 .rw[TG hj]at u;have:=h.2 j p u;rw[Tr]at this ⊢;rwa[TG (by rw[<-h.1];exact hj)]
 .rw[TI hj]at u;have:=k.2 _ p u;rw[Tr]at this ⊢;rw[TI (by rw[<-h.1];exact hj),<-h.1];exact this
theorem CR.eS{M:Mem}{l r:List IV}{cs:List Value}{o n o':Nat}(h:CR M l ((cs.drop o).take n))(e:o'=o+n)(k:CR M r (cs.drop o')):CR M (l++r) (cs.drop o):=by
 subst e;have:=h.append k;rwa[<-List.drop_drop,Um]at this
theorem CR.end_{M:Mem}{cs:List Value}{o:Nat}(h:cs.length=o):CR M [] (cs.drop o):=by
 rw[List.drop_eq_nil_of_le (by omega)];exact .nil M
theorem CR.agg{M:Mem}{N:Nm}{U:Nat->Prop}{l:List IV}{ys:Array Value}(h:CR M l ys.toList):VR M N U (ag l) (.agg ys):=by
 refine .agg _ _ (by simpa using h.1) fun j p d=>?_;rw[Tu,Tw]at d;obtain⟨q,u,rfl⟩:=d;have:=h.2 j q u;exact .iv _ _ (by simpa[Tl,Tr]using this)
theorem CR.le{M:Mem}{l u:List IV}{cs:List Value}(h:CR M l cs)(y:l.length=u.length)(d: ∀(j:Nat) (p q:IV),l[j]? =dl p->u[j]? =dl q->jG p q):CR M u cs:=by
 refine⟨y▸h.1,fun j q A=>?_⟩;have x:j<l.length:=by rw[y];exact(Tp.1 A).1
 exact d j _ q (Ts x) A M _ (h.2 j _ (Ts x))
theorem CR.wY{M:Mem}{p q:IV}{cs:List Value}(h:CR M [p] cs)(d:jG p q):CR M [q] cs:=
 h.le I fun j y A u x=>by
  cases j with
  |zero=>simp at u x;subst u;subst x;exact d
  |succ j=>simp at u
section
variable {H:Type} {enc:TypeId×Value->H} {P:Program} {W:World} {hT:lI W} {sp:Nat->Bool} {held:Bool}
def Rd(enc:TypeId×Value->H)(P:Program)(W:World)(hT:lI W)(sp:Nat->Bool)(held:Bool)(t:TypeId){α:Type}(c:α->List IV)(Q:α->DataW H->Prop)(n:Nat):Prop:=
 ∀m,m<=n-> ∀d y,DataW.trod enc P W 0 sp held m t d=dl y-> ∃x,CR (Mem.pb W hT) (c x) d∧Q x y.1
theorem Rd.mono{t:TypeId}{α:Type}{c:α->List IV}{Q:α->DataW H->Prop}{n m:Nat}(h:Rd enc P W hT sp held t c Q n)(hm:m<=n):Rd enc P W hT sp held t c Q m:=fun k d=>h k (Uh d hm)
theorem iC{t:TypeId}{k:IntKind}(j:P.underlying t=dl (.int k))(n:Nat):Rd enc P W hT sp held t (fun z=> [.v (.int k z)]) (fun z d=>d= .lit (.int k z)∧(Lit.int k z).wf=is) n:=by
 intro m _ x y h;cases m with
 |zero=>simp[DataW.trod]at h
 |succ m=>
  unfold DataW.trod at h;rw[j]at h;split at h<;>simp_all;obtain⟨⟨rfl,u⟩,rfl⟩:=h;exact⟨_,.one (.v _),rfl,u⟩
theorem iB{t:TypeId}(j:P.underlying t=dl .string)(n:Nat):Rd enc P W hT sp held t (fun s=> [.v (.string s)]) (fun s d=>d= .lit (.string s.data.toList)∧s.size<=maxLen) n:=by
 intro m _ x y h;cases m with
 |zero=>simp[DataW.trod]at h
 |succ m=>
  unfold DataW.trod at h;rw[j]at h;split at h<;>simp_all;rename_i s;obtain⟨u,rfl⟩:=h;exact⟨s,.one (.v _),rfl,u⟩
def QL{α:Type}(Q:α->DataW H->Prop)(l:List α)(d:DataW H):Prop:=
 ∃j:List (DataW H),(d= .nil∧j=[]∨ ∃sp,d= .slice j sp)∧l.length=j.length∧ ∀(i:Nat) (x:α) (e:DataW H),l[i]? =dl x->j[i]? =dl e->Q x e
theorem gr{α:Type}[Inhabited α]{t e:TypeId}{sz:Nat}{c:α->List IV}{Q:α->DataW H->Prop}{n:Nat}(ht:P.underlying t=dl (.slice e))(hc:P.cellsOf e=sz)(C:0<sz)(hl: ∀x,(c x).length=sz)
  (he:Rd enc P W hT sp held e c Q n):Rd enc P W hT sp held t (fun l:List α=> [bp sz l c]) (QL Q) (n+1):=by
 intro m hm cs y h;rcases DataW.trod_slice ht h with⟨rfl,rfl⟩|⟨a,len,g0,A,rest,k,rfl,rfl,rfl,_,h1,h2,h3,h4,_⟩
 .exact⟨[],.one (.fN ..),[],.inl ⟨rfl,rfl⟩,rfl,fun i x e h=>by simp at h⟩
 have key: ∀i,i<len-> ∃x,(∃u,W.cells? 0 (a.add (i*sz)) sz=dl u∧CR (Mem.pb W hT) (c x) u)∧ ∃y,A[i]? =dl y∧Q x y.1:=by
  intro i D;have h5:=h4 i D;rw[hc,Ts (by omega)]at h5;obtain⟨u,h6,h7⟩:=Option.bind_eq_some_iff.1 h5;obtain⟨x,h8,h9⟩:=he k (by omega) _ _ h7;exact⟨x,⟨u,h6,h8⟩,_,Ts (by omega),h9⟩
 obtain⟨f,hf⟩:=Deep.choose_lt key;refine⟨(Uk len).map f,.one ?_,A.map (·.1),.inr ⟨_,rfl⟩,by simp[h3],fun i x e hx a0=>?_⟩
 .cases len with
  |zero=>exact .fN ..
  |succ len=>
   have j0: ∀i,i<len+1-> ∀j,j<sz->W.cell? ((a.add (i*sz)).add j)=((c (f i))[j]?).bind fun _=>(W.cell? ((a.add (i*sz)).add j)):=by
    intro i D j B;rw[Ts (by rw[hl];exact B)];rfl
   have d: ∀i,i<len+1-> ∀j,j<sz-> ∃v,W.cell? ⟨a.block,a.off+i*sz+j,io⟩=dl v∧(∀p,(c (f i))[j]? =dl p->IR (Mem.pb W hT) p v)∧a.spot=io:=by
    intro i D j B;obtain⟨⟨u,h6,h8⟩,_⟩:=hf i D;obtain⟨_,h9,G⟩:=World.cells?_some h6;have J:=G j B;rw[Ts (by omega)]at J;have hs: ∀j,j<sz->(a.add (i*sz+j)).spot=io:=fun j B=>by
     have Y:=G j B;rw[Ts (by omega),Deep.add_add]at Y;exact World.cell?_spot Y
    have Z:a.add (i*sz+j)=⟨a.block,a.off+i*sz+j,io⟩:=by
     have:=hs j B;unfold Addr.add at this ⊢;split
     .rename_i h0;rw[am h0]at this;cases a;simp_all
     .rw[Ux]
    refine⟨u[j]'(by omega),?_,fun p hp=>?_,?_⟩
    .rw[<-Z,<-Deep.add_add];exact J
    .have:=h8.2 j p hp;rwa[Tr,Ts (by omega)]at this
    .obtain⟨⟨i0,g6,_⟩,_⟩:=hf 0 (by omega);obtain⟨_,g9,e0⟩:=World.cells?_some g6;have d0:=e0 0 C;rw[Ts (by omega),Deep.add_add]at d0;have:=World.cell?_spot d0;simpa[Addr.add]using this
   have ha:dl a=dl (⟨a.block,a.off,io⟩:Addr):=by
    obtain⟨_,_,_,hs⟩:=d 0 (by omega) 0 C;cases a;simp_all
   rw[ha];have c0:((Uk (len+1)).map f).length=len+1:=by simp
   have b0: ∀k,k<len+1->((Uk (len+1)).map f).getD k co=f k:=fun k F=>by
    simp[Tr,Wi F]
   unfold bp;rw[c0];refine .bU _ _ _ _ _ _ h1 h2 (fun k _=>hl _) (fun k j F B=>?_) (fun k j p F hp=>?_)
   .obtain⟨v,hv,_⟩:=d k F j B;rw[A3 hv];rfl
   .rw[b0 k F]at hp;have B:j<sz:=by rw[<-hl (f k)];exact(Tp.1 hp).1
    obtain⟨v,hv,f0,_⟩:=d k F j B;rw[A3 hv];exact f0 p hp
 .have D:i<len:=by simpa using(Tp.1 hx).1
  obtain⟨_,y,hy,hq⟩:=hf i D;rw[Tu,hy]at a0;rw[Tu,Wi D]at hx;simp at a0 hx;subst a0;subst hx;exact hq
theorem me{n:Nat}{d:Array Field}{cs:List Value}{xs:List (DataW H×List MemPlace)}(hf: ∀(i:Nat) (f:Field),d[i]? =dl f->DataW.trod enc P W 0 sp held n f.type ((cs.drop f.offset).take (P.cellsOf f.type))=xs[i]?)
  (i:Nat) {f:Field} (h1:d[i]? =dl f) {t o sz:Nat} (j:f.type=t) (u:f.offset=o) (y:P.cellsOf t=sz) {x:DataW H×List MemPlace} (A:xs[i]? =dl x):DataW.trod enc P W 0 sp held n t ((cs.drop o).take sz)=dl x:=by
 subst j;subst u;subst y;rw[hf i f h1,A]
end
section
variable {H:Type} {enc:TypeId×Value->H} {P:Program} {W W':World} {T:TypeId->Prop}
theorem DY{W W':World}(d: ∀b,b<W.heap.size->W'.heap[b]? =W.heap[b]?){p:MemPlace}(hp:p.block<W.heap.size):W.sameAt W' p:=by
 cases p with
 |cell b o=>exact World.cell?_of_block (a:=⟨b,o,io⟩) (d b hp)
 |map b=>exact d b hp
theorem ot(K:Kids P T)(B: ∀{t e},T t->P.underlying t=dl (.slice e)->0<P.cellsOf e)(A: ∀b,b<W.heap.size->W'.heap[b]? =W.heap[b]?){sp:Nat->Bool}:
  ∀{ts:List TypeId} {vs:List Value} {y:List (DataW H)} {u:List MemPlace},(∀t∈ts,T t)->DataW.TrodAll enc P W 0 (fun _=>is) is ts vs y u->(∀p∈u,p.block<W.heap.size)->(∀p∈u,sp p.block=is)->
   DataW.TrodAll enc P W' 0 sp is ts vs y u
 | [],vs,y,u,_,h,_,_=>by
  obtain⟨rfl,rfl,rfl⟩:=trodAll_nil h;exact trodAll_mk0
 |t::ts,vs,y,u,hT,h,hlt,hsp=>by
  obtain⟨v,J,d,C,p,q,rfl,rfl,rfl,⟨n,D⟩,F⟩:=trodAll_cons h;refine⟨p,q,⟨n,DataW.trod_stays K B (fun h=>by cases h) (hT t (by simp)) D (fun x j=>DY A (hlt x (Ue _ j))) (fun x j=>hsp x (Ue _ j))⟩,?_,rfl⟩;exact ot K B A (fun t G=>hT t (TH _ G)) F (fun x j=>hlt x (UQ _ j)) (fun x j=>hsp x (UQ _ j))
theorem Ku{W W':World}(j:W'.os=W.os)(d:W'.output=W.output)(u: ∀b,b<W.heap.size->W'.heap[b]? =W.heap[b]?)(may:MemPlace->Prop):W.keptBut W' may:=by
 refine World.keptBut_mono (fun p x=>(x:False).elim) (World.keptBut_none_iff.2 ⟨j,d,u⟩)
theorem ya{f:Func}{s:ChangeSpec}{x F y again:Bool}{args:Array Value}{v:Value}{B gs:List (DataW H)}{d:List MemPlace}
  (K:Kids P T) (hz: ∀{t e},T t->P.underlying t=dl (.slice e)->0<P.cellsOf e) (d0: ∀t∈f.params.toList,T t) (A:s.vars=[])
  (hW:DataW.Whole enc P f.params.toList s.vars x W args.toList B gs d) (i0:W'.os=W.os) (Z:W'.output=W.output) (hk: ∀b,b<W.heap.size->W'.heap[b]? =W.heap[b]?)
  (D: ∀(b:Nat) (sp:Nat->Bool) (hd:Bool),DataW.TrodAll enc P W' b sp hd f.resultTypes.toList (v.resultList f.resultTypes.size) (s.fn H (B++gs)).results [])
  (G:(s.fn H (B++gs)).args=B) (k0:(s.fn H (B++gs)).vars=[])
  (g0: ∀(j:Nat) (t:TypeId) (r:Value),f.resultTypes[j]? =dl t->(v.resultList f.resultTypes.size)[j]? =dl r->Value.okWide P W' .any 0 t r):
  s.post enc P f x F y again W args v W':=by
 have J: ∀p∈d,p.block<W.heap.size:=fun p Y=>by simpa using hW.lt p Y
 have C: ∀p∈d,(fun b=>kw (b<W.heap.size)) p.block=is:=fun p Y=>by simpa using hW.lt p Y
 obtain⟨pa,pv,hA,hV,rfl,e0,f0⟩:=id hW;rw[A]at hV;obtain⟨rfl,rfl⟩:gs=[]∧pv=[]:=by
  cases gs with
  |nil=>exact⟨rfl,hV⟩
  |cons _ _=>exact hV.elim
 rw[T1]at J C;have u: ∀sp:Nat->Bool,(∀p∈pa,sp p.block=is)->DataW.TrodAll enc P W' 0 sp is f.params.toList args.toList (s.fn H (B++ [])).args pa:=fun sp j0=>by
  rw[G];exact ot K hz hk d0 hA J j0
 have b0: ∀sp:Nat->Bool,DataW.TrodVars enc P W' sp s.vars (s.fn H (B++ [])).vars []:=fun sp=>by
  rw[k0,A];rfl
 refine⟨B,[],pa++ [],[],pa,[],hW,D _ _ _,u _ C,b0 _,?_,fun _=>⟨g0,_,_,([]++pa)++ [],⟨[]++pa,[],trodAll_append (u _ (fun _ _=>rfl)) (D _ _ _),b0 _,rfl,?_,?_⟩,?_⟩⟩
 .exact Ku i0 Z hk _
 .intro b c0 Y;have a0:MemPlace.cell b c0∈pa:=by simpa using Y
  have hb:=J _ a0;have:=e0 b c0 (by simpa using a0);rw[<-this];simp only[World.frozen?];rw[hk b hb]
 .intro ha;have:=f0 ha;simpa using this
 .intro p Y _;simpa using Y
end
section
variable {P:Program} {ty:Ty} {nt:NT} {s:AS} {Q:AQ} {k:List KI}
def bb(c:UInt8):List IV:=[.v (.int .u8 (c.toNat:Int))]
theorem ld(w:World)(t u D e:TypeId)(i:TypeInfo)(G:P.underlying t=dl (.slice e))(hu:P.underlying u=dl .string)(hi:P.info? e=dl i)(C:i.size=1)(T:TypeId)
  (g d x:Nat) (j:Array Value) (hg:w.heap[g]? =dl (.cells j T (0,0))) (b:ByteArray)
  (y:d+b.size<=x) (A:d+b.size<=j.size):
  (Builtin.append_ #[t,u] D #[.slice (dl ⟨g,0,io⟩) d x,.string b]).run P w=
   .ok (.slice (dl ⟨g,0,io⟩) (d+b.size) x) (w.setRow g (j.toList.take d++Lib.strCells b++j.toList.drop (d+b.size)).toArray):=by
 have F:=Lib.run_firstCells_string (P:=P) w 1 b;have B:=run_storeCells_at P g d T (Lib.strCells b) 0 j w hg (by simpa[Lib.strCells_length]using A) (Lib.strCells_oneCell b);simp only[Vd,Lib.strCells_length]at B;simp[Builtin.append_,run_underlying G,run_underlying hu,sizeOf,typeInfo,hi,C,Builtin.lenOf,y,F,Addr.add_lit,B]
theorem fT(w:World)(t u B e:TypeId)(i:TypeInfo)(C:P.underlying t=dl (.slice e))(hu:P.underlying u=dl .string)(hi:P.info? e=dl i)(y:Option Addr)(j d:Nat)(x:j<=d)(b:ByteArray)(hb:b.size=0)(hs:y=io∨ ∃b o,y=dl ⟨b,o,io⟩):
  (Builtin.append_ #[t,u] B #[.slice y j d,.string b]).run P w= .ok (.slice y j d) w:=by
 have A:=Lib.run_firstCells_string (P:=P) w i.size b;have D:Lib.strCells b=[]:=Ud (by rw[Lib.strCells_length];exact hb);rw[hb,D]at A;rcases hs with rfl|⟨g,o,rfl⟩
 .simp[Builtin.append_,run_underlying C,run_underlying hu,sizeOf,typeInfo,hi,Builtin.lenOf,hb,x,A]
 .simp[Builtin.append_,run_underlying C,run_underlying hu,sizeOf,typeInfo,hi,Builtin.lenOf,hb,x,A,storeCells]
def sS(s:AS)(i:Nat)(l:List UInt8)(u:TypeId):AS:=⟨s.f,(s.nx,dl (.bA l u))::(i,io)::s.h,s.nx+1⟩
theorem p4{i:Nat}{l:List UInt8}{u:TypeId}{M d:Mem}{N j:Nm}{a:Act}{w x:World}(hf:Fits M N s nt a w)(y:Ext M N (· <s.nx) s.h w d j (· <s.nx+1) ((s.nx,dl (.bA l u))::(i,io)::s.h) x)
  (hr:Rel d j (· <s.nx+1) ((s.nx,dl (.bA l u))::(i,io)::s.h) x):
  Ext M N (· <s.nx) s.h w d j (· <(sS s i l u).nx) (sS s i l u).h x∧Fits d j (sS s i l u) nt a x:=
 ⟨y,hr,hf.2.1.ext y,hf.2.2⟩
theorem Rel.Lm{M:Mem}{N:Nm}{w:World}{n:Nat}{h:AH}(hr:Rel M N (· <n) h w)(T:TypeId):Ext M N (· <n) h w M N (· <n+1) ((n,dl (.bA [] T))::h) w∧Rel M N (· <n+1) ((n,dl (.bA [] T))::h) w:=by
 have d: ∀i p,AH.get ((n,dl (.bA [] T))::h) i=dl p->(i=n∧p= .bA [] T)∨(i<n∧h.get i=dl p):=by
  intro i p u;rw[AH.ax]at u;split at u
  .rename_i C;exact .inl ⟨C,by simpa using u.symm⟩
  .exact .inr ⟨hr.used i p u,u⟩
 refine⟨⟨rfl,rfl,⟨rfl,Tv _⟩,Tv _,fun _ _ _=>rfl,.refl _,fun b c A y=>by simp[A]at y,.refl _ _,fun i u=>by omega,fun i p u x=>?_⟩,⟨hr.ey,fun i p u=>?_,fun i p u x=>?_,fun i p u=>?_,fun i j p q u J D F B=>?_⟩⟩
 .rcases d i p u with⟨rfl,rfl⟩|⟨A,y⟩
  .cases x
  .exact .inr ⟨i,p,y,x,rfl⟩
 .rcases d i p u with⟨rfl,rfl⟩|⟨A,y⟩<;>omega
 .rcases d i p u with⟨rfl,rfl⟩|⟨A,y⟩
  .cases x
  .exact hr.dI i p y x
 .rcases d i p u with⟨rfl,rfl⟩|⟨A,y⟩
  .exact .inl I
  .exact(hr.obj i p y).mono (.refl _) (.refl _ _) (fun i u=>by omega) A I
 .rcases d i p u with⟨rfl,rfl⟩|⟨A,y⟩<;>rcases d j q J with⟨rfl,rfl⟩|⟨Y,G⟩
  .rfl
  .cases D
  .cases F
  .exact hr.inj i j p q y G D F B
theorem JE(v0:bE P ty){o:Oper}{x y:Operand}{t tu u:TypeId}(ho:o.op= .call ⟨.builtin .append, #[x,y], #[t,tu]⟩){e et eu:bJ}(ht:ty t=dl e)(hk:e.k= .aR (.slice u))(p1:ty tu=dl et)(k1:et.k= .aR .string)(hu:ty u=dl eu)
  {i len:Nat} {l:List UInt8} {b:ByteArray} (hx:ev s.f x= .sl i 0 len 1) (hi:s.h.get i=dl (.bA l u)) (B:l.length=len) (o1:eu.size=1) (i1:eu.bytes=1) (hz:eu.zero= .int .u8 0)
  (m1:ev s.f y= .iv (.v (.string b))) (w1:len+b.size<=140737488355328)
  {s':AS} (hp:putDst nt o (.sl s.nx 0 (len+b.size) 1) (sS s i (l++b.data.toList) u)=dl s'):OT P nt o s (fun t=>t=s'):=by
 refine OT.value hp fun M N a w G=>?_;obtain⟨⟨ii,f0,p0,o0,q0⟩,_⟩:=v0 u _ hu;rw[o1]at p0;rw[i1]at o0;rw[hz]at q0
 have j0:P.underlying t=dl (.slice u):=by
  have:=(v0 t _ ht).2.1;rw[hk]at this;exact this.1
 have i0:P.underlying tu=dl .string:=by
  have:=(v0 tu _ p1).2.1;rw[k1]at this;exact this.1
 have w0:=aJ G.2.1 x;rw[hx]at w0;have x0:=aJ G.2.1 y;rw[m1]at x0;have t1:a.eval y= .string b:=by
  generalize a.eval y=v at x0;cases x0 with
  |iv _ _ h=>cases h;rfl
 have d: ∀v w',(Builtin.append_ #[t,tu] o.type #[a.eval x,a.eval y]).run P w= .ok v w'->(execOp a.eval o).run P w= .ok (.value v) w':=by
  intro v w' h;simp only[execOp,ho,resolve];simp[invoke,builtin,h]
 rw[t1]at d;have x1:i<s.nx:=G.1.used i _ hi;have k0:s.nx≠i:=by omega
 have l1:=G.1.obj i _ hi;have Z:b.data.toList.length=b.size:=by simp
 have e0: ∀(j:Nat) (x:UInt8),b.data.toList[j]? =dl x->(Lib.strCells b).getD j undef= .int .u8 (x.toNat:Int):=by
  intro j x hx;simp only[Lib.strCells,Tr,Tu,hx,Ut,UI]
 have b0: ∀z:Array Value,(∀(j:Nat) (x:UInt8),l[j]? =dl x->z.getD j undef= .int .u8 (x.toNat:Int))->(∀j,j<b.size->z.getD (len+j) undef=(Lib.strCells b).getD j undef)->
   ∀(j:Nat) (x:UInt8),(l++b.data.toList)[j]? =dl x->z.getD j undef= .int .u8 (x.toNat:Int):=by
  intro z h1 h2 j x C;rcases Un j l.length with hk|hk
  .rw[TG hk]at C;exact h1 j x C
  .rw[TI hk]at C;have r0:j-l.length<b.size:=by rw[<-Z];exact(Tp.1 C).1
   have:=h2 _ r0;rw[e0 _ _ C,show len+(j-l.length)=j by omega]at this;exact this
 have Y: ∀(D:List Value) (a0:Nat),D.length=len->(∀(j:Nat) (x:UInt8),l[j]? =dl x->D.getD j undef= .int .u8 (x.toNat:Int))->len+b.size<=a0->a0<=maxLen->0<len+b.size->
   ∀z:Array Value,z=D.toArray++(Lib.strCells b).toArray++Builtin.zeroCells (Value.int .u8 0).cells (a0-(len+b.size))->
   ∃M' J,Ext M N (· <s.nx) s.h w M' J (· <(sS s i (l++b.data.toList) u).nx) (sS s i (l++b.data.toList) u).h (w.drew.alloc (.cells z u))∧Fits M' J (sS s i (l++b.data.toList) u) nt a (w.drew.alloc (.cells z u))∧
    VR M' J (· <(sS s i (l++b.data.toList) u).nx) (.sl s.nx 0 (len+b.size) 1) (.slice (dl ⟨w.heap.size,0,io⟩) (len+b.size) a0):=by
  intro D a0 b1 r1 m0 j1 s0 z z0;have v1:(Value.int IntKind.u8 0).cells.size=1:=rfl;have F:z.size=a0:=by
   rw[z0,UZ,UZ,size_zeroCells,v1];simp only[VC,b1,Lib.strCells_length];omega
  obtain⟨J,h1,h2,h3,h4,h5⟩:=G.1.drew.alloc (.cells z u) (.bA (l++b.data.toList) u) z.size (fun J g1 g2 g3=>by
   refine .inr ⟨z,by rw[g1];exact heap_alloc_new _ _,g2.symm,by rw[F,Tn,B,Z];omega,b0 z (fun j x C=>?_) (fun j C=>?_)⟩
   .have z1:=(Tp.1 C).1;have e1:z.getD j undef=D.getD j undef:=by
     rw[z0,Tl,V1,T6 (by simp;omega),Tr];simp
    rw[e1];exact r1 j x C
   .rw[z0,Tl,T6 (by simp[Lib.strCells_length];omega),Vu (by simp;omega),Tr]
    simp[b1])
  have n1:=(h5.del i).swap (Ne.symm k0);have s1:=(((Ext.drew (M:=M) (N:=N) (U:=(· <s.nx)) (h:=s.h) (w:=w)).trans h4).del i).swap (Ne.symm k0);obtain⟨g1,g2⟩:=p4 G s1 n1;refine⟨M,J,g1,g2,?_⟩;have:=VR.sl (M:=M) (N:=J) (U:=(· <s.nx+1)) s.nx 0 (len+b.size) 1 a0 (by omega) s0 m0 j1 (by rw[h2,F];simp);rw[h1,U6]at this;exact this
 generalize a.eval x=vx at w0 d;cases w0 with
 |lK _ _ hU=>
  have he:l=[]:=Ud B;subst he;by_cases hm:b.size=0
  .have l0:b.data.toList=[]:=Ud (by rw[Z];exact hm);have A:=fT (P:=P) w t tu o.type u ii j0 i0 f0 io 0 0 (Tv _) b hm (.inl I);obtain⟨h1,h2⟩:=G.1.Lm u;obtain⟨g1,g2⟩:=p4 (i:=i) (l:=[]) (u:=u) G ((h1.del i).swap (Ne.symm k0)) ((h2.del i).swap (Ne.symm k0));rw[l0,hm];exact⟨_,w,M,N,d _ _ A,g1,g2,.lK _ _ (by simp only[sS];omega)⟩
  .have A:=run_append_nil_string (P:=P) w t tu o.type u ii (.int .u8 0) j0 i0 f0 q0 b (by omega) (by omega) (by rw[o0];omega);have e1:(b.data.map fun b=>Value.int .u8 b.toNat)=(Lib.strCells b).toArray:=by
    apply Array.ext';simp[Lib.strCells]
   rw[e1]at A;obtain⟨M',J,g1,g2,g3⟩:=Y [] (grownCap w b.size 0 u) I (by simp) (by simpa using grownCap_ge w b.size 0 u) (grownCap_le_maxLen w _ _ _ (by simp only[maxLen];omega)) (by omega) _ I;simp only[TL,T3,WZ] at*
   exact⟨_,_,M',J,d _ _ A,by simpa using g1,by simpa using g2,by simpa using g3⟩
 |sl _ _ _ _ a0 hU h0 hl hc hext=>
  rcases l1 with rfl|⟨cur,q1,q2,q3,q4⟩
  .simp at B;omega
  have c0:(AO.bA l u).real=is:=by cases l with
   |nil=>simp at B;omega
   |cons=>rfl
  rw[U6]at d;have n0:cur.size=a0:=by rw[q2,<-hext];omega
  by_cases hm:b.size=0
  .have l0:b.data.toList=[]:=Ud (by rw[Z];exact hm);have A:=fT (P:=P) w t tu o.type u ii j0 i0 f0 (dl ⟨N.aC i,0,io⟩) len a0 hl b hm (.inr ⟨_,_,rfl⟩)
   obtain⟨h1,h2⟩:=G.1.move hi c0 w (.bA (l++ []) u) I I I I (fun _ _=>rfl) (by
    rw[T1]
    exact .inr ⟨cur,by simpa using q1,by simpa using q2,q3,q4⟩)
   obtain⟨g1,g2⟩:=p4 (i:=i) G h1 h2;rw[l0,hm];refine⟨_,w,M,_,d _ _ A,g1,g2,?_⟩;have:=VR.sl (M:=M) (N:=N.with s.nx (N.aC i) (N.ext i)) (U:=(· <s.nx+1)) s.nx 0 len 1 a0 (by omega) h0 hl hc (by simpa using hext);simpa[sS]using this
  .by_cases d0:len+b.size<=a0
   .have A:=ld (P:=P) w t tu o.type u ii j0 i0 f0 p0 u (N.aC i) len a0 cur q1 b d0 (by omega);generalize hL:(cur.toList.take len++Lib.strCells b++cur.toList.drop (len+b.size)).toArray=L at A;have a1:L.size=cur.size:=by rw[<-hL];simp[Lib.strCells_length];omega
    have t0:=setRow_heap w (N.aC i) cur L u (0,0) q1;have f1: ∀j,j<len->L.getD j undef=cur.getD j undef:=by
     intro j C;rw[<-hL,Tl,Tl];simp only[Ul];rw[Tz,TG (by simp;omega),T4,am C,T5]
    have d1: ∀j,j<b.size->L.getD (len+j) undef=(Lib.strCells b).getD j undef:=by
     intro j C;rw[<-hL,Tl,Tr];simp only[Ul];rw[TG (by simp[Lib.strCells_length];omega),TI (by simp;omega)];congr 2;simp;omega
    obtain⟨h1,h2⟩:=G.1.move hi c0 (w.setRow (N.aC i) L) (.bA (l++b.data.toList) u) I I I (by simp) (fun b hb=>by
      simp only[World.setRow,T8]
      rw[be (fun e=>hb e.symm)]) (by
     refine .inr ⟨L,by simpa using t0,by rw[a1];simpa using q2,by rw[a1,n0,Tn,B,Z];omega,b0 L (fun j x C=>?_) d1⟩;rw[f1 j (by rw[<-B];exact(Tp.1 C).1)]
     exact q4 j x C)
    obtain⟨g1,g2⟩:=p4 (i:=i) G h1 h2;refine⟨_,_,M,_,d _ _ A,g1,g2,?_⟩;have:=VR.sl (M:=M) (N:=N.with s.nx (N.aC i) (N.ext i)) (U:=(· <s.nx+1)) s.nx 0 (len+b.size) 1 a0 (by omega) (by omega) d0 hc (by simpa using hext);simpa[sS]using this
   .have g0: ∀(j:Nat) (v:Value),(cur.toList.take len)[j]? =dl v->w.cell? ((⟨N.aC i,0,io⟩:Addr).add j)=dl v:=by
     intro j v hv;rw[T4]at hv;split at hv
     .rw[dp,TL];simp only[World.cell?,q1];simpa using hv
     .cases hv
    have A:=Lib.run_append_grow_string (P:=P) w t tu o.type u ii (.int .u8 0) j0 i0 f0 q0 ⟨N.aC i,0,io⟩ len a0 (cur.toList.take len) (by rw[p0];simp;omega) g0 b (by omega) (by omega)
     (by rw[o0];exact growslice_fits (by omega) (by omega))
    obtain⟨M',J,g1,g2,g3⟩:=Y (cur.toList.take len) (grownCap w (len+b.size) a0 u) (by simp;omega) (fun j x C=>by
      have:=q4 j x C;have r0:j<len:=by rw[<-B];exact(Tp.1 C).1
      rw[Tr,T4,am r0,T5]
      rw[Tl]at this;exact this) (grownCap_ge w _ _ _) (grownCap_le_maxLen w _ _ _ (by simp only[maxLen];omega)) (by omega) _ I
    exact⟨_,_,M',J,d _ _ A,g1,g2,g3⟩
theorem Kx(Y:bE P ty){all rest:List Oper}{o:Oper}{x y:Operand}{t tu u d:Nat}{e Z eu:bJ}{i len:Nat}{l:List UInt8}{b:ByteArray}(ho:o.op= .call ⟨.builtin .append, #[x,y], #[t,tu]⟩)(hg:o.guard=io)(G:ty t=dl e)(hk:e.k= .aR (.slice u))(J:ty tu=dl Z)(C:Z.k= .aR .string)(hu:ty u=dl eu)
  (hx:ev s.f x= .sl i 0 len 1) (hi:s.h.get i=dl (.bA l u)) (F:eu.size=1) (B:eu.bytes=1) (hz:eu.zero= .int .u8 0)
  (D:ev s.f y= .iv (.v (.string b))) (hd:o.dst=dl d) (hlt:TU d nt=is) (j:l.length=len) (A:len+b.size<=140737488355328)
  (h:GO P nt (.ops all rest::k) Q ⟨(d,.sl s.nx 0 (l++b.data.toList).length 1)::s.f,(s.nx,dl (.bA (l++b.data.toList) u))::(i,io)::s.h,s.nx+1⟩):GO P nt (.ops all (o::rest)::k) Q s:=by
 have e:(l++b.data.toList).length=len+b.size:=by rw[Tn,j];simp
 rw[e]at h
 exact bF hg (JE Y ho G hk J C hu hx hi j F B hz D A (s':=⟨(d,.sl s.nx 0 (len+b.size) 1)::s.f,(s.nx,dl (.bA (l++b.data.toList) u))::(i,io)::s.h,s.nx+1⟩) (by
  simp only[putDst,sS,hd,hlt,cond_true,dO])) fun t G=>by subst G;exact h
theorem Fy{o:Oper}{G:Operand}(ho:o.op= .next G is){i:Nat}(J:ev s.f G= .ptr i 0){b:ByteArray}{a0:Nat}(hi:s.h.get i=dl (.dQ b a0)){d:Nat}(hd:o.dst=dl d)(hlt:TU d nt=is):
  OT P nt o s (fun t=>(b.size<=a0∧t=⟨(d,.aZ [.kb jp])::s.f,s.h,s.nx⟩)∨
   (a0<b.size∧t=⟨(d,.aZ [.kb is,.iv (.v (.int .i64 (a0:Nat))),.iv (.v (.int .i32 (Utf8.decode b a0).1))])::s.f,(i,dl (.dQ b (a0+(Utf8.decode b a0).2)))::s.h,s.nx⟩)):=by
 intro M N a w F K Z hk;have Y:=aJ F.2.1 G;rw[J]at Y;have A:w.heap[N.aC i]? =dl (.stringIter b a0):=F.1.obj i _ hi;have B:N.aC i<w.heap.size:=(Uf.1 A).1;have C:d<nt:=Tk hlt;have D:a.eval G= .pointer (dl ⟨N.aC i,0,io⟩):=by
  generalize a.eval G=y at Y;cases Y;rfl
 unfold Oper.wp;by_cases u:a0<b.size
 .have x:(execOp a.eval o).run P w= .ok (.value (.tuple #[.bool is,.int .i64 (a0:Nat),.int .i32 (Utf8.decode b a0).1])) {w with heap:=w.heap.setIfInBounds (N.aC i) (.stringIter b (a0+(Utf8.decode b a0).2))}:=by
   simp only[execOp,ho,D];simp[Instr.next,getObj,setObj,Sem.run,A,u,Result.andThen,goInt]
  rw[x];simp only[Oper.upon]
  obtain⟨q1,q2⟩:=F.1.write hi I {w with heap:=w.heap.setIfInBounds (N.aC i) (.stringIter b (a0+(Utf8.decode b a0).2))} (.dQ b (a0+(Utf8.decode b a0).2)) I I I (by simp) (fun c hc=>by
   show(w.heap.setIfInBounds _ _)[c]? =_
   rw[Ua,be (fun e=>hc e.symm)]) (by
   show(w.heap.setIfInBounds _ _)[_]? =_
   rw[Ua,am I,am B])
  refine hk M N _ _ _ q1 ?_ (.inr ⟨u,rfl⟩);rw[hd];refine Fits.put (s:=⟨s.f,(i,dl (.dQ b (a0+(Utf8.decode b a0).2)))::s.h,s.nx⟩) ⟨q2,F.2⟩ d _ _ C (.aZ _ _ I fun q p u=>?_)
  match q with
  |0=>simp at u;subst u;exact .kb _
  |1=>simp at u;subst u;exact .iv _ _ (.v _)
  |2=>simp at u;subst u;exact .iv _ _ (.v _)
  |q+3=>simp at u
 .have x:(execOp a.eval o).run P w= .ok (.value (.tuple #[.bool jp])) w:=by
   simp only[execOp,ho,D];simp[Instr.next,getObj,Sem.run,A,u,Result.andThen]
  rw[x];simp only[Oper.upon];refine hk M N ⟨(d,.aZ [.kb jp])::s.f,s.h,s.nx⟩ _ w (.refl _ _ _ _ _) ?_ (.inl ⟨by omega,rfl⟩);rw[hd]
  exact F.put d _ _ C (.aZ _ _ I fun j p u=>by
    match j with
    |0=>simp at u;subst u;exact .kb _
    |j+1=>simp at u)
theorem ly{all rest:List Oper}{o:Oper}{u:Operand}{i:Nat}{b:ByteArray}{a0 d:Nat}(ho:o.op= .next u is)(hg:o.guard=io)(j:ev s.f u= .ptr i 0)(hi:s.h.get i=dl (.dQ b a0))(hd:o.dst=dl d)(hlt:TU d nt=is)
  (h1:b.size<=a0->GO P nt (.ops all rest::k) Q ⟨(d,.aZ [.kb jp])::s.f,s.h,s.nx⟩)
  (x:a0<b.size->GO P nt (.ops all rest::k) Q ⟨(d,.aZ [.kb is,.iv (.v (.int .i64 (a0:Nat))),.iv (.v (.int .i32 (Utf8.decode b a0).1))])::s.f,(i,dl (.dQ b (a0+(Utf8.decode b a0).2)))::s.h,s.nx⟩):
  GO P nt (.ops all (o::rest)::k) Q s:=by
 refine bF hg (Fy ho j hi hd hlt) fun t y=>?_;rcases y with⟨g1,rfl⟩|⟨g1,rfl⟩
 .exact h1 g1
 .exact x g1
theorem w6(B:bE P ty){all rest:List Oper}{o:Oper}{x:Operand}{t d:Nat}{b:ByteArray}{e:bJ}(ho:o.op= .range t x)(hg:o.guard=io)(A:ty t=dl e)(Y:e.k= .aR .string)(Z:ev s.f x= .iv (.v (.string b)))(hd:o.dst=dl d)(hlt:TU d nt=is)
  (h:GO P nt (.ops all rest::k) Q ⟨(d,.ptr s.nx 0)::s.f,(s.nx,dl (.dQ b 0))::s.h,s.nx+1⟩):GO P nt (.ops all (o::rest)::k) Q s:=by
 have C:P.underlying t=dl .string:=by
  have:=(B t _ A).2.1;rw[Y]at this;exact this.1
 refine bF (R:=fun t=>t=⟨(d,.ptr s.nx 0)::s.f,(s.nx,dl (.dQ b 0))::s.h,s.nx+1⟩) hg (OT.value (s1:=newObj s (.dQ b 0)) (p:= .ptr s.nx 0) (by cases s;simp only[putDst,newObj,hd,hlt,cond_true,dO]) fun M N a w y=>?_) fun t A=>by subst A;exact h
 have j:=aJ y.2.1 x;rw[Z]at j;have D:a.eval x= .string b:=by
  generalize a.eval x=v at j;cases j with
  |iv _ _ h=>cases h;rfl
 obtain⟨u,G,h2,h3,F,J⟩:=y.1.alloc (.stringIter b 0) (.dQ b 0) 0 (fun u g1 g2 g3=>by
  show(w.alloc _).heap[u.aC s.nx]? =_
  rw[g1];exact heap_alloc_new w _)
 refine⟨.pointer (dl ⟨w.heap.size,0,io⟩),_,M,u,?_,F,dZ y F J,?_⟩
 .simp only[execOp,ho,D];simp[Instr.range,run_underlying C]
 .have:=VR.ptr (M:=M) (N:=u) (U:=(· <s.nx+1)) s.nx 0 (by omega);rw[G]at this;exact this
end
section
variable {P:Program} {ty:Ty} {nt:NT} {s:AS} {Q:AQ} {k:List KI}
theorem w7(b0:bE P ty){all rest:List Oper}{o:Oper}{x:Operand}{t t' u d:Nat}{b:ByteArray}{et d0 eu:bJ}(ho:o.op= .convert t t' x)(hg:o.guard=io)(ht:ty t=dl et)(hk:et.k= .aR .string)(l0:ty t'=dl d0)(i0:d0.k= .aR (.slice u))(hu:ty u=dl eu)(j0:eu.k= .aR (.int .u8))
  (hx:ev s.f x= .iv (.v (.string b))) (hd:o.dst=dl d) (hlt:TU d nt=is) (hb:b.size<=1000000000)
  (h:GO P nt (.ops all rest::k) Q ⟨(d,.iv (.bU 1 b.data.toList.length fun k=>bb (b.data.toList.getD k co)))::s.f,s.h,s.nx⟩):GO P nt (.ops all (o::rest)::k) Q s:=by
 have hs:P.underlying t=dl .string:=by have:=(b0 t _ ht).2.1;rw[hk]at this;exact this.1
 have k0:P.underlying t'=dl (.slice u):=by have:=(b0 t' _ l0).2.1;rw[i0]at this;exact this.1
 have m0:P.underlying u=dl (.int .u8):=by have:=(b0 u _ hu).2.1;rw[j0]at this;exact this.1
 refine bF (R:=fun t=>t=⟨(d,.iv (.bU 1 b.data.toList.length fun k=>bb (b.data.toList.getD k co)))::s.f,s.h,s.nx⟩) hg (OT.value (s1:=s) (p:= .iv (.bU 1 b.data.toList.length fun k=>bb (b.data.toList.getD k co))) (by cases s;simp only[putDst,hd,hlt,cond_true,dO]) fun M N a w D=>?_) fun t ht=>by subst ht;exact h
 have c0:=aJ D.2.1 x;rw[hx]at c0;have n0:a.eval x= .string b:=by
  generalize a.eval x=v at c0;cases c0 with
  |iv _ _ h=>cases h;rfl
 have Y:=Go.run_bytes_of_string (P:=P) w t t' u b hs k0 m0;generalize hC:bytesRow b (grownCap w b.size 0 u)=C at Y;have B:M w.heap.size=io:=by
  cases hm:M w.heap.size with
  |none=>rfl
  |some c=>exact absurd (D.1.ey _ _ hm).lt (WV _)
 have F: ∀c,c<w.heap.size->(w.drew.alloc (.cells C u (C.size,C.size+1))).heap[c]? =w.heap[c]? :=fun c A=>by
  show(w.heap.push _)[c]? =_;rw[VF,be (by omega)]
 have hnew:(w.drew.alloc (.cells C u (C.size,C.size+1))).heap[w.heap.size]? =dl (.cells C u (C.size,C.size+1)):=by
  show(w.heap.push _)[w.heap.size]? =_;simp
 have e0: ∀j,j<b.data.toList.length->C[j]? =dl (.int .u8 ((b.data.toList.getD j co).toNat:Int)):=by
  intro j hj;have Z:j<b.data.size:=by simpa using hj
  rw[<-hC];simp only[bytesRow];rw[T6 (by simpa using Z)];simp[Tr];exact⟨b.data[j],Uq Z,by rw[Uq Z];rfl⟩
 have G:=grownCap_ge w b.size 0 u;refine⟨.slice (dl ⟨w.heap.size,0,io⟩) b.size (grownCap w b.size 0 u),w.drew.alloc (.cells C u (C.size,C.size+1)),M.set w.heap.size (.cells C) B,N,?_,?_,?_,?_⟩
 .simp only[execOp,ho,n0];rw[Sem.run_bind,Y];rfl
 .have q1:M.le (M.set w.heap.size (.cells C) B):=fun c e A=>by
   simp only[Mem.set];rw[be fun e2=>by rw[e2,B]at A;cases A];exact A
  have q2: ∀c e,M c=io->(M.set w.heap.size (.cells C) B) c=dl e->w.heap.size<=c∨ ∃i o,s.h.get i=dl o∧o.real=is∧N.aC i=c:=fun c e h1 h2=>by
   simp only[Mem.set]at h2;by_cases he:c=w.heap.size
   .exact .inl (by omega)
   .rw[be he,h1]at h2;cases h2
  exact⟨rfl,rfl,⟨rfl,Vg _⟩,(by show w.heap.size<=(w.heap.push _).size;simp),fun c A _=>F c A,q1,q2,.refl _ _,fun _ h=>h,fun i o J y=> .inr ⟨i,o,J,y,rfl⟩⟩
 .have f0:M.le (M.set w.heap.size (.cells C) B):=fun c e A=>by
   simp only[Mem.set];rw[be fun e2=>by rw[e2,B]at A;cases A];exact A
  refine⟨⟨fun c e A=>?_,D.1.used,fun i o J y=>?_,fun i o J=>?_,D.1.inj⟩,fun i=>(D.2.1 i).mono f0 (.refl _ _) fun _ h=>h,D.2.2⟩
  .simp only[Mem.set]at A;by_cases he:c=w.heap.size
   .rw[am he]at A;cases A;exact⟨u,(C.size,C.size+1),by rw[he];exact hnew⟩
   .rw[be he]at A;exact(D.1.ey c e A).mono (F c (D.1.ey c e A).lt)
  .simp only[Mem.set];have:=D.1.lt J y;rw[be (by omega)];exact D.1.dI i o J y
  .cases y:o.real with
   |true=>exact(D.1.obj i o J).mono f0 (.refl _ _) (fun _ h=>h) (D.1.used i o J) (F _ (D.1.lt J y))
   |false=>
    cases o with
    |row sz es=>cases es with
     |nil=>exact .inl I
     |cons=>cases y
    |bA l T=>cases l with
     |nil=>exact .inl I
     |cons=>cases y
    |_=>cases y
 .have g0:b.data.toList.length=b.size:=by simp
  rw[<-g0]at G ⊢;by_cases h0:b.data.toList.length=0
  .rw[h0];exact .iv _ _ (.fN _ _ _ _)
  .refine .iv _ _ (.bU _ _ _ _ _ _ (by omega) (grownCap_le_maxLen w _ _ _ (by simp only[maxLen];omega)) (fun _ _=>rfl) (fun k j hk hj=>?_) (fun k j p hk hp=>?_))
   .have a0:j=0:=by omega
    subst a0;have:=e0 k hk;simp only[Mem.cell,Mem.set,if_true,TL,VP,Vd,this,Option.isSome_some]
   .have a0:j=0:=by
     have:=(Tp.1 hp).1;simp[bb]at this;exact this
    subst a0;cases hp;have:=e0 k hk;simp only[Mem.cell,Mem.set,if_true,TL,VP,Vd,this,UI];exact .v _
theorem KF(C:bE P ty)(l:List UInt8){all rest:List Oper}{o:Oper}{x:Operand}{t D u d i n:Nat}{es:List (List PV)}{et G eu:bJ}(ho:o.op= .convert t D x)(hg:o.guard=io)(ht:ty t=dl et)(hk:et.k= .aR (.slice u))(g0:ty D=dl G)(d0:G.k= .aR .string)(hu:ty u=dl eu)(e0:eu.k= .aR (.int .u8))
  (hx:ev s.f x= .sl i 0 n 1) (hi:s.h.get i=dl (.row 1 es)) (hd:o.dst=dl d) (hlt:TU d nt=is) (hes:es=l.map fun x=>(bb x).map .iv) (hn:n=l.length)
  (h:GO P nt (.ops all rest::k) Q ⟨(d,.iv (.v (.string ⟨l.toArray⟩)))::s.f,s.h,s.nx⟩):GO P nt (.ops all (o::rest)::k) Q s:=by
 have hs:P.underlying D=dl .string:=by have:=(C D _ g0).2.1;rw[d0]at this;exact this.1
 have a0:P.underlying t=dl (.slice u):=by have:=(C t _ ht).2.1;rw[hk]at this;exact this.1
 have b0:P.underlying u=dl (.int .u8):=by have:=(C u _ hu).2.1;rw[e0]at this;exact this.1
 subst hn;subst hes;refine bF (R:=fun t=>t=⟨(d,.iv (.v (.string ⟨l.toArray⟩)))::s.f,s.h,s.nx⟩) hg (OT.value (s1:=s) (p:= .iv (.v (.string ⟨l.toArray⟩))) (by cases s;simp only[putDst,hd,hlt,cond_true,dO]) fun M N a w hf=>?_) fun t ht=>by subst ht;exact h
 have A:=aJ hf.2.1 x;rw[hx]at A;have Z:(convert t D (a.eval x)).run P w= .ok (.string ⟨l.toArray⟩) w:=by
  generalize a.eval x=v at A;cases hor:l with
  |nil=>
   rw[hor]at A;generalize F:PV.sl i 0 ([]:List UInt8).length 1=q at A;cases A with
   |sl _ _ _ _ _ _ h0=>cases F;simp at h0
   |lK _ _ _=>
    have:=run_convert_bytes_nil (P:=P) w t u a0 b0 0 0 D hs;exact this
   |_=>cases F
  |cons x0 r0=>
   rw[<-hor];have Y:0<l.length:=by rw[hor];simp
   generalize f0:l.length=n at A Y;generalize F:PV.sl i 0 n 1=q at A;cases A with
   |sl _ _ _ _ cap hU h0 hl hc he=>
    cases F;rcases hf.1.obj i _ hi with B|⟨_,c,T,q1,q2,q3,q4,q5⟩
    .rw[hor]at B;cases B
    rw[U6,<-f0];refine run_convert_bytes_back (P:=P) w t D u ⟨N.aC i,0,io⟩ cap l a0 b0 hs fun j hj=>?_;rw[dp,TL];have J:j<c.size:=by rw[T2]at q3;omega
    have:=q5 j [.iv (.v (.int .u8 (l[j].toNat:Int)))] 0 _ (by rw[Tu,Ts hj];rfl) I;rw[VP,Vd,Tl,Uq J,UI]at this;simp only[World.cell?,q1];generalize c0:c[j]=y at this;cases this with
    |iv _ _ h=>cases h;simp[J,c0]
   |lK _ _ _=>cases F;omega
   |_=>cases F
 exact⟨_,w,M,N,by simp only[execOp,ho];exact aY Z,.refl _ _ _ _ _,hf,.iv _ _ (.v _)⟩
theorem tj(y:bE P ty){all rest:List Oper}{o:Oper}{x:Operand}{t A d:Nat}{q Y:IntKind}{n:Int}{G u:bJ}(ho:o.op= .convert t A x)(hg:o.guard=io)(C:ty t=dl G)(hk:G.k= .aR (.int q))(D:ty A=dl u)(B:u.k= .aR .string)
  (hx:ev s.f x= .iv (.v (.int Y n))) (hd:o.dst=dl d) (hlt:TU d nt=is)
  (h:GO P nt (.ops all rest::k) Q ⟨(d,.iv (.v (.string (Utf8.encode n))))::s.f,s.h,s.nx⟩):GO P nt (.ops all (o::rest)::k) Q s:=by
 have hs:P.underlying A=dl .string:=by have:=(y A _ D).2.1;rw[B]at this;exact this.1
 have Z:P.underlying t=dl (.int q):=by have:=(y t _ C).2.1;rw[hk]at this;exact this.1
 refine bF (R:=fun t=>t=⟨(d,.iv (.v (.string (Utf8.encode n))))::s.f,s.h,s.nx⟩) hg (OT.value (s1:=s) (p:= .iv (.v (.string (Utf8.encode n)))) (by cases s;simp only[putDst,hd,hlt,cond_true,dO]) fun M N a w J=>?_) fun t C=>by subst C;exact h
 have j:=aJ J.2.1 x;rw[hx]at j;have F:a.eval x= .int Y n:=by
  generalize a.eval x=v at j;cases j with
  |iv _ _ h=>cases h;rfl
 refine⟨_,w,M,N,?_,.refl _ _ _ _ _,J,.iv _ _ (.v _)⟩;simp only[execOp,ho,F];refine aY ?_;simp[convert,run_underlying Z,run_underlying hs,Conv.intToString]
end
section
variable {P:Program} {ty:Ty} {nt:NT} {Q:AQ} {k:List KI} {s:AS}
theorem Bd(p0:bE P ty){o:Oper}{t:TypeId}{a x:Operand}(ho:o.op= .store t a x)(hd:o.dst=io){i sz q:Nat}{e:bJ}(he:ty t=dl e)(w0:e.size=sz){es:List (List PV)}{xs:List PV}
  (ha:ev s.f a= .c6 i sz q 0) (hi:s.h.get i=dl (.row sz es)) (hq:q<es.length) (s0:(ev s.f x).cells=dl xs) (e0:xs.length=sz) (b0:eM xs=is):
  OT P nt o s (fun u=>u=⟨s.f,(i,dl (.row sz (es.set q xs)))::s.h,s.nx⟩):=by
 have hp:putDst nt o .any ⟨s.f,(i,dl (.row sz (es.set q xs)))::s.h,s.nx⟩=dl ⟨s.f,(i,dl (.row sz (es.set q xs)))::s.h,s.nx⟩:=by simp only[putDst,hd]
 refine OT.skip hp fun M N b w G=>?_;have hu:=aJ G.2.1 a;have hy:=aJ G.2.1 x;rw[ha]at hu;generalize q0:b.eval a=u at hu;generalize t0:b.eval x=y at hy
 have key: ∃w',(Instr.storeAt t u y).run P w= .ok () w'∧Ext M N (· <s.nx) s.h w M N (· <s.nx) ((i,dl (.row sz (es.set q xs)))::s.h) w'∧Fits M N ⟨s.f,(i,dl (.row sz (es.set q xs)))::s.h,s.nx⟩ nt b w':=by
  cases hu with
  |c6 _ _ _ _ hU=>
   obtain⟨hl,hv⟩:=nD hy s0;have x0:y.cells.size=sz:=by omega
   rcases G.1.obj i _ hi with h0|⟨h0,c,T,g1,g2,g3,g4,g5⟩
   .rw[h0]at hq;simp at hq
   have a0:(q+1)*sz<=es.length*sz:=TN _ hq;have v0:q*sz+sz<=c.size:=by rw[U4]at a0;omega
   have B: ∀z∈y.cells.toList,z.oneCell'=is:=by
    intro v r0;obtain⟨j,hj⟩:=UB r0;have j0:j<y.cells.toList.length:=(Tp.1 hj).1;have Z:xs[j]? =dl (xs[j]'(by simp at j0;omega)):=Ts _;have:=(hv j _ Z).one (iK b0 j _ Z);rw[Tl]at this;have g0:y.cells[j]? =dl v:=by simpa using hj
    rw[g0]at this;exact this
   have d0:=run_storeCells_at P (N.aC i) (q*sz) T y.cells.toList 0 c w g1 (by simp;omega) B;refine⟨w.setRow (N.aC i) (c.toList.take (q*sz+0)++y.cells.toList++c.toList.drop (q*sz+0+y.cells.toList.length)).toArray,?_,?_⟩
   .have C:=a7 (w:=w) (p0 t e he);have o0:y.cells.size=e.size:=by omega
    simp only[Instr.storeAt,Instr.sureAddr,pure_bind,storeVar,Sem.run_bind,C,Result.andThen_ok,o0,ne_eq,not_true_eq_false,if_false];exact d0
   .have c0:=setRow_heap w (N.aC i) c (c.toList.take (q*sz+0)++y.cells.toList++c.toList.drop (q*sz+0+y.cells.toList.length)).toArray T (0,0) g1;have m0: ∀b,b≠N.aC i->(w.setRow (N.aC i) (c.toList.take (q*sz+0)++y.cells.toList++c.toList.drop (q*sz+0+y.cells.toList.length)).toArray).heap[b]? =w.heap[b]? :=by
     intro b hb;simp only[World.setRow,T8];rw[be (fun e=>hb e.symm)]
    have n0:(AO.row sz es).real=is:=by cases es with
     |nil=>simp at hq
     |cons=>rfl
    have f0: ∀m,(c.toList.take (q*sz+0)++y.cells.toList++c.toList.drop (q*sz+0+y.cells.toList.length)).toArray.getD m undef=if q*sz<=m∧m<q*sz+sz then y.cells.getD (m-q*sz) undef else c.getD m undef:=by
     intro m;rw[Tl,Tl,Tl];have k0:y.cells.toList.length=sz:=by simp;omega
     split
     .rename_i hm;have e1:(c.toList.take (q*sz+0)++y.cells.toList++c.toList.drop (q*sz+0+y.cells.toList.length)).toArray[m]? =y.cells[m-q*sz]? :=by
       simp only[Ul];rw[TG (by simp;omega),TI (by simp;omega)];simp only[TY,VX,T5];congr 1;omega
      rw[e1]
     .rename_i hm;have e1:(c.toList.take (q*sz+0)++y.cells.toList++c.toList.drop (q*sz+0+y.cells.toList.length)).toArray[m]? =c[m]? :=by
       simp only[Ul];rcases Un m (q*sz) with k1|k1
       .rw[Tz,TG (by simp;omega),T4,am (by omega),T5]
       .rw[TI (by simp;omega),Uz,T5];congr 1;simp;omega
      rw[e1]
    have:=G.1.write hi n0 (w.setRow (N.aC i) (c.toList.take (q*sz+0)++y.cells.toList++c.toList.drop (q*sz+0+y.cells.toList.length)).toArray) (.row sz (es.set q xs)) I I I (by simp) m0
     (.inr ⟨h0,_,T,c0,by simp;omega,by simp;omega,fun D Y d=>?_,fun D Y J p2 d F=>?_⟩)
    .exact⟨this.1,this.2,G.2.1,G.2.2⟩
    .rw[U9]at d;split at d
     .cases d;exact e0
     .exact g4 D Y d
    .rw[f0];rw[U9]at d;split at d
     .rename_i A;subst A;cases d;have i0:J<sz:=by rw[<-e0];exact(Tp.1 F).1
      rw[am (by omega),show q*sz+J-q*sz=J by omega];exact hv J p2 F
     .rename_i A;have i0:J<sz:=by rw[<-g4 D Y d];exact(Tp.1 F).1
      rw[be ?_]
      .exact g5 D Y J p2 d F
      .intro⟨e1,Y⟩;rcases Nat.lt_trichotomy q D with l0|heq|hgt
       .have:(q+1)*sz<=D*sz:=TN _ l0;rw[U4]at this;omega
       .exact A heq
       .have:(D+1)*sz<=q*sz:=TN _ hgt;rw[U4]at this;omega
 obtain⟨w',h1,d,F⟩:=key;refine⟨w',M,N,?_,d,F⟩;simp only[execOp,ho];simp[q0,t0,h1]
end
theorem GW{P:Program}{nt:NT}{Q:AQ}{k:List KI}{s:AS}{c:Code}(i:Nat){sz:Nat}{es:List (List PV)}(el:Nat->List IV)(hi:s.h.get i=dl (.row sz es))(a0: ∀k e,es[k]? =dl e->e=(el k).map .iv)
  (hf:s.f.iw i sz es.length) (hh:s.h.yk i sz es.length) (h:GO P nt (.code c::k) Q ⟨s.f.jn i sz el,(i,io)::s.h.gx i sz el,s.nx⟩):GO P nt (.code c::k) Q s:=by
 intro M N a w u;obtain⟨M',B,x,h4⟩:=qA u.1 hi a0;have F: ∀j o,AH.get ((i,io)::s.h.gx i sz el) j=dl o-> ∃p,AH.get ((i,io)::s.h) j=dl p∧s.h.get j=dl p∧o=p.gx i sz el:=by
  intro j o y;obtain⟨g1,g2⟩:=ba j o y;rw[AH.nY,Tw]at g2;obtain⟨p,g3,g4⟩:=g2;exact⟨p,by rw[AH.ax,be g1];exact g3,g3,g4.symm⟩
 have hE:Ext M N (· <s.nx) s.h w M' N (· <s.nx) ((i,io)::s.h.gx i sz el) w:=⟨B.os,B.tape,B.output,B.size,B.eU,B.mz,B.eT,B.nm,B.ule,fun j o y A=>by
  obtain⟨p,g1,_,rfl⟩:=F j o y;rw[AO.iF]at A
  exact B.dY j p g1 A⟩
 have hR:Rel M' N (· <s.nx) ((i,io)::s.h.gx i sz el) w:=by
  refine⟨x.ey,fun j o y=>?_,fun j o y A=>?_,fun j o y=>?_,fun j k o p y hk ho J=>?_⟩
  .obtain⟨p,g1,_,rfl⟩:=F j o y;exact x.used j p g1
  .obtain⟨p,g1,_,rfl⟩:=F j o y;rw[AO.iF]at A;exact x.dI j p g1 A
  .obtain⟨p,g1,g2,rfl⟩:=F j o y;cases p with
   |cells cs T0=>
    obtain⟨c,T,q1,q2,q3,q4,q5⟩:=u.1.obj j _ g2;have D:=AH.lj hh j _ g2;refine⟨c,T,q1,q2,by simpa[eY]using q3,fun k q hq=>?_,q5⟩;rw[eY,Tu,Tw]at hq;obtain⟨q0,Z,rfl⟩:=hq;exact h4 _ _ (q4 k q0 Z) (fM D k q0 Z)
   |row s2 es2=>
    have D:=AH.lj hh j _ g2;rcases u.1.obj j _ g2 with rfl|⟨q0,c,T,q1,q2,q3,q4,q5⟩
    .exact .inl I
    .refine .inr ⟨q0,c,T,q1,q2,by simpa using q3,fun k e G=>?_,fun k e j2 p G J=>?_⟩
     .rw[Tu,Tw]at G;obtain⟨e0,C,rfl⟩:=G;rw[eY,T2];exact q4 k e0 C
     .rw[Tu,Tw]at G;obtain⟨e0,C,rfl⟩:=G;rw[eY,Tu,Tw]at J;obtain⟨p0,Y,rfl⟩:=J;exact h4 _ _ (q5 k e0 j2 p0 C Y) (fM (D e0 (Uv C)) j2 p0 Y)
   |bA=>exact x.obj j _ g1
   |fx=>exact x.obj j _ g1
   |map=>exact x.obj j _ g1
   |b5=>exact x.obj j _ g1
   |dQ=>exact x.obj j _ g1
   |om=>exact x.obj j _ g1
   |iZ=>exact x.obj j _ g1
   |fy=>exact x.obj j _ g1
  .obtain⟨o',g1,_,rfl⟩:=F j o y;obtain⟨p',g2,_,rfl⟩:=F k p hk;rw[AO.iF]at ho J;exact x.inj j k o' p' g1 g2 ho J
 have b0:Fits M' N ⟨s.f.jn i sz el,(i,io)::s.h.gx i sz el,s.nx⟩ nt a w:=⟨hR,fun d=>by
  rw[AF.jd];exact h4 _ _ (u.2.1 d) (AF.kB hf d),u.2.2⟩
 exact AW.then h b0 fun e a2 w2 M2 N2 s2 f0 c0 d0=>⟨M2,N2,s2,hE.trans f0,c0,d0⟩
abbrev eL(l:List UInt8):List (List PV):=l.map fun c=>(bb c).map .iv
theorem Hy(a b:List UInt8):eL (a++b)=eL a++eL b:=TA
section
variable {P:Program} {ty:Ty} {nt:NT} {s:AS} {Q:AQ} {k:List KI}
theorem JV{M:Mem}{N:Nm}{U:Nat->Prop}{w:World}{i:Nat}{l:List UInt8}:OR M N U w i (.row 1 (eL l))↔(l=[]∨ ∃c T,w.heap[N.aC i]? =dl (.cells c T (0,0))∧c.size=N.ext i∧l.length<=c.size∧ ∀(j:Nat) (x:UInt8),l[j]? =dl x->c.getD j undef= .int .u8 (x.toNat:Int)):=by
 constructor
 .rintro(h|⟨_,c,T,h1,h2,h3,h4,h5⟩)
  .exact .inl (by simpa using h)
  .refine .inr ⟨c,T,h1,h2,by simpa using h3,fun j x A=>?_⟩;have:=h5 j _ 0 _ (by rw[Tu,A];rfl) I;rw[VP,Vd]at this;generalize c.getD j undef=y at this;cases this with
   |iv _ _ h=>cases h;rfl
 .rintro(h|⟨c,T,h1,h2,h3,h4⟩)
  .exact .inl (by simp[h])
  .refine .inr ⟨by decide,c,T,h1,h2,by simpa using h3,fun k e d=>?_,fun k e j p d u=>?_⟩
   .rw[Tu,Tw]at d;obtain⟨x,_,rfl⟩:=d;rfl
   .rw[Tu,Tw]at d;obtain⟨x,A,rfl⟩:=d
    match j,u with
    |0,u=>
     cases u;rw[VP,Vd,h4 k x A];exact .iv _ _ (.v _)
theorem nO{i:Nat}{l m:List UInt8}{M d:Mem}{N j:Nm}{a:Act}{w u:World}(hf:Fits M N s nt a w)(x:Ext M N (· <s.nx) s.h w d j (· <s.nx+1) ((s.nx,dl (.row 1 (eL (l++m))))::(i,io)::s.h) u)
  (hr:Rel d j (· <s.nx+1) ((s.nx,dl (.row 1 (eL (l++m))))::(i,io)::s.h) u):
  Ext M N (· <s.nx) s.h w d j (· <(gX s i 1 (eL l) (eL m)).nx) (gX s i 1 (eL l) (eL m)).h u∧Fits d j (gX s i 1 (eL l) (eL m)) nt a u:=by
 rw[Hy]at x hr;exact⟨x,hr,hf.2.1.ext x,hf.2.2⟩
theorem JF(v0:bE P ty){o:Oper}{x y:Operand}{t tu u:TypeId}(ho:o.op= .call ⟨.builtin .append, #[x,y], #[t,tu]⟩){e et eu:bJ}(ht:ty t=dl e)(hk:e.k= .aR (.slice u))(p1:ty tu=dl et)(k1:et.k= .aR .string)(hu:ty u=dl eu)
  {i len:Nat} {l:List UInt8} {b:ByteArray} (hx:ev s.f x= .sl i 0 len 1) (hi:s.h.get i=dl (.row 1 (eL l))) (B:l.length=len) (o1:eu.size=1) (i1:eu.bytes=1) (hz:eu.zero= .int .u8 0)
  (m1:ev s.f y= .iv (.v (.string b))) (w1:len+b.size<=140737488355328)
  {s':AS} (hp:putDst nt o (.sl s.nx 0 (len+b.size) 1) (gX s i 1 (eL l) (eL b.data.toList))=dl s'):OT P nt o s (fun t=>t=s'):=by
 refine OT.value hp fun M N a w G=>?_;obtain⟨⟨ii,f0,p0,o0,q0⟩,_⟩:=v0 u _ hu;rw[o1]at p0;rw[i1]at o0;rw[hz]at q0
 have j0:P.underlying t=dl (.slice u):=by
  have:=(v0 t _ ht).2.1;rw[hk]at this;exact this.1
 have i0:P.underlying tu=dl .string:=by
  have:=(v0 tu _ p1).2.1;rw[k1]at this;exact this.1
 have w0:=aJ G.2.1 x;rw[hx]at w0;have x0:=aJ G.2.1 y;rw[m1]at x0;have t1:a.eval y= .string b:=by
  generalize a.eval y=v at x0;cases x0 with
  |iv _ _ h=>cases h;rfl
 have d: ∀v w',(Builtin.append_ #[t,tu] o.type #[a.eval x,a.eval y]).run P w= .ok v w'->(execOp a.eval o).run P w= .ok (.value v) w':=by
  intro v w' h;simp only[execOp,ho,resolve];simp[invoke,builtin,h]
 rw[t1]at d;have x1:i<s.nx:=G.1.used i _ hi;have k0:s.nx≠i:=by omega
 have l1:=JV.1 (G.1.obj i _ hi);have Z:b.data.toList.length=b.size:=by simp
 have e0: ∀(j:Nat) (x:UInt8),b.data.toList[j]? =dl x->(Lib.strCells b).getD j undef= .int .u8 (x.toNat:Int):=by
  intro j x hx;simp only[Lib.strCells,Tr,Tu,hx,Ut,UI]
 have b0: ∀z:Array Value,(∀(j:Nat) (x:UInt8),l[j]? =dl x->z.getD j undef= .int .u8 (x.toNat:Int))->(∀j,j<b.size->z.getD (len+j) undef=(Lib.strCells b).getD j undef)->
   ∀(j:Nat) (x:UInt8),(l++b.data.toList)[j]? =dl x->z.getD j undef= .int .u8 (x.toNat:Int):=by
  intro z h1 h2 j x C;rcases Un j l.length with hk|hk
  .rw[TG hk]at C;exact h1 j x C
  .rw[TI hk]at C;have r0:j-l.length<b.size:=by rw[<-Z];exact(Tp.1 C).1
   have:=h2 _ r0;rw[e0 _ _ C,show len+(j-l.length)=j by omega]at this;exact this
 have Y: ∀(D:List Value) (a0:Nat),D.length=len->(∀(j:Nat) (x:UInt8),l[j]? =dl x->D.getD j undef= .int .u8 (x.toNat:Int))->len+b.size<=a0->a0<=maxLen->0<len+b.size->
   ∀z:Array Value,z=D.toArray++(Lib.strCells b).toArray++Builtin.zeroCells (Value.int .u8 0).cells (a0-(len+b.size))->
   ∃M' J,Ext M N (· <s.nx) s.h w M' J (· <(gX s i 1 (eL l) (eL b.data.toList)).nx) (gX s i 1 (eL l) (eL b.data.toList)).h (w.drew.alloc (.cells z u))∧Fits M' J (gX s i 1 (eL l) (eL b.data.toList)) nt a (w.drew.alloc (.cells z u))∧
    VR M' J (· <(gX s i 1 (eL l) (eL b.data.toList)).nx) (.sl s.nx 0 (len+b.size) 1) (.slice (dl ⟨w.heap.size,0,io⟩) (len+b.size) a0):=by
  intro D a0 b1 r1 m0 j1 s0 z z0;have v1:(Value.int IntKind.u8 0).cells.size=1:=rfl;have F:z.size=a0:=by
   rw[z0,UZ,UZ,size_zeroCells,v1];simp only[VC,b1,Lib.strCells_length];omega
  obtain⟨J,h1,h2,h3,h4,h5⟩:=G.1.drew.alloc (.cells z u) (.row 1 (eL (l++b.data.toList))) z.size (fun J g1 g2 g3=>by
   refine JV.2 (.inr ⟨z,u,by rw[g1];exact heap_alloc_new _ _,g2.symm,by rw[F,Tn,B,Z];omega,b0 z (fun j x C=>?_) (fun j C=>?_)⟩)
   .have z1:=(Tp.1 C).1;have e1:z.getD j undef=D.getD j undef:=by
     rw[z0,Tl,V1,T6 (by simp;omega),Tr];simp
    rw[e1];exact r1 j x C
   .rw[z0,Tl,T6 (by simp[Lib.strCells_length];omega),Vu (by simp;omega),Tr]
    simp[b1])
  have n1:=(h5.del i).swap (Ne.symm k0);have s1:=(((Ext.drew (M:=M) (N:=N) (U:=(· <s.nx)) (h:=s.h) (w:=w)).trans h4).del i).swap (Ne.symm k0);obtain⟨g1,g2⟩:=nO (l:=l) (m:=b.data.toList) G s1 n1;refine⟨M,J,g1,g2,?_⟩;have:=VR.sl (M:=M) (N:=J) (U:=(· <s.nx+1)) s.nx 0 (len+b.size) 1 a0 (by omega) s0 m0 j1 (by rw[h2,F];simp);rw[h1,U6]at this;exact this
 generalize a.eval x=vx at w0 d;cases w0 with
 |lK _ _ hU=>
  have he:l=[]:=Ud B;subst he;by_cases hm:b.size=0
  .have l0:b.data.toList=[]:=Ud (by rw[Z];exact hm);have A:=fT (P:=P) w t tu o.type u ii j0 i0 f0 io 0 0 (Tv _) b hm (.inl I);obtain⟨h1,h2⟩:=G.1.A8 1;obtain⟨g1,g2⟩:=nO (i:=i) (l:=[]) (m:=[]) G ((h1.del i).swap (Ne.symm k0)) ((h2.del i).swap (Ne.symm k0));rw[l0,hm];exact⟨_,w,M,N,d _ _ A,g1,g2,.lK _ _ (by simp only[gX];omega)⟩
  .have A:=run_append_nil_string (P:=P) w t tu o.type u ii (.int .u8 0) j0 i0 f0 q0 b (by omega) (by omega) (by rw[o0];omega);have e1:(b.data.map fun b=>Value.int .u8 b.toNat)=(Lib.strCells b).toArray:=by
    apply Array.ext';simp[Lib.strCells]
   rw[e1]at A;obtain⟨M',J,g1,g2,g3⟩:=Y [] (grownCap w b.size 0 u) I (by simp) (by simpa using grownCap_ge w b.size 0 u) (grownCap_le_maxLen w _ _ _ (by simp only[maxLen];omega)) (by omega) _ I;simp only[TL,T3,WZ] at*
   exact⟨_,_,M',J,d _ _ A,by simpa using g1,by simpa using g2,by simpa using g3⟩
 |sl _ _ _ _ a0 hU h0 hl hc hext=>
  rcases l1 with rfl|⟨cur,CT,q1,q2,q3,q4⟩
  .simp at B;omega
  have c0:(AO.row 1 (eL l)).real=is:=by cases l with
   |nil=>simp at B;omega
   |cons=>rfl
  rw[U6]at d;have n0:cur.size=a0:=by rw[q2,<-hext];omega
  by_cases hm:b.size=0
  .have l0:b.data.toList=[]:=Ud (by rw[Z];exact hm);have A:=fT (P:=P) w t tu o.type u ii j0 i0 f0 (dl ⟨N.aC i,0,io⟩) len a0 hl b hm (.inr ⟨_,_,rfl⟩)
   obtain⟨h1,h2⟩:=G.1.move hi c0 w (.row 1 (eL (l++ []))) I I I I (fun _ _=>rfl) (by
    rw[T1]
    exact JV.2 (.inr ⟨cur,CT,by simpa using q1,by simpa using q2,q3,q4⟩))
   obtain⟨g1,g2⟩:=nO (l:=l) (m:=[]) (i:=i) G h1 h2;rw[l0,hm];refine⟨_,w,M,_,d _ _ A,g1,g2,?_⟩;have:=VR.sl (M:=M) (N:=N.with s.nx (N.aC i) (N.ext i)) (U:=(· <s.nx+1)) s.nx 0 len 1 a0 (by omega) h0 hl hc (by simpa using hext);simpa[gX]using this
  .by_cases d0:len+b.size<=a0
   .have A:=ld (P:=P) w t tu o.type u ii j0 i0 f0 p0 CT (N.aC i) len a0 cur q1 b d0 (by omega);generalize hL:(cur.toList.take len++Lib.strCells b++cur.toList.drop (len+b.size)).toArray=L at A;have a1:L.size=cur.size:=by rw[<-hL];simp[Lib.strCells_length];omega
    have t0:=setRow_heap w (N.aC i) cur L CT (0,0) q1;have f1: ∀j,j<len->L.getD j undef=cur.getD j undef:=by
     intro j C;rw[<-hL,Tl,Tl];simp only[Ul];rw[Tz,TG (by simp;omega),T4,am C,T5]
    have d1: ∀j,j<b.size->L.getD (len+j) undef=(Lib.strCells b).getD j undef:=by
     intro j C;rw[<-hL,Tl,Tr];simp only[Ul];rw[TG (by simp[Lib.strCells_length];omega),TI (by simp;omega)];congr 2;simp;omega
    obtain⟨h1,h2⟩:=G.1.move hi c0 (w.setRow (N.aC i) L) (.row 1 (eL (l++b.data.toList))) I I I (by simp) (fun b hb=>by
      simp only[World.setRow,T8]
      rw[be (fun e=>hb e.symm)]) (by
     refine JV.2 (.inr ⟨L,CT,by simpa using t0,by rw[a1];simpa using q2,by rw[a1,n0,Tn,B,Z];omega,b0 L (fun j x C=>?_) d1⟩);rw[f1 j (by rw[<-B];exact(Tp.1 C).1)]
     exact q4 j x C)
    obtain⟨g1,g2⟩:=nO (l:=l) (m:=b.data.toList) (i:=i) G h1 h2;refine⟨_,_,M,_,d _ _ A,g1,g2,?_⟩;have:=VR.sl (M:=M) (N:=N.with s.nx (N.aC i) (N.ext i)) (U:=(· <s.nx+1)) s.nx 0 (len+b.size) 1 a0 (by omega) (by omega) d0 hc (by simpa using hext);simpa[gX]using this
   .have g0: ∀(j:Nat) (v:Value),(cur.toList.take len)[j]? =dl v->w.cell? ((⟨N.aC i,0,io⟩:Addr).add j)=dl v:=by
     intro j v hv;rw[T4]at hv;split at hv
     .rw[dp,TL];simp only[World.cell?,q1];simpa using hv
     .cases hv
    have A:=Lib.run_append_grow_string (P:=P) w t tu o.type u ii (.int .u8 0) j0 i0 f0 q0 ⟨N.aC i,0,io⟩ len a0 (cur.toList.take len) (by rw[p0];simp;omega) g0 b (by omega) (by omega)
     (by rw[o0];exact growslice_fits (by omega) (by omega))
    obtain⟨M',J,g1,g2,g3⟩:=Y (cur.toList.take len) (grownCap w (len+b.size) a0 u) (by simp;omega) (fun j x C=>by
      have:=q4 j x C;have r0:j<len:=by rw[<-B];exact(Tp.1 C).1
      rw[Tr,T4,am r0,T5]
      rw[Tl]at this;exact this) (grownCap_ge w _ _ _) (grownCap_le_maxLen w _ _ _ (by simp only[maxLen];omega)) (by omega) _ I
    exact⟨_,_,M',J,d _ _ A,g1,g2,g3⟩
end
section
variable {P:Program} {ty:Ty} {nt:NT} {s:AS}
theorem ph{M:Mem}{N:Nm}{a:Act}{w:World}(hf:Fits M N s nt a w){x:Operand}{k:IntKind}{n:Int}(h:ev s.f x= .iv (.v (.int k n))):a.eval x= .int k n:=by
 have d:=aJ hf.2.1 x;rw[h]at d;generalize a.eval x=v at d;cases d with
 |iv _ _ d=>cases d with
  |v=>rfl
theorem Rm(C:bE P ty){o:Oper}{t u:TypeId}{l c:Operand}(ho:o.op= .makeSlice t l c){e eu:bJ}(ht:ty t=dl e)(hk:e.k= .aR (.slice u))(hu:ty u=dl eu)
  {n m sz:Nat} {kl kc:IntKind} {ml nc:Int} (hl:ev s.f l= .iv (.v (.int kl ml))) (hc:ev s.f c= .iv (.v (.int kc nc))) (g0:ml=(m:Int)) (i0:nc=(n:Int)) (hn:0<n) (o0:n<=100000000000) (hb:eu.bytes*n<=281474976710656) (l0:eu.size=sz) (D:eu.zero.cells.size=sz) (k0:0<sz)
  {z:List PV} (hz:z=cy eu.zero) {p:PV} (B:(m=0∧p= .sl s.nx 1 0 sz)∨(m=n∧p= .sl s.nx 0 n sz))
  {s':AS} (hp:putDst nt o p (newObj s (.row sz (VQ n z)))=dl s'):OT P nt o s (fun t=>t=s'):=by
 refine OT.value hp fun M N a w J=>?_;subst hz l0 g0 i0;obtain⟨⟨ii,a0,b0,Z,c0⟩,_⟩:=C u _ hu
 have m0:P.underlying t=dl (.slice u):=by
  have:=(C t _ ht).2.1;rw[hk]at this;exact this.1
 have n0:m<=n:=by rcases B with⟨h,_⟩|⟨h,_⟩<;>omega
 have A:=run_make w t u ii eu.zero m0 a0 c0 kl kc (m:Int) (n:Int) (by omega) (by omega) (by rw[Z];omega) (by omega);rw[Tt,Tt,b0]at A;have F:(cy eu.zero).length=eu.size:=by rw[(ft (M:=M) (N:=N) (U:=(· <s.nx)) eu.zero).1,D]
 have y: ∀(k:Nat) (e:List PV),(VQ n (cy eu.zero))[k]? =dl e->k<n∧e=cy eu.zero:=by
  intro k e d;rw[List.getElem?_replicate]at d;split at d
  .exact⟨by assumption,by simpa using d.symm⟩
  .cases d
 obtain⟨G,h1,h2,h8,h9,Y⟩:=J.1.alloc (.cells (madeCells eu.zero.cells (n*eu.size)) u) (.row eu.size (VQ n (cy eu.zero))) (n*eu.size) (fun G g1 g2 g3=>
  .inr ⟨k0,_,u,by rw[g1];exact heap_alloc_new w _,by rw[size_madeCells,g2],by rw[size_madeCells,List.length_replicate];exact Tv _,fun k e d=>by rw[(y k e d).2,F],fun k e j p d hj=>by
   obtain⟨e0,rfl⟩:=y k e d;have d0:j<eu.size:=by rw[<-F];exact(Tp.1 hj).1
   have f0:k*eu.size+j<n*eu.size:=by
    have:(k+1)*eu.size<=n*eu.size:=TN _ e0;rw[Ug]at this;omega
   have h7:(madeCells eu.zero.cells (n*eu.size)).getD (k*eu.size+j) undef=eu.zero.cells.getD j undef:=by
    have hx:(Wu (n*eu.size))[k*eu.size+j]? =dl (k*eu.size+j):=by simp[f0]
    have hm:(k*eu.size+j) % eu.zero.cells.size=j:=by rw[D,V6,Nat.add_mul_mod_self_right,VU d0]
    rw[madeCells,Tl,Vw,hx];simp only[Ut,UI,hm];rw[Tl,getElem!_pos eu.zero.cells j (by omega),Uq (by omega)];rfl
   rw[h7];exact(ft eu.zero).2 j p hj⟩)
 refine⟨.slice (dl ⟨w.heap.size,0,io⟩) m n,_,M,G,?_,h9,dZ J h9 Y,?_⟩
 .simp only[execOp,ho,ph J hl,ph J hc];rw[Sem.run_bind,A];rfl
 .have j0:(newObj s (.row eu.size (VQ n (cy eu.zero)))).nx=s.nx+1:=by cases s;rfl
  rw[j0];have x:n<=maxLen:=by simp only[maxLen];omega
  rcases B with⟨rfl,rfl⟩|⟨rfl,rfl⟩
  .have:=VR.sle (M:=M) (N:=G) (U:=(· <s.nx+1)) s.nx eu.size n (by omega) x (by rw[h2]);rw[h1]at this;exact this
  .have:=VR.sl (M:=M) (N:=G) (U:=(· <s.nx+1)) s.nx 0 m eu.size m (by omega) hn (Tv _) x (by rw[h2,TL]);rw[h1,U6]at this;exact this
theorem OS(j:bE P ty){o:Oper}{t u:TypeId}{l c:Operand}(ho:o.op= .makeSlice t l c){e eu:bJ}(ht:ty t=dl e)(hk:e.k= .aR (.slice u))(hu:ty u=dl eu)
  {sz:Nat} (el:Nat->List IV) {Z kc:IntKind} {ml nc:Int} (hl:ev s.f l= .iv (.v (.int Z ml))) (hc:ev s.f c= .iv (.v (.int kc nc))) (C:ml=0) (D:nc=0)
  {s':AS} (hp:putDst nt o (.iv (.bU sz 0 el)) (newObj s (.row sz []))=dl s'):OT P nt o s (fun t=>t=s'):=by
 refine OT.value hp fun M N a w x=>?_;subst C D;obtain⟨⟨Y,A,b0,a0,B⟩,_⟩:=j u _ hu
 have F:P.underlying t=dl (.slice u):=by
  have:=(j t _ ht).2.1;rw[hk]at this;exact this.1
 have d:=run_make w t u Y eu.zero F A B Z kc 0 0 (by omega) (by omega) (by omega) (by omega);obtain⟨G,h1,h2,h8,J,y⟩:=x.1.alloc (.cells (madeCells eu.zero.cells ((0:Int).toNat*Y.size)) u) (.row sz []) 0 (fun G g1 g2 g3=> .inl I);refine⟨.slice (dl ⟨w.heap.size,0,io⟩) 0 0,_,M,G,?_,J,dZ x J y,.iv _ _ (.fN _ _ _ _)⟩;simp only[execOp,ho,ph x hl,ph x hc];rw[Sem.run_bind,d];rfl
theorem Pk(B:bE P ty){o:Oper}{t u:TypeId}{x hi:Operand}(ho:o.op= .slice t x io (dl hi) io){e eu:bJ}(ht:ty t=dl e)(J:e.k= .aR (.slice u))(hu:ty u=dl eu)
  {i n m sz:Nat} {kc:IntKind} {G:Int} (hx:ev s.f x= .sl i 0 n sz) (hh:ev s.f hi= .iv (.v (.int kc G))) (D:G=(m:Int)) (Z:m<=n) (hn:0<n)
  {p:PV} (F:(m=0∧p= .sl i 1 0 sz)∨(0<m∧p= .sl i 0 m sz)) {s':AS} (hp:putDst nt o p s=dl s'):OT P nt o s (fun t=>t=s'):=by
 refine OT.value hp fun M N a w C=>?_;subst D
 have y:P.underlying t=dl (.slice u):=by
  have:=(B t _ ht).2.1;rw[J]at this;exact this.1
 have j:P.elem t=u:=by simp[Program.elem,y]
 have A:=aJ C.2.1 x;rw[hx]at A;generalize hv:a.eval x=vx at A;cases A with
 |lK=>omega
 |sl _ _ _ _ cap hU h0 hl hc hext=>
  have d:=run_slice_h (P:=P) (w:=w) t (dl ⟨N.aC i,0*sz,io⟩) n cap (by rw[j];exact y) kc (m:Int) (by omega) (by omega);rw[j,a7 (B u _ hu)]at d;refine⟨sliced (dl ⟨N.aC i,0*sz,io⟩) 0 m cap eu.size,w,M,N,?_,.refl _ _ _ _ _,C,?_⟩
  .simp only[execOp,ho,hv,Ut,VA,ph C hh];refine aY ?_;rw[run_sliceAt_slice w t _ _ _ _ (by rw[j];exact y),d];rfl
  .rcases F with⟨rfl,rfl⟩|⟨Y,rfl⟩
   .have:=VR.sle (M:=M) (N:=N) (U:=(· <s.nx)) i sz cap hU hc (by rw[<-hext,TL]);simpa[sliced,Addr.add]using this
   .have:=VR.sl (M:=M) (N:=N) (U:=(· <s.nx)) i 0 m sz cap hU Y (by omega) hc hext;simpa[sliced,Addr.add]using this
theorem K8(g0:bE P ty){o:Oper}{x y:Operand}{t u:TypeId}(ho:o.op= .call ⟨.builtin .append, #[x,y], #[t,t]⟩){e eu:bJ}(ht:ty t=dl e)(hk:e.k= .aR (.slice u))(hu:ty u=dl eu)
  {i sz:Nat} {es news:List (List PV)} {py:PV} (hx:ev s.f x= .sl i 1 0 sz) (hi:s.h.get i=dl (.row sz es)) (t0:eu.size=sz) (a0:news.length<=es.length) (hm:0<news.length)
  (s0:ev s.f y=py) (hy:Src s.h sz py news) (c0: ∀e∈news,eM e=is)
  {s':AS} (hp:putDst nt o (.sl s.nx 0 news.length sz) (gX s i sz [] news)=dl s'):OT P nt o s (fun t=>t=s'):=by
 refine OT.value hp fun M N a w hf=>?_;subst t0;obtain⟨⟨ii,o0,Z,a1,b1⟩,_⟩:=g0 u _ hu
 have v0:P.underlying t=dl (.slice u):=by
  have:=(g0 t _ ht).2.1;rw[hk]at this;exact this.1
 have e0:=aJ hf.2.1 x;rw[hx]at e0;have k0:=aJ hf.2.1 y;rw[s0]at k0;obtain⟨D,ao,c,x0,J⟩:=hy.ok hf k0;have A: ∀v w',(Builtin.append_ #[t,t] o.type #[a.eval x,a.eval y]).run P w= .ok v w'->(execOp a.eval o).run P w= .ok (.value v) w':=by
  intro v w' h;simp only[execOp,ho,resolve];simp[invoke,builtin,h]
 rw[x0]at A;have F:(AO.row eu.size es).real=is:=by cases es with
  |nil=>exact absurd a0 (by simp only[UJ];omega)
  |cons=>rfl
 rcases hf.1.obj i _ hi with rfl|⟨hsz0,cur,T,q1,q2,q3,q4,q5⟩
 .cases F
 generalize a.eval x=vx at e0 A;cases e0 with
 |sl _ _ _ _ _ _ h0=>exact absurd h0 (WV _)
 |sle _ _ cap hU hc hext=>
  have C:cur.size=cap*eu.size:=by rw[q2,<-hext]
  have d:news.length<=cap:=by
   have:es.length*eu.size<=cap*eu.size:=by rw[<-C];exact q3
   have:=Nat.le_of_mul_le_mul_right this hsz0;omega
  obtain⟨b2,z0,m0,Y⟩:=J (List.ne_nil_of_length_pos hm);subst m0;obtain⟨vs,i0,w0,j0⟩:=nJ (s:=s) Y;have G:vs.length=news.length*eu.size:=by rw[i0,di D]
  have n0:vs.length<=cur.size:=by rw[G,C];exact TN _ d
  have b0: ∀v∈vs,v.oneCell'=is:=by
   intro v hv;obtain⟨j,hj⟩:=UB hv;have p0:j<news.flatten.length:=by rw[<-i0];exact(Tp.1 hj).1
   have hp:=Ts p0;obtain⟨k,e,i',h1,h2,_⟩:=lC D j _ hp;have:=(j0 j _ hp).one (iK (c0 e (Uv h1)) i' _ h2);rw[Tr,hj]at this;exact this
  have B:=iA (P:=P) (w:=w) t o.type u ii v0 o0 T (N.aC i) 0 cap cur q1 ⟨b2,z0,io⟩ news.length c vs (by rw[G,Z]) w0 b0 (by omega) (by rw[Z];omega);rw[Z]at B;generalize hL:(cur.toList.take (0*eu.size)++vs++cur.toList.drop (0*eu.size+vs.length)).toArray=L at B;rw[TL]at B;have f0:L.size=cur.size:=by rw[<-hL];simp;omega
  have d0:=setRow_heap w (N.aC i) cur L T (0,0) q1;have l0: ∀j,j<vs.length->L.getD j undef=vs.getD j undef:=by
   intro j hj;rw[<-hL,Tl,Tr];simp only[Ul];rw[TG (by simp;omega),TI (by simp)];simp
  obtain⟨h1,h2⟩:=hf.1.move hi F (w.setRow (N.aC i) L) (.row eu.size ([]++news)) I I I (by simp) (fun b hb=>by
    simp only[World.setRow,T8]
    rw[be (fun e=>hb e.symm)]) (by
   refine .inr ⟨hsz0,L,T,by simpa using d0,by rw[f0];simpa using q2,by rw[f0,C];exact TN _ d,fun k e he=>D _ e he,fun k e j p he hj=>?_⟩;have d1:j<eu.size:=by rw[<-D _ e he];exact(Tp.1 hj).1
   have q0:k<news.length:=(Tp.1 he).1;have r0:k*eu.size+j<vs.length:=by
    rw[G];have:(k+1)*eu.size<=news.length*eu.size:=TN _ q0;rw[Ug]at this;omega
   rw[l0 _ r0]
   exact(j0 _ p (jZ D _ e j p he hj)).mono (.refl _) (N.dB _ _ _) (fun i hi=>by omega))
  obtain⟨g1,g2⟩:=im (es:=[]) (news:=news) (i:=i) hf h1 h2;refine⟨_,_,M,_,A _ _ B,g1,g2,?_⟩;have:=VR.sl (M:=M) (N:=N.with s.nx (N.aC i) (N.ext i)) (U:=(· <s.nx+1)) s.nx 0 news.length eu.size cap (by omega) hm d hc (by simpa using hext);rw[gB];simpa using this
section
variable {Q:AQ} {k:List KI} {all rest:List Oper} {o:Oper} {s':AS}
theorem MU(C:bE P ty){t u:TypeId}{l c:Operand}(n m:Nat)(hg:o.guard=io)(ho:o.op= .makeSlice t l c){e eu:bJ}(B:ty t=dl e)(G:e.k= .aR (.slice u))(hu:ty u=dl eu)
  {Z kc:IntKind} {F nc:Int} (J:ev s.f l= .iv (.v (.int Z F))) (hc:ev s.f c= .iv (.v (.int kc nc))) (d:F=(m:Int)) (x:nc=(n:Int)) (hn:0<n) (j:n<=100000000000) (hb:eu.bytes*n<=281474976710656) (D:eu.zero.cells.size=eu.size) (A:0<eu.size)
  {z:List PV} (Y:z=cy eu.zero) {p:PV} (y:(m=0∧p= .sl s.nx 1 0 eu.size)∨(m=n∧p= .sl s.nx 0 n eu.size))
  (hp:putDst nt o p (newObj s (.row eu.size (VQ n z)))=dl s') (h:GO P nt (.ops all rest::k) Q s'):GO P nt (.ops all (o::rest)::k) Q s:=
 bF hg (Rm C ho B G hu J hc d x hn j hb I D A Y y hp) fun t B=>by subst B;exact h
theorem GR(y:bE P ty){t u:TypeId}{l c:Operand}(sz:Nat)(el:Nat->List IV)(hg:o.guard=io)(ho:o.op= .makeSlice t l c){e eu:bJ}(x:ty t=dl e)(B:e.k= .aR (.slice u))(hu:ty u=dl eu)
  {D kc:IntKind} {A nc:Int} (C:ev s.f l= .iv (.v (.int D A))) (hc:ev s.f c= .iv (.v (.int kc nc))) (d:A=0) (j:nc=0)
  (hp:putDst nt o (.iv (.bU sz 0 el)) (newObj s (.row sz []))=dl s') (h:GO P nt (.ops all rest::k) Q s'):GO P nt (.ops all (o::rest)::k) Q s:=
 bF hg (OS y ho x B hu el C hc d j hp) fun t x=>by subst x;exact h
theorem tk(B:bE P ty){t u:TypeId}{x hi:Operand}{i n sz:Nat}(m:Nat)(hg:o.guard=io)(ho:o.op= .slice t x io (dl hi) io){e eu:bJ}(A:ty t=dl e)(D:e.k= .aR (.slice u))(hu:ty u=dl eu)
  {kc:IntKind} {C:Int} (F:ev s.f x= .sl i 0 n sz) (hh:ev s.f hi= .iv (.v (.int kc C))) (d:C=(m:Int)) (j:m<=n) (hn:0<n)
  {p:PV} (y:(m=0∧p= .sl i 1 0 sz)∨(0<m∧p= .sl i 0 m sz)) (hp:putDst nt o p s=dl s') (h:GO P nt (.ops all rest::k) Q s'):GO P nt (.ops all (o::rest)::k) Q s:=
 bF hg (Pk B ho A D hu F hh d j hn y hp) fun t A=>by subst A;exact h
theorem tm(C:bE P ty){x y:Operand}{t u:TypeId}(hg:o.guard=io)(ho:o.op= .call ⟨.builtin .append, #[x,y], #[t,t]⟩){e eu:bJ}(B:ty t=dl e)(D:e.k= .aR (.slice u))(hu:ty u=dl eu)
  {i:Nat} {es news:List (List PV)} {py:PV} (F:ev s.f x= .sl i 1 0 eu.size) (hi:s.h.get i=dl (.row eu.size es))
  (A:ev s.f y=py) (G:zg s.h eu.size py=dl news) (d:news.length<=es.length) (hm:0<news.length) (j: ∀e∈news,eM e=is)
  (hp:putDst nt o (.sl s.nx 0 news.length eu.size) (gX s i eu.size [] news)=dl s') (h:GO P nt (.ops all rest::k) Q s'):GO P nt (.ops all (o::rest)::k) Q s:=
 bF hg (K8 C ho B D hu F hi I d hm A (ku G) j hp) fun t B=>by subst B;exact h
end
section
variable {Q:AQ} {k:List KI} {all rest:List Oper} {o:Oper} {s':AS}
end
end
theorem dK.take{sz n:Nat}{es:List (List PV)}:dK (.row sz es) (.row sz (es.take n)):=by
 refine⟨fun h=>?_,fun M N U w i h=>?_⟩
 .cases es with
  |nil=>rw[List.take_nil]at h;exact h
  |cons=>rfl
 .rcases h with h|⟨u,c,T,x,y,A,B,C⟩
  .exact .inl (by rw[h,List.take_nil])
  .refine .inr ⟨u,c,T,x,y,Uh (TN _ (by rw[TY];omega)) A,fun k e d=>?_,fun k e j p d D=>?_⟩
   .rw[T4]at d;split at d
    .exact B k e d
    .cases d
   .rw[T4]at d;split at d
    .exact C k e j p d D
    .cases d
theorem jD{P:Program}{nt:NT}{Q:AQ}{k:List KI}{s:AS}{body:Code}{σ:Type}(i0 n:Nat)(u:i0<=n)(I:Nat->σ->AS)(J:Nat->σ->Prop)(y:σ)(A:List Nat)(D:J i0 y)(h0:Wk s.nx A s (I i0 y))
  (d: ∀i x,i<=n->J i x->GO P nt (.code body:: .lp (fun t=>i<n∧ ∃j L,J (i+1) j∧Wk s.nx L t (I (i+1) j))::k) Q (I i x)):GO P nt (.code (.loop body)::k) Q s:=by
 refine lA (σ:={p:Nat×σ//p.1<=n∧J p.1 p.2}) (fun p=>I p.1.1 p.1.2) (fun p=>n-p.1.1) ⟨(i0,y),u,D⟩ A h0 fun p=>?_;obtain⟨⟨i,x⟩,B,C⟩:=p;refine pg ?_ (d i x B C)
 rintro t ⟨h3,j,L,h4,h5⟩;exact⟨⟨(i+1,j),h3,h4⟩,L,by show n-(i+1)<n-i;omega,h5⟩
theorem GS{P:Program}{nt:NT}{Q:AQ}{k:List KI}{s:AS}{all rest:List Oper}(d:Nat){p:PV}(u:aj (s.f.get d) p)(h:GO P nt (.ops all rest::k) Q ⟨(d,p)::s.f,s.h,s.nx⟩):GO P nt (.ops all rest::k) Q s:=by
 intro M N a w j;refine h M N a w ⟨j.1,fun e=>?_,j.2.2⟩;rw[AF.ax];split
 .rename_i x;subst x;exact u M N _ _ (j.2.1 e)
 .exact j.2.1 e
theorem Ky{P:Program}{ty:Ty}{nt:NT}{Q:AQ}{k:List KI}{s:AS}(j:bE P ty){all rest:List Oper}{o:Oper}{t:TypeId}{x i:Operand}(p:PV)(ho:o.op= .lookup t x i jp)(hg:o.guard=io)
  {kc:KC} {V:Type} {e:V->IV} {z:V} {y:Value} {m:List (kc.K×V)} (C:ev s.f x= .iv (.eP kc e z y m)) {q:PV} (A:uF ty t jp kc e z y m (ev s.f i)=dl (q,True)) (B:q=p)
  {s':AS} (hp:putDst nt o p s=dl s') (h:GO P nt (.ops all rest::k) Q s'):GO P nt (.ops all (o::rest)::k) Q s:=by
 have d:iu ty s o.op=dl (p,True):=by
  rw[ho,<-B];simp only[iu,C];exact A
 exact bF hg (uf j d ac hp) fun u hu=>by subst hu;exact h
section
variable {P:Program} {nt:NT} {Q:AQ} {k:List KI} {s s':AS}
theorem eR{o:Oper}{p:PV}(u: ∀M N a w,Fits M N s nt a w-> ∃x,(execOp a.eval o).run P w= .ok (.value x) w∧VR M N (· <s.nx) p x)(hp:putDst nt o p s=dl s'):OT P nt o s (fun t=>t=s'):=by
 intro M N a w j K Z y;obtain⟨x,B,u⟩:=u M N a w j;unfold Oper.wp;rw[B];simp only[Oper.upon];cases hd:o.dst with
 |none=>
  have:=dx hp hd;subst this;exact y M N s' _ w (.refl _ _ _ _ _) j I
 |some d=>
  obtain⟨A,rfl⟩:=dw hp hd;exact y M N {s with f:=(d,p)::s.f} _ w (.refl _ _ _ _ _) (j.put d p x A u) I
theorem go_neg{all rest:List Oper}{o:Oper}{t:TypeId}{x:Operand}{c:Int}(hg:o.guard=io)(ho:o.op= .unOp .neg t x)(B:ev s.f x= .iv (.v (.int .i64 c)))(h1: -9223372036854775807<=c)(C:c<=9223372036854775807)
  (hp:putDst nt o (.iv (.v (.int .i64 (-c)))) s=dl s') (h:GO P nt (.ops all rest::k) Q s'):GO P nt (.ops all (o::rest)::k) Q s:=by
 refine bF hg (eR (p:= .iv (.v (.int .i64 (-c)))) (fun M N a w u=>?_) hp) fun t y=>by subst y;exact h
 have d:=aJ u.2.1 x;rw[B]at d;generalize j:a.eval x=v at d;cases d with
 |iv _ _ hi=>cases hi with
  |v=>
   refine⟨.int .i64 (-c),?_,.iv _ _ (.v _)⟩;unfold execOp;rw[ho];simp only[j];have A:IntKind.i64.wrap (0-c)= -c:=by rw[Int.zero_sub];exact IntWalk.i64_in _ (by constructor<;>omega)
   have e:(Op.unary UnOp.neg (.int .i64 c)).run P w= .ok (.int .i64 (IntKind.i64.wrap (0-c))) w:=rfl;rw[<-A];exact aY e
end
section
variable {P:Program} {ty:Ty} {nt:NT} {s:AS}
theorem ny(A:bE P ty)(l:List UInt8){o:Oper}{x:Operand}{t d u:TypeId}{el:Nat->List IV}{et D eu:bJ}(ho:o.op= .convert t d x)(ht:ty t=dl et)(hk:et.k= .aR (.slice u))(f0:ty d=dl D)(c0:D.k= .aR .string)(hu:ty u=dl eu)(d0:eu.k= .aR (.int .u8))
  {n:Nat} (hx:ev s.f x= .iv (.bU 1 n el)) (hn:n=l.length) (b0: ∀j,j<l.length->el j=bb (l.getD j 0)): ∀M N a w,Fits M N s nt a w-> ∃x,(execOp a.eval o).run P w= .ok (.value x) w∧VR M N (· <s.nx) (.iv (.v (.string ⟨l.toArray⟩))) x:=by
 intro M N a w hf;have hs:P.underlying d=dl .string:=by have:=(A d _ f0).2.1;rw[c0]at this;exact this.1
 have y:P.underlying t=dl (.slice u):=by have:=(A t _ ht).2.1;rw[hk]at this;exact this.1
 have B:P.underlying u=dl (.int .u8):=by have:=(A u _ hu).2.1;rw[d0]at this;exact this.1
 subst hn;have C:=aJ hf.2.1 x;rw[hx]at C;have G:(convert t d (a.eval x)).run P w= .ok (.string ⟨l.toArray⟩) w:=by
  generalize a.eval x=v at C;cases C with
  |iv _ _ hir=>
   generalize F:l.length=n at hir;cases hir with
   |fN _ _ a0 cap=>
    have e0:l=[]:=Ud F;subst e0;cases a0 with
    |none=>exact run_convert_bytes_nil (P:=P) w t u y B 0 cap d hs
    |some a1=>
     have h0:=run_convert_bytes_back (P:=P) w t d u a1 cap [] y B hs (fun j Y=>absurd Y (by simp));exact h0
   |bU _ _ _ b off cap hn hc hl hm hr=>
    rw[<-F];refine run_convert_bytes_back (P:=P) w t d u ⟨b,off,io⟩ cap l y B hs fun j Y=>?_;have J:=hr j 0 (.v (.int .u8 ((l.getD j 0).toNat:Int))) (by omega) (by rw[b0 j Y];rfl);have Z:=hm j 0 (by omega) (by omega);rw[VP,Vd]at J Z;have hg:l.getD j 0=l[j]:=by rw[Tr,Ts Y];rfl
    rw[hg]at J;cases hcl:M.cell b (off+j) with
    |none=>rw[hcl]at Z;cases Z
    |some v=>
     rw[hcl]at J;cases J with
     |v=>
      rw[dp];exact hf.1.Gu hcl
 exact⟨_,by simp only[execOp,ho];exact aY G,.iv _ _ (.v _)⟩
theorem KR{o:Oper}{t:TypeId}{x:Operand}{k:IntKind}{a:Int}(ho:o.op= .unOp .xor t x)(y:ev s.f x= .iv (.v (.int k a))):
  ∀M N c w,Fits M N s nt c w-> ∃x,(execOp c.eval o).run P w= .ok (.value x) w∧VR M N (· <s.nx) (.iv (.v (.int k (k.wrap ((BitVec.ofInt k.bits (if k.signed then-1 else k.max) ^^^ BitVec.ofInt k.bits a).toNat:Int))))) x:=by
 intro M N c w u;have d:=aJ u.2.1 x;rw[y]at d;generalize j:c.eval x=vx at d;cases d with
 |iv _ _ h1=>cases h1 with
  |v=>
   refine⟨_,?_,.iv _ _ (.v _)⟩;simp only[execOp,ho,j];refine aY ?_;rfl
end
section
variable {P:Program} {ty:Ty} {nt:NT} {s:AS}
theorem K6(s1:bE P ty){o:Oper}{x y:Operand}{t u:TypeId}(ho:o.op= .call ⟨.builtin .append, #[x,y], #[t,t]⟩){e eu:bJ}(ht:ty t=dl e)(hk:e.k= .aR (.slice u))(hu:ty u=dl eu)
  {i len sz:Nat} {es news:List (List PV)} {py:PV} (m2: ∀(M:Mem) (N:Nm) (a:Act) (w:World),Fits M N s nt a w->VR M N (· <s.nx) (.sl i 0 len sz) (a.eval x)) (hi:s.h.get i=dl (.row sz es)) (C:es.length=len) (i2:eu.size=sz) (hz:eu.zero.cells.size=sz) (f2:0<sz)
  (d2:ev s.f y=py) (hy:Src s.h sz py news) (j1: ∀e∈news,eM e=is) (hb:(len+news.length)*eu.bytes<=140737488355328) (o2:len+news.length<=140737488355328)
  {s':AS} (hp:putDst nt o (.sl s.nx 0 (len+news.length) sz) (gX s i sz es news)=dl s'):OT P nt o s (fun t=>t=s'):=by
 refine OT.value hp fun M N a w hf=>?_;subst i2;obtain⟨⟨ii,o0,t0,a2,p1⟩,_⟩:=s1 u _ hu
 have q0:P.underlying t=dl (.slice u):=by
  have:=(s1 t _ ht).2.1;rw[hk]at this;exact this.1
 have t1:=m2 M N a w hf;have v1:=aJ hf.2.1 y;rw[d2]at v1;obtain⟨G,ao,c,n2,c0⟩:=hy.ok hf v1;have A: ∀v w',(Builtin.append_ #[t,t] o.type #[a.eval x,a.eval y]).run P w= .ok v w'->(execOp a.eval o).run P w= .ok (.value v) w':=by
  intro v w' h;simp only[execOp,ho,resolve];simp[invoke,builtin,h]
 rw[n2]at A;have p2:i<s.nx:=hf.1.used i _ hi;have v0:s.nx≠i:=by omega
 have c2:=hf.1.obj i _ hi;have b0:(len+news.length)*ii.bytes<=140737488355328:=by rw[a2];exact hb
 have f0: ∀(D vs:List Value) (a0:Nat),D.length=es.length*eu.size->vs.length=news.length*eu.size->(∀(k:Nat) (e:List PV) (j:Nat) (p:PV),es[k]? =dl e->e[j]? =dl p->VR M N (· <s.nx) p (D.getD (k*eu.size+j) undef))->
   (∀(k:Nat) (e:List PV),es[k]? =dl e->e.length=eu.size)->(∀(j:Nat) (p:PV),news.flatten[j]? =dl p->VR M N (· <s.nx) p (vs.getD j undef))->len+news.length<=a0->a0<=maxLen->0<len+news.length->
   ∀z:Array Value,z=D.toArray++vs.toArray++Builtin.zeroCells eu.zero.cells (a0-(len+news.length))->
   ∃M' N',Ext M N (· <s.nx) s.h w M' N' (· <(gX s i eu.size es news).nx) (gX s i eu.size es news).h (w.drew.alloc (.cells z u))∧Fits M' N' (gX s i eu.size es news) nt a (w.drew.alloc (.cells z u))∧
    VR M' N' (· <(gX s i eu.size es news).nx) (.sl s.nx 0 (len+news.length) eu.size) (.slice (dl ⟨w.heap.size,0,io⟩) (len+news.length) a0):=by
  intro D vs a0 i1 J k2 o1 j2 j0 z1 k1 z m1;have e0:z.size=a0*eu.size:=by
   rw[m1,UZ,UZ,size_zeroCells,hz];simp only[VC,i1,J,C];rw[<-Ug,<-Ug,Nat.add_sub_cancel' j0]
  obtain⟨N',h1,h2,h3,h4,h5⟩:=hf.1.drew.alloc (.cells z u) (.row eu.size (es++news)) z.size (fun N' g1 g2 g3=>by
   refine .inr ⟨f2,z,u,by rw[g1];exact heap_alloc_new _ _,g2.symm,?_,fun k e d=>?_,fun k e j p d F=>?_⟩
   .rw[e0,Tn,C];exact TN _ j0
   .rcases Un k es.length with hk|hk
    .rw[TG hk]at d;exact o1 k e d
    .rw[TI hk]at d;exact G _ e d
   .rcases Un k es.length with hk|hk
    .rw[TG hk]at d;have d1:j<eu.size:=by rw[<-o1 k e d];exact(Tp.1 F).1
     have n0:k*eu.size+j<D.length:=by
      rw[i1];have:(k+1)*eu.size<=es.length*eu.size:=TN _ hk;rw[Ug]at this;omega
     have:=k2 k e j p d F;have e1:z.getD (k*eu.size+j) undef=D.getD (k*eu.size+j) undef:=by
      rw[m1,Tl,V1,T6 (by simpa using n0),Tr];simp
     rw[e1];exact this.mono (.refl _) g3 (fun i hi=>by omega)
    .rw[TI hk]at d;have d1:j<eu.size:=by rw[<-G _ e d];exact(Tp.1 F).1
     have f1:k-es.length<news.length:=(Tp.1 d).1;have b1:=jZ G _ e j p d F;have n0:(k-es.length)*eu.size+j<vs.length:=by
      rw[J];have:(k-es.length+1)*eu.size<=news.length*eu.size:=TN _ f1;rw[Ug]at this;omega
     have d0:k*eu.size+j=D.length+((k-es.length)*eu.size+j):=by
      rw[i1,WO];have:es.length*eu.size<=k*eu.size:=TN _ hk;omega
     have:=j2 _ p b1;have e1:z.getD (k*eu.size+j) undef=vs.getD ((k-es.length)*eu.size+j) undef:=by
      rw[m1,Tl,d0,T6 (by simp;omega),Vu (by simp),Tr];simp
     rw[e1];exact this.mono (.refl _) g3 (fun i hi=>by omega))
  have e2:=(h5.del i).swap (Ne.symm v0);have l2:=(((Ext.drew (M:=M) (N:=N) (U:=(· <s.nx)) (h:=s.h) (w:=w)).trans h4).del i).swap (Ne.symm v0);obtain⟨g1,g2⟩:=im hf l2 e2;refine⟨M,N',g1,g2,?_⟩;rw[gB];have:=VR.sl (M:=M) (N:=N') (U:=(· <s.nx+1)) s.nx 0 (len+news.length) eu.size a0 (by omega) k1 j0 z1 (by rw[h2,e0];simp);rw[h1,U6]at this;exact this
 have l0: ∀vs:List Value,vs.length=news.flatten.length->vs.length=news.length*ii.size:=fun vs h=>by rw[h,di G,t0]
 generalize a.eval x=vx at t1 A;cases t1 with
 |lK _ _ hU=>
  have d:es=[]:=by simpa using C
  subst d;by_cases hm:news=[]
  .subst hm;have B:=fh (P:=P) (w:=w) t o.type u ii q0 o0 io 0 0 (Tv _) ao c (.inl I);obtain⟨h1,h2⟩:=hf.1.A8 eu.size;obtain⟨g1,g2⟩:=im (es:=[]) (news:=[]) (i:=i) hf ((h1.del i).swap (Ne.symm v0)) ((h2.del i).swap (Ne.symm v0));exact⟨_,w,M,N,A _ _ B,g1,g2,.lK _ _ (by rw[gB];omega)⟩
  .obtain⟨b,x0,z0,Y⟩:=c0 hm;subst z0;obtain⟨vs,J,w0,s0⟩:=nJ (s:=s) Y;have r1:0<news.length:=UE.2 hm;have B:=run_append_nil (P:=P) w t o.type u ii eu.zero q0 o0 p1 ⟨b,x0,io⟩ news.length c vs (l0 vs J) w0 r1 (by omega) (by simp only[UJ,TL]at b0;omega);obtain⟨M',N',g1,g2,g3⟩:=f0 [] vs (grownCap w news.length 0 u) (by simp) (by rw[J,di G]) (by simp) (by simp) s0 (by simpa using grownCap_ge w news.length 0 u) (grownCap_le_maxLen w _ _ _ (by simp only[maxLen];omega)) (by omega) _ I;simp only[TL,T3] at*
   exact⟨_,_,M',N',A _ _ B,by simpa using g1,by simpa using g2,by simpa using g3⟩
 |sl _ _ _ _ a0 hU h0 hl hc hext=>
  rcases c2 with rfl|⟨hsz0,cur,T,q1,q2,q3,q4,q5⟩
  .simp at C;omega
  have i0:(AO.row eu.size es).real=is:=by cases es with
   |nil=>simp at C;omega
   |cons=>rfl
  rw[U6]at A;have k0:cur.size=a0*eu.size:=by rw[q2,<-hext,TL]
  by_cases hm:news=[]
  .subst hm;have B:=fh (P:=P) (w:=w) t o.type u ii q0 o0 (dl ⟨N.aC i,0,io⟩) len a0 hl ao c (.inr ⟨_,_,rfl⟩)
   obtain⟨h1,h2⟩:=hf.1.move hi i0 w (.row eu.size (es++ [])) I I I I (fun _ _=>rfl) (by
    rw[T1]
    exact .inr ⟨hsz0,cur,T,by simpa using q1,by simpa using q2,q3,q4,fun k e j p d F=>(q5 k e j p d F).mono (.refl _) (N.dB _ _ _) (fun i hi=>by omega)⟩)
   obtain⟨g1,g2⟩:=im (es:=es) (news:=[]) (i:=i) hf h1 h2;refine⟨_,w,M,_,A _ _ B,g1,g2,?_⟩;have:=VR.sl (M:=M) (N:=N.with s.nx (N.aC i) (N.ext i)) (U:=(· <s.nx+1)) s.nx 0 len eu.size a0 (by omega) h0 hl hc (by simpa using hext);rw[gB];simpa using this
  .obtain⟨b,x0,z0,Y⟩:=c0 hm;subst z0;obtain⟨vs,J,w0,s0⟩:=nJ (s:=s) Y;have r1:0<news.length:=UE.2 hm;have m0:vs.length=news.length*eu.size:=by rw[J,di G]
   have p0: ∀(j:Nat) (v:Value),(cur.toList.take (len*eu.size))[j]? =dl v->w.cell? ((⟨N.aC i,0,io⟩:Addr).add j)=dl v:=by
    intro j v hv;rw[T4]at hv;split at hv
    .rw[dp,TL];simp only[World.cell?,q1];simpa using hv
    .cases hv
   have r2:len*eu.size<=cur.size:=by rw[k0];exact TN _ hl
   have g0: ∀(k:Nat) (e:List PV) (j:Nat) (p:PV),es[k]? =dl e->e[j]? =dl p->k*eu.size+j<len*eu.size:=by
    intro k e j p d F;have hk:k<len:=by rw[<-C];exact(Tp.1 d).1
    have d1:j<eu.size:=by rw[<-q4 k e d];exact(Tp.1 F).1
    have:(k+1)*eu.size<=len*eu.size:=TN _ hk;rw[Ug]at this;omega
   by_cases Z:len+news.length<=a0
   .have a1:len*eu.size+vs.length<=cur.size:=by rw[m0,<-Ug,k0];exact TN _ Z
    have r0: ∀v∈vs,v.oneCell'=is:=by
     intro v hv;obtain⟨j,F⟩:=UB hv;have b2:j<news.flatten.length:=by rw[<-J];exact(Tp.1 F).1
     have hp:=Ts b2;obtain⟨k,e,i',h1,h2,_⟩:=lC G j _ hp;have:=(s0 j _ hp).one (iK (j1 e (Uv h1)) i' _ h2);rw[Tr,F]at this;exact this
    have B:=iA (P:=P) (w:=w) t o.type u ii q0 o0 T (N.aC i) len a0 cur q1 ⟨b,x0,io⟩ news.length c vs (l0 vs J) w0 r0 Z (by rw[t0];exact a1);rw[t0]at B;generalize hL:(cur.toList.take (len*eu.size)++vs++cur.toList.drop (len*eu.size+vs.length)).toArray=L at B;have n1:L.size=cur.size:=by rw[<-hL];simp;omega
    have l1:=setRow_heap w (N.aC i) cur L T (0,0) q1;have x1: ∀j,j<len*eu.size->L.getD j undef=cur.getD j undef:=by
     intro j F;rw[<-hL,Tl,Tl];simp only[Ul];rw[Tz,TG (by simp;omega),T4,am F,T5]
    have w1: ∀j,j<vs.length->L.getD (len*eu.size+j) undef=vs.getD j undef:=by
     intro j F;rw[<-hL,Tl,Tr];simp only[Ul];rw[TG (by simp;omega),TI (by simp;omega)];congr 2;simp;omega
    obtain⟨h1,h2⟩:=hf.1.move hi i0 (w.setRow (N.aC i) L) (.row eu.size (es++news)) I I I (by simp) (fun b hb=>by
      simp only[World.setRow,T8]
      rw[be (fun e=>hb e.symm)]) (by
     refine .inr ⟨hsz0,L,T,by simpa using l1,by rw[n1];simpa using q2,?_,fun k e d=>?_,fun k e j p d F=>?_⟩
     .rw[n1,k0,Tn,C];exact TN _ Z
     .rcases Un k es.length with hk|hk
      .rw[TG hk]at d;exact q4 k e d
      .rw[TI hk]at d;exact G _ e d
     .rcases Un k es.length with hk|hk
      .rw[TG hk]at d;rw[x1 _ (g0 k e j p d F)];exact(q5 k e j p d F).mono (.refl _) (N.dB _ _ _) (fun i hi=>by omega)
      .rw[TI hk]at d;have d1:j<eu.size:=by rw[<-G _ e d];exact(Tp.1 F).1
       have f1:k-es.length<news.length:=(Tp.1 d).1;have b1:=jZ G _ e j p d F;have n0:(k-es.length)*eu.size+j<vs.length:=by
        rw[m0];have:(k-es.length+1)*eu.size<=news.length*eu.size:=TN _ f1;rw[Ug]at this;omega
       have d0:k*eu.size+j=len*eu.size+((k-es.length)*eu.size+j):=by
        rw[<-C,WO];have:es.length*eu.size<=k*eu.size:=TN _ hk;omega
       rw[d0,w1 _ n0]
       exact(s0 _ p b1).mono (.refl _) (N.dB _ _ _) (fun i hi=>by omega))
    obtain⟨g1,g2⟩:=im (es:=es) (news:=news) (i:=i) hf h1 h2;refine⟨_,_,M,_,A _ _ B,g1,g2,?_⟩;have:=VR.sl (M:=M) (N:=N.with s.nx (N.aC i) (N.ext i)) (U:=(· <s.nx+1)) s.nx 0 (len+news.length) eu.size a0 (by omega) (by omega) Z hc (by simpa using hext);rw[gB];simpa using this
   .have B:=run_append_grow (P:=P) w t o.type u ii eu.zero q0 o0 p1 ⟨N.aC i,0,io⟩ len a0 (cur.toList.take (len*eu.size)) (by rw[t0];simp;omega) p0 ⟨b,x0,io⟩ news.length c vs (l0 vs J) w0 (by omega) (by omega)
     (growslice_fits (by omega) b0)
    obtain⟨M',N',g1,g2,g3⟩:=f0 (cur.toList.take (len*eu.size)) vs (grownCap w (len+news.length) a0 u) (by rw[C];simp;omega) m0 (fun k e j p d F=>by
      have:=q5 k e j p d F;have n0:=g0 k e j p d F;rw[Tr,T4,am n0,T5]
      rw[Tl]at this;exact this) q4 s0 (grownCap_ge w _ _ _) (grownCap_le_maxLen w _ _ _ (by simp only[maxLen];omega)) (by omega) _ I
    exact⟨_,_,M',N',A _ _ B,g1,g2,g3⟩
theorem tw(Y:bE P ty){o:Oper}{x y:Operand}{t u:TypeId}(ho:o.op= .call ⟨.builtin .append, #[x,y], #[t,t]⟩){e eu:bJ}(J:ty t=dl e)(hk:e.k= .aR (.slice u))(hu:ty u=dl eu)
  {sz:Nat} {news:List (List PV)} (hx:ev s.f x= .iv (.v (.slice io 0 0))) (G:eu.size=sz) (hz:eu.zero.cells.size=sz) (F:0<sz)
  (a0:zg ((s.nx,dl (.row sz []))::s.h) sz (ev s.f y)=dl news) (j: ∀e∈news,eM e=is) (hb:news.length*eu.bytes<=140737488355328) (A:news.length<=140737488355328)
  {s':AS} (hp:putDst nt o (.sl (s.nx+1) 0 news.length sz) ⟨s.f,(s.nx+1,dl (.row sz news))::(s.nx,io)::(s.nx,dl (.row sz []))::s.h,s.nx+2⟩=dl s'):OT P nt o s (fun t=>t=s'):=by
 intro M N a w d K Z D;obtain⟨h1,h2⟩:=d.1.A8 sz;have C:Fits M N ⟨s.f,(s.nx,dl (.row sz []))::s.h,s.nx+1⟩ nt a w:=⟨h2,d.2.1.ext h1,d.2.2⟩
 refine K6 (s:=⟨s.f,(s.nx,dl (.row sz []))::s.h,s.nx+1⟩) Y ho J hk hu (i:=s.nx) (len:=0) (sz:=sz) (es:=[]) (news:=news) (py:=ev s.f y) (fun M N a w d=>?_) (by rw[AH.ax,am I]) I G hz F I (ku a0) j (by rw[TL];exact hb) (by rw[TL];exact A) (s':=s') ?_ M N a w C K Z fun M' N' t a' w' hx B J=>D M' N' t a' w' (h1.trans hx) B J
 .have hv:=aJ d.2.1 x;rw[hx]at hv;generalize a.eval x=v at hv;cases hv with
  |iv _ _ h=>cases h with
   |v=>exact .lK _ _ (US _)
 .rw[TL];exact hp
end
section
variable {P:Program} {ty:Ty} {nt:NT} {s:AS}
theorem yw(B:bE P ty){o:Oper}{op:BinOp}{t u:TypeId}{x y:Operand}(ho:o.op= .binOp op t x y u){b:Bool}{cs:List IV}(Y:ev s.f x= .iv (.i7 cs))(Z:ev s.f y= .iv (.v (.pointer io)))(hn:sd ty t BM op jp=dl (.iv (.v (.bool b)),True)):
  ∀M N a w,Fits M N s nt a w-> ∃x,(execOp a.eval o).run P w= .ok (.value x) w∧VR M N (· <s.nx) (.iv (.v (.bool b))) x:=by
 intro M N a w F;have j:=aJ F.2.1 x;rw[Y]at j;have A:=aJ F.2.1 y;rw[Z]at A;generalize C:a.eval x=vx at j;generalize D:a.eval y=vy at A;cases j with
 |iv _ _ h1=>cases h1 with
  |i7 _ c off=>cases A with
   |iv _ _ h2=>cases h2 with
    |v=>
     obtain⟨z,G,J⟩:=mT (P:=P) (w:=w) (M:=M) (N:=N) (U:=(· <s.nx)) B hn (u:=x) (v:=y) (x:= .pointer (dl ⟨c,off,io⟩)) (y:= .pointer io) (by simp) (by simp) I I fun d hd hu=>by
      cases d<;>first|(cases hd;done)|exact oG hu _
     refine⟨z,?_,J⟩;simp only[execOp,ho,C,D];exact aY G
end
abbrev FW(ro:Option Nat):Fence:={Fence.wide with round:=ro}
def kC(o:Oper):Bool:=match o.op with| .defer _=>jp|_=>is
section conv
variable {P:Program} {ro:Option Nat} {n:Nat}
theorem H7{o:Oper}{a:Act}{K K':Act->World->Prop}{Q u:Exit->Act->World->Prop}(j: ∀a w,K a w->K' a w)(hp: ∀c a w,Q (.panic c) a w->u (.panic c) a w)(G:LetsOut Q->LetsOut u)
  (r:Result Next) (h:o.upon P a K Q r):o.uponIn (FW ro) n P a K' u r:=by
 cases r with
 |ok x w=>
  cases x with
  |value v=>exact j _ _ h
  |skip=>exact j _ _ h
  |defer d=>exact j _ _ h
  |enter f args=>
   refine⟨fun h=>by simp[Fence.wide]at h,?_⟩;have y:Calls P f args w _:=h;refine CallsIn.mono (F:=FW ro) (callsIn_wide.2 y:CallsIn Fence.wide (n-1) P f args w _) ?_;intro e B A;cases e with
   |returned v=>exact j _ _ A
   |panicked c=>exact hp _ _ _ A
   |outgrown=>exact G A
  |row row args=>
   refine⟨fun h=>by simp[Fence.wide]at h,fun c C _=>?_⟩;obtain⟨v,B,y,D⟩:=h c C;exact⟨v,B,j _ _ y,stepsIn_wide.2 D⟩
  |_=>exact h.elim
 |halt x w=>
  cases x with
  |panic v=>exact hp _ _ _ h
  |_=>exact h.elim
theorem PH{o:Oper}{a:Act}{w:World}{K K':Act->World->Prop}{Q d:Exit->Act->World->Prop}(hd:kC o=is)(j: ∀a w,K a w->K' a w)(hp: ∀c a w,Q (.panic c) a w->d (.panic c) a w)(u:LetsOut Q->LetsOut d)
  (h:o.wp P a w K Q):o.wpIn (FW ro) n P a w K' d:=by
 refine⟨fun _ _=>trivial,?_⟩;rw[Oper.semAt_eq _ _ _ (fun c e=>by simp[kC,e]at hd)];exact H7 j hp u _ h
theorem qv{ops:Array Oper}{Q Z:Exit->Act->World->Prop}{rest:List Oper}(d: ∀e a w,Z e a w->e= .normal∧wpListIn (FW ro) n P ops Q rest a w): ∀(pre:List Oper) (a:Act) (w:World),pre.all kC=is->wpList P ops Z pre a w->wpListIn (FW ro) n P ops Q (pre++rest) a w
 | [],a,w,_,h=>(d _ _ _ h).2
 |o::r,a,w,hd,h=>by
  rw[VZ,TZ]at hd;rw[TV];unfold wpListIn;unfold wpList at h;split at h
  .rename_i j;rw[am j];rcases h with h|⟨_,a0,u,h⟩
   .exact PH hd.1 (fun a w h=>qv d r a w hd.2 h) (fun c a w h=>absurd (d _ _ _ h).1 (by simp)) (fun⟨a0,u,h⟩=>absurd (d _ _ _ h).1 (by simp)) h
   .exact absurd (d _ _ _ h).1 (by simp)
  .rename_i j;rw[be j];exact⟨fun _ _=>trivial,qv d r _ _ hd.2 h⟩
end conv
section
variable {P:Program}
def RN(P:Program)(nt:NT)(c:Code)(R:AS->Prop)(s:AS):Prop:= ∀(l n:Nat) (M:Mem) (N:Nm) (a:Act) (w:World),Fits M N s nt a w->c.wpIn (FW (dl l)) n P (ju nt M N s w fun e t=>e= .normal∧R t) a w
variable {nt:NT} {s:AS} {R:AS->Prop}
theorem FV{id:Nat}{c:Code}(h:RN P nt c R s):RN P nt (.block id c) R s:=fun l n M N a w d=>by
 refine wpIn_block (wpIn_mono (h l n M N a w d) ?_);rintro e j u ⟨M',N',t,hx,hf',rfl,hr⟩;exact⟨M',N',t,hx,hf',rfl,hr⟩
theorem wy{id:Nat}{ops:Array Oper}(hd:ops.toList.all kC=is)(h:GO P nt [.ops ops.toList ops.toList] (fun e t=>e= .normal∧R t) s):RN P nt (.region id ops jp) R s:=fun l n M N a w x=>by
 refine wpIn_region_list ?_;have j:=h M N a w x
 have u:=qv (ro:=dl l) (n:=n) (P:=P) (ops:=ops) (Q:=ju nt M N s w fun e t=>e= .normal∧R t) (rest:=[]) (fun e y A ⟨M',N',t,hx,hf',d⟩=>by
  simp only[kp]at d;obtain⟨rfl,d⟩:=d
  exact⟨rfl,M',N',t,hx,hf',rfl,d⟩) ops.toList a w hd j
 rwa[T1]at u
def zQ(xs:List (Tmp×PV))(f:AF):AF:=xs.foldl (fun f x=>(x.1,x.2)::f) f
theorem FR.Ri{M:Mem}{N:Nm}{U:Nat->Prop}: ∀(xs:List (Tmp×PV)) (vs:List (Tmp×Value)) {f:AF} {t:Array Value},FR M N U f t->xs.map (·.1)=vs.map (·.1)->(∀x∈xs,x.1<t.size)->(∀(j:Nat) (x:Tmp×PV) (v:Tmp×Value),xs[j]? =dl x->vs[j]? =dl v->VR M N U x.2 v.2)->FR M N U (zQ xs f) (vs.foldl (fun t v=>t.setIfInBounds v.1 v.2) t)
 | [],[],_,_,h,_,_,_=>h
 | [],_::_,_,_,_,h,_,_=>by simp at h
 |_::_,[],_,_,_,h,_,_=>by simp at h
 |x::xs,v::vs,f,t,h,he,hs,hv=>by
  simp only[TD,WI]at he;have A:=hv 0 x v I I;have B:FR M N U ((x.1,x.2)::f) (t.setIfInBounds v.1 v.2):=by
   rw[<-he.1];exact h.put _ _ _ (hs x (TJ ..)) A
  exact FR.Ri xs vs B he.2 (fun y d=>by rw[Wx];exact hs y (TH _ d)) fun j y u d hu=>hv (j+1) y u d hu
theorem Rel.putObj{M:Mem}{N:Nm}{U:Nat->Prop}{h:AH}{w:World}(hr:Rel M N U h w){r:Nat}(o:Obj)(hn: ∀i p,h.get i=dl p->p.real=is->N.aC i≠r)(hm:M r=io):Rel M N U h (w.putObj r o):=by
 refine⟨fun b c hb=>(hr.ey b c hb).mono (World.putObj_heap_other fun e=>by rw[e,hm]at hb;cases hb),hr.used,hr.dI,fun i p d=>?_,hr.inj⟩;have j:=hr.obj i p d;cases hre:p.real with
 |true=>exact j.mono (.refl _) (.refl _ _) (fun _ h=>h) (hr.used i p d) (World.putObj_heap_other (hn i p d hre))
 |false=>
  cases p with
  |row sz es=>
   cases es with
   |nil=>exact .inl I
   |cons=>cases hre
  |bA l T=>
   cases l with
   |nil=>exact .inl I
   |cons=>cases hre
  |_=>cases hre
theorem Fits.putObj{M:Mem}{N:Nm}{s:AS}{nt:NT}{a:Act}{w:World}(hf:Fits M N s nt a w){r:Nat}(o:Obj)(hn: ∀i p,s.h.get i=dl p->p.real=is->N.aC i≠r)(hm:M r=io):Fits M N s nt a (w.putObj r o):=⟨hf.1.putObj o hn hm,hf.2⟩
theorem zV{nt:NT}{o:Oper}{p:PV}{s s':AS}(h:putDst nt o p s=dl s'){M:Mem}{N:Nm}{a:Act}{w:World}{v:Value}(hf:Fits M N s nt a w)(u:VR M N (· <s.nx) p v):
  Ext M N (· <s.nx) s.h w M N (· <s'.nx) s'.h w∧Fits M N s' nt (a.put o.dst v) w:=by
 cases hd:o.dst with
 |none=>
  have:=dx h hd;subst this;exact⟨.refl _ _ _ _ _,hf⟩
 |some d=>
  obtain⟨j,rfl⟩:=dw h hd;exact⟨.refl _ _ _ _ _,hf.put d p v j u⟩
theorem E1{o:Oper}{t:AS}{x:Operand}{args:Array Operand}{ts:Array TypeId}{i l:Nat}{c:LC}{f:AF}{C:List PV}(ho:o.op= .call ⟨.value x,args,ts⟩)(hg:o.guard=io)
  (hi:t.h.get i=dl (.fy l c f)) (hx:ev t.f x= .iv (.v (.func (.yield l) #[] #[]))) (b0:args.toList.map (ev t.f)=C) (z0:c.ps.size=C.length) (f2:c.ps.toList.all (fun p=>TU p c.nt)=is)
  {ops:Array Oper} {r0:List Oper} {nt:NT} {M:Mem} {N:Nm} {a:Act} {w:World} (hf:Fits M N t nt a w) {n:Nat} {Z:Exit->Act->World->Prop}
  (h:RN P ⟨c.nt,[]⟩ c.sL (fun t1=>RN P ⟨c.nt,[]⟩ c.bd (fun t2=> ∃s',putDst nt o (.kb is) ⟨t.f,(i,dl (.fy l c f))::t2.h,t2.nx⟩=dl s'∧R s') t1) ⟨zQ (c.ps.toList.zip C) f,(i,io)::t.h,t.nx⟩)
  (hz: ∀M' N' s' a' w',Ext M N (· <t.nx) t.h w M' N' (· <s'.nx) s'.h w'->Fits M' N' s' nt a' w'->R s'->wpListIn (FW io) n P ops Z r0 a' w'):
  wpListIn (FW io) n P ops Z (o::r0) a w:=by
 unfold wpListIn;rw[am (fE hg _)];refine⟨fun _ _=>trivial,?_⟩;rw[Oper.semAt_none];have d2:=hf.1.obj i _ hi;obtain⟨j0,a0,g0,v1,e2,e1,p1,r1,f1,s1⟩:=d2;have hU:=hf.1.used i _ hi;have x1:M l=io:=by rw[<-j0];exact hf.1.dI i _ hi I
 have i1:=aJ hf.2.1 x;rw[hx]at i1;have i2:a.eval x= .func (.yield l) #[] #[]:=by
  generalize a.eval x=z at i1;cases i1 with
  |iv _ _ h=>cases h;rfl
 have g2:(args.map a.eval).size=a0.params.size:=by
  rw[e1,z0,<-b0];simp
 have g1:(execOp a.eval o).run P w= .ok (.round l a0.fn ((a0.params.zip (args.map a.eval)).foldl (fun tmps (t,a)=>tmps.setIfInBounds t a) a0.tmps) a0.assign a0.body) w:=by
  simp only[execOp,ho,resolve,i2];rw[Sem.run_bind];simp only[Deferred.ofValue,Sem.run_pure,Result.andThen,invoke];rw[show(#[]++args.map a.eval:Array Value)=args.map a.eval by simp];exact run_yield g0 g2
 rw[g1,Oper.uponIn_round];refine⟨fun h=>by simp[Fence.wide]at h,?_⟩;have x0: ∀j p,AH.get ((i,io)::t.h) j=dl p->p.real=is->N.aC j≠l:=fun j p u Y e=>by
  obtain⟨D,h2⟩:=ba j p u;exact D (hf.1.inj j i p _ h2 hi Y I (by rw[e,j0]))
 have c2:l<w.heap.size:=(Uf.1 g0).1;have n0:Fits M N ⟨zQ (c.ps.toList.zip C) f,(i,io)::t.h,t.nx⟩ ⟨c.nt,[]⟩ {tmps:=(a0.params.zip (args.map a.eval)).foldl (fun tmps (t,a)=>tmps.setIfInBounds t a) a0.tmps,defers:=[]} w:=by
  refine⟨hf.1.del i,?_,rfl,?_⟩
  .rw[<-Wn];refine FR.Ri _ _ s1 ?_ ?_ ?_
   .rw[W9,e1];rw[Xa (by rw[VX,z0];exact Tv _),Xa (by simp[z0,<-b0])]
   .intro y hy;have:=T7.1 f2 y.1 (List.of_mem_zip hy).1;rw[f1];exact Tk this
   .intro j y v hy hv;rw[W9]at hv;rw[List.getElem?_zip_eq_some]at hy hv;have D:=hy.2;have h2:=hv.2;rw[<-b0,Tu,Tw]at D;obtain⟨z,j2,k2⟩:=D;rw[Array.toList_map,Tu,j2]at h2;simp only[Ut,Tm]at h2;rw[<-k2,<-h2];exact aJ hf.2.1 z
  .rw[<-Wn];have: ∀(l:List (Tmp×Value)) (t:Array Value),(l.foldl (fun t v=>t.setIfInBounds v.1 v.2) t).size=t.size:=by
    intro l
    induction l with
    |nil=>exact fun _=>rfl
    |cons v l ih=>intro t;rw[Uc,ih,Wx]
   exact(this _ _).trans f1
 refine roundIn_of_wpIn (F:=FW io) ac ?_;rw[p1];refine wpIn_mono (h l (n-1) M N _ w n0) ?_;rintro e a1 w1 ⟨M1,N1,t1,hx1,hf1,rfl,hr1⟩;have m1:w1.heap[l]? =dl (.loop a0):=by rw[hx1.eU l c2 x0];exact g0
 have j1:M1 l=io:=by
  cases hm:M1 l with
  |none=>rfl
  |some d=>
   rcases hx1.eT l d x1 hm with A|⟨j,p,A,G,h5⟩
   .omega
   .exact absurd h5 (x0 j p A G)
 have c0: ∀j p,t1.h.get j=dl p->p.real=is->N1.aC j≠l:=fun j p u Y e=>by
  rcases hx1.dY j p u Y with A|⟨q,p2,A,G,h5⟩
  .omega
  .exact x0 q p2 A G (h5.trans e)
 obtain⟨rb,p0⟩: ∃rb:Loop,rb={a0 with state:= .busy}:=⟨_,rfl⟩
 have l1:=run_beginRound (P:=P) m1 v1;rw[<-p0]at l1;refine⟨_,l1,?_⟩;rw[r1];have v0:=hf1.putObj (.loop rb) c0 j1;refine wpIn_mono (hr1 l (n-1) M1 N1 a1 _ v0) ?_;rintro e a2 w2 ⟨M2,N2,t2,hx2,hf2,rfl,s',hs',hR⟩;have o0:l<w1.heap.size:=(Uf.1 m1).1;have n1:w2.heap[l]? =dl (.loop rb):=by
  rw[hx2.eU l (by rw[World.putObj_size];exact o0) c0];exact World.putObj_heap_same o0
 have w0:l<w2.heap.size:=(Uf.1 n1).1;have k1:M2 l=io:=by
  cases hm:M2 l with
  |none=>rfl
  |some d=>
   rcases hx2.eT l d j1 hm with A|⟨j,p,A,G,h5⟩
   .rw[World.putObj_size]at A;omega
   .exact absurd h5 (c0 j p A G)
 have f0: ∀j p,t2.h.get j=dl p->p.real=is->N2.aC j≠l:=fun j p u Y e=>by
  rcases hx2.dY j p u Y with A|⟨q,p2,A,G,h5⟩
  .rw[World.putObj_size]at A;omega
  .exact c0 q p2 A G (h5.trans e)
 have q0:({rb with state:=if(none:Option Code).isNone then .ready else .done,pending:=io}:Loop)=a0:=by
  rw[p0];cases a0;simp_all
 have l0:=run_endRound (P:=P) io n1;rw[q0]at l0;refine⟨.bool is,_,l0,?_⟩;have m0:=hf2.putObj (.loop a0) f0 k1;have b2:(w2.putObj l (.loop a0)).heap[l]? =dl (.loop a0):=World.putObj_heap_same w0;have s0:N.agree N2 (· <t.nx):=⟨fun j u=>(hx2.nm.aC j (hx1.ule j u)).trans (hx1.nm.aC j u),fun j u=>(hx2.nm.ext j (hx1.ule j u)).trans (hx1.nm.ext j u)⟩
 have e0:=hx1.mz.trans hx2.mz;have d0: ∀j,j<t.nx->j<t2.nx:=fun j u=>hx2.ule j (hx1.ule j u);have i0:N2.aC i=l:=(s0.aC i hU).trans j0
 have B: ∀j p,AH.get ((i,dl (AO.fy l c f))::t2.h) j=dl p->(j=i∧p= .fy l c f)∨(j≠i∧t2.h.get j=dl p):=by
  intro j p u;rw[AH.ax]at u;split at u
  .rename_i e;exact .inl ⟨e,by simpa using u.symm⟩
  .rename_i e;exact .inr ⟨e,u⟩
 have b1:Rel M2 N2 (· <t2.nx) ((i,dl (.fy l c f))::t2.h) (w2.putObj l (.loop a0)):=by
  refine⟨m0.1.ey,fun j p u=>?_,fun j p u Y=>?_,fun j p u=>?_,fun j q p p2 u hq Y o1 e=>?_⟩
  .rcases B j p u with⟨rfl,_⟩|⟨_,D⟩
   .exact d0 _ hU
   .exact m0.1.used j p D
  .rcases B j p u with⟨rfl,_⟩|⟨_,D⟩
   .rw[i0];exact k1
   .exact m0.1.dI j p D Y
  .rcases B j p u with⟨rfl,rfl⟩|⟨_,D⟩
   .exact⟨i0,a0,b2,v1,e2,e1,p1,r1,f1,fun d=>(s1 d).mono e0 s0 d0⟩
   .exact m0.1.obj j p D
  .rcases B j p u with⟨rfl,rfl⟩|⟨l2,D⟩<;>rcases B q p2 hq with⟨rfl,rfl⟩|⟨m2,h2⟩
   .rfl
   .rw[i0]at e;exact absurd e.symm (f0 q p2 h2 o1)
   .rw[i0]at e;exact absurd e (f0 j p D Y)
   .exact m0.1.inj j q p p2 D h2 Y o1 e
 have t0:Ext M N (· <t.nx) t.h w M2 N2 (· <t2.nx) ((i,dl (.fy l c f))::t2.h) (w2.putObj l (.loop a0)):=by
  have J: ∀j p,AH.get ((i,io)::t.h) j=dl p->t.h.get j=dl p:=fun j p u=>(ba j p u).2;refine⟨hx2.os.trans hx1.os,hx2.tape.trans hx1.tape,⟨hx2.output.out.trans hx1.output.out,Uh hx1.output.drawn hx2.output.drawn⟩,?_,fun b hb hn=>?_,e0,fun b d D h2=>?_,s0,d0,fun j p u Y=>?_⟩
  .have:=hx1.size;have G:=hx2.size;rw[World.putObj_size]at G ⊢;omega
  .have k0:b≠l:=fun e=>hn i _ hi I (by rw[j0,e])
   have n2:=hx1.size;rw[World.putObj_heap_other k0,hx2.eU b (by rw[World.putObj_size];omega) fun j p u Y e=>?_,World.putObj_heap_other k0,hx1.eU b hb fun j p u Y e=>hn j p (J j p u) Y e];rcases hx1.dY j p u Y with A|⟨q,p2,A,G,h5⟩
   .omega
   .exact hn q p2 (J q p2 A) G (h5.trans e)
  .cases hm:M1 b with
   |some d1=>
    rcases hx1.eT b d1 D hm with A|⟨j,p,A,G,h5⟩
    .exact .inl A
    .exact .inr ⟨j,p,J j p A,G,h5⟩
   |none=>
    rcases hx2.eT b d hm h2 with A|⟨j,p,A,G,h5⟩
    .rw[World.putObj_size]at A;exact .inl (Uh hx1.size A)
    .rcases hx1.dY j p A G with h6|⟨q,p2,h6,h7,h8⟩
     .exact .inl (by omega)
     .exact .inr ⟨q,p2,J q p2 h6,h7,h8.trans h5⟩
  .rcases B j p u with⟨rfl,rfl⟩|⟨_,D⟩
   .exact .inr ⟨j,_,hi,rfl,by rw[i0,j0]⟩
   .rcases hx2.dY j p D Y with A|⟨q,p2,A,G,h5⟩
    .rw[World.putObj_size]at A;exact .inl (Uh hx1.size A)
    .rcases hx1.dY q p2 A G with h6|⟨q2,p3,h6,h7,h8⟩
     .exact .inl (by omega)
     .exact .inr ⟨q2,p3,J q2 p3 h6,h7,h8.trans h5⟩
 have z1:Fits M2 N2 ⟨t.f,(i,dl (.fy l c f))::t2.h,t2.nx⟩ nt a (w2.putObj l (.loop a0)):=⟨b1,hf.2.1.mono e0 s0 d0,hf.2.2⟩
 obtain⟨q1,q2⟩:=zV hs' z1 (.kb is);exact hz M2 N2 s' _ _ (t0.trans q1) q2 hR
end
end
end Go.Al
namespace Go
section
variable {P:Program}
theorem vG{g:Operand}{ps:Array Tmp}{assign body:Code}{Q:Exit->Act->World->Prop}{a:Act}{w:World}
  (h: ∀fn,∃(l:Nat) (j:List Deferred) (J:World) (d:Deferred) (B:World) (f:FuncId) (args:Array Value) (Y:World),
   (Instr.enterLoop fn a.tmps ps assign body io).run P w= .ok (l,j) J∧(resolve a.eval (rangeCall g l) 0).run P J= .ok d B∧(invoke d.target d.args).run P B= .ok (.enter f args) Y∧
   Calls P f args Y fun e w₃=> ∃v,e= .returned v∧ ∃G,(Instr.endLoop l).run P w₃= .ok io G∧Q .normal {a with defers:=j++a.defers} G):
  (Code.rangeFunc g ps assign body).wp P Q a w:=by
 intro b k cs;obtain⟨l,j,J,d,B,f,args,Y,he,F,D,A⟩:=h b.fn;have Z: ∀a todo,b.at a todo=Frame.atR {b with roundOf:=io} a todo:=fun _ _=>rfl;have u:=stepR_rangeFunc (P:=P) (b:={b with roundOf:=io}) (a:=a) (k:=k) (cs:=cs) (w:=w) he F D;obtain⟨e,w₃,fr,⟨v,rfl,G,C,hq⟩,y,a0,x⟩:=A (Frame.atR {b with roundOf:=io} {a with defers:=j++a.defers} (.inRangeFunc l::k)::cs);refine⟨.normal,_,G,hq,?_⟩;show Steps P _ _;rw[Z,Z];refine Steps.trans (.one u) (Steps.trans y (.head ?_ (.one (stepR_endRangeFunc C))));rw[<-finish_atR_inRangeFunc l v];exact step_leave_returned x
theorem rR{f:FuncId}{fn:Func}{c:Code}{args:Array Value}{w:World}{R:Ending->World->Prop}(hf:P.funcs[f]? =dl fn)(hb:fn.body=dl c)
  (h:c.wp P (fun e a w=>(e= .normal∨e= .ret)∧((a.defers=[]∧ ∃v,(results fn a.tmps).run P w= .ok v w∧R (.returned v) w)∨ ∃d r x v,a.defers=[d]∧d.target= .collected r∧(Instr.takeDeferred r).run P w= .ok [] x∧(results fn a.tmps).run P x= .ok v x∧R (.returned v) x)) {tmps:=args++U3 (fn.ntmps-args.size) undef,defers:=[]} w):
  Calls P f args w R:=by
 intro cs
 let b:Frame:={(default:Frame) with fn:=f,kind:= .normal}
 have u:Frame.enter P f args .normal=
   b.at {tmps:=args++U3 (fn.ntmps-args.size) undef,defers:=[]} [.code c]:=by
  simp[Frame.enter,Frame.at,hf,hb,b]
 obtain⟨e,D,x,⟨F,Y⟩,j⟩:=h b [] cs;rw[<-u]at j;rcases Y with⟨hd,v,y,hR⟩|⟨d,r,A,v,hd,J,G,y,hR⟩
 .rcases F with rfl|rfl
  .exact⟨.returned v,x,_,hR,Steps.trans j (.one step_end),rfl,rfl,hd,rfl,fn,hf,y⟩
  .obtain⟨todo,C⟩:=j;exact⟨.returned v,x,_,hR,C,rfl,rfl,hd,rfl,fn,hf,y⟩
 .rcases F with rfl|rfl
  .have B:=step_collected (fr:={b.at D []with mode:= .returning}) (cs:=cs) (by simp) hd J G;exact⟨.returned v,A,_,hR,Steps.trans j (Steps.trans (.one step_end) (.one B)),rfl,rfl,rfl,rfl,fn,hf,y⟩
  .obtain⟨todo,C⟩:=j;have B:=step_collected (fr:={b.at D todo with mode:= .returning}) (cs:=cs) (by simp) hd J G;exact⟨.returned v,A,_,hR,Steps.trans C (.one B),rfl,rfl,rfl,rfl,fn,hf,y⟩
end
end Go
namespace Go.Al
section
section
variable {P:Program} {s:AS} {n:Nat}
abbrev pd(D:Nat):List Deferred:=[{target:= .collected D,args:= #[]}]
abbrev Kw(s:AS)(l:Nat)(c:LC)(d:AF):AS:=⟨s.f,(s.nx,dl (.fy l c d))::s.h,s.nx+1⟩
abbrev Ga(s:AS)(l:Nat)(c:LC)(d:AF)(L:List Nat)(j:AH)(u:Nat):AS:=⟨s.f,(s.nx,io)::(aO (Kw s l c d) L j u).h,(aO (Kw s l c d) L j u).nx⟩
theorem Nb{g:Operand}{F:Array Tmp}{G C:Code}{kf:FuncId}{asv args:Nat->List PV}{os:Nat->List AO}{r:PV}{h':Nat->AH}{n':Nat}(J:AF)(L:List Nat)(hk: ∀d,J.get d= .any∨J.get d=s.f.get d)
  (hc: ∀l,bC P kf (args l) (os l) r (h' l) n') (ha: ∀l,bM s.f (rangeCall g l)=dl (kf,asv l))
  (hnd:L.Nodup) (hL: ∀j∈L,j<s.nx+1) (e1: ∀l,L.map (Kw s l ⟨F,G,C,n⟩ J).h.get=(os l).map fun o=>dl (o.bZ (sig L (s.nx+1)))) (a0: ∀l,asv l=db (sig L (s.nx+1)) (args l))
  (d0: ∀l,∃f2,(aO (Kw s l ⟨F,G,C,n⟩ J) L (h' l) n').h.get s.nx=dl (.fy l ⟨F,G,C,n⟩ f2))
  {M:Mem} {N:Nm} {a:Act} {w:World} (hf:Fits M N s ⟨n,[]⟩ a w) {Z:Exit->Act->World->Prop}
  (hz: ∀M' N' l D w',Ext M N (· <s.nx) s.h w M' N' (· <(Ga s l ⟨F,G,C,n⟩ J L (h' l) n').nx) (Ga s l ⟨F,G,C,n⟩ J L (h' l) n').h w'->Fits M' N' (Ga s l ⟨F,G,C,n⟩ J L (h' l) n') ⟨n,pd D⟩ {a with defers:=pd D} w'->
   w'.heap[D]? =dl (.deferred (dl []))->w.heap.size<=D->M' D=io->(∀i o,(Ga s l ⟨F,G,C,n⟩ J L (h' l) n').h.get i=dl o->o.real=is->N'.aC i≠D)->Z .normal {a with defers:=pd D} w'):
  (Code.rangeFunc g F G C).wp P Z a w:=by
 refine vG fun fn=>?_;obtain⟨g0,u⟩: ∃g0:Loop,g0={state:= .ready,pending:=io,fn,tmps:=a.tmps,params:=F,assign:=G,body:=C,defers:=w.heap.size}:=⟨_,rfl⟩
 obtain⟨w0,B⟩: ∃w0,w0=w.alloc (.deferred (dl [])):=⟨_,rfl⟩
 have Y:w0.heap.size=w.heap.size+1:=by rw[B,World.size_alloc]
 have b0: ∀b,b<w.heap.size->w0.heap[b]? =w.heap[b]? :=fun b hb=>by rw[B];exact rU w _ b hb
 have j1:Rel M N (· <s.nx) s.h w0:=hf.1.more b0
 obtain⟨N1,x0,_,c0,y,n0⟩:=j1.alloc (.loop g0) (.fy (w.heap.size+1) ⟨F,G,C,n⟩ J) 0 (fun N' h1 h2 h3=>by
  refine⟨by rw[h1,Y],g0,by rw[<-Y];exact World.alloc_heap_new w0 _,by rw[u],by rw[u],by rw[u],by rw[u],by rw[u],by rw[u];exact hf.2.2.2,fun d=>?_⟩;rcases hk d with h4|h4
  .rw[h4];exact .any _
  .rw[h4,u];exact(hf.2.1 d).mono (.refl _) h3 (fun i hi=>U0 hi))
 obtain⟨w1,i0⟩: ∃w1,w1=w0.alloc (.loop g0):=⟨_,rfl⟩
 rw[<-i0]at y n0;have l1:w1.heap.size=w.heap.size+2:=by rw[i0,World.size_alloc,Y]
 have r0:w1.heap[w.heap.size]? =dl (.deferred (dl [])):=by
  rw[i0,rU _ _ _ (by omega),B];exact World.alloc_heap_new w _
 have q0:Fits M N1 (Kw s (w.heap.size+1) ⟨F,G,C,n⟩ J) ⟨n,[]⟩ a w1:=⟨n0,hf.2.1.mono (.refl _) c0 (fun i hi=>U0 hi),hf.2.2⟩
 have n1:Ext M N (· <s.nx) s.h w M N1 (· <s.nx+1) ((s.nx,dl (.fy (w.heap.size+1) ⟨F,G,C,n⟩ J))::s.h) w1:=by
  have hs:=y.size;have f1:w0.os=w.os:=by rw[B];rfl
  have m1:w0.tape=w.tape:=by rw[B];rfl
  have g1:w0.output=w.output:=by rw[B];rfl
  have a1:w0.drawn=w.drawn:=by rw[B];rfl
  exact⟨y.os.trans f1,y.tape.trans m1,⟨y.output.out.trans g1,by rw[<-a1];exact y.output.drawn⟩,by omega,fun b hb hn=>by rw[y.eU b (by omega) hn,b0 b hb],y.mz,fun b d h1 h2=>(y.eT b d h1 h2).imp (fun h=>by omega) id,y.nm,y.ule,fun i o hi ho=>(y.dY i o hi ho).imp (fun h=>by omega) id⟩
 have m0: ∀i o,AH.get ((s.nx,dl (AO.fy (w.heap.size+1) ⟨F,G,C,n⟩ J))::s.h) i=dl o->o.real=is->N1.aC i≠w.heap.size:=fun i o hi ho e=>by
  rw[AH.ax]at hi;split at hi
  .rename_i h1;rw[h1,x0,Y]at e;omega
  .have h1:=(hf.1.obj i o hi).lt ho;rw[c0.aC i (hf.1.used i o hi)]at e;omega
 have t0:M w.heap.size=io:=by
  cases hm:M w.heap.size with
  |none=>rfl
  |some d=>have:=(hf.1.ey _ _ hm).lt;omega
 let o:Oper:={(default:Oper) with op:= .call (rangeCall g (w.heap.size+1))}
 obtain⟨vs,A,l0,hv⟩:=AK q0 (o:=o) I (ha _) (hc 0).1;simp only[execOp,o]at A;rw[Sem.run_bind]at A;generalize o0:(resolve a.eval (rangeCall g (w.heap.size+1)) _).run P w1=rr at A;cases rr with
 |halt _ _=>simp[Result.andThen]at A
 |ok d w1'=>
  simp only[Result.andThen]at A;refine⟨_,_,w1,d,w1',kf,vs.toArray,w1,by rw[run_enterLoop_outer,i0,B,u],o0,A,?_⟩;have f0:(args (w.heap.size+1)).length=vs.length:=by rw[<-l0,a0,bN,T2]
  have e0:=(hc (w.heap.size+1)).calls (s:=Kw s (w.heap.size+1) ⟨F,G,C,n⟩ J) hnd hL (e1 _) n0 f0 fun j p hp=>hv j _ (by rw[a0,bN,Tu,hp];rfl);refine e0.mono ?_
  rintro e w3 ⟨x,M',N',r',h1',n1',rfl,⟨rfl,rfl,rfl⟩,hx,hr,hvr⟩;obtain⟨f2,k0⟩:=d0 (w.heap.size+1);obtain⟨p0,o1,b1,k1,i1,_⟩:=hr.obj _ _ k0;have s0:w3.heap[w.heap.size]? =dl (.deferred (dl [])):=by rw[hx.eU _ (by omega) m0];exact r0
  have v0:M' (w.heap.size+1)=io:=by rw[<-p0];exact hr.dI _ _ k0 I
  have j0:M' w.heap.size=io:=by
   cases hm:M' w.heap.size with
   |none=>rfl
   |some d=>
    rcases hx.eT _ d t0 hm with h3|⟨j,p,h3,h4,h5⟩
    .omega
    .exact absurd h5 (m0 j p h3 h4)
  have d1: ∀j p,AH.get ((s.nx,io)::(aO (Kw s (w.heap.size+1) ⟨F,G,C,n⟩ J) L (h' (w.heap.size+1)) n1').h) j=dl p->p.real=is->N'.aC j≠w.heap.size+1:=fun j p hj hp e=>by
   obtain⟨h1,h2⟩:=ba j p hj;exact h1 (hr.inj j _ p _ h2 k0 hp I (by rw[e,p0]))
  refine⟨x,rfl,_,run_endLoop b1 (by rw[k1];simp)|>.trans (by rw[i1]),?_⟩;have z0:a.defers=[]:=hf.2.2.1;rw[z0,T1];refine hz M' N' (w.heap.size+1) w.heap.size _ ?_ ⟨(hr.del _).putObj _ d1 v0,(q0.2.1.ext hx),rfl,hf.2.2.2⟩ (by rw[World.putObj_heap_other (by omega)];exact s0) (Tv _) j0 (fun j p hj hp e=>?_)
  .have E:=n1.trans hx;exact⟨E.os,E.tape,⟨E.output.out,E.output.drawn⟩,by rw[World.putObj_size];exact E.size,fun b hb hn=>by rw[World.putObj_heap_other (by omega)];exact E.eU b hb hn,E.mz,E.eT,E.nm,E.ule,fun i o hi ho=>E.dY i o (ba i o hi).2 ho⟩
  .obtain⟨_,h2⟩:=ba j p hj;rcases hx.dY j p h2 hp with h3|⟨q,p2,h3,h4,h5⟩
   .omega
   .exact m0 q p2 h3 h4 (h5.trans e)
end
def KQ:List Code->Code->Code
 | [],t=>t
 |c::r,t=> .seq c (KQ r t)
theorem uJ{P:Program}{nt:NT}{Q:AQ}{e:Exit}{s:AS}(he:e≠ .normal): ∀d:List Code,kp P nt (d.map .code) Q e s->Q e s
 | [],h=>h
 |c::r,h=>by
  rw[TD]at h;unfold kp at h;cases e<;>first|exact absurd I he|exact uJ he r h
theorem GC{P:Program}{nt:NT}{Q:AQ}{d:Code}: ∀cs:List Code,kp P nt ((cs++ [d]).map .code) Q=kp P nt (cs.map .code) (kp P nt [.code d] Q)
 | []=>rfl
 |c::r=>by
  rw[TV,TD,TD]
  funext e s
  unfold kp;rw[GC r]
theorem AB{P:Program}{nt:NT}{Q:AQ}{T:Code}{Z:Exit->Act->World->Prop}: ∀(cs:List Code) {s:AS} {M:Mem} {N:Nm} {a:Act} {w:World},GO P nt (cs.map .code) Q s->Fits M N s nt a w->
  (∀x d j u s',Ext M N (· <s.nx) s.h w j u (· <s'.nx) s'.h d->Fits j u s' nt x d->Q .normal s'->T.wp P Z x d)->
  (∀e x d j u s',e≠ .normal->Ext M N (· <s.nx) s.h w j u (· <s'.nx) s'.h d->Fits j u s' nt x d->Q e s'->Z e x d)->(KQ cs T).wp P Z a w
 | [],s,M,N,a,w,h,hf,hz,_=>hz a w M N s (.refl _ _ _ _ _) hf h
 |c::r,s,M,N,a,w,h,hf,hz,hq=>by
  refine wp_seq (AW.then (R:=kp P nt (r.map .code) Q) h hf fun e x d j u s' J D hk=>?_);by_cases C:e= .normal
  .subst C;exact AB r hk D (fun a2 w2 F G Y B y A=>hz a2 w2 F G Y (J.trans B) y A) fun e a2 w2 F G Y C B y A=>hq e a2 w2 F G Y C (J.trans B) y A
  .have h1:=hq e x d j u s' C J D (uJ C r hk);cases e<;>first|exact absurd I C|exact h1
section
variable {P:Program}
theorem Pb{k:FuncId}{args:List PV}{os:List AO}{R:PV->AH->Nat->Prop}
  (key:Fn P k args os fun Y G n0=>fD G n0 Y fun B D=> ∃r y A L,R r y A∧Wk os.length L ⟨[(0,D)],B,n0⟩ ⟨[(0,r)],y,A⟩):Fn P k args os R:=by
 refine⟨key.1,fun M N w vs hr u hv=>(key.2 M N w vs hr u hv).mono ?_⟩;rintro e Z ⟨x,M',N',Y,G,n0,rfl,hF,hx,hr',hvr⟩;obtain⟨F,B,D,g1,g2,g3,r,y,A,L,hR,J⟩:=hF M' N' Z hr'
 have C:Fits F N' ⟨[(0,D)],B,n0⟩ ⟨1,[]⟩ ⟨#[x],[]⟩ Z:=⟨g2,fun d=>by
  rw[AF.ax];by_cases hd:d=0
  .subst hd;rw[am I];exact g3 x hvr
  .rw[be hd];exact .any _,rfl,rfl⟩
 have j:=J.fits C;refine⟨x,F,_,r,y,A,rfl,hR,J.ext (hx.trans g1),j.1,?_⟩;have:=j.2.1 0;exact this
theorem BW{M:Mem}{N:Nm}{w:World}{args:List PV}{os:List AO}{vs:List Value}{m nt:Nat}(hm:m=nt)(hr:Rel M N (· <os.length) (dD 0 os) w)(d:args.length=vs.length)(x:args.length<=nt)(y: ∀(j:Nat) (p:PV),args[j]? =dl p->VR M N (· <os.length) p (vs.getD j undef)):
  Fits M N ⟨kS 0 args,dD 0 os,os.length⟩ nt {tmps:=vs.toArray++U3 (m-vs.toArray.size) undef,defers:=[]} w:=by
 refine⟨hr,fun i=>?_,rfl,by simp;omega⟩;rw[qO,am (TB _),V4,Tr];cases hi:args[i]? with
 |none=>exact .any _
 |some p=>
  have u:i<vs.length:=by rw[<-d];exact(Tp.1 hi).1
  have:=y i p hi;have e:(vs.toArray++U3 (m-vs.toArray.size) undef).getD i undef=vs.getD i undef:=by
   rw[Tl,T6 (by simpa using u),Tr];simp
  simp only[UI];rw[e];exact this
theorem F7 {ty:Ty} (i1:bE P ty) {k:FuncId} {fn:Func} {cs:List Code} {c0:Code} {id:Nat} {g:Operand} {ps:Array Tmp} {sL bd T:Code} (hf:P.funcs[k]? =dl fn) (hb:fn.body=dl (KQ cs (.seq (.seq c0 (.block id (.rangeFunc g ps sL bd))) T))) (hn:(fn.name== "runtime.NumGoroutine")=jp) {nt:Nat} (d1:fn.ntmps=nt)
  {l:List ResultVar} (hl:fn.results.toList=l) {u:List PV} (z0:u.length<=nt) {r0:PV} (hlow:r0.low 0=is) (s:AS)
  (y:GO P nt ((cs++ [c0]).map .code) (fun e t=>(e= .normal∧ ∃L0,Wk t.nx L0 t s)∨(e= .ret∧pH ty l r0 e t)) ⟨kS 0 u,[],0⟩)
  {kf:FuncId} {asv args:Nat->List PV} {os:Nat->List AO} {r:PV} {h':Nat->AH} {n':Nat} (fk:AF) (L:List Nat) (hk: ∀d,fk.get d= .any∨fk.get d=s.f.get d) (hc: ∀l,bC P kf (args l) (os l) r (h' l) n') (ha: ∀l,bM s.f (rangeCall g l)=dl (kf,asv l))
  (hnd:cz L=is) (hL:L.all (fun j=>TU j (s.nx+1))=is) (e1: ∀l,L.map (Kw s l ⟨ps,sL,bd,nt⟩ fk).h.get=(os l).map fun o=>dl (o.bZ (sig L (s.nx+1)))) (d0: ∀l,asv l=db (sig L (s.nx+1)) (args l))
  (e0: ∀l,∃f2,(aO (Kw s l ⟨ps,sL,bd,nt⟩ fk) L (h' l) n').h.get s.nx=dl (.fy l ⟨ps,sL,bd,nt⟩ f2))
  (f0: ∀l D,GO P ⟨nt,pd D⟩ [.code T] (pH ty fn.results.toList r0) (Ga s l ⟨ps,sL,bd,nt⟩ fk L (h' l) n')):Pure P k u r0:=by
 subst hl;refine Pb ⟨bQ hf hb hn,fun M N w vs hr k0 hv=>?_⟩;refine rR hf hb ?_;unfold GO at y;have b0: ∀(q:PV) (C:AS) (J:Mem) (N3:Nm) (o0:NT) (a3:Act) (G:World),jy ty C fn.results.toList=dl q->Fits J N3 C o0 a3 G->fD C.h C.nx q (fun _ r2=>aj r2 r0)->Ext M N (· <([]:List AO).length) (dD 0 []) w J N3 (· <C.nx) C.h G->
   ∃x,(results fn a3.tmps).run P G= .ok x G∧ ∃x' M' N' q0 h0 n0,Ending.returned x= .returned x'∧(fD h0 n0 q0 fun h2 r2=> ∃r h' n' L,(r=r0∧h'=[]∧n'=0)∧Wk ([]:List AO).length L ⟨[(0,r2)],h2,n0⟩ ⟨[(0,r)],h',n'⟩)∧Ext M N (· <([]:List AO).length) (dD 0 []) w M' N' (· <n0) h0 G∧Rel M' N' (· <n0) h0 G∧VR M' N' (· <n0) q0 x':=by
  intro q C J N3 o0 a3 G g1 g0 g2 E;obtain⟨x,B,l1⟩:=xW i1 g0 I g1;refine⟨x,B,x,J,N3,q,C.h,C.nx,rfl,?_,E,g0.1,l1⟩;intro M N w hr;obtain⟨M2,h2,r2,q1,q2,q3,q4⟩:=g2 M N w hr;refine⟨M2,h2,r2,q1,q2,q3,r0,[],0,[],⟨rfl,rfl,rfl⟩,rfl,TB _,by simp,⟨?_,hlow,ac⟩,ac,Us⟩;rw[PV.jz _ _ hlow];exact q4
 rw[GC]at y;refine AB cs y (BW d1 hr k0 z0 hv) (fun a0 w0 M0 N0 s0 j1 v0 f1=>?_) (fun e a3 G J N3 C he F Z i0=>?_)
 .refine wp_seq (wp_seq (AW.then (R:=fun e t=>(e= .normal∧ ∃L0,Wk t.nx L0 t s)∨(e= .ret∧pH ty fn.results.toList r0 e t)) f1 v0 fun e a1 w1 M1 N1 s1 A Y hq=>?_))
  replace A:=j1.trans A
  rcases hq with⟨rfl,L0,hw⟩|⟨rfl,_,q,g1,g2⟩
  .replace A:=A.trans (hw.ext (.refl _ _ _ _ _))
   replace Y:=hw.fits Y
   refine wp_block (Nb fk L hk hc ha (eG hnd) (fun j hj=>Tk (T7.1 hL j hj)) e1 d0 e0 Y fun M2 N2 l D w2 k1 x0 hD m1 t0 l0=>?_);show T.wp P _ _ w2;refine AW.then (f0 l D) x0 fun e a3 G J N3 C F Z i0=>?_;simp only[kp]at i0;obtain⟨he,q,g1,g2⟩:=i0;have b1:D<w2.heap.size:=(Uf.1 hD).1;have p0:G.heap[D]? =dl (.deferred (dl [])):=by rw[F.eU D b1 l0];exact hD
   have j0:J D=io:=by
    cases hm:J D with
    |none=>rfl
    |some d=>
     rcases F.eT D d t0 hm with h3|⟨j,p,h3,h4,h5⟩
     .omega
     .exact absurd h5 (l0 j p h3 h4)
   have m0: ∀i o,C.h.get i=dl o->o.real=is->N3.aC i≠D:=fun j p hj hp e=>by
    rcases F.dY j p hj hp with h3|⟨q,p2,h3,h4,h5⟩
    .omega
    .exact l0 q p2 h3 h4 (h5.trans e)
   have g0:Fits J N3 C ⟨nt,pd D⟩ a3 (G.putObj D (.deferred io)):=Z.putObj _ m0 j0;have E:=(A.trans k1).trans F;have n1:=A.size;obtain⟨x,B,hR⟩:=b0 q C J N3 _ a3 (G.putObj D (.deferred io)) g1 g0 g2 ⟨E.os,E.tape,⟨E.output.out,E.output.drawn⟩,by rw[World.putObj_size];exact E.size,fun b hb hn=>by rw[World.putObj_heap_other (by omega)];exact E.eU b hb hn,E.mz,E.eT,E.nm,E.ule,E.dY⟩;exact⟨he,.inr ⟨_,D,_,x,Z.2.2.1,rfl,run_takeDeferred p0,B,hR⟩⟩
  .obtain⟨x,B,hR⟩:=b0 q s1 M1 N1 _ a1 w1 g1 Y g2 A;exact⟨.inr I,.inl ⟨Y.2.2.1,x,B,hR⟩⟩
 .rcases uJ he [c0] i0 with⟨rfl,_⟩|⟨rfl,_,q,g1,g2⟩
  .exact absurd I he
  .obtain⟨x,B,hR⟩:=b0 q C J N3 _ a3 G g1 Z g2 F;exact⟨.inr I,.inl ⟨Z.2.2.1,x,B,hR⟩⟩
def ye:Code->List Code×Code×Nat×Operand×Array Tmp×Code×Code×Code
 | .seq (.seq x (.block i (.rangeFunc g ps a b))) t=>([],x,i,g,ps,a,b,t)
 | .seq x y=>(x::(ye y).1,(ye y).2)
 |_=>([],.skip,0,.tmp 0, #[],.skip,.skip,.skip)
def O0(p:List Code×Code×Nat×Operand×Array Tmp×Code×Code×Code):Code:=KQ p.1 (.seq (.seq p.2.1 (.block p.2.2.1 (.rangeFunc p.2.2.2.1 p.2.2.2.2.1 p.2.2.2.2.2.1 p.2.2.2.2.2.2.1))) p.2.2.2.2.2.2.2)
end
section
variable {P:Program} {nt:NT} {s:AS} {Q:AQ} {k:List KI}
theorem GP{id:Nat}{ops:Array Oper}{pre j:List Oper}{o:Oper}{x:Operand}{args:Array Operand}{ts:Array TypeId}(A:ops.toList=pre++o::j)(B:pre.all kC=is)(C:j.all kC=is)(ho:o.op= .call ⟨.value x,args,ts⟩)(hg:o.guard=io)
  (h:GO P nt [.ops ops.toList pre] (fun e t=>e= .normal∧ ∃(i l:Nat) (c:LC) (f:AF) (d:List PV),t.h.get i=dl (.fy l c f)∧ev t.f x= .iv (.v (.func (.yield l) #[] #[]))∧args.toList.map (ev t.f)=d∧c.ps.size=d.length∧c.ps.toList.all (fun p=>TU p c.nt)=is∧
   RN P ⟨c.nt,[]⟩ c.sL (fun t1=>RN P ⟨c.nt,[]⟩ c.bd (fun t2=> ∃s',putDst nt o (.kb is) ⟨t.f,(i,dl (.fy l c f))::t2.h,t2.nx⟩=dl s'∧GO P nt [.ops ops.toList j] (fun e u=>e= .normal∧GO P nt k Q u) s') t1) ⟨zQ (c.ps.toList.zip d) f,(i,io)::t.h,t.nx⟩) s):
  GO P nt (.code (.region id ops jp)::k) Q s:=by
 intro M N a w hf;refine wpIn_wide (n:=0).1 (wpIn_region_list (F:=FW io) ?_);have J:=h M N a w hf;rw[UH]at J
 have h2:=qv (ro:=io) (n:=0) (P:=P) (ops:=ops) (Q:=ju nt M N s w (kp P nt k Q)) (rest:=o::j) (fun e a1 w1 ⟨M1,N1,t,hx1,hf1,y⟩=>by
  simp only[kp]at y;obtain⟨rfl,i,l,c,f,d,g1,g2,g3,g4,g5,g6⟩:=y;refine⟨rfl,E1 ho hg g1 g2 g3 g4 g5 hf1 g6 fun M2 N2 s2 a2 Z G D hR=>?_⟩;have Y:=hR M2 N2 a2 Z D;rw[UH]at Y
  have h4:=qv (ro:=io) (n:=0) (P:=P) (ops:=ops) (Q:=ju nt M N s w (kp P nt k Q)) (rest:=[]) (fun e a3 w3 ⟨M3,N3,u,hx3,hf3,y⟩=>by
   simp only[kp]at y;obtain⟨rfl,y⟩:=y
   exact⟨rfl,M3,N3,u,(hx1.trans G).trans hx3,hf3,y⟩) j a2 Z C Y
  rwa[T1]at h4) pre a w B J
 rw[A];exact h2
theorem EA{id:Nat}{ops:Array Oper}{j:List Oper}{o:Oper}{x:Operand}{args:Array Operand}{ts:Array TypeId}(n:Nat)(y:ops.toList.drop n=o::j)(A:(ops.toList.take n).all kC=is)(B:j.all kC=is)(ho:o.op= .call ⟨.value x,args,ts⟩)(hg:o.guard=io)
  (h:GO P nt [.ops ops.toList (ops.toList.take n)] (fun e t=>e= .normal∧ ∃(i l:Nat) (c:LC) (f:AF) (d:List PV),t.h.get i=dl (.fy l c f)∧ev t.f x= .iv (.v (.func (.yield l) #[] #[]))∧args.toList.map (ev t.f)=d∧c.ps.size=d.length∧c.ps.toList.all (fun p=>TU p c.nt)=is∧
   RN P ⟨c.nt,[]⟩ c.sL (fun t1=>RN P ⟨c.nt,[]⟩ c.bd (fun t2=> ∃s',putDst nt o (.kb is) ⟨t.f,(i,dl (.fy l c f))::t2.h,t2.nx⟩=dl s'∧GO P nt [.ops ops.toList j] (fun e u=>e= .normal∧GO P nt k Q u) s') t1) ⟨zQ (c.ps.toList.zip d) f,(i,io)::t.h,t.nx⟩) s):
  GO P nt (.code (.region id ops jp)::k) Q s:=
 GP (by rw[<-y,Um]) A B ho hg h
end
section
variable {P:Program} {ty:Ty} {nt:NT} {s:AS}
theorem Fw{o:Oper}{p:PV}{s':AS}(hp:putDst nt o p s=dl s')(h: ∀M N a w,Fits M N s nt a w-> ∃x,(execOp a.eval o).run P w= .ok (.value x) w∧VR M N (· <s.nx) p x):
  (s'.h=s.h∧s'.nx=s.nx)∧ ∀M N a w,Fits M N s nt a w-> ∃x,(execOp a.eval o).run P w= .ok (.value x) w∧Fits M N s' nt (a.put o.dst x) w:=by
 cases hd:o.dst with
 |none=>
  have:=dx hp hd;subst this;exact⟨⟨rfl,rfl⟩,fun M N a w j=>let ⟨x,hx,_⟩:=h M N a w j;⟨x,hx,j⟩⟩
 |some d=>
  obtain⟨u,rfl⟩:=dw hp hd;exact⟨⟨rfl,rfl⟩,fun M N a w j=>let ⟨x,hx,hv⟩:=h M N a w j;⟨x,hx,j.put d p x u hv⟩⟩
theorem rE{Q:AQ}{k:List KI}{all:List Oper}{todo pend:List (Nat×Oper)}{o:Oper}{s':AS}{p:PV}(i:Nat)(j:todo.find? (fun x=>TR x.1 i)=dl (i,o))(u:aS o=jp)(y:todo.all (fun x=>!waits o x.1)=is)(hg:bV nt all s.f o=dl is)(d:vZ all pend o=is)
  (hp:putDst nt o p s=dl s') (A: ∀M N a w,Fits M N s nt a w-> ∃x,(execOp a.eval o).run P w= .ok (.value x) w∧VR M N (· <s.nx) p x)
  (h:GO P nt (.bY all (todo.filter fun x=>!TR x.1 i) ((i,o)::pend)::k) Q s'):GO P nt (.bY all todo pend::k) Q s:=
 have g:=Fw hp A
 uU (List.mem_of_find?_eq_some j) u (fun x B=>by simpa using T7.1 y x B) hg d g.1 g.2 h
end
end
end Go.Al
namespace Go.Al
open Go
section
section
variable {P:Program} {ty:Ty} {nt:NT} {s:AS}
theorem qK(B:bE P ty){o:Oper}{t u:TypeId}{x hi:Operand}(ho:o.op= .slice t x io (dl hi) io){e eu:bJ}(ht:ty t=dl e)(D:e.k= .aR (.slice u))(hu:ty u=dl eu)
  {n m sz:Nat} {el:Nat->List IV} {kc:IntKind} {Y:Int} (hx:ev s.f x= .iv (.bU sz n el)) (hh:ev s.f hi= .iv (.v (.int kc Y))) (G:Y=(m:Int)) (Z:m<=n):
  ∀M N a w,Fits M N s nt a w-> ∃x,(execOp a.eval o).run P w= .ok (.value x) w∧VR M N (· <s.nx) (.iv (.bU sz m el)) x:=by
 intro M N a w F;subst G;have A:P.underlying t=dl (.slice u):=by
  have:=(B t _ ht).2.1;rw[D]at this;exact this.1
 have y:P.elem t=u:=by simp[Program.elem,A]
 have C:=aJ F.2.1 x;rw[hx]at C;generalize J:a.eval x=vx at C;cases C with
 |iv _ _ hir=>
  cases hir with
  |fN _ _ a0 cap=>
   obtain rfl:m=0:=by omega
   have d:=run_slice_h (P:=P) (w:=w) t a0 0 cap (by rw[y];exact A) kc ((0:Nat):Int) (by omega) (by omega);rw[y,a7 (B u _ hu)]at d;refine⟨sliced a0 0 0 cap eu.size,?_,?_⟩
   .simp only[execOp,ho,J,Ut,VA,ph F hh];refine aY ?_;rw[run_sliceAt_slice w t _ _ _ _ (by rw[y];exact A),d];rfl
   .exact .iv _ _ (.fN _ _ _ _)
  |bU _ _ _ b off cap hn hc hl hm hr=>
   have d:=run_slice_h (P:=P) (w:=w) t (dl ⟨b,off,io⟩) n cap (by rw[y];exact A) kc (m:Int) (by omega) (by omega);rw[y,a7 (B u _ hu)]at d;refine⟨sliced (dl ⟨b,off,io⟩) 0 m cap eu.size,?_,?_⟩
   .simp only[execOp,ho,J,Ut,VA,ph F hh];refine aY ?_;rw[run_sliceAt_slice w t _ _ _ _ (by rw[y];exact A),d];rfl
   .have h:=IR.bU sz m el b off cap (by omega) hc (fun k D=>hl k (by omega)) (fun k j D=>hm k j (by omega)) (fun k j p D=>hr k j p (by omega));exact .iv _ _ (by simpa[sliced,Addr.add]using h)
end
section
variable {P:Program} {ty:Ty} {nt:NT} {Q:AQ} {k:List KI} {s:AS}
theorem lz{all rest:List Oper}{o:Oper}{t e:TypeId}{x:Operand}{d sz n:Nat}{el:Nat->List IV}(hg:o.guard=io)(ho:o.op= .binOp .eql t x (.const (.slice io 0 0)) t)(hd:o.dst=dl d)(A:TU d nt=is)(G:P.underlying t=dl (.slice e))(J:ev s.f x= .iv (.bU sz n el))
  (h: ∀b:Bool,(b=is->n=0)->GO P nt (.ops all rest::k) Q ⟨(d,pB b)::s.f,s.h,s.nx⟩):GO P nt (.ops all (o::rest)::k) Q s:=by
 refine bF (R:=fun u=> ∃b:Bool,(b=is->n=0)∧u=⟨(d,pB b)::s.f,s.h,s.nx⟩) hg (fun M N a w C K Z F=>?_) fun u ⟨b,hb,hu⟩=>by subst hu;exact h b hb
 have y:=aJ C.2.1 x;rw[J]at y;generalize B:a.eval x=v at y;have j: ∀(a0:Option Addr) (l c:Nat),v= .slice a0 l c->(execOp a.eval o).run P w= .ok (.value (.bool a0.isNone)) w:=fun a0 l c y=>by
  unfold execOp;rw[ho];simp only[B,y];exact aY (Lib.run_eql_slice_nil w t e a0 l c 0 0 G)
 have b0: ∀(b:Bool),(b=is->n=0)->(execOp a.eval o).run P w= .ok (.value (.bool b)) w->o.wp P a w K Z:=fun b hb D=>by
  unfold Oper.wp;rw[D];simp only[Oper.upon];rw[hd];exact F M N ⟨(d,pB b)::s.f,s.h,s.nx⟩ _ w (.refl _ _ _ _ _) (C.put d (pB b) (.bool b) (Tk A) (.iv _ _ (.v _))) ⟨b,hb,rfl⟩
 cases y with
 |iv _ _ hi=>cases hi with
  |fN _ _ a0 cap=>exact b0 _ (fun _=>rfl) (j a0 0 cap I)
  |bU _ _ _ b off cap hn hc hl hm D=>exact b0 jp (fun h=>by cases h) (j _ n cap I)
theorem nW(j:bE P ty){all rest:List Oper}{o:Oper}{t u:TypeId}{d:Nat}(hg:o.guard=io)(ho:o.op= .buildSlice t 0 #[])(hd:o.dst=dl d)(y:TU d nt=is){e eu:bJ}(ht:ty t=dl e)(Y:e.k= .aR (.slice u))(hu:ty u=dl eu)
  (h: ∀b:Nat,GO P nt (.ops all rest::k) Q ⟨(d,.iv (.v (.slice (dl ⟨b,0,io⟩) 0 0)))::s.f,(s.nx,dl (.row 1 []))::s.h,s.nx+1⟩):GO P nt (.ops all (o::rest)::k) Q s:=by
 refine bF (R:=fun v=> ∃b:Nat,v=⟨(d,.iv (.v (.slice (dl ⟨b,0,io⟩) 0 0)))::s.f,(s.nx,dl (.row 1 []))::s.h,s.nx+1⟩) hg (fun M N a w J K Z B=>?_) fun v ⟨b,hv⟩=>by subst hv;exact h b
 have D:P.underlying t=dl (.slice u):=by
  have:=(j t _ ht).2.1;rw[Y]at this;exact this.1
 obtain⟨F,h1,h2,h8,G,x⟩:=J.1.alloc (.cells #[] u) (.row 1 []) 0 (fun F g1 g2 g3=> .inl I);have hr:(execOp a.eval o).run P w= .ok (.value (.slice (dl ⟨w.heap.size,0,io⟩) 0 0)) (w.alloc (.cells #[] u)):=by
  have C:=a7 (w:=w) (j u eu hu);simp[execOp,ho,Instr.buildSlice,Sem.run_bind,run_underlying D,Result.andThen_ok,C,newRow,Instr.fill,show Wu 0= #[] from rfl]
 have A:=dZ J G x;unfold Oper.wp;rw[hr];simp only[Oper.upon];rw[hd];exact B M F ⟨(d,.iv (.v (.slice (dl ⟨w.heap.size,0,io⟩) 0 0)))::s.f,(s.nx,dl (.row 1 []))::s.h,s.nx+1⟩ _ _ G (Fits.put (s:=⟨s.f,(s.nx,dl (.row 1 []))::s.h,s.nx+1⟩) A d _ _ (Tk y) (.iv _ _ (.v _))) ⟨_,rfl⟩
theorem nX(d0:bE P ty){all rest:List Oper}{o:Oper}{x y:Operand}{t u:TypeId}(hg:o.guard=io)(ho:o.op= .call ⟨.builtin .append, #[x,y], #[t,t]⟩){e eu:bJ}(ht:ty t=dl e)(hk:e.k= .aR (.slice u))(hu:ty u=dl eu)
  {b0 sz:Nat} {news:List (List PV)} {py:PV} (hx:ev s.f x= .iv (.v (.slice (dl ⟨b0,0,io⟩) 0 0))) (t0:eu.size=sz) (hz:eu.zero.cells.size=sz) (s0:0<sz)
  (r0:ev s.f y=py) (hy:Src s.h sz py news) (hm:news≠ []) (hb:news.length*eu.bytes<=140737488355328) (b1:news.length<=140737488355328)
  {s':AS} (hp:putDst nt o (.sl s.nx 0 news.length sz) (newObj s (.row sz news))=dl s') (h:GO P nt (.ops all rest::k) Q s'):GO P nt (.ops all (o::rest)::k) Q s:=by
 refine bF hg (OT.value hp fun M N a w Y=>?_) fun v hv=>by subst hv;exact h
 subst t0;obtain⟨⟨ii,n0,o0,m0,p0⟩,_⟩:=d0 u _ hu;have v0:P.underlying t=dl (.slice u):=by
  have:=(d0 t _ ht).2.1;rw[hk]at this;exact this.1
 have J:=aJ Y.2.1 x;rw[hx]at J;have f0:=aJ Y.2.1 y;rw[r0]at f0;obtain⟨B,ao,c,z0,C⟩:=hy.ok Y f0;have d: ∀v w',(Builtin.append_ #[t,t] o.type #[a.eval x,a.eval y]).run P w= .ok v w'->(execOp a.eval o).run P w= .ok (.value v) w':=by
  intro v w' h;simp only[execOp,ho,resolve];simp[invoke,builtin,h]
 rw[z0]at d;have a0: ∀vs:List Value,vs.length=news.flatten.length->vs.length=news.length*ii.size:=fun vs h=>by rw[h,di B,o0]
 generalize a.eval x=vx at J d;cases J with
 |iv _ _ hi=>cases hi with
  |v=>
   obtain⟨b,a1,j0,D⟩:=C hm;subst j0;obtain⟨vs,e0,w0,x0⟩:=nJ (s:=s) D;have i1:0<news.length:=UE.2 hm;have F:=run_append_grow (P:=P) w t o.type u ii eu.zero v0 n0 p0 ⟨b0,0,io⟩ 0 0 [] (by simp) (fun j v hj=>by simp at hj) ⟨b,a1,io⟩ news.length c vs (a0 vs e0) w0 (by omega) (by omega) (growslice_fits (by omega) (by rw[m0,TL];exact hb));have G:vs.length=news.length*eu.size:=by rw[e0,di B]
   have c0:=grownCap_ge w (0+news.length) 0 u;have k0:=grownCap_le_maxLen w (0+news.length) 0 u (by simp only[maxLen];omega);generalize grownCap w (0+news.length) 0 u=cap at*
   generalize i0:([]:List Value).toArray++vs.toArray++Builtin.zeroCells eu.zero.cells (cap-(0+news.length))=z at F;have A:z.size=cap*eu.size:=by
    rw[<-i0,UZ,UZ,size_zeroCells,hz];simp only[VC,G,UJ,TL] at*
    rw[<-Ug,Nat.add_sub_cancel' c0]
   obtain⟨N',h1,h2,h3,h4,h5⟩:=Y.1.drew.alloc (.cells z u) (.row eu.size news) z.size (fun N' g1 g2 g3=>by
    refine .inr ⟨s0,z,u,by rw[g1];exact heap_alloc_new _ _,g2.symm,?_,fun k e Z=>B _ e Z,fun k e j p Z hj=>?_⟩
    .rw[A];exact TN _ (by omega)
    .have d1:j<eu.size:=by rw[<-B _ e Z];exact(Tp.1 hj).1
     have q0:k<news.length:=(Tp.1 Z).1;have l0:=jZ B _ e j p Z hj;have f1:k*eu.size+j<vs.length:=by
      rw[G];have:(k+1)*eu.size<=news.length*eu.size:=TN _ q0;rw[Ug]at this;omega
     have:=x0 _ p l0;have e1:z.getD (k*eu.size+j) undef=vs.getD (k*eu.size+j) undef:=by
      rw[<-i0,Tl,T6 (by simp;omega),Tr];simp
     rw[e1];exact this.mono (.refl _) g3 (fun i hi=>by omega))
   have g0:=(Ext.drew (M:=M) (N:=N) (U:=(· <s.nx)) (h:=s.h) (w:=w)).trans h4;refine⟨_,_,M,N',d _ _ F,g0,⟨h5,Y.2.1.ext g0,Y.2.2⟩,?_⟩;have:=VR.sl (M:=M) (N:=N') (U:=(· <s.nx+1)) s.nx 0 (0+news.length) eu.size cap (by omega) (by omega) c0 k0 (by rw[h2,A];simp);rw[h1,U6,show PV.sl s.nx 0 (0+news.length) eu.size=PV.sl s.nx 0 news.length eu.size by rw[TL]]at this;exact(show(newObj s (.row eu.size news)).nx=s.nx+1 from rfl)▸this
theorem qz(F:bE P ty){all rest:List Oper}{o:Oper}{x y:Operand}{t u:TypeId}(hg:o.guard=io)(ho:o.op= .call ⟨.builtin .append, #[x,y], #[t,t]⟩){e eu:bJ}(ht:ty t=dl e)(hk:e.k= .aR (.slice u))(hu:ty u=dl eu)
  {Y sz:Nat} (hx:ev s.f x= .iv (.v (.slice (dl ⟨Y,0,io⟩) 0 0))) (d0:eu.size=sz)
  {el:Nat->List IV} (c0:ev s.f y= .iv (.bU sz 0 el)) {el2:Nat->List IV}
  {s':AS} (hp:putDst nt o (.iv (.bU sz 0 el2)) s=dl s') (h:GO P nt (.ops all rest::k) Q s'):GO P nt (.ops all (o::rest)::k) Q s:=by
 refine bF hg (OT.value hp fun M N a w Z=>?_) fun v hv=>by subst hv;exact h
 subst d0;obtain⟨⟨ii,a0,g0,f0,i0⟩,_⟩:=F u _ hu;have e0:P.underlying t=dl (.slice u):=by
  have:=(F t _ ht).2.1;rw[hk]at this;exact this.1
 have A:=aJ Z.2.1 x;rw[hx]at A;have B:=aJ Z.2.1 y;rw[c0]at B;have d: ∀v C,(Builtin.append_ #[t,t] o.type #[a.eval x,a.eval y]).run P w= .ok v C->(execOp a.eval o).run P w= .ok (.value v) C:=by
  intro v C h;simp only[execOp,ho,resolve];simp[invoke,builtin,h]
 generalize a.eval x=vx at A d;generalize a.eval y=vy at B d;have j: ∀(D:Option Addr) (c:Nat),vx= .slice (dl ⟨Y,0,io⟩) 0 0->vy= .slice D 0 c-> ∃v C G J,(execOp a.eval o).run P w= .ok (.value v) C∧Ext M N (· <s.nx) s.h w G J (· <s.nx) s.h C∧Fits G J s nt a C∧VR G J (· <s.nx) (.iv (.bU eu.size 0 el2)) v:=fun D c e1 e2=>by
  subst e1 e2;exact⟨_,w,M,N,d _ _ (fh (P:=P) (w:=w) t o.type u ii e0 a0 (dl ⟨Y,0,io⟩) 0 0 (Tv _) D c (.inr ⟨_,_,rfl⟩)),.refl _ _ _ _ _,Z,.iv _ _ (.fN _ _ _ _)⟩
 cases A with
 |iv _ _ hi=>cases hi with
  |v=>cases B with
   |iv _ _ hi=>cases hi with
    |fN _ _ D c=>exact j D c I I
    |bU _ _ _ b off cap=>exact j _ _ I I
end
def Pw{σ:Type}(P:Program)(nt:NT)(k:List KI)(Q:AQ)(n0:Nat)(t:σ->AS):AQ:=fun e u=>(e= .normal∧ ∃i L,Wk n0 L u (t i))∨(e≠ .normal∧kp P nt k Q e u)
theorem go_cut{P:Program}{nt:NT}{Q:AQ}{k:List KI}{s:AS}{c:Code}{σ:Type}(n:Nat)(t:σ->AS)(A:c=N8 (xM n c) (tp n c))
  (h1:GO P nt ((xM n c).map KI.code) (Pw P nt k Q s.nx t) s) (h2: ∀i,GO P nt (.code (tp n c)::k) Q (t i)):GO P nt (.code c::k) Q s:=by
 intro M N a w hf;rw[A];have key: ∀(l:List Code) (u:AS) C F J B,Ext M N (· <s.nx) s.h w C F (· <u.nx) u.h B->Fits C F u nt J B->
   kp P nt (l.map KI.code) (Pw P nt k Q s.nx t) .normal u->(N8 l (tp n c)).wp P (ju nt M N s w (kp P nt k Q)) J B:=by
  intro l
  induction l with
  |nil=>
   intro u C F J B Y y hk;rcases hk with⟨_,i,L,hw⟩|⟨he,_⟩
   .exact AW.then (h2 i) (hw.fits y) fun e a2 w2 D G Z x d j=>⟨D,G,Z,(hw.ext Y).trans x,d,j⟩
   .exact absurd I he
  |cons c l ih=>
   intro u C F J B Y y hk;refine wp_seq (AW.then hk y fun e a2 w2 D G Z x d j=>?_);cases e with
   |normal=>exact ih Z D G a2 w2 (Y.trans x) d j
   |_=>
    rcases C3 (l:=l) (by simp) j with⟨he,_⟩|⟨_,hq⟩
    .cases he
    .exact⟨D,G,Z,Y.trans x,d,hq⟩
 exact key _ s M N a w (.refl _ _ _ _ _) hf h1
theorem kR{P:Program}{nt:NT}{k:List KI}{Q:AQ}{n0:Nat}{σ:Type}{t:σ->AS}{u:AS}(i:σ)(L:List Nat)(h:Wk n0 L u (t i)):Pw P nt k Q n0 t .normal u:= .inl ⟨rfl,i,L,h⟩
section
variable {P:Program} {ty:Ty} {nt:NT} {Q:AQ} {k:List KI} {s:AS}
theorem ma(j:bE P ty){all rest:List Oper}{o:Oper}{t:TypeId}{a:Operand}(ho:o.op= .load t a)(hg:o.guard=io){e:bJ}(he:ty t=dl e){i sz q off:Nat}{es:List (List PV)}{row:List PV}{v:PV}
  (ha:ev s.f a= .c6 i sz q off) (hi:s.h.get i=dl (.row sz es)) (x:es[q]? =dl row) (hr:gI e (row.drop off)=dl v)
  {s':AS} (hp:putDst nt o v s=dl s') (h:GO P nt (.ops all rest::k) Q s'):GO P nt (.ops all (o::rest)::k) Q s:=by
 have hb:behind s.h (.c6 i sz q off)=dl (row.drop off):=by
  simp only[behind,hi,x,WD]
 have d:iu ty s o.op=dl (v,True):=by
  rw[ho];simp only[iu,he,ha,hb,hr]
 exact bF hg (uf j d ac hp) fun u hu=>by subst hu;exact h
end
section
variable {P:Program} {ty:Ty} {nt:NT} {Q:AQ} {k:List KI} {s:AS}
theorem lO(r0:bE P ty){o:Oper}{t:TypeId}{a x:Operand}(ho:o.op= .store t a x)(hd:o.dst=io){i sz q off:Nat}{e:bJ}(he:ty t=dl e){es:List (List PV)}{row xs:List PV}
  (ha:ev s.f a= .c6 i sz q off) (hi:s.h.get i=dl (.row sz es)) (Y:es[q]? =dl row) (v0:(ev s.f x).cells=dl xs) (a1:xs.length=e.size) (f0:off+e.size<=sz) (b0:eM xs=is):
  OT P nt o s (fun u=>u=⟨s.f,(i,dl (.row sz (es.set q (setCells row off xs))))::s.h,s.nx⟩):=by
 have hp:putDst nt o .any ⟨s.f,(i,dl (.row sz (es.set q (setCells row off xs))))::s.h,s.nx⟩=dl ⟨s.f,(i,dl (.row sz (es.set q (setCells row off xs))))::s.h,s.nx⟩:=by simp only[putDst,hd]
 refine OT.skip hp fun M N b w J=>?_;have hu:=aJ J.2.1 a;have hy:=aJ J.2.1 x;rw[ha]at hu;generalize s0:b.eval a=u at hu;generalize w0:b.eval x=y at hy
 have key: ∃w',(Instr.storeAt t u y).run P w= .ok () w'∧Ext M N (· <s.nx) s.h w M N (· <s.nx) ((i,dl (.row sz (es.set q (setCells row off xs))))::s.h) w'∧Fits M N ⟨s.f,(i,dl (.row sz (es.set q (setCells row off xs))))::s.h,s.nx⟩ nt b w':=by
  cases hu with
  |c6 _ _ _ _ hU=>
   obtain⟨hl,hv⟩:=nD hy v0;have b1:y.cells.size=e.size:=by omega
   have o0:q<es.length:=(Tp.1 Y).1;rcases J.1.obj i _ hi with h0|⟨h0,c,T,g1,g2,g3,g4,g5⟩
   .rw[h0]at Y;simp at Y
   have e0:row.length=sz:=g4 q row Y;have a0:(q+1)*sz<=es.length*sz:=TN _ o0;have z0:q*sz+off+e.size<=c.size:=by rw[U4]at a0;omega
   have C: ∀z∈y.cells.toList,z.oneCell'=is:=by
    intro v t0;obtain⟨j,hj⟩:=UB t0;have k0:j<y.cells.toList.length:=(Tp.1 hj).1;have Z:xs[j]? =dl (xs[j]'(by simp at k0;omega)):=Ts _;have:=(hv j _ Z).one (iK b0 j _ Z);rw[Tl]at this;have i0:y.cells[j]? =dl v:=by simpa using hj
    rw[i0]at this;exact this
   have d0:=run_storeCells_at P (N.aC i) (q*sz+off) T y.cells.toList 0 c w g1 (by simp;omega) C;refine⟨w.setRow (N.aC i) (c.toList.take ((q*sz+off)+0)++y.cells.toList++c.toList.drop ((q*sz+off)+0+y.cells.toList.length)).toArray,?_,?_⟩
   .have D:=a7 (w:=w) (r0 t e he);have q0:y.cells.size=e.size:=by omega
    simp only[Instr.storeAt,Instr.sureAddr,pure_bind,storeVar,Sem.run_bind,D,Result.andThen_ok,q0,ne_eq,not_true_eq_false,if_false];exact d0
   .have c0:=setRow_heap w (N.aC i) c (c.toList.take ((q*sz+off)+0)++y.cells.toList++c.toList.drop ((q*sz+off)+0+y.cells.toList.length)).toArray T (0,0) g1;have n0: ∀b,b≠N.aC i->(w.setRow (N.aC i) (c.toList.take ((q*sz+off)+0)++y.cells.toList++c.toList.drop ((q*sz+off)+0+y.cells.toList.length)).toArray).heap[b]? =w.heap[b]? :=by
     intro b hb;simp only[World.setRow,T8];rw[be (fun e=>hb e.symm)]
    have p0:(AO.row sz es).real=is:=by cases es with
     |nil=>simp at Y
     |cons=>rfl
    have g0: ∀m,(c.toList.take ((q*sz+off)+0)++y.cells.toList++c.toList.drop ((q*sz+off)+0+y.cells.toList.length)).toArray.getD m undef=if q*sz+off<=m∧m<q*sz+off+e.size then y.cells.getD (m-(q*sz+off)) undef else c.getD m undef:=by
     intro m;rw[Tl,Tl,Tl];have l0:y.cells.toList.length=e.size:=by simp;omega
     split
     .rename_i hm;have e1:(c.toList.take ((q*sz+off)+0)++y.cells.toList++c.toList.drop ((q*sz+off)+0+y.cells.toList.length)).toArray[m]? =y.cells[m-(q*sz+off)]? :=by
       simp only[Ul];rw[TG (by simp;omega),TI (by simp;omega)];simp only[TY,VX,T5];congr 1;omega
      rw[e1]
     .rename_i hm;have e1:(c.toList.take ((q*sz+off)+0)++y.cells.toList++c.toList.drop ((q*sz+off)+0+y.cells.toList.length)).toArray[m]? =c[m]? :=by
       simp only[Ul];rcases Un m (q*sz+off) with k1|k1
       .rw[Tz,TG (by simp;omega),T4,am (by omega),T5]
       .rw[TI (by simp;omega),Uz,T5];congr 1;simp;omega
      rw[e1]
    have:=J.1.write hi p0 (w.setRow (N.aC i) (c.toList.take ((q*sz+off)+0)++y.cells.toList++c.toList.drop ((q*sz+off)+0+y.cells.toList.length)).toArray) (.row sz (es.set q (setCells row off xs))) I I I (by simp) n0
     (.inr ⟨h0,_,T,c0,by simp;omega,by simp;omega,fun F e2 d=>?_,fun F e2 A p2 d G=>?_⟩)
    .exact⟨this.1,this.2,J.2.1,J.2.2⟩
    .rw[U9]at d;split at d
     .cases d;rw[da];exact e0
     .exact g4 F e2 d
    .rw[g0];rw[U9]at d;split at d
     .rename_i B;subst B;cases d;have j0:A<sz:=by rw[<-e0,<-da row off xs];exact(Tp.1 G).1
      rcases gZ row off xs A p2 G with⟨k1,k3⟩|⟨k1,k3⟩
      .have x0:A-off<xs.length:=(Tp.1 k3).1;rw[am (by omega),show q*sz+A-(q*sz+off)=A-off by omega];exact hv _ p2 k3
      .rw[be (by omega)];exact g5 q row A p2 Y k3
     .rename_i B;have j0:A<sz:=by rw[<-g4 F e2 d];exact(Tp.1 G).1
      rw[be ?_]
      .exact g5 F e2 A p2 d G
      .intro⟨e1,e3⟩;rcases Nat.lt_trichotomy q F with m0|heq|hgt
       .have:(q+1)*sz<=F*sz:=TN _ m0;rw[U4]at this;omega
       .exact B heq
       .have:(F+1)*sz<=q*sz:=TN _ hgt;rw[U4]at this;omega
 obtain⟨w',h1,d,G⟩:=key;refine⟨w',M,N,?_,d,G⟩;simp only[execOp,ho];simp[s0,w0,h1]
theorem wG{es:List (List PV)}{q off:Nat}{row xs:List PV}(d:es[q]? =dl row)(h:setCells row off xs=row):es.set q (setCells row off xs)=es:=by
 rw[h];refine VD fun i=>?_;rw[U9];split
 .rename_i e;subst e;split
  .exact d.symm
  .rename_i g;rw[List.getElem?_eq_none (by omega)]
 .rfl
theorem yB(A:bE P ty){all rest:List Oper}{o:Oper}{t:TypeId}{a x:Operand}(ho:o.op= .store t a x)(hd:o.dst=io)(hg:o.guard=io){i sz q off:Nat}{e:bJ}(he:ty t=dl e){es:List (List PV)}{row xs:List PV}
  (ha:ev s.f a= .c6 i sz q off) (hi:s.h.get i=dl (.row sz es)) (D:es[q]? =dl row) (C:(ev s.f x).cells=dl xs) (B:xs.length=e.size) (j:off+e.size<=sz) (y:eM xs=is) (d:setCells row off xs=row)
  (h:GO P nt (.ops all rest::k) Q ⟨s.f,(i,dl (.row sz es))::s.h,s.nx⟩):GO P nt (.ops all (o::rest)::k) Q s:=
 bF hg (lO A ho hd he ha hi D C B j y) fun u hu=>by subst hu;rw[wG D d];exact h
theorem lN(A:bE P ty){o:Oper}{t:TypeId}{a x:Operand}(ho:o.op= .store t a x)(hd:o.dst=io){i sz q off:Nat}{e:bJ}(he:ty t=dl e){es:List (List PV)}{row xs:List PV}
  (ha:ev s.f a= .c6 i sz q off) (hi:s.h.get i=dl (.row sz es)) (D:es[q]? =dl row) (C:(ev s.f x).cells=dl xs) (B:xs.length=e.size) (j:off+e.size<=sz) (y:eM xs=is) (d:setCells row off xs=row):
  OT P nt o s fun u=>u=⟨s.f,(i,dl (.row sz es))::s.h,s.nx⟩:=by
 have:=lO (P:=P) (nt:=nt) A ho hd he ha hi D C B j y;rwa[wG D d]at this
theorem iY(j:bE P ty){o:Oper}{t:TypeId}{a:Operand}(ho:o.op= .load t a){e:bJ}(he:ty t=dl e){i sz q off:Nat}{es:List (List PV)}{row:List PV}{v:PV}
  (ha:ev s.f a= .c6 i sz q off) (hi:s.h.get i=dl (.row sz es)) (y:es[q]? =dl row) (hr:gI e (row.drop off)=dl v):
  ∀M N b w,Fits M N s nt b w-> ∃x,(execOp b.eval o).run P w= .ok (.value x) w∧VR M N (· <s.nx) v x:=by
 have hb:behind s.h (.c6 i sz q off)=dl (row.drop off):=by
  simp only[behind,hi,y,WD]
 have d:iu ty s o.op=dl (v,True):=by
  rw[ho];simp only[iu,he,ha,hb,hr]
 intro M N b w u;exact re j u d ac
def HL(P:Program)(nt:NT)(all:List Oper)(s:AS):List (Nat×Oper)->Prop
 | []=>True
 |x::r=>eN P nt all s x.2∧HL P nt all s r
theorem HL.mem{all:List Oper}{l:List (Nat×Oper)}(h:HL P nt all s l): ∀x∈l,eN P nt all s x.2:=by
 induction l with
 |nil=>intro x d;cases d
 |cons y r ih=>
  intro x d;rcases TQ.1 d with e|m
  .rw[e];exact h.1
  .exact ih h.2 x m
theorem vu(y:bE P ty){all:List Oper}{o:Oper}{t:TypeId}{a:Operand}(ho:o.op= .load t a)(hg:bV nt all s.f o=dl is){d:Nat}(hd:o.dst=dl d)(j:TU d nt=is){e:bJ}(he:ty t=dl e){i sz q off:Nat}{es:List (List PV)}{row:List PV}{v:PV}
  (ha:ev s.f a= .c6 i sz q off) (hi:s.h.get i=dl (.row sz es)) (A:es[q]? =dl row) (hr:gI e (row.drop off)=dl v) (hs:aj v (s.f.get d)):eN P nt all s o:=fun M N b w u=>by
 obtain⟨x,C,B⟩:=iY y ho he ha hi A hr M N b w u;refine⟨x,.inl ⟨eV hg u,.inl C⟩,?_⟩;rw[hd];exact qP hd I hs (u.put d v x (Tk j) B)
theorem KB(A:bE P ty)(H:List Nat){all:List Oper}{todo pend:List (Nat×Oper)}{j:Nat}{o:Oper}{s':AS}{J G:Prop}(hrd:dX todo=[(j,o)])(hg:bV nt all s.f o=dl is)(hpb:hQ all pend o=is)(hE:mC todo [j]=is)
  (hag:mF ty nt all s todo pend=dl J) (hCA:J) (C:OT P nt o s (fun t=>t=s')) (hag2:de ty nt all s' ((a8 pend o).filter fun x=>!H.any (TR x.1))=dl G) (hC2:G) (hH:HL P nt all s' ((a8 pend o).filter fun x=>H.any (TR x.1)))
  (h:GO P nt (.bY all (todo.filter fun x=>!TR x.1 j) (a8 pend o)::k) Q s'):GO P nt (.bY all todo pend::k) Q s:=by
 have u:(j,o)∈dX todo:=by rw[hrd];simp
 obtain⟨Y,B⟩:=Ub.1 u;simp only[UD,Vh,Uo]at B;have d: ∀y∈todo,aS y.2=is-> ∀y∈pend,eN P nt all s y.2:=by
  intro y D F;unfold mF at hag;split at hag
  .exact cI A hag hCA
  .rename_i h2;have:=Uo.1 h2 y D;rw[F]at this;exact absurd I this
 refine nV hE ⟨_,Y,B.1⟩ d fun j' o' Z _ hu=>?_;simp only[TF]at Z;subst Z;have:=hu o Y;subst this
 refine⟨B.1,fun y D _=>by simpa using B.2 y D,hpb,hg,_,C,fun t ht=>by
  subst ht;refine⟨fun x hx=>?_,h⟩;cases hb:H.any (TR x.1) with
  |true=>exact hH.mem x (Ub.2 ⟨hx,hb⟩)
  |false=>exact cI A hag2 hC2 x (Ub.2 ⟨hx,by simp only[hb];rfl⟩)⟩
theorem AA(y:bE P ty)(H:List Nat){all:List Oper}{todo pend:List (Nat×Oper)}{j:Nat}{o:Oper}{c:Call}{g:FuncId}{asv args:List PV}{os:List AO}{r:PV}{C:AH}{D:Nat}{s':AS}{B A:Prop}(L:List Nat)(hc:bC P g args os r C D)
  (hrd:dX todo=[(j,o)]) (ho:o.op= .call c) (ha:bM s.f c=dl (g,asv))
  (hn:cz L=is) (G:L.all (fun j=>TU j s.nx)=is) (u:L.map s.h.get=os.map fun o=>dl (o.bZ (sig L s.nx))) (d:asv=db (sig L s.nx) args) (hp:putDst nt o (r.bZ (sig L s.nx)) (aO s L C D)=dl s')
  (hg:bV nt all s.f o=dl is) (hpb:hQ all pend o=is) (hE:mC todo [j]=is)
  (hag:mF ty nt all s todo pend=dl B) (hCA:B) (hag2:de ty nt all s' ((a8 pend o).filter fun x=>!H.any (TR x.1))=dl A) (hC2:A) (F:HL P nt all s' ((a8 pend o).filter fun x=>H.any (TR x.1)))
  (h:GO P nt (.bY all (todo.filter fun x=>!TR x.1 j) (a8 pend o)::k) Q s'):GO P nt (.bY all todo pend::k) Q s:=
 KB y H hrd hg hpb hE hag hCA (u6 L hc ho ha hn G u d hp) hag2 hC2 F h
end
theorem dK.MP{sz:Nat}{es u:List (List PV)}(B:es.length=u.length)(h: ∀(k:Nat) (e y:List PV),es[k]? =dl e->u[k]? =dl y->fR e y):dK (.row sz es) (.row sz u):=by
 have x:u=[]↔es=[]:=by rw[<-UC,<-UC,B]
 refine⟨fun F=>?_,fun M N U w i G=>?_⟩
 .cases es with
  |nil=>rw[x.2 I]at F;cases F
  |cons=>rfl
 .rcases G with C|⟨C,c,T,g1,g2,g3,g4,g5⟩
  .exact .inl (x.2 C)
  .refine .inr ⟨C,c,T,g1,g2,by rw[<-B];exact g3,fun k y d=>?_,fun k y j p d J=>?_⟩
   .have A:k<es.length:=by rw[B];exact(Tp.1 d).1
    have:=h k _ y (Ts A) d;rw[<-this.length];exact g4 k _ (Ts A)
   .have A:k<es.length:=by rw[B];exact(Tp.1 d).1
    obtain⟨q,Y,D⟩:=(h k _ y (Ts A) d).get j p J;exact D _ _ _ _ (g5 k _ j q (Ts A) Y)
def jr:List (List PV)->List (List PV)->Prop
 | [],[]=>True
 |p::r,q::s=>fR p q∧jr r s
 |_,_=>False
theorem jr.length: ∀{a b:List (List PV)},jr a b->a.length=b.length
 | [],[],_=>rfl
 |_::_,_::_,h=>congrArg (· +1) (jr.length h.2)
 | [],_::_,h=>h.elim
 |_::_,[],h=>h.elim
theorem jr.get: ∀{a b:List (List PV)},jr a b-> ∀(k:Nat) (e d:List PV),a[k]? =dl e->b[k]? =dl d->fR e d
 | [],[],_,_,_,_,h,_=>by simp at h
 |p::r,q::s,hh,k,e,d,h,g=>by
  cases k with
  |zero=>simp at h g;subst h;subst g;exact hh.1
  |succ k=>exact jr.get hh.2 k e d (by simpa using h) (by simpa using g)
 | [],_::_,hh,_,_,_,_,_=>hh.elim
 |_::_,[],hh,_,_,_,_,_=>hh.elim
theorem fR.refl: ∀a:List PV,fR a a
 | []=>trivial
 |p::r=>⟨.refl p,fR.refl r⟩
theorem jr.refl: ∀a:List (List PV),jr a a
 | []=>trivial
 |p::r=>⟨fR.refl p,jr.refl r⟩
theorem hRl{n i:Nat}{σ:Nat->Nat}{h r:AH}{α:Type}{sz:Nat}{es:List (List PV)}{l:List α}{f:α->List IV}(ho:h.get (σ i)=dl (.row sz es))(he:jr es (l.map fun x=>(f x).map .iv))(hi:TU i n=is)(hr:mH n σ h r):mH n σ h ((i,dl (aX sz l f))::r):=
 ⟨⟨_,ho,(dK.MP he.length he.get).trans (CF σ I)⟩,Tk hi,cQ n,hr⟩
section
variable {P:Program} {ty:Ty} {nt:NT} {s:AS} {Q:AQ} {k:List KI}
theorem uT(A:bE P ty)(d:List (List PV)){all rest:List Oper}{o:Oper}{t:TypeId}{a x:Operand}(hg:o.guard=io)(ho:o.op= .store t a x)(hd:o.dst=io){i sz q off:Nat}{e:bJ}(he:ty t=dl e){es:List (List PV)}{row xs:List PV}
  (ha:ev s.f a= .c6 i sz q off) (hi:s.h.get i=dl (.row sz es)) (D:es[q]? =dl row) (C:(ev s.f x).cells=dl xs) (B:xs.length=e.size) (j:off+e.size<=sz) (y:eM xs=is) (hes:es.set q (setCells row off xs)=d)
  (h:GO P nt (.ops all rest::k) Q ⟨s.f,(i,dl (.row sz d))::s.h,s.nx⟩):GO P nt (.ops all (o::rest)::k) Q s:=
 bF hg (lO A ho hd he ha hi D C B j y) fun u hu=>by subst hu;rw[hes];exact h
end
def Nm.one(b e:Nat):Nm:=⟨fun _=>b,fun _=>e⟩
inductive SB:Type 1 where
 |obj (o:AO) (e:Nat)
 |out (i e:Nat)
abbrev bG:=Nat->Option SB
def bG.nil:bG:=fun _=>io
def bG.put(X:bG)(b:Nat)(x:SB):bG:=fun c=>if c=b then dl x else X c
def bG.still(X:bG):Prop:= ∀b i e,X b≠dl (.out i e)
theorem bG.fJ(X:bG)(b:Nat)(x:SB):X.put b x b=dl x:=by simp[bG.put]
theorem bG.jk(X:bG){b c:Nat}(x:SB)(h:c≠b):X.put b x c=X c:=by simp[bG.put,h]
theorem bG.J7(X:bG)(b:Nat)(x y:SB):(X.put b x).put b y=X.put b y:=by
 funext c;simp only[bG.put];split<;>rfl
structure ff (M:Mem) (N:Nm) (n:Nat) (h:AH) (X:bG) (w:World):Prop where
 real: ∀b o e,X b=dl (.obj o e)->o.real=is
 obj: ∀b o e,X b=dl (.obj o e)->OR M (Nm.one b e) (fun _=>False) w 0 o
 ey: ∀b o e,X b=dl (.obj o e)->M b=io
 apart: ∀b o e,X b=dl (.obj o e)-> ∀i p,h.get i=dl p->p.real=is->N.aC i≠b
 out: ∀b i e,X b=dl (.out i e)->i<n∧N.aC i=b∧N.ext i=e
def AO.all(G:PV->Prop):AO->Prop
 | .cells cs _=> ∀p∈cs,G p
 | .row _ es=> ∀e∈es,∀p∈e,G p
 | .iZ q _ _=>G q
 | .fy _ _ f=> ∀d,G (AF.get f d)
 |_=>True
theorem AO.all_true(o:AO):o.all fun _=>True:=by cases o<;>simp[AO.all]
theorem OR.move{M M':Mem}{N C:Nm}{U U':Nat->Prop}{w w':World}{i J:Nat}{o:AO}{G:PV->Prop}(hM:M.le M')(Y:o.all G)(Z: ∀p x,G p->VR M N U p x->VR M' C U' p x)
  (hb:C.aC J=N.aC i) (he:C.ext J=N.ext i) (hw:w'.heap[N.aC i]? =w.heap[N.aC i]?) (h:OR M N U w i o):OR M' C U' w' J o:=by
 cases o with
 |cells cs T0=>
  obtain⟨c,T,u,y,A,B,D⟩:=h;exact⟨c,T,by rw[hb,hw,u],by rw[he,y],A,fun j p F=>Z _ _ (Y p (Uv F)) (B j p F),D⟩
 |row sz es=>
  rcases h with h|⟨h0,c,T,u,y,A,B,D⟩
  .exact .inl h
  exact .inr ⟨h0,c,T,by rw[hb,hw,u],by rw[he,y],A,B,fun k e j p hk F=>Z _ _ (Y e (Uv hk) p (Uv F)) (D k e j p hk F)⟩
 |bA l T=>
  rcases h with h|⟨c,u,y,A,B⟩
  .exact .inl h
  exact .inr ⟨c,by rw[hb,hw,u],by rw[he,y],A,B⟩
 |fx=>show w'.heap[C.aC J]? =_;rw[hb,hw];exact h
 |map kc ev z zv dv m=>
  obtain⟨e,cl,u,y,A⟩:=h;exact⟨e,cl,by rw[hb,hw,u],y.mono hM,A.mono hM⟩
 |b5 kc ev m l cu=>
  rcases h with⟨u,y,A,B⟩|⟨b,e,cl,se,u,y,A,B⟩
  .exact .inl ⟨u,y,A,by rw[hb,hw,B]⟩
  .exact .inr ⟨b,e,cl,se,by rw[hb,hw,u],hM _ _ y,A.mono hM,B⟩
 |dQ s p=>show w'.heap[C.aC J]? =_;rw[hb,hw];exact h
 |om kc ev z zv dv m bs c=>
  obtain⟨e,u,y,A,B⟩:=h;exact⟨e,by rw[hb,hw,u],y.mono hM,A.mono hM,B⟩
 |iZ q c l=>
  obtain⟨b,u,y⟩:=h;exact⟨b,Z _ _ Y u,by rw[hb,hw,y]⟩
 |fy l c f=>
  obtain⟨rfl,r,u,y,A,B,D,h6,h7,h8⟩:=h;exact⟨hb,r,by rw[hw];exact u,y,A,B,D,h6,h7,fun d=>Z _ _ (Y d) (h8 d)⟩
theorem VR.CQ{M d:Mem}{N j:Nm}{u:Nat->Prop}(hM:M.le d){p:PV}{x:Value}(h:VR M N (fun _=>False) p x):VR d j u p x:=
 h.mono hM ⟨fun _ h=>h.elim,fun _ h=>h.elim⟩ (fun _ h=>h.elim)
def PV.flat:PV->Prop
 | .iv _=>True
 | .kb _=>True
 | .any=>True
 |_=>False
theorem VR.Js{M:Mem}{N d:Nm}{U j:Nat->Prop}{p:PV}{x:Value}(hp:p.flat)(h:VR M N U p x):VR M d j p x:=by
 cases h with
 |iv x y h=>exact .iv _ _ h
 |kb b=>exact .kb _
 |any x=>exact .any _
 |_=>exact hp.elim
def Own(N:Nm)(h:AH)(X:bG)(b:Nat):Prop:=(∃i o,h.get i=dl o∧o.real=is∧N.aC i=b)∨ ∃o e,X b=dl (.obj o e)
structure ki (M:Mem) (N:Nm) (n:Nat) (h:AH) (X:bG) (w:World) (M':Mem) (N':Nm) (n':Nat) (h':AH) (X':bG) (w':World):Prop where
 os:w'.os=w.os
 tape:w'.tape=w.tape
 output:sP w w'
 size:w.heap.size<=w'.heap.size
 eU: ∀b,b<w.heap.size-> ¬Own N h X b->w'.heap[b]? =w.heap[b]?
 mz:M.le M'
 eT: ∀b c,M b=io->M' b=dl c->w.heap.size<=b∨Own N h X b
 nm:N.agree N' (· <n)
 ule:n<=n'
 dY: ∀b,Own N' h' X' b->w.heap.size<=b∨Own N h X b
theorem ki.refl(M:Mem)(N:Nm)(n:Nat)(h:AH)(X:bG)(w:World):ki M N n h X w M N n h X w:=
 ⟨rfl,rfl,⟨rfl,Tv _⟩,Tv _,fun _ _ _=>rfl,.refl _,fun b c d j=>by simp[d]at j,.refl _ _,Tv _,fun _ h=> .inr h⟩
theorem ki.trans{M u x:Mem}{N y A:Nm}{n G J:Nat}{h h1 D:AH}{X B C:bG}{w Y Z:World}
  (a:ki M N n h X w u y G h1 B Y) (b:ki u y G h1 B Y x A J D C Z):ki M N n h X w x A J D C Z where
 os:=b.os.trans a.os
 tape:=b.tape.trans a.tape
 output:=b.output.trans a.output
 size:=Uh a.size b.size
 eU:=fun k j F=>by
  rw[b.eU k (Vf j a.size) (fun ho=>?_),a.eU k j F];rcases a.dY k ho with h3|h3
  .omega
  .exact F h3
 mz:=a.mz.trans b.mz
 eT:=fun k c h3 h4=>by
  cases h5:u k with
  |some c'=>exact a.eT k c' h3 h5
  |none=>
   rcases b.eT k c h5 h4 with h6|h6
   .exact .inl (Uh a.size h6)
   .exact a.dY k h6
 nm:=⟨fun i d=>(b.nm.aC i (Vf d a.ule)).trans (a.nm.aC i d),fun i d=>(b.nm.ext i (Vf d a.ule)).trans (a.nm.ext i d)⟩
 ule:=Uh a.ule b.ule
 dY:=fun k j=>by
  rcases b.dY k j with h3|h3
  .exact .inl (Uh a.size h3)
  .exact a.dY k h3
theorem ki.frame{M Y:Mem}{N Z:Nm}{n J:Nat}{h h':AH}{X:bG}{w w':World}(x:Ext M N (· <n) h w Y Z (· <J) h' w')(hs:ff M N n h X w):
  ki M N n h X w Y Z J h' X w'∧ff Y Z J h' X w':=by
 have C: ∀b o e,X b=dl (.obj o e)->b<w.heap.size:=fun b o e hb=>(hs.obj b o e hb).lt (hs.real b o e hb);have A:n<=J:=UR fun hh=>absurd (x.ule J hh) (WV _);refine⟨⟨x.os,x.tape,x.output,x.size,fun b hb hn=>x.eU b hb fun i o hi D he=>hn (.inl ⟨i,o,hi,D,he⟩),x.mz,fun b c F h2=>?_,x.nm,A,fun b hb=>?_⟩,hs.real,fun b o e hb=>?_,fun b o e hb=>?_,fun b o e hb i p hi D a0=>?_,fun b i e hb=>?_⟩
 .rcases x.eT b c F h2 with d|⟨i,o,d,B,u⟩
  .exact .inl d
  .exact .inr (.inl ⟨i,o,d,B,u⟩)
 .rcases hb with⟨i,o,d,B,u⟩|hb
  .rcases x.dY i o d B with h6|⟨j,p,h6,h7,h8⟩
   .exact .inl (u▸h6)
   .exact .inr (.inl ⟨j,p,h6,h7,h8.trans u⟩)
  .exact .inr (.inr hb)
 .refine OR.move (G:=fun _=>True) x.mz (AO.all_true o) (fun p y _ hv=>hv.CQ x.mz) I I ?_ (hs.obj b o e hb);exact x.eU b (C b o e hb) (hs.apart b o e hb)
 .cases hM:Y b with
  |none=>rfl
  |some c=>
   rcases x.eT b c (hs.ey b o e hb) hM with d|⟨i,p,d,B,u⟩
   .have:=C b o e hb;omega
   .exact absurd u (hs.apart b o e hb i p d B)
 .rcases x.dY i p hi D with d|⟨j,q,d,B,u⟩
  .have:=C b o e hb;omega
  .exact hs.apart b o e hb j q d B (u.trans a0)
 .obtain⟨F,h2,d⟩:=hs.out b i e hb;exact⟨Vf F A,(x.nm.aC i F).trans h2,(x.nm.ext i F).trans d⟩
theorem ki.NO{M B:Mem}{N C:Nm}{n F:Nat}{h D:AH}{J:bG}{w G:World}(x:ki M N n h bG.nil w B C F D J G):Ext M N (· <n) h w B C (· <F) D G:=by
 have d: ∀b,Own N h bG.nil b-> ∃i o,h.get i=dl o∧o.real=is∧N.aC i=b:=fun b hb=>by
  rcases hb with hb|⟨o,e,hb⟩
  .exact hb
  .cases hb
 refine⟨x.os,x.tape,x.output,x.size,fun b hb Z=>x.eU b hb fun ho=>?_,x.mz,fun b c j u=>?_,x.nm,fun i y=>Vf y x.ule,fun i o y A=>?_⟩
 .obtain⟨i,o,j,u,Y⟩:=d b ho;exact Z i o j u Y
 .exact(x.eT b c j u).imp id (d b)
 .exact(x.dY _ (.inl ⟨i,o,y,A,rfl⟩)).imp id (d _)
theorem ff.nil(M:Mem)(N:Nm)(n:Nat)(h:AH)(w:World):ff M N n h bG.nil w:=⟨nofun,nofun,nofun,nofun,nofun⟩
abbrev XQ:=Exit->AS->bG->Prop
def nH(nt:NT)(M:Mem)(N:Nm)(s:AS)(X:bG)(w:World)(R:XQ):Exit->Act->World->Prop:=fun e y x=>
 ∃d j s' u,ki M N s.nx s.h X w d j s'.nx s'.h u x∧Fits d j s' nt y x∧ff d j s'.nx s'.h u x∧R e s' u
theorem nH.later{nt:NT}{M d:Mem}{N j:Nm}{s s':AS}{X u:bG}{w y:World}{R:XQ}{e:Exit}{a:Act}{A:World}
  (x:ki M N s.nx s.h X w d j s'.nx s'.h u y) (h:nH nt d j s' u y R e a A):nH nt M N s X w R e a A:=by
 obtain⟨B,C,J,D,F,G⟩:=h;exact⟨B,C,J,D,x.trans F,G⟩
theorem nH.now{nt:NT}{M:Mem}{N:Nm}{s:AS}{X:bG}{w:World}{R:XQ}{e:Exit}{a:Act}(hf:Fits M N s nt a w)(hs:ff M N s.nx s.h X w)(h:R e s X):nH nt M N s X w R e a w:=
 ⟨M,N,s,X,.refl _ _ _ _ _ _,hf,hs,h⟩
def AX(P:Program)(nt:NT)(c:Code)(R:XQ)(s:AS)(X:bG):Prop:= ∀M N a w,Fits M N s nt a w->ff M N s.nx s.h X w->c.wp P (nH nt M N s X w R) a w
def ALX(P:Program)(nt:NT)(all rest:List Oper)(R:XQ)(s:AS)(X:bG):Prop:= ∀M N a w,Fits M N s nt a w->ff M N s.nx s.h X w->wpList P all.toArray (nH nt M N s X w R) rest a w
def SLX(P:Program)(nt:NT)(all rest:List Oper)(R:XQ)(s:AS)(X:bG):Prop:= ∀M N a w,Fits M N s nt a w->ff M N s.nx s.h X w->
 wpStill P all.toArray w (fun d=>nH nt M N s X w R .normal d w) rest a
inductive XI where
 |sR (all rest:List Oper)
 |code (c:Code)
 |aC (id:Nat)
 |ops (all rest:List Oper)
 |lp (R:AS->bG->Prop)
 |EX
def kx(P:Program)(nt:NT):List XI->XQ->XQ
 | [],Q=>Q
 | .code c::k,Q=>fun e s X=>match e with| .normal=>AX P nt c (kx P nt k Q) s X|e=>kx P nt k Q e s X
 | .ops all rest::k,Q=>fun e s X=>match e with| .normal=>ALX P nt all rest (kx P nt k Q) s X|e=>kx P nt k Q e s X
 | .sR all rest::k,Q=>fun e s X=>match e with| .normal=>SLX P nt all rest (kx P nt k Q) s X|e=>kx P nt k Q e s X
 | .lp R::k,Q=>fun e s X=>match e with| .normal=>R s X|e=>kx P nt k Q e s X
 | .aC id::k,Q=>fun e s X=>match e with| .exit j=>if j=id then kx P nt k Q .normal s X else kx P nt k Q (.exit j) s X|e=>kx P nt k Q e s X
 | .EX::k,Q=>fun e s X=>match e with| .goto _=>False|e=>kx P nt k Q e s X
def GX(P:Program)(nt:NT)(k:List XI)(Q:XQ)(s:AS)(X:bG):Prop:=kx P nt k Q .normal s X
section
variable {P:Program} {nt:NT} {Q:XQ} {k:List XI} {s:AS} {X:bG}
theorem AX.then{c:Code}{R:XQ}(h:AX P nt c R s X){M:Mem}{N:Nm}{a:Act}{w:World}(hf:Fits M N s nt a w)(hs:ff M N s.nx s.h X w){Z:Exit->Act->World->Prop}
  (A: ∀e y d j u s' x,ki M N s.nx s.h X w j u s'.nx s'.h x d->Fits j u s' nt y d->ff j u s'.nx s'.h x d->R e s' x->Z e y d):c.wp P Z a w:=
 wp_mono (h M N a w hf hs) fun e y d ⟨j,u,s',x,h1,h2,h3,h4⟩=>A e y d j u s' x h1 h2 h3 h4
theorem Ry{j:AQ}{k0:List KI}{c:Code}(h:GX P nt [.code c] (fun e t _=>kp P nt k0 j e t) s bG.nil):GO P nt (.code c::k0) j s:=by
 intro M N a w y;exact AX.then h y (.nil ..) fun e D F u x s' C B d _ A=>⟨u,x,s',B.NO,d,A⟩
theorem jW{c:Code}(h:GO P nt [.code c] (fun e u=>kx P nt k Q e u X) s):GX P nt (.code c::k) Q s X:=by
 intro M N a w B D;refine AW.then h B fun e G J j x s' F d C=>?_;obtain⟨y,A⟩:=ki.frame F D;exact⟨j,x,s',X,y,d,A,C⟩
theorem dc{x y:Code}(h:GX P nt (.code x:: .code y::k) Q s X):GX P nt (.code (.seq x y)::k) Q s X:=by
 intro M N a w hf hs;refine wp_seq (AX.then h hf hs fun e a' w' G Y s' X' F d j D=>?_);cases e with
 |normal=>exact AX.then D d j fun e a2 w2 J Z s2 X2 C u B A=>⟨J,Z,s2,X2,F.trans C,u,B,A⟩
 |_=>exact⟨G,Y,s',X',F,d,j,D⟩
theorem te(h:GX P nt k Q s X):GX P nt (.code .skip::k) Q s X:=fun _ _ _ _ d j=>wp_skip (.now d j h)
theorem th{id:Nat}(h:kx P nt k Q (.exit id) s X):GX P nt (.code (.exit id)::k) Q s X:=fun _ _ _ _ d j=>wp_exit (.now d j h)
theorem GJ{id:Nat}(h:GX P nt k Q s X):GX P nt (.aC id::k) Q s X:=h
theorem jb{id:Nat}{x:Code}(h:GX P nt (.code x:: .aC id::k) Q s X):GX P nt (.code (.block id x)::k) Q s X:=by
 intro M N a w G J;refine wp_block (AX.then h G J fun e Y Z A B s' C F d u y=>?_);cases e with
 |exit j=>
  simp only[kx]at y;simp only[Exit.inBlock];split
  .rename_i D;rw[am D]at y;exact⟨A,B,s',C,F,d,u,y⟩
  .rename_i D;rw[be D]at y;exact⟨A,B,s',C,F,d,u,y⟩
 |_=>exact⟨A,B,s',C,F,d,u,y⟩
theorem w4{id:Nat}{ops:Array Oper}(h:GX P nt (.ops ops.toList ops.toList::k) Q s X):GX P nt (.code (.region id ops jp)::k) Q s X:=by
 intro M N a w d j;refine wp_region_list ?_;have:=h M N a w d j;simpa using this
theorem uO{all:List Oper}(h:GX P nt k Q s X):GX P nt (.ops all []::k) Q s X:=fun _ _ _ _ d j=>wpList_nil (nH.now d j h)
theorem ti{c:Operand}{x y:Code}{t:Bool}(hc:ev s.f c= .iv (.v (.bool t)))(h1:t=is->GX P nt (.code x::k) Q s X)(A:t=jp->GX P nt (.code y::k) Q s X):
  GX P nt (.code (.cond c x y)::k) Q s X:=by
 intro M N a w d u;refine wp_cond_split (d.bool hc) (fun j=>?_) (fun j=>?_)
 .exact h1 j M N a w d u
 .exact A j M N a w d u
theorem yh{o:Oper}{a:Act}{w:World}{K K':Act->World->Prop}{Q j:Exit->Act->World->Prop}(h: ∀a w,K a w->K' a w)(u: ∀e a w,e≠ .normal->Q e a w->j e a w)(hh:o.wp P a w K Q):o.wp P a w K' j:=by
 have y:LetsOut Q->LetsOut j:=fun⟨a,w,x⟩=>⟨a,w,u _ _ _ (by simp) x⟩
 unfold Oper.wp at*
 generalize(execOp a.eval o).run P w=r at*
 cases r with
 |ok n w'=>
  cases n<;>simp only[Oper.upon]at hh ⊢ <;>
   first
    |exact h _ _ hh
    |exact Calls.mono hh (fun e A d=>by cases e<;>first|exact h _ _ d|exact y d|exact u _ _ _ (by simp) d)
    |exact Rows.mono hh (fun _ _ d=>h _ _ d)
 |halt x w'=>cases x<;>simp only[Oper.upon]at hh ⊢ <;>exact u _ _ _ (by simp) hh
theorem oK{ops:Array Oper}{u x:Exit->Act->World->Prop}(j:List Oper)(y: ∀a w,u .normal a w->wpList P ops x j a w)(d: ∀e a w,e≠ .normal->u e a w->x e a w): ∀(l:List Oper) (a:Act) (w:World),wpList P ops u l a w->wpList P ops x (l++j) a w
 | [],a,w,h=>y _ _ h
 |o::r,a,w,h=>by
  rw[TV];rw[wpList]at h ⊢;split
  .rename_i A;rw[am A]at h;exact h.imp (yh (oK j y d r) d) (fun⟨h3,a1,w1,h4⟩=>⟨h3,a1,w1,d _ _ _ (by simp) h4⟩)
  .rename_i A;rw[be A]at h;exact oK j y d r _ _ h
theorem Ex{all G r2:List Oper}(h:GO P nt [.ops all G] (fun e u=>kx P nt (.ops all r2::k) Q e u X) s):GX P nt (.ops all (G++r2)::k) Q s X:=by
 intro M N a w hf Y;refine oK r2 (fun y J C=>?_) (fun e y J Z C=>?_) G a w (h M N a w hf)
 .obtain⟨j,x,s',F,d,D⟩:=C;obtain⟨A,B⟩:=ki.frame F Y;have:=D j x y J d B;exact gP (fun _ _ _=>nH.later A) r2 y J this
 .obtain⟨j,x,s',F,d,D⟩:=C;obtain⟨A,B⟩:=ki.frame F Y;refine⟨j,x,s',X,A,d,B,?_⟩;cases e with
  |normal=>exact absurd I Z
  |_=>exact D
theorem tg{all rest:List Oper}(m:Nat)(h:GO P nt [.ops all (rest.take m)] (fun e u=>kx P nt (.ops all (rest.drop m)::k) Q e u X) s):GX P nt (.ops all rest::k) Q s X:=by
 have:=Ex h;rwa[Um]at this
def SX(nt:NT)(s:AS)(X:bG)(T:AS->bG->Prop):Prop:= ∀M N a w,Fits M N s nt a w->ff M N s.nx s.h X w->
 ∃d j t Y,ki M N s.nx s.h X w d j t.nx t.h Y w∧Fits d j t nt a w∧ff d j t.nx t.h Y w∧T t Y
theorem MT{c:Code}{T:AS->bG->Prop}(h:SX nt s X T)(Z: ∀t Y,T t Y->GX P nt (.code c::k) Q t Y):GX P nt (.code c::k) Q s X:=by
 intro M N a w J hs;obtain⟨M',N',t,Y,C,D,F,G⟩:=h M N a w J hs;exact AX.then (Z t Y G) D F fun e a2 w2 y A s2 B x d u j=>⟨y,A,s2,B,C.trans x,d,u,j⟩
theorem yx{all rest:List Oper}{T:AS->bG->Prop}(h:SX nt s X T)(C: ∀t Y,T t Y->GX P nt (.ops all rest::k) Q t Y):GX P nt (.ops all rest::k) Q s X:=by
 intro M N a w B D;obtain⟨d,j,t,Y,u,x,y,A⟩:=h M N a w B D;exact gP (fun _ _ _=>nH.later u) rest a w (C t Y A d j a w x y)
theorem Rx{body:Code}{σ:Type 1}(I:σ->AS)(J:σ->bG)(μ:σ->Nat)(i0:σ)(L0:List Nat)(h0:Wk s.nx L0 s (I i0))(y:J i0=X)(j0: ∀i,(J i).still)
  (A: ∀i,GX P nt (.code body:: .lp (fun t Y=> ∃j L,μ j<μ i∧Wk s.nx L t (I j)∧Y=J j)::k) Q (I i) (J i)):GX P nt (.code (.loop body)::k) Q s X:=by
 intro F G a0 w0 d0 g0
 let K:Act->World->Nat->Prop:=fun a w n=> ∃i M N,μ i=n∧ki F G s.nx s.h X w0 M N (I i).nx (I i).h (J i) w∧Fits M N (I i) nt a w∧ff M N (I i).nx (I i).h (J i) w
 have c0:K a0 w0 (μ i0):=by
  obtain⟨h1,h2⟩:=ki.frame (h0.ext (.refl F G (· <s.nx) s.h w0)) g0;exact⟨i0,F,G.comp (sg s.nx L0),rfl,by rw[y];exact h1,h0.fits d0,by rw[y];exact h2⟩
 refine wp_loop (fun a w=> ∃n,K a w n) (fun a w=>by classical exact if h: ∃n,K a w n then VV (dd h) else 0) ⟨_,c0⟩ fun a w b0=>?_;obtain⟨⟨i,M,N,x,hx,hf,hs⟩,e0⟩:=Vk (dd b0);refine AX.then (A i) hf hs fun e Z w' M' N' s' X' C B u hr=>?_
 cases e with
 |normal=>
  obtain⟨j,L,hj,D,hY⟩:=hr
  have y:K Z w' (μ j):=⟨j,M',N'.comp (sg s.nx L),rfl,by
   have d:=hx.trans C;rw[hY]at d u;refine⟨d.os,d.tape,d.output,d.size,d.eU,d.mz,d.eT,⟨fun i x=>?_,fun i x=>?_⟩,by have:=D.nx;omega,fun b hb=>d.dY b ?_⟩
   .simp only[Nm.comp,fZ x];exact d.nm.aC i x
   .simp only[Nm.comp,fZ x];exact d.nm.ext i x
   .rcases hb with⟨i,o,h3,h4,h5⟩|hb
    .obtain⟨⟨o',g1,g2⟩,_⟩:=iM D.h i o h3;exact .inl ⟨_,o',g1,g2.real ((AO.cj _ o).trans h4),h5⟩
    .exact .inr hb,D.fits B,by
   rw[hY]at u;refine⟨u.real,u.obj,u.ey,fun b o e hb i p x f0=>?_,fun b i e hb=>?_⟩
   .obtain⟨⟨o',g1,g2⟩,_⟩:=iM D.h i p x;exact u.apart b o e hb _ o' g1 (g2.real ((AO.cj _ p).trans f0))
   .exact absurd hb (j0 j b i e)⟩
  refine⟨⟨_,y⟩,?_⟩;simp only[dif_pos b0,dif_pos (⟨_,y⟩: ∃n,K Z w' n)];rw[<-x];exact WY ((Vk (dd (⟨_,y⟩: ∃n,K Z w' n))).2 _ y) hj
 |_=>exact⟨M',N',s',X',hx.trans C,B,u,hr⟩
theorem NW{b e d:Nat}{o:AO}{p:PV}(hX:X b=dl (.obj o e))(hp: ∀(M:Mem) (N:Nm) (U:Nat->Prop) (x:Value),U s.nx->N.aC s.nx=b->N.ext s.nx=e->VR M N U (s.f.get d) x->VR M N U p x):
  SX nt s X (fun t Y=>t=⟨(d,p)::s.f,(s.nx,dl o)::s.h,s.nx+1⟩∧Y=X.put b (.out s.nx e)):=by
 intro M N a w hf hs;obtain⟨f,h,n⟩:=s
 let N':Nm:=⟨fun j=>if j=n then b else N.aC j,fun j=>if j=n then e else N.ext j⟩
 have A:N.agree N' (· <n):=⟨fun i D=>be (WC D),fun i D=>be (WC D)⟩
 have F:N'.aC n=b:=am I;have a0:N'.ext n=e:=am I;have hU: ∀i,i<n->i<n+1:=fun i D=>U0 D;have c0:=hs.real b o e hX
 have C: ∀i q,AH.get ((n,dl o)::h) i=dl q->(i=n∧q=o)∨(i<n∧h.get i=dl q):=by
  intro i q D;rw[AH.ax]at D;split at D
  .rename_i b0;exact .inl ⟨b0,by simpa using D.symm⟩
  .exact .inr ⟨hf.1.used i q D,D⟩
 refine⟨M,N',⟨(d,p)::f,(n,dl o)::h,n+1⟩,X.put b (.out n e),⟨rfl,rfl,⟨rfl,Tv _⟩,Tv _,fun _ _ _=>rfl,.refl _,fun c m J h2=>by simp[J]at h2,A,Vg _,fun c B=> .inr ?_⟩,⟨⟨hf.1.ey,fun i q D=>?_,fun i q D hr=>?_,fun i q D=>?_,fun i j q r D hj hq hr he=>?_⟩,fun k=>?_,hf.2.2⟩,⟨fun c q g B=>?_,fun c q g B=>?_,fun c q g B=>?_,fun c q g B i r D hr=>?_,fun c i g B=>?_⟩,rfl,rfl⟩
 .rcases B with⟨i,q,J,h2,h3⟩|⟨q,g,J⟩
  .rcases C i q J with⟨rfl,rfl⟩|⟨Z,h5⟩
   .rw[F]at h3;subst h3;exact .inr ⟨_,_,hX⟩
   .exact .inl ⟨i,q,h5,h2,by rw[<-h3];exact(A.aC i Z).symm⟩
  .by_cases u:c=b
   .subst u;rw[bG.fJ]at J;cases J
   .rw[bG.jk _ _ u]at J;exact .inr ⟨q,g,J⟩
 .rcases C i q D with⟨rfl,rfl⟩|⟨Z,_⟩
  .exact US _
  .exact hU i Z
 .rcases C i q D with⟨rfl,rfl⟩|⟨Z,h5⟩
  .rw[F];exact hs.ey _ _ _ hX
  .rw[A.aC i Z];exact hf.1.dI i q h5 hr
 .rcases C i q D with⟨rfl,rfl⟩|⟨Z,h5⟩
  .exact OR.move (G:=fun _=>True) (.refl _) (AO.all_true _) (fun p y _ hv=>hv.CQ (.refl _)) F a0 I (hs.obj b _ e hX)
  .exact(hf.1.obj i q h5).mono (.refl _) A hU Z I
 .rcases C i q D with⟨rfl,rfl⟩|⟨Z,h5⟩<;>rcases C j r hj with⟨h6,rfl⟩|⟨h6,h7⟩
  .exact h6.symm
  .rw[F,A.aC j h6]at he;exact absurd he.symm (hs.apart b _ e hX j r h7 hr)
  .subst h6;rw[F,A.aC i Z]at he;exact absurd he (hs.apart b _ e hX i q h5 hq)
  .rw[A.aC i Z,A.aC j h6]at he;exact hf.1.inj i j q r h5 h7 hq hr he
 .rw[AF.ax];split
  .rename_i hk;subst hk;exact hp M N' _ _ (US _) F a0 ((hf.2.1 k).mono (.refl _) A hU)
  .exact(hf.2.1 k).mono (.refl _) A hU
 all_goals by_cases u:c=b
 .subst u;rw[bG.fJ]at B;cases B
 .rw[bG.jk _ _ u]at B;exact hs.real c q g B
 .subst u;rw[bG.fJ]at B;cases B
 .rw[bG.jk _ _ u]at B;exact hs.obj c q g B
 .subst u;rw[bG.fJ]at B;cases B
 .rw[bG.jk _ _ u]at B;exact hs.ey c q g B
 .subst u;rw[bG.fJ]at B;cases B
 .rw[bG.jk _ _ u]at B;rcases C i r D with⟨rfl,rfl⟩|⟨Z,h5⟩
  .rw[F];exact fun e=>u e.symm
  .rw[A.aC i Z];exact hs.apart c q g B i r h5 hr
 .subst u;rw[bG.fJ]at B;cases B;exact⟨US _,F,a0⟩
 .rw[bG.jk _ _ u]at B;obtain⟨J,h2,h3⟩:=hs.out c i g B;exact⟨hU i J,(A.aC i J).trans h2,(A.ext i J).trans h3⟩
theorem DO{b e d:Nat}{o:AO}(u:X b=dl (.obj o e))(hd:s.f.get d= .iv (.v (.map (dl b)))):
  SX nt s X (fun t Y=>t=⟨(d,.mp s.nx)::s.f,(s.nx,dl o)::s.h,s.nx+1⟩∧Y=X.put b (.out s.nx e)):=
 NW u fun M N U x hu hb hE j=>by
  rw[hd]at j;cases j with
  |iv _ _ hi=>cases hi with
   |v=>
    have:=VR.mp (M:=M) (N:=N) s.nx hu;rw[hb]at this;exact this
theorem Rel.drop{M:Mem}{N:Nm}{n:Nat}{h:AH}{w:World}(hr:Rel M N (· <n) h w)(i:Nat):Rel M N (· <n) ((i,io)::h) w:=
 ⟨hr.ey,fun j o d=>hr.used j o (ba j o d).2,fun j o d u=>hr.dI j o (ba j o d).2 u,fun j o d=>hr.obj j o (ba j o d).2,fun j l o p d y A B x=>hr.inj j l o p (ba j o d).2 (ba l p y).2 A B x⟩
theorem Cw{M:Mem}{N:Nm}{n:Nat}{h:AH}{w:World}(hr:Rel M N (· <n) h w)(hs:ff M N n h X w){i:Nat}{o:AO}(hi:h.get i=dl o)(y:o.real=is)(D:o.all PV.flat):
  ki M N n h X w M N n ((i,io)::h) (X.put (N.aC i) (.obj o (N.ext i))) w∧ff M N n ((i,io)::h) (X.put (N.aC i) (.obj o (N.ext i))) w:=by
 refine⟨⟨rfl,rfl,⟨rfl,Tv _⟩,Tv _,fun _ _ _=>rfl,.refl _,fun b c A B=>by simp[A]at B,.refl _ _,Tv _,fun c u=> .inr ?_⟩,fun c q g u=>?_,fun c q g u=>?_,fun c q g u=>?_,fun c q g u j r F C=>?_,fun c j g u=>?_⟩
 .rcases u with⟨j,q,A,B,J⟩|⟨q,g,A⟩
  .exact .inl ⟨j,q,(ba j q A).2,B,J⟩
  .by_cases d:c=N.aC i
   .exact .inl ⟨i,o,hi,y,d.symm⟩
   .rw[bG.jk _ _ d]at A;exact .inr ⟨q,g,A⟩
 all_goals by_cases d:c=N.aC i
 .subst d;rw[bG.fJ]at u;cases u;exact y
 .rw[bG.jk _ _ d]at u;exact hs.real c q g u
 .subst d;rw[bG.fJ]at u;cases u;exact OR.move (G:=PV.flat) (N:=N) (i:=i) (.refl _) D (fun p x Y Z=>Z.Js Y) I I I (hr.obj i o hi)
 .rw[bG.jk _ _ d]at u;exact hs.obj c q g u
 .subst d;exact hr.dI i o hi y
 .rw[bG.jk _ _ d]at u;exact hs.ey c q g u
 .obtain⟨A,B⟩:=ba j r F;subst d;exact fun e=>A (hr.inj j i r o B hi C y e)
 .rw[bG.jk _ _ d]at u;exact hs.apart c q g u j r (ba j r F).2 C
 .subst d;rw[bG.fJ]at u;cases u
 .rw[bG.jk _ _ d]at u;exact hs.out c j g u
theorem Qo{b e i:Nat}{o:AO}(B:X b=dl (.out i e))(hi:s.h.get i=dl o)(u:o.real=is)(j:o.all PV.flat):
  SX nt s X (fun t Y=>t=⟨s.f,(i,io)::s.h,s.nx⟩∧Y=X.put b (.obj o e)):=by
 intro M N a w d x;obtain⟨C,rfl,rfl⟩:=x.out b i e B;obtain⟨y,A⟩:=Cw d.1 x hi u j;exact⟨M,N,⟨s.f,(i,io)::s.h,s.nx⟩,_,y,⟨d.1.drop i,d.2⟩,A,rfl,rfl⟩
theorem NY{i d:Nat}{o:AO}{G:Nat->Nat->PV->Prop}(C:X.still)(hi:s.h.get i=dl o)(A:o.real=is)(B:o.all PV.flat)
  (hq: ∀(M:Mem) (N:Nm) (U:Nat->Prop) (x:Value),VR M N U (s.f.get d) x-> ∃q,G (N.aC i) (N.ext i) q∧VR M N U q x):
  SX nt s X (fun t Y=> ∃b e q,X b=io∧G b e q∧t=⟨(d,q)::s.f,(i,io)::s.h,s.nx⟩∧Y=X.put b (.obj o e)):=by
 intro M N a w u D;obtain⟨F,J⟩:=Cw u.1 D hi A B;obtain⟨q,Z,h5⟩:=hq M N _ _ (u.2.1 d);refine⟨M,N,⟨(d,q)::s.f,(i,io)::s.h,s.nx⟩,_,F,⟨u.1.drop i,fun k=>?_,u.2.2⟩,J,N.aC i,N.ext i,q,?_,Z,rfl,rfl⟩
 .rw[AF.ax];split
  .rename_i hk;subst hk;exact h5
  .exact u.2.1 k
 .cases hx:X (N.aC i) with
  |none=>rfl
  |some y=>
   cases y with
   |obj p g=>exact absurd I (D.apart _ p g hx i o hi A)
   |out j g=>exact absurd hx (C _ _ _)
theorem DP{i d:Nat}{o:AO}(y:X.still)(hi:s.h.get i=dl o)(u:o.real=is)(j:o.all PV.flat)(hd:s.f.get d= .mp i):
  SX nt s X (fun t Y=> ∃b e,X b=io∧t=⟨(d,.iv (.v (.map (dl b))))::s.f,(i,io)::s.h,s.nx⟩∧Y=X.put b (.obj o e)):=by
 intro M N a w hf hs
 obtain⟨B,C,t,Y,D,F,J,b,e,q,Z,rfl,h8,h9⟩:=NY (G:=fun b e q=>q= .iv (.v (.map (dl b)))) (d:=d) y hi u j (fun M N U x A=>by
  rw[hd]at A;cases A with
  |mp _ hu=>exact⟨_,rfl,.iv _ _ (.v _)⟩) M N a w hf hs
 exact⟨B,C,t,Y,D,F,J,b,e,Z,h8,h9⟩
inductive Up (X:bG):Value->IV->Prop
 | row (b len cap sz e:Nat) (es:List (List PV)) (el:Nat->List IV) (hX:X b=dl (.obj (.row sz es) e)) (hn:len=es.length) (hl:len<=cap) (hc:cap<=maxLen) (hel: ∀k e,es[k]? =dl e->e=(el k).map .iv):
   Up X (.slice (dl ⟨b,0,io⟩) len cap) (.bU sz len el)
 |map {V:Type} (b e:Nat) (kc:KC) (ev:V->IV) (z:V) (zv:Value) (dv:PV->V) (m:List (kc.K×V)) (hX:X b=dl (.obj (.map kc ev z zv dv m) e)):Up X (.map (dl b)) (.eP kc ev z zv m)
 |fx {V:Type} (b e:Nat) (kc:KC) (ev:V->IV) (z:V) (zv:Value) (hX:X b=dl (.obj .fx e)) (hz: ∀M,IR M (ev z) zv):Up X (.map (dl b)) (.eP kc ev z zv [])
 |Rk (y:Value):Up X y (.v y)
 |nil (sz:Nat) (el:Nat->List IV) (a:Option Addr) (cap:Nat):Up X (.slice a 0 cap) (.bU sz 0 el)
theorem FC{M:Mem}{N:Nm}{n:Nat}{h:AH}{w:World}(hr:Rel M N (· <n) h w)(hs:ff M N n h X w):
  ∃u:Mem,M.le u∧ki M N n h X w u N n h bG.nil w∧Rel u N (· <n) h w∧ ∀y p,Up X y p->IR u p y:=by
 let u:Mem:=⟨fun b=>match X b with
  |some (.obj _ _)=>(match w.heap[b]? with|some (.cells c _ _)=>dl (.cells c)|some (.map es F)=>dl (.map es F)|_=>io)
  |_=>M.fn b,fun b c hb=>by
   have:=M.KG b c hb;cases d:X b with
   |none=>simpa using this
   |some y=>cases y with
    |obj o e=>exact absurd (this.symm.trans (hs.ey b o e d)) (by simp)
    |out i e=>simpa using this⟩
 have x: ∀b,(∀o e,X b≠dl (.obj o e))->u b=M b:=fun b hb=>by
  show(match X b with|some (.obj _ _)=>_|_=>M.fn b)=M.fn b;cases d:X b with
  |none=>rfl
  |some y=>cases y with
   |obj o e=>exact absurd d (hb o e)
   |out i e=>rfl
 have C: ∀b o e,X b=dl (.obj o e)->u b=(match w.heap[b]? with|some (.cells c _ _)=>dl (MB.cells c)|some (.map es F)=>dl (MB.map es F)|_=>io):=fun b o e hb=>by
  show(match X b with|some (.obj _ _)=>_|_=>M.fn b)=_;rw[hb]
 have A:M.le u:=fun b c hb=>by
  rw[x b fun o e d=>absurd (hb.symm.trans (hs.ey b o e d)) (by simp)];exact hb
 refine⟨u,A,⟨rfl,rfl,⟨rfl,Tv _⟩,Tv _,fun _ _ _=>rfl,A,fun b c Y D=>?_,.refl _ _,Tv _,fun c G=> .inr ?_⟩,⟨fun b c hb=>?_,hr.used,fun i o hi c0=>?_,fun i o hi=>(hr.obj i o hi).mono A (.refl _ _) (fun _ h=>h) (hr.used i o hi) I,hr.inj⟩,fun y p hu=>?_⟩
 .cases d:X b with
  |none=>rw[x b (by simp[d]),Y]at D;cases D
  |some y=>cases y with
   |obj o e=>exact .inr (.inr ⟨o,e,d⟩)
   |out i e=>rw[x b (by simp[d]),Y]at D;cases D
 .rcases G with G|⟨o,e,G⟩
  .exact .inl G
  .cases G
 .cases d:X b with
  |none=>rw[x b (by simp[d])]at hb;exact hr.ey b c hb
  |some y=>cases y with
   |out i e=>rw[x b (by simp[d])]at hb;exact hr.ey b c hb
   |obj o e=>
    rw[C b o e d]at hb;split at hb
    .rename_i hh;cases hb;exact⟨_,_,hh⟩
    .rename_i hh;cases hb;exact hh
    .cases hb
 .rw[x _ fun q e d=>hs.apart _ q e d i o hi c0 I];exact hr.dI i o hi c0
 .cases hu with
  |Rk=>exact .v _
  |nil=>exact .fN _ _ _ _
  |fx b e kc ev z zv hX hz=>
   have Y:=hs.obj b _ e hX;have D:u b=dl (.map #[] 0):=by rw[C b _ e hX];rw[show w.heap[b]? =dl (.map #[] 0) from Y]
   exact .eP _ _ _ _ _ b #[] 0 D I (by simp) (by simp) (hz u) (by simp) (by simp)
  |map b e kc ev z zv dv m hX=>
   obtain⟨ents,F,Y,D,h3⟩:=hs.obj b _ e hX;have h4:u b=dl (.map ents F):=by rw[C b _ e hX];rw[show w.heap[b]? =dl (.map ents F) from Y]
   have h5:=D.mono A;exact .eP _ _ _ _ _ b ents F h4 h5.size h5.key h5.val (h3.mono A) h5.inj h5.lt
  |row b len cap sz e es el hX hn hl G hel=>
   rcases hs.obj b _ e hX with h0|⟨h0,c,T,g1,g2,g3,g4,g5⟩
   .have:=hs.real b _ e hX;rw[h0]at this;cases this
   have h4:u b=dl (.cells c):=by rw[C b _ e hX];rw[show w.heap[b]? =dl (.cells c T (0,0)) from g1]
   have B: ∀o,u.cell b o=c[o]? :=fun o=>by simp only[Mem.cell,h4]
   have b0: ∀k,k<len-> ∃e,es[k]? =dl e:=fun k J=>⟨_,Ts (by omega)⟩
   have d0: ∀k j,k<len->j<sz->k*sz+j<c.size:=fun k j J hj=>by
    have:(k+1)*sz<=es.length*sz:=TN _ (by omega);rw[Ug]at this;omega
   refine .bU _ _ _ _ _ _ hl G (fun k J=>?_) (fun k j J hj=>?_) (fun k j p J hp=>?_)
   .obtain⟨e,Z⟩:=b0 k J;have:=g4 _ e Z;rw[hel _ e Z]at this;simpa using this
   .rw[B,TL];simp[d0 k j J hj]
   .obtain⟨e,Z⟩:=b0 k J;have h9:=g4 _ e Z;have a0:=hel _ e Z;have hj:j<sz:=by rw[<-h9,a0,T2];exact(Tp.1 hp).1
    have:=g5 _ e j (.iv p) Z (by rw[a0,Tu,hp];rfl);rw[B,TL];rw[Tl]at this;cases this with
    |iv _ _ h=>exact h.mono A
def Up1(X:bG)(p d:PV):Prop:=d=p∨ ∃y q,p= .iv (.v y)∧d= .iv q∧Up X y q
inductive M7 (X:bG):AO->AO->Prop
 | row (sz:Nat) (es es':List (List PV)) (hl:es'.length=es.length) (h: ∀(k:Nat) (e':List PV),es'[k]? =dl e'-> ∃e,es[k]? =dl e∧e'.length=e.length∧ ∀(j:Nat) (p':PV),e'[j]? =dl p'-> ∃p,e[j]? =dl p∧Up1 X p p'):
   M7 X (.row sz es) (.row sz es')
 | map {V V':Type} (kc:KC) (ev:V->IV) (z:V) (zv:Value) (dv:PV->V) (m:List (kc.K×V)) (ev':V'->IV) (z':V') (dv':PV->V') (m':List (kc.K×V')) (hl:m'.length=m.length)
   (h: ∀(j:Nat) (x':kc.K×V'),m'[j]? =dl x'-> ∃x y,m[j]? =dl x∧x'.1=x.1∧ev x.2= .v y∧Up X y (ev' x'.2)) (hz: ∀M,IR M (ev' z') zv):M7 X (.map kc ev z zv dv m) (.map kc ev' z' zv dv' m')
theorem M7.or{M B:Mem}{N:Nm}{U:Nat->Prop}{w:World}{i:Nat}{o o':AO}(Y:M.le B)(hu: ∀y p,Up X y p->IR B p y)(h:M7 X o o')(ho:OR M N U w i o):OR B N U w i o':=by
 have hv: ∀p D x,Up1 X p D->VR M N U p x->VR B N U D x:=by
  rintro p D x (rfl|⟨y,q,rfl,rfl,C⟩) hx
  .exact hx.mono Y (.refl _ _) (fun _ h=>h)
  .cases hx with
   |iv _ _ hi=>cases hi with
    |v=>exact .iv _ _ (hu _ _ C)
 cases h with
 |row sz es es' hl h=>
  rcases ho with rfl|⟨h0,c,T,g1,g2,g3,g4,g5⟩
  .left;exact UC.1 hl
  .refine .inr ⟨h0,c,T,g1,g2,by rw[hl];exact g3,fun k F u=>?_,fun k F j D u Z=>?_⟩
   .obtain⟨e,d,G,_⟩:=h k F u;rw[G];exact g4 k e d
   .obtain⟨e,d,_,C⟩:=h k F u;obtain⟨p,J,h5⟩:=C j D Z;exact hv _ _ _ h5 (g5 k e j p d J)
 |map kc ev z zv dv m ev' z' dv' m' hl h hz=>
  obtain⟨ents,cl,g1,g2,g3⟩:=ho;refine⟨ents,cl,g1,⟨g2.size.trans hl.symm,fun j x' A=>?_,fun j x' A=>?_,g2.inj,g2.lt⟩,hz B⟩
  .obtain⟨x,y,d,G,_⟩:=h j x' A;rw[G];exact g2.key j x d
  .obtain⟨x,y,d,_,C,J⟩:=h j x' A;have:=g2.val j x d;rw[C]at this;generalize(ents.getD j co).val=v at this ⊢;cases this with
   |v=>exact hu _ _ J
theorem M7.real{o o':AO}(h:M7 X o o'):o'.real=o.real:=by
 cases h with
 |row sz es es' hl h=>cases es<;>cases es'<;>first|rfl|simp at hl
 |map=>rfl
theorem N4{i:Nat}{o o':AO}(hi:s.h.get i=dl o)(hu:M7 X o o'):SX nt s X (fun t Y=>t=⟨s.f,(i,dl o')::s.h,s.nx⟩∧Y=bG.nil):=by
 intro M N a w A hs;obtain⟨G,F,y,B,J⟩:=FC A.1 hs;have d: ∀j q,AH.get ((i,dl o')::s.h) j=dl q-> ∃x,s.h.get j=dl x∧q.real=x.real∧(q=x∨(j=i∧q=o')):=by
  intro j q u;rw[AH.ax]at u;split at u
  .rename_i C;subst C;cases u;exact⟨o,hi,hu.real,.inr ⟨rfl,rfl⟩⟩
  .exact⟨q,u,rfl,.inl I⟩
 refine⟨G,N,⟨s.f,(i,dl o')::s.h,s.nx⟩,bG.nil,?_,⟨⟨B.ey,fun j q u=>?_,fun j q u D=>?_,fun j q u=>?_,fun j k q r u hk hq D Z=>?_⟩,fun k=>(A.2.1 k).mono F (.refl _ _) (fun _ h=>h),A.2.2⟩,.nil ..,rfl,rfl⟩
 .exact⟨y.os,y.tape,y.output,y.size,y.eU,y.mz,y.eT,y.nm,y.ule,fun b hb=> .inr<|by
   rcases hb with⟨j,q,g1,g2,g3⟩|⟨q,g,g1⟩
   .obtain⟨x,g4,g5,_⟩:=d j q g1;exact .inl ⟨j,x,g4,g5▸g2,g3⟩
   .cases g1⟩
 .obtain⟨x,g4,_⟩:=d j q u;exact A.1.used j x g4
 .obtain⟨x,g4,g5,_⟩:=d j q u;exact B.dI j x g4 (g5▸D)
 .obtain⟨x,g4,_,rfl|⟨rfl,rfl⟩⟩:=d j q u
  .exact B.obj j _ g4
  .exact hu.or F J (A.1.obj j o hi)
 .obtain⟨x,g4,g5,_⟩:=d j q u;obtain⟨r',g6,g7,_⟩:=d k r hk;exact A.1.inj j k x r' g4 g6 (g5▸hq) (g7▸D) Z
end
section
variable {P:Program}
section
variable {nt:NT} {Q:XQ} {k0:List XI} {s:AS} {X:bG}
theorem Ju{t:AS}(hh:t.h=s.h)(hn:t.nx=s.nx)(h: ∀M N a w,Fits M N s nt a w->ff M N s.nx s.h X w->FR M N (· <s.nx) t.f a.tmps):SX nt s X (fun u Y=>u=t∧Y=X):=by
 intro M N a w d j;obtain⟨f,x,n⟩:=t;simp only at hh hn;subst hh;subst hn;exact⟨M,N,⟨f,s.h,s.nx⟩,X,.refl _ _ _ _ _ _,⟨d.1,h M N a w d j,d.2.2⟩,j,rfl,rfl⟩
theorem Fs{b j e d:Nat}{p:PV}(C:X b=dl (.out j e))(hp: ∀(M:Mem) (N:Nm) (U:Nat->Prop) (x:Value),U j->N.aC j=b->N.ext j=e->VR M N U (s.f.get d) x->VR M N U p x):
  SX nt s X (fun t Y=>t=⟨(d,p)::s.f,s.h,s.nx⟩∧Y=X):=
 Ju I I fun M N a w u F k=>by
  obtain⟨y,A,B⟩:=F.out b j e C;rw[AF.ax];split
  .rename_i D;subst D;exact hp M N _ _ y A B (u.2.1 k)
  .exact u.2.1 k
theorem Br{M:Mem}{N:Nm}{n:Nat}{h:AH}{w:World}(hr:Rel M N (· <n) h w){i:Nat}{o o':AO}(hi:h.get i=dl o)(B:o'.real=is->o.real=is)(ho:OR M N (· <n) w i o'):Rel M N (· <n) ((i,dl o')::h) w:=by
 have d: ∀j q,AH.get ((i,dl o')::h) j=dl q->(j=i∧q=o')∨(j≠i∧h.get j=dl q):=by
  intro j q x;rw[AH.ax]at x;split at x
  .rename_i A;exact .inl ⟨A,by simpa using x.symm⟩
  .rename_i A;exact .inr ⟨A,x⟩
 refine⟨hr.ey,fun j q x=>?_,fun j q x u=>?_,fun j q x=>?_,fun j k q r x G F u D=>?_⟩
 .rcases d j q x with⟨rfl,rfl⟩|⟨_,y⟩
  .exact hr.used j o hi
  .exact hr.used j q y
 .rcases d j q x with⟨rfl,rfl⟩|⟨_,y⟩
  .exact hr.dI j o hi (B u)
  .exact hr.dI j q y u
 .rcases d j q x with⟨rfl,rfl⟩|⟨_,y⟩
  .exact ho
  .exact hr.obj j q y
 .rcases d j q x with⟨rfl,rfl⟩|⟨g1,y⟩<;>rcases d k r G with⟨g2,C⟩|⟨g2,C⟩
  .exact g2.symm
  .exact hr.inj j k o r hi C (B F) u D
  .subst g2;subst C;exact hr.inj j k q o y hi F (B u) D
  .exact hr.inj j k q r y C F u D
theorem NX{i:Nat}{o o':AO}(hi:s.h.get i=dl o)(A:o'.real=is->o.real=is)(ho: ∀M N w,ff M N s.nx s.h X w->OR M N (· <s.nx) w i o->OR M N (· <s.nx) w i o'):
  SX nt s X (fun t Y=>t=⟨s.f,(i,dl o')::s.h,s.nx⟩∧Y=X):=by
 intro M N a w F x;have d: ∀j q,AH.get ((i,dl o')::s.h) j=dl q->q.real=is-> ∃y,s.h.get j=dl y∧y.real=is:=by
  intro j q u B;rw[AH.ax]at u;split at u
  .rename_i G;subst G;cases u;exact⟨o,hi,A B⟩
  .exact⟨q,u,B⟩
 refine⟨M,N,⟨s.f,(i,dl o')::s.h,s.nx⟩,X,⟨rfl,rfl,⟨rfl,Tv _⟩,Tv _,fun _ _ _=>rfl,.refl _,fun b c C D=>by simp[C]at D,.refl _ _,Tv _,fun b hb=> .inr ?_⟩,
  ⟨Br F.1 hi A (ho M N w x (F.1.obj i o hi)),F.2⟩,⟨x.real,x.obj,x.ey,fun b p e hb j q u B=>?_,x.out⟩,rfl,rfl⟩
 .rcases hb with⟨j,q,C,D,J⟩|hb
  .obtain⟨y,g1,g2⟩:=d j q C D;exact .inl ⟨j,y,g1,g2,J⟩
  .exact .inr hb
 .obtain⟨y,g1,g2⟩:=d j q u B;exact x.apart b p e hb j y g1 g2
theorem NZ{i:Nat}{o o':AO}(hi:s.h.get i=dl o)(d:dK o o'):SX nt s X (fun t Y=>t=⟨s.f,(i,dl o')::s.h,s.nx⟩∧Y=X):=
 NX hi d.1 fun M N w _ h=>d.2 M N _ w i h
end
end
section
variable {P:Program} {nt:NT} {Q:XQ} {k0:List XI} {s:AS} {X:bG} {ty:Ty}
theorem BK{c:Code}{R u:AS->bG->Prop}(h: ∀t Y,R t Y->u t Y)(hg:GX P nt (.code c:: .lp R::k0) Q s X):GX P nt (.code c:: .lp u::k0) Q s X:=by
 intro M N a w C D;refine AX.then hg C D fun e G J y A s' B F d j x=>⟨y,A,s',B,F,d,j,?_⟩
 cases e with
 |normal=>exact h _ _ x
 |_=>exact x
theorem yy{body:Code}{σ:Type 1}(i0 n:Nat)(y:i0<=n)(I:Nat->σ->AS)(J:Nat->σ->bG->Prop)(B:σ)(C:List Nat)(G:J i0 B X)(h0:Wk s.nx C s (I i0 B))(A: ∀i x Y,J i x Y->Y.still)
  (d: ∀i x Y,i<=n->J i x Y->GX P nt (.code body:: .lp (fun t u=>i<n∧ ∃j L,J (i+1) j u∧Wk s.nx L t (I (i+1) j))::k0) Q (I i x) Y):GX P nt (.code (.loop body)::k0) Q s X:=by
 refine Rx (σ:={p:Nat×σ×bG//p.1<=n∧J p.1 p.2.1 p.2.2}) (fun p=>I p.1.1 p.1.2.1) (fun p=>p.1.2.2) (fun p=>n-p.1.1) ⟨(i0,B,X),y,G⟩ C h0 rfl (fun p=>A _ _ _ p.2.2) fun p=>?_;obtain⟨⟨i,x,Y⟩,D,F⟩:=p;refine BK ?_ (d i x Y D F)
 rintro t u ⟨h3,j,L,h4,h5⟩;exact⟨⟨(i+1,j,u),h3,h4⟩,L,by show n-(i+1)<n-i;omega,h5,rfl⟩
end
section
variable {P:Program} {nt:NT} {Q:XQ} {k:List XI} {s:AS} {X:bG}
def GoW(P:Program)(nt:NT)(k:List XI)(Q:XQ)(X:bG)(n0:Nat)(t:AS):AQ:=fun e u=>(e= .normal∧ ∃L,Wk n0 L u t)∨(e≠ .normal∧kx P nt k Q e u X)
theorem w5{n0:Nat}{t u:AS}(L:List Nat)(h:Wk n0 L u t):GoW P nt k Q X n0 t .normal u:= .inl ⟨rfl,L,h⟩
theorem uP{c:Code}(t:AS)(h1:GO P nt [.code c] (GoW P nt k Q X s.nx t) s)(D:GX P nt k Q t X):GX P nt (.code c::k) Q s X:=by
 intro M N a w F y;refine AW.then h1 F fun e G J x C u B d j=>?_;rcases j with⟨rfl,L,A⟩|⟨_,j⟩
 .obtain⟨g1,g2⟩:=ki.frame (A.ext B) y;exact⟨x,_,t,X,g1,A.fits d,g2,D⟩
 .obtain⟨g1,g2⟩:=ki.frame B y;exact⟨x,C,u,X,g1,d,g2,j⟩
end
section
variable {P:Program} {ty:Ty} {nt:NT} {s:AS}
theorem VR.ag{M:Mem}{N:Nm}{U:Nat->Prop}{cs:List IV}{x:Value}(h:VR M N U (.agg (cs.map .iv)) x):IR M (.agg cs) x:=by
 cases h with
 |agg _ ys hl hr=>
  refine .agg _ _ (by simpa using hl) fun j p d=>?_;have:=hr j (.iv p) (by rw[Tu,d];rfl)
  cases this with
  |iv _ _ h=>exact h
theorem nT{o:Oper}{t:TypeId}{x:Operand}(ho:o.op= .makeInterface t x){u:TypeDesc}(hu:P.underlying t=dl u)(d: ∀B,u≠ .interface B){cs:List IV}(A:ev s.f x= .agg (cs.map .iv)):
  ∀M N a w,Fits M N s nt a w-> ∃x,(execOp a.eval o).run P w= .ok (.value x) w∧VR M N (· <s.nx) (.iv (.oj t (.agg cs))) x:=by
 intro M N a w y;have j:=aJ y.2.1 x;rw[A]at j;refine⟨.iface t (a.eval x),?_,.iv _ _ (.oj _ _ _ j.ag)⟩;simp only[execOp,ho];refine aY ?_;unfold Instr.makeInterface;rw[Sem.run_bind,run_underlying hu];simp only[Result.andThen];cases u<;>first|exact absurd I (d _)|rfl
theorem xz{o:Oper}{t u:TypeId}{x:Operand}(ho:o.op= .typeAssert x t u is){d:TypeDesc}(hu:P.underlying u=dl d)(B: ∀J,d≠ .interface J){p:IV}(F:ev s.f x= .iv (.oj u p)):
  ∀M N a w,Fits M N s nt a w-> ∃x,(execOp a.eval o).run P w= .ok (.value x) w∧VR M N (· <s.nx) (.aZ [.iv p,.kb is]) x:=by
 intro M N a w D;have C:=aJ D.2.1 x;rw[F]at C;generalize G:a.eval x=y at C;cases C with
 |iv _ _ h=>cases h with
  |oj _ _ z h=>
   refine⟨.tuple #[z,.bool is],?_,.aZ _ _ I fun j q A=>?_⟩
   .simp only[execOp,ho,G];refine aY ?_;unfold Instr.typeAssert;simp only[Sem.run_bind,run_underlying hu,Result.andThen];cases d<;>first|exact absurd I (B _)|simp
   .match j,A with
    |0,A=>cases A;exact .iv _ _ h
    |1,A=>cases A;exact .kb _
theorem El{o:Oper}{t u v:TypeId}{x:Operand}(ho:o.op= .typeAssert x t u is){d:TypeDesc}(hu:P.underlying u=dl d)(B: ∀Y,d≠ .interface Y)(hne:v≠u){z:Value}(J: ∀w:World,(zeroValue u).run P w= .ok z w){p:IV}(F:ev s.f x= .iv (.oj v p)):
  ∀M N a w,Fits M N s nt a w-> ∃x,(execOp a.eval o).run P w= .ok (.value x) w∧VR M N (· <s.nx) (.aZ [.any,.kb jp]) x:=by
 intro M N a w D;have C:=aJ D.2.1 x;rw[F]at C;generalize G:a.eval x=y at C;cases C with
 |iv _ _ h=>cases h with
  |oj _ _ y h=>
   refine⟨.tuple #[z,.bool jp],?_,.aZ _ _ I fun j q A=>?_⟩
   .simp only[execOp,ho,G];refine aY ?_;unfold Instr.typeAssert;simp only[Sem.run_bind,run_underlying hu,Result.andThen];cases d<;>first|exact absurd I (B _)|simp[hne,J,Result.andThen]
   .match j,A with
    |0,A=>cases A;exact .any _
    |1,A=>cases A;exact .kb _
structure B7 (P:Program) (t:TypeId) (nm:String) (k:FuncId):Prop where
 info: ∃i,P.info? t=dl i∧ ∃m,i.methods.find? (·.name==nm)=dl m∧m.path= #[]∧m.func=dl (k,jp)
 und: ∃d,P.underlying t=dl d∧ ∀e,d≠ .pointer e
theorem Bm{t:TypeId}{j:String}{k:FuncId}(h:B7 P t j k)(v:Value)(n:Nat)(w:World):(method (n+1) t v j).run P w= .ok (k,v) w:=by
 obtain⟨⟨i,u,m,x,y,A⟩,d,B,C⟩:=h;unfold method;simp only[Sem.run_bind,run_typeInfo w u,Result.andThen,x,y,List.toList_toArray,follow,Sem.run_pure,A];unfold receiverAt;simp only[Sem.run_bind,run_underlying B,Result.andThen];cases d<;>first|exact absurd I (C _)|simp[Place.get]
theorem GI{o:Oper}{x:Operand}{nm:String}{u:Array Operand}{ts:Array TypeId}(ho:o.op= .call ⟨.invoke x nm,u,ts⟩){t:TypeId}{v:IV}(J:ev s.f x= .iv (.oj t v)){k:FuncId}(hm:B7 P t nm k){args:List PV}{r:PV}(hc:Pure P k args r)
  (ha:v.pv::u.toList.map (fun x=>(ev s.f x).plain)=args) (hlow:db (sig [] s.nx) args=args) {s':AS} (hp:putDst nt o (r.bZ (sig [] s.nx)) (aO s [] [] 0)=dl s'):OT P nt o s (fun t=>t=s'):=by
 intro M N a w C K Z hk;have hv:=aJ C.2.1 x;rw[J]at hv;generalize hy:a.eval x=y at hv;cases hv with
 |iv _ _ h=>cases h with
  |oj _ _ z h=>
   have G:(execOp a.eval o).run P w= .ok (.enter k (#[z]++u.map a.eval)) w:=by
    simp only[execOp,ho,resolve,hy,Sem.run_bind,Sem.run_pure,Result.andThen,invoke];rw[show(#[Value.iface t z]++u.map a.eval)[0]? =dl (.iface t z) from(T6 (by simp)).trans I];simp only[callMethod,Sem.run_bind];rw[show(program).run P w= .ok P w from rfl];simp only[Result.andThen];have Y:=Bm (n:=P.types.size+Made.depth-1) hm z w;have hd:P.types.size+Made.depth-1+1=P.types.size+Made.depth:=by
     have:1<=Made.depth:=by decide
     omega
    rw[hd]at Y;rw[Y];simp only[Result.andThen];have h2:(#[Value.iface t z]++u.map a.eval).extract 1 (#[Value.iface t z]++u.map a.eval).size=u.map a.eval:=by
     simp[Array.extract_append]
    rw[h2];exact hc.1 _ w
   unfold Oper.wp;rw[G];simp only[Oper.upon];have F:args.length=(#[z]++u.map a.eval).toList.length:=by rw[<-ha];simp
   have A:=hc.calls (L:=[]) (s:=s) Us (by simp) I C.1 F (fun j p hp=>by
    have B:(db (sig [] s.nx) args)[j]? =dl (p.bZ (sig [] s.nx)):=by rw[bN,Tu,hp];rfl
    rw[hlow,<-ha]at B;cases j with
    |zero=>
     simp only[List.getElem?_cons_zero,Tm]at B;rw[<-B];have e:(#[z]++u.map a.eval).toList.getD 0 undef=z:=by simp
     rw[e];exact zH h
    |succ j=>
     rw[VH,Tu,Tw]at B;obtain⟨q,hq,he⟩:=B;rw[<-he];have a0:u[j]? =dl q:=by simpa using hq
     rw[Tr,VG,TI (by simp)];simp only[TO,UJ,Nat.add_sub_cancel,T5,Vw,a0,Ut,UI]
     exact(aJ C.2.1 q).plain)
   rw[UH]at A;refine A.mono ?_;rintro e w' ⟨x,M',N',r',h',n',rfl,⟨rfl,rfl,rfl⟩,J,hr,hvr⟩;have D:Fits M' N' (aO s [] [] 0) nt a w':=⟨hr,C.2.1.ext J,C.2.2⟩
   show K (a.put o.dst x) w';cases hd:o.dst with
   |none=>
    have:=dx hp hd;subst this;exact hk M' N' _ _ w' J D I
   |some d=>
    obtain⟨Y,rfl⟩:=dw hp hd;exact hk M' N' {aO s [] [] 0 with f:=(d,r'.bZ (sig [] s.nx))::(aO s [] [] 0).f} _ w' J (D.put d _ x Y hvr) I
end
section
variable {P:Program} {nt:NT} {Q:AQ} {k:List KI} {s:AS}
def AF.rJ(i:Nat)(l:List IV):AF->AF
 | []=> []
 |(d,p)::r=>(d,p.rJ i l)::AF.rJ i l r
theorem AF.AG(i:Nat)(l:List IV): ∀(f:AF) (d:Nat),(AF.rJ i l f).get d=(f.get d).rJ i l
 | [],_=>rfl
 |(k,p)::r,d=>by
  simp only[AF.rJ,AF.ax,AF.AG i l r d];split<;>rfl
theorem Kz{c:Code}(i:Nat)(l:List IV){cs:List PV}{G:Option TypeId}(hi:s.h.get i=dl (.cells cs G))(j:cs=l.map .iv)
  (h:GO P nt (.code c::k) Q ⟨s.f.rJ i l,(i,io)::s.h,s.nx⟩):GO P nt (.code c::k) Q s:=by
 intro M N a w u;obtain⟨C,J,Y,Z⟩:=xb u.1 hi j
 have x:Fits C N ⟨s.f.rJ i l,(i,io)::s.h,s.nx⟩ nt a w:=⟨Y,fun d=>by
  rw[AF.AG];exact Z _ _ (u.2.1 d),u.2.2⟩
 exact AW.then h x fun e a2 w2 D F s2 B y A=>⟨D,F,s2,J.trans B,y,A⟩
end
section
variable {P:Program} {ty:Ty} {nt:NT} {s:AS}
theorem KO(c0:bE P ty){o:Oper}{x:Operand}{t u:TypeId}{et eu:bJ}(ho:o.op= .convert t t x)(ht:ty t=dl et)(hk:et.k= .aR (.slice u))(hu:ty u=dl eu)(e0:eu.k= .aR (.int .u8))
  {i n:Nat} {es:List (List PV)} (el:Nat->List IV) (hx:ev s.f x= .sl i 0 n 1) (hi:s.h.get i=dl (.row 1 es)) (d0: ∀k e,es[k]? =dl e->e=(el k).map .iv) (hn:n=es.length) (o0:0<n)
  {s':AS} (hp:putDst nt o (.iv (.bU 1 n fun k=>el (0+k))) ⟨s.f,(i,io)::s.h,s.nx⟩=dl s'):OT P nt o s (fun t=>t=s'):=by
 refine OT.value hp fun M N a w J=>?_;have i0:P.underlying t=dl (.slice u):=by have:=(c0 t _ ht).2.1;rw[hk]at this;exact this.1
 have k0:P.underlying u=dl (.int .u8):=by have:=(c0 u _ hu).2.1;rw[e0]at this;exact this.1
 obtain⟨M',D,F,v1⟩:=qA J.1 hi d0;have C:=aJ J.2.1 x;rw[hx]at C;have hv:=v1 _ _ C (by simp[PV.bh,hn]);have a0:=J.1.obj i _ hi;have y:(AO.row 1 es).real=is:=by
  cases es with
  |nil=>simp at hn;omega
  |cons=>rfl
 rcases a0 with h0|⟨_,c,T,hc,m0,_⟩
 .rw[h0]at y;cases y
 generalize l0:a.eval x=vx at C hv;cases C with
 |lK=>omega
 |sl _ _ _ _ cap hU h0 hl hcp hext=>
  have g0:w.shape? (N.aC i)=dl (T,c.size):=by unfold World.shape?;rw[hc]
  obtain⟨G,A⟩: ∃G,G=w.freeze ⟨N.aC i,c.size,io⟩ 1:=⟨_,rfl⟩
  have n0:N.aC i<w.heap.size:=(Uf.1 hc).1;have hnew:G.heap[N.aC i]? =dl (.cells c T (c.size,c.size+1)):=by
   rw[A];unfold World.freeze;rw[be (by decide)];simp only[T8,if_true,hc,Ut];rfl
  have B: ∀b,b≠N.aC i->G.heap[b]? =w.heap[b]? :=fun b hb=>by
   rw[A];unfold World.freeze;rw[be (by decide)];simp only[T8,be (Ne.symm hb)]
  have j0:G.heap.size=w.heap.size:=by
   rw[A];unfold World.freeze;rw[be (by decide)];simp
  have b0:(convert t t (.slice (dl ⟨N.aC i,0*1,io⟩) n cap)).run P w= .ok (.slice (dl ⟨N.aC i,0*1,io⟩) n cap) G:=by
   rw[A];simp[convert,run_underlying i0,run_underlying k0,markStringish,g0]
  refine⟨.slice (dl ⟨N.aC i,0*1,io⟩) n cap,G,M',N,?_,?_,?_,?_⟩
  .simp only[execOp,ho,l0];rw[Sem.run_bind,b0];rfl
  .refine⟨by rw[A];exact D.os,by rw[A];exact D.tape,by rw[A];exact⟨rfl,Tv _⟩,by rw[j0];exact Tv _,fun b hb f0=>B b fun e=>f0 i _ hi y e.symm,D.mz,D.eT,D.nm,D.ule,D.dY⟩
  .refine⟨⟨fun b d hb=>?_,F.used,F.dI,fun j p hj=>?_,F.inj⟩,fun d=>(J.2.1 d).mono D.mz (.refl _ _) (fun _ h=>h),J.2.2⟩
   .by_cases Z:b=N.aC i
    .subst Z;have h1:=F.ey _ d hb;cases d with
     |cells c'=>
      obtain⟨T',fr,Y⟩:=h1;rw[hc]at Y;cases Y;exact⟨_,_,hnew⟩
     |map es2 cl=>have Y:w.heap[N.aC i]? =dl (.map es2 cl):=h1;rw[hc]at Y;cases Y
    .exact(F.ey b d hb).mono (B b Z)
   .obtain⟨g1,g2⟩:=ba j p hj;have h1:=F.obj j p hj;cases hre:p.real with
    |true=>exact h1.mono (.refl _) (.refl _ _) (fun _ h=>h) (F.used j p hj) (B _ fun e=>g1 (J.1.inj j i p _ g2 hi hre y e))
    |false=>
     cases p with
     |row sz es=>
      cases es with
      |nil=>exact .inl I
      |cons=>cases hre
     |bA l T=>
      cases l with
      |nil=>exact .inl I
      |cons=>cases hre
     |_=>cases hre
  .have e:PV.ey i 1 el (.sl i 0 n 1)= .iv (.bU 1 n fun k=>el (0+k)):=by
    simp only[PV.ey];rw[show TR i i=is from WD i];rfl
   rw[e]at hv;exact hv
end
def To(s t:AS):Prop:= ∀M N (nt:NT) a w,Fits M N s nt a w-> ∃d j,Ext M N (· <s.nx) s.h w d j (· <t.nx) t.h w∧Fits d j t nt a w
theorem To.refl(s:AS):To s s:=fun M N _ _ _ d=>⟨M,N,.refl _ _ _ _ _,d⟩
theorem To.trans{s t u:AS}(h:To s t)(g:To t u):To s u:=fun M N nt a w A=>by
 obtain⟨d,x,B,f1⟩:=h M N nt a w A;obtain⟨j,y,C,f2⟩:=g d x nt a w f1;exact⟨j,y,B.trans C,f2⟩
theorem To.wk{s t:AS}{L:List Nat}(hw:Wk s.nx L s t):To s t:=fun M N _ _ _ d=>⟨M,_,hw.ext (.refl _ _ _ _ _),hw.fits d⟩
theorem To.row{s:AS}(i:Nat){sz:Nat}{es:List (List PV)}(el:Nat->List IV)(hi:s.h.get i=dl (.row sz es))(a0: ∀k e,es[k]? =dl e->e=(el k).map .iv)
  (hf:s.f.iw i sz es.length) (hh:s.h.yk i sz es.length):To s ⟨s.f.jn i sz el,(i,io)::s.h.gx i sz el,s.nx⟩:=by
 intro M N nt a w u;obtain⟨M',B,x,h4⟩:=qA u.1 hi a0;have F: ∀j o,AH.get ((i,io)::s.h.gx i sz el) j=dl o-> ∃p,AH.get ((i,io)::s.h) j=dl p∧s.h.get j=dl p∧o=p.gx i sz el:=by
  intro j o y;obtain⟨g1,g2⟩:=ba j o y;rw[AH.nY,Tw]at g2;obtain⟨p,g3,g4⟩:=g2;exact⟨p,by rw[AH.ax,be g1];exact g3,g3,g4.symm⟩
 have hE:Ext M N (· <s.nx) s.h w M' N (· <s.nx) ((i,io)::s.h.gx i sz el) w:=⟨B.os,B.tape,B.output,B.size,B.eU,B.mz,B.eT,B.nm,B.ule,fun j o y A=>by
  obtain⟨p,g1,_,rfl⟩:=F j o y;rw[AO.iF]at A
  exact B.dY j p g1 A⟩
 have hR:Rel M' N (· <s.nx) ((i,io)::s.h.gx i sz el) w:=by
  refine⟨x.ey,fun j o y=>?_,fun j o y A=>?_,fun j o y=>?_,fun j k o p y hk ho J=>?_⟩
  .obtain⟨p,g1,_,rfl⟩:=F j o y;exact x.used j p g1
  .obtain⟨p,g1,_,rfl⟩:=F j o y;rw[AO.iF]at A;exact x.dI j p g1 A
  .obtain⟨p,g1,g2,rfl⟩:=F j o y;cases p with
   |cells cs T0=>
    obtain⟨c,T,q1,q2,q3,q4,q5⟩:=u.1.obj j _ g2;have D:=AH.lj hh j _ g2;refine⟨c,T,q1,q2,by simpa[eY]using q3,fun k q hq=>?_,q5⟩;rw[eY,Tu,Tw]at hq;obtain⟨q0,Z,rfl⟩:=hq;exact h4 _ _ (q4 k q0 Z) (fM D k q0 Z)
   |row s2 es2=>
    have D:=AH.lj hh j _ g2;rcases u.1.obj j _ g2 with rfl|⟨q0,c,T,q1,q2,q3,q4,q5⟩
    .exact .inl I
    .refine .inr ⟨q0,c,T,q1,q2,by simpa using q3,fun k e G=>?_,fun k e j2 p G J=>?_⟩
     .rw[Tu,Tw]at G;obtain⟨e0,C,rfl⟩:=G;rw[eY,T2];exact q4 k e0 C
     .rw[Tu,Tw]at G;obtain⟨e0,C,rfl⟩:=G;rw[eY,Tu,Tw]at J;obtain⟨p0,Y,rfl⟩:=J;exact h4 _ _ (q5 k e0 j2 p0 C Y) (fM (D e0 (Uv C)) j2 p0 Y)
   |bA=>exact x.obj j _ g1
   |fx=>exact x.obj j _ g1
   |map=>exact x.obj j _ g1
   |b5=>exact x.obj j _ g1
   |dQ=>exact x.obj j _ g1
   |om=>exact x.obj j _ g1
   |iZ=>exact x.obj j _ g1
   |fy=>exact x.obj j _ g1
  .obtain⟨o',g1,_,rfl⟩:=F j o y;obtain⟨p',g2,_,rfl⟩:=F k p hk;rw[AO.iF]at ho J;exact x.inj j k o' p' g1 g2 ho J
 have b0:Fits M' N ⟨s.f.jn i sz el,(i,io)::s.h.gx i sz el,s.nx⟩ nt a w:=⟨hR,fun d=>by
  rw[AF.jd];exact h4 _ _ (u.2.1 d) (AF.kB hf d),u.2.2⟩
 exact⟨M',N,hE,b0⟩
section
variable {P:Program} {nt:NT} {Q:AQ} {k:List KI} {s t:AS}
end
theorem Qk{P:Program}{nt:NT}{s t0:AS}{o:Oper}{R:AS->Prop}(J:To s t0)(h:OT P nt o t0 R):OT P nt o s R:=by
 intro M N a w D K Z F;obtain⟨x,A,Y,d⟩:=J M N nt a w D;exact h x A a w d K Z fun y B t C w' u j G=>F y B t C w' (Y.trans u) j G
section
variable {P:Program} {ty:Ty} {nt:NT} {Q:AQ} {k:List KI} {s:AS}
theorem O9(C:bE P ty){all:List Oper}{todo pend:List (Nat×Oper)}{j:Nat}{o:Oper}{c:Call}{g:FuncId}{asv args:List PV}{os:List AO}{R:PV->AH->Nat->Prop}{Z:Prop}(L:List Nat)(hc:Fn P g args os R)
  (hrd:dX todo=[(j,o)]) (ho:o.op= .call c) (ha:bM s.f c=dl (g,asv)) (hn:cz L=is) (hl:L.all (fun j=>TU j s.nx)=is) (G:L.map s.h.get=os.map fun o=>dl (o.bZ (sig L s.nx))) (d:asv=db (sig L s.nx) args)
  (hg:bV nt all s.f o=dl is) (hpb:hQ all pend o=is) (hE:mC todo [j]=is) (hag:mF ty nt all s todo pend=dl Z) (hCA:Z)
  (h: ∀r h' n',R r h' n'-> ∃s',putDst nt o (r.bZ (sig L s.nx)) (aO s L h' n')=dl s'∧ ∃u,de ty nt all s' (a8 pend o)=dl u∧u∧GO P nt (.bY all (todo.filter fun x=>!TR x.1 j) (a8 pend o)::k) Q s'):
  GO P nt (.bY all todo pend::k) Q s:=by
 have B:(j,o)∈dX todo:=by rw[hrd];simp
 obtain⟨h3,D⟩:=Ub.1 B;simp only[UD,Vh,Uo]at D;have A: ∀y∈todo,aS y.2=is-> ∀y∈pend,eN P nt all s y.2:=by
  intro y J Y;unfold mF at hag;split at hag
  .exact cI C hag hCA
  .rename_i h2;have:=Uo.1 h2 y J;rw[Y]at this;exact absurd I this
 refine nV hE ⟨_,h3,D.1⟩ A fun j' o' F _ hu=>?_;simp only[TF]at F;subst F;have:=hu o h3;subst this;refine⟨D.1,fun y J _=>by simpa using D.2 y J,hpb,hg,_,kH (S:=fun t=> ∃u,de ty nt all t (a8 pend o)=dl u∧u∧GO P nt (.bY all (todo.filter fun x=>!TR x.1 j') (a8 pend o)::k) Q t) ho ha hc (eG hn) (fun j F=>Tk (T7.1 hl j F)) G d h,fun t ⟨u,h5,h6,h7⟩=>⟨cI C h5 h6,h7⟩⟩
end
section
variable {P:Program} {ty:Ty} {nt:NT} {Q:AQ} {k:List KI} {s:AS}
theorem HK{all:List Oper}{o:Oper}{p:PV}(hg:bV nt all s.f o=dl is){d:Nat}(hd:o.dst=dl d)(j:TU d nt=is)(y: ∀M N a w,Fits M N s nt a w-> ∃x,(execOp a.eval o).run P w= .ok (.value x) w∧VR M N (· <s.nx) p x)(hs:aj p (s.f.get d)):eN P nt all s o:=fun M N b w u=>by
 obtain⟨x,A,y⟩:=y M N b w u;refine⟨x,.inl ⟨eV hg u,.inl A⟩,?_⟩;rw[hd];exact qP hd I hs (u.put d p x (Tk j) y)
theorem G0(B:bE P ty)(H:List Nat){all:List Oper}{todo pend:List (Nat×Oper)}{j:Nat}{o:Oper}{c:Call}{g:FuncId}{asv args:List PV}{os:List AO}{r:PV}{Z:AH}{n':Nat}{s':AS}{Y J:Prop}(L:List Nat)(hc:bC P g args os r Z n')
  (hrd:dX todo=[(j,o)]) (ho:o.op= .call c) (ha:bM s.f c=dl (g,asv))
  (hn:cz L=is) (hl:L.all (fun j=>TU j s.nx)=is) (G:L.map s.h.get=os.map fun o=>dl (o.bZ (sig L s.nx))) (d:asv=db (sig L s.nx) args) (hp:putDst nt o (r.bZ (sig L s.nx)) (aO s L Z n')=dl s')
  (hg:bV nt all s.f o=dl is) (hpb:hQ all pend o=is) (hE:mC todo [j]=is)
  (hag:de ty nt all s (pend.filter fun x=>!H.any (TR x.1))=dl Y) (hCA:Y) (F:HL P nt all s (pend.filter fun x=>H.any (TR x.1)))
  (hag2:de ty nt all s' ((a8 pend o).filter fun x=>!H.any (TR x.1))=dl J) (hC2:J) (hH:HL P nt all s' ((a8 pend o).filter fun x=>H.any (TR x.1)))
  (h:GO P nt (.bY all (todo.filter fun x=>!TR x.1 j) (a8 pend o)::k) Q s'):GO P nt (.bY all todo pend::k) Q s:=by
 have A:(j,o)∈dX todo:=by rw[hrd];simp
 obtain⟨h3,D⟩:=Ub.1 A;simp only[UD,Vh,Uo]at D;have u: ∀y∈todo,aS y.2=is-> ∀y∈pend,eN P nt all s y.2:=fun _ _ _ x C=>by
  cases hb:H.any (TR x.1) with
  |true=>exact F.mem x (Ub.2 ⟨C,hb⟩)
  |false=>exact cI B hag hCA x (Ub.2 ⟨C,by simp only[hb];rfl⟩)
 refine nV hE ⟨_,h3,D.1⟩ u fun j' o' hj _ hu=>?_;simp only[TF]at hj;subst hj;have:=hu o h3;subst this
 refine⟨D.1,fun y hy _=>by simpa using D.2 y hy,hpb,hg,_,u6 L hc ho ha hn hl G d hp,fun t ht=>by
  subst ht;refine⟨fun x C=>?_,h⟩;cases hb:H.any (TR x.1) with
  |true=>exact hH.mem x (Ub.2 ⟨C,hb⟩)
  |false=>exact cI B hag2 hC2 x (Ub.2 ⟨C,by simp only[hb];rfl⟩)⟩
end
end
end Go.Al
