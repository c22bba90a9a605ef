/-
  What the proofs of the claims need: part 2 of 6.
-/
import Derived.Test.YtlmhfgbkchnfbaaGreatDoorPart1
import Derived.Deep.Slices
import Derived.ReadAgain
import Derived.ChangeStays
import Derived.ChangeSame
import Derived.WideShapes
import Derived.RowKit
import Derived.Lib.AppendStr
import Derived.Laws.IdiomStrings
import Derived.Laws.BytesArg
import Derived.Laws.MakeOwn
import Derived.Laws.Slices
import Derived.Lib.SliceRun
import Derived.Shelf.GgSortFunc.RowK
import Derived.StillTail
import Derived.RangeFuncRecord
import Derived.RangeFuncCalls
import Derived.TacticsIn
import Derived.Lib.SlBytesConst
open Array renaming append_assoc→ZH,empty_append→aau,eq_empty_of_size_eq_zero→Yn,extract_size→aav,getD_eq_getD_getElem?→WZ,getElem?_append_left→XF,getElem?_append_right→YV,getElem?_eq_getElem→XJ,getElem?_eq_none→Zr,getElem?_eq_some_iff→Yh,getElem?_map→ZG,getElem?_modify→XB,getElem?_push→Zj,getElem?_setIfInBounds→XD,getElem?_toList→Xz,length_toList→Za,mem_filter→ZR,range→Z3,size_append→YE
open Bool renaming and_eq_true→XR,false_eq_true→YQ,not_eq_true'→Ye,not_true→Zs,or_eq_false_iff→YS,or_eq_true→Zc
open Classical renaming choose→Zx,choose_spec→YZ
open Int renaming toNat_natCast→W6
open List.Nodup renaming length_le_of_subset→Yo
open List.Pairwise renaming filter→Zi
open List renaming all_eq_true→XO,any_eq_false→XX,any_eq_true→Yr,append_assoc→Xf,append_nil→XM,cons_append→Xp,eq_nil_of_length_eq_zero→XL,ext_getElem→Zy,ext_getElem?→Zh,filter_congr→Y5,filter_cons→YT,filter_eq_self→ZA,getD→Z8,getD_cons_succ→Yt,getD_cons_zero→YX,getD_eq_getElem?_getD→W2,getElem?_append_left→Xn,getElem?_append_right→Xl,getElem?_drop→XW,getElem?_eq_getElem→W5,getElem?_eq_some_iff→W4,getElem?_map→W9,getElem?_of_mem→XU,getElem?_range→Zz,getElem?_set→YP,getElem?_take→XK,getElem?_toArray→XP,getElem_map→YN,getElem_mem→XS,length_append→W1,length_cons→Xy,length_drop→X7,length_eq_zero_iff→Yv,length_map→Xw,length_nil→Yg,length_pos_iff→Yi,length_singleton→Xu,length_take→XA,map_append→Xg,map_congr_left→Yj,map_cons→W7,map_map→Yb,mem_append→Xr,mem_append_left→XV,mem_append_right→YB,mem_cons→Xm,mem_cons_of_mem→Xi,mem_cons_self→Xk,mem_filter→XG,mem_map→XH,mem_of_getElem?→XE,mem_range→Yz,mem_singleton→Xd,nil_append→Xq,nodup_append→YG,nodup_cons→XN,nodup_nil→XY,pairwise_cons→Yd,pairwise_iff_getElem→Yl,perm_ext_iff_of_nodup→YJ,range→XC,replicate→X3,size_toArray→Zg,take_of_length_le→Xh,take_succ_eq_append_getElem→ZL,take_zero→Zm
open Nat renaming add_assoc→Yf,add_mul→XT,add_zero→YC,beq→Xv,beq_refl→aaw,ble→Y4,ble_eq_true_of_le→X0,blt→Xx,eq_of_beq_eq_true→Xs,le_add_right→ZS,le_of_ble_eq_true→WY,le_of_eq→aac,le_of_not_lt→YA,le_refl→W8,le_succ→Yw,le_trans→X6,lt_irrefl→ZC,lt_of_le_of_lt→aat,lt_of_lt_of_le→YH,lt_or_ge→XZ,lt_succ_of_lt→YF,lt_succ_self→YM,lt_trichotomy→Zd,min_eq_left→Y9,mod_eq_of_lt→Zl,mul_comm→ZM,mul_le_mul_right→Xt,mul_one→Zu,ne_of_lt→aab,sub_mul→aal,sub_zero→ZK,succ_mul→YL,zero_add→Xo,zero_le→Xc,zero_mul→YD
open Option renaming getD_some→X9,map_eq_some_iff→Xa,map_none→Y7,map_some→Ya
open Option.some renaming inj→X4,injEq→W3
open Prod.mk renaming injEq→Xe
set_option maxRecDepth 100000
open Bool renaming false→kw,true→jp
open Decidable renaming decide→lc
open Inhabited renaming default→co
open Option renaming none→is,some→io
namespace Go.Al
section
def BN:Op->Bool
  | .binOp .add _ _ _ _=>jp
  | .binOp .sub _ _ _ _=>jp
  | .binOp .mul _ _ _ _=>jp
  | .binOp .rem _ _ _ _=>jp
  | .binOp .quo _ _ _ _=>jp
  | .indexAddr ..=>jp
  | .index ..=>jp
  | .slice ..=>jp
  |_=>kw
theorem zP{ty:Ty}{s:AS}{o:Op}{p:PV}{C:Prop}(h:ji ty s o=io (p,C))(ho:BN o=kw):C:=by
  cases o with
  | binOp op t x y t'=>
    simp only[ji]at h;split at h
    · unfold FW at h
      split at h
      · split at h<;>first|(cases h;done)|(simp only[W3,Xe]at h;rw[<-h.2];trivial)
      · split at h<;>first|(cases h;done)|(simp only[W3,Xe]at h;rw[<-h.2];trivial)
      · cases h
    unfold Av at h;split at h
    · split at h
      · unfold DV at h
        split at h
        · unfold tI at h
          split at h<;>first
            |(cases h;done)
            |(split at h<;>first|(cases h;done)|(simp only[W3,Xe]at h;rw[<-h.2];trivial))
        · unfold tI at h
          split at h<;>first
            |(cases h;done)
            |(split at h<;>first|(cases h;done)|(simp only[W3,Xe]at h;rw[<-h.2];trivial))
        unfold Fi at h;split at h<;>first|(cases h;done)|(simp[BN]at ho;done)|(simp only[W3,Xe]at h;rw[<-h.2];trivial)
      · unfold tI at h
        split at h<;>first
          |(cases h;done)
          |(split at h<;>first|(cases h;done)|(simp only[W3,Xe]at h;rw[<-h.2];trivial))
    · unfold Ey at h
      split at h<;>first|(cases h;done)|(simp[BN]at ho;done)|(simp only[W3,Xe]at h;rw[<-h.2];trivial)
    · split at h
      all_goals first
        |(cases h;done)
        | (unfold o8 at h
           split at h
           · split at h<;>first|(cases h;done)|(simp only[W3,Xe]at h;rw[<-h.2];trivial)
           · cases h)
    · split at h
      all_goals first
        |(cases h;done)
        | (unfold o8 at h
           split at h
           · split at h<;>first|(cases h;done)|(simp only[W3,Xe]at h;rw[<-h.2];trivial)
           · cases h)
    all_goals first
      |(cases h;done)
      | (unfold vT at h
         split at h
         · split at h<;>first|(cases h;done)|(simp only[W3,Xe]at h;rw[<-h.2];trivial)
         · cases h)
  |indexAddr t x i=>simp[BN]at ho
  |index t x i=>simp[BN]at ho
  |slice t x lo hi mx=>simp[BN]at ho
  | call c=>
    obtain⟨callee,args,j⟩:=c;cases callee with
    | builtin b=>
      cases b with
      | len=>
        simp only[ji]at h;split at h
        · split at h
          · split at h<;>first|(cases h;done)|(simp only[xu,W3,Xe]at h;rw[<-h.2];trivial)
          · split at h<;>first|(cases h;done)|(simp only[xu,W3,Xe]at h;rw[<-h.2];trivial)
          · split at h
            · simp only[W3,Xe]at h;rw[<-h.2];trivial
            · split at h<;>first|(cases h;done)|(simp only[W3,Xe]at h;rw[<-h.2];trivial)
            · cases h
          · cases h
        · cases h
      | max=>
        simp only[ji]at h;split at h
        · split at h<;>first|(cases h;done)|(simp only[W3,Xe]at h;rw[<-h.2];trivial)
        · cases h
      | min=>
        simp only[ji]at h;split at h
        · split at h<;>first|(cases h;done)|(simp only[W3,Xe]at h;rw[<-h.2];trivial)
        · cases h
      |_=>simp[ji]at h
    |_=>simp[ji]at h
  | unOp op t x=>
    cases op with
    |not=>simp only[ji]at h;split at h<;>first|(cases h;done)|(simp only[W3,Xe]at h;rw[<-h.2];trivial)
    |_=>simp[ji]at h
  | lookup t x i ok=>
    have key: ∀{kc:KC} {V:Type} {e:V->IV} {z:V} {u:Value} {m:List (kc.K×V)},v7 ty t ok kc e z u m (ev s.f i)=io (p,C)->C:=by
      intro kc V e z u m h;unfold v7 at h;split at h
      · split at h
        · split at h
          · split at h<;>(simp only[W3,Xe]at h;rw[<-h.2];trivial)
          · cases h
        · cases h
      · cases h
    simp only[ji]at h;split at h
    · exact key h
    · split at h
      · exact key h
      · cases h
    · cases h
  | _=>
    simp only[ji]at h
    repeat' (first|(cases h;done)|(simp only[force_eq,W3,Xe]at h;rw[<-h.2];trivial)|split at h)
inductive KN where
  |read (i:Nat) (o:Oper) (p:PV) (C:Prop)
  |skip (i:Nat) (o:Oper)
  |split (d:Nat) (t:Bool)
def mh(ty:Ty)(nt:NT)(s:AS)(all:List Oper)(todo pend:List (Nat×Oper)):List (Nat×Oper)->Option KN
  | []=>is
  | (i,o)::r=>match todo.any (fun y=>waits o y.1)||aV o with
    |true=>mh ty nt s all todo pend r
    | false=>match bR nt all s.f o with
      | some jp=>match ji ty s o.op with
        | some (p,C)=>match xD all pend o with
          |true=>io (.read i o p C)
          |false=>mh ty nt s all todo pend r
        |none=>mh ty nt s all todo pend r
      | some kw=>match xD all pend o with
        |true=>io (.skip i o)
        |false=>mh ty nt s all todo pend r
      | none=>match o.guard with
        | some (g,_)=>match guardOf all s.f g with
          |some (d,.iv (.v (.bool t)))=>io (.split d t)
          |_=>mh ty nt s all todo pend r
        |none=>mh ty nt s all todo pend r
def c8(ty:Ty)(nt:NT)(all:List Oper)(s:AS):List (Nat×Oper)->Option Prop
  | []=>io True
  | (_,o)::r=>match c8 ty nt all s r with
    |none=>is
    | some R=>match bR nt all s.f o with
      | some jp=>match ji ty s o.op with
        | some (p,C)=>match o.dst with
          |some d=>bif Xx d nt then io ((ae p (s.f.get d)∧C)∧R) else is
          |none=>io (C∧R)
        |none=>is
      | some kw=>match o.dst with
        |some d=>io (s.f.get d= .iv (.v (.tuple #[]))∧R)
        |none=>io R
      |none=>is
def dz(todo:List (Nat×Oper)):List (Nat×Oper):=todo.filter fun x=>!(aV x.2||todo.any fun y=>waits x.2 y.1)
def l3(ty:Ty)(nt:NT)(all:List Oper)(s:AS)(todo pend:List (Nat×Oper)):Option Prop:=
  match todo.any fun y=>aV y.2 with
  |true=>c8 ty nt all s pend
  |false=>io True
def o9(all:List Oper)(i:Nat)(o:Oper):Nat->List Oper->Bool
  |_,[]=>jp
  |k,q::r=>(Xv k i||((waits q i||!looks all q o)&&(match o.dst,q.dst with|some d,io e=>!Xv d e|_,_=>jp)))&&o9 all i o (k+1) r
def k9(ty:Ty)(nt:NT)(all:List Oper):Nat->List Oper->Bool
  |_,[]=>jp
  | i,o::r=>(match o.op with
    | .alloc t=>match o.guard,o.dst,ty t with
      |none,io d,io _=>Xx d nt&&((o.after.toList.all fun e=>!Region.binds .any e)&&o9 all i o 0 all)
      |_,_,_=>kw
    |_=>jp)&&k9 ty nt all (i+1) r
def BJ(todo:List (Nat×Oper)):List (Nat×Oper)->Option (Nat×Oper)
  | []=>is
  | (i,o)::r=>match aV o,AB todo i with
    |true,jp=>io (i,o)
    |_,_=>BJ todo r
inductive Stop where
  |fin (e:Exit) (s:AS)
  |cond (c:Operand) (t:Bool) (x y:Code) (k:List KI) (s:AS)
  |guard (all rest:List Oper) (o:Oper) (d:Nat) (want t:Bool) (k:List KI) (s:AS)
  |op (all rest:List Oper) (o:Oper) (k:List KI) (s:AS)
  |loop (b:Code) (k:List KI) (s:AS)
  |draw (id:Nat) (ops:Array Oper) (k:List KI) (s:AS)
  |again (R:AS->Prop) (s:AS)
  |RH (all rest:List Oper) (o:Oper) (d:Nat) (want t:Bool) (k:List KI) (s:AS)
  |J1 (all:List Oper) (todo pend:List (Nat×Oper)) (d:Nat) (t:Bool) (k:List KI) (s:AS)
  |J4 (all:List Oper) (todo pend:List (Nat×Oper)) (k:List KI) (s:AS)
  |bad (why:Nat) (k:List KI) (s:AS)
  |out (k:List KI) (s:AS)
def oE(id:Nat):List KI->Option (List KI)
  | []=>is
  | .aA j::k=>bif Xv id j then io k else oE id k
  | .code _::k=>oE id k
  | .ops _ _::k=>oE id k
  | .lp _::k=>oE id k
  | .ur _ _::k=>oE id k
  | .bS _ _ _::k=>oE id k
  | .F1 _ _::k=>oE id k
  | .Hv::k=>oE id k
  | .NU ..::_=>is
  | .NV ..::_=>is
def gI:List KI->Option (List KI)
  | []=>is
  | .aA _::k=>gI k
  | .code _::k=>gI k
  | .ops _ _::k=>gI k
  | .lp _::k=>gI k
  | .ur _ _::k=>gI k
  | .bS _ _ _::k=>gI k
  | .F1 _ _::k=>gI k
  | .Hv::k=>gI k
  |k=>io k
structure WW where
  nt:Nat
  res:List ResultVar
  body:Code
abbrev VO:=Nat->Option WW
def KK(P:Program)(j:VO):Prop:= ∀g e,j g=io e-> ∃fn,P.funcs[g]? =io fn∧fn.body=io e.body∧(fn.name== "runtime.NumGoroutine")=kw∧fn.ntmps=e.nt∧fn.results.toList=e.res
def CX{α:Type _}:Nat->List PV->(AF->α)->α
  |_,[],k=>k []
  |n,p::r,k=>wv p fun j=>CX (n+1) r fun f=>k ((n,j)::f)
theorem w5{α:Type _}: ∀(l:List PV) (n:Nat) (k:AF->α),CX n l k=k (mT n l)
  | [],_,_=>rfl
  |p::r,n,k=>by simp only[CX,dL,w5 r,mT]
def callee(j:VO)(s:AS):Op->Option (WW×List PV)
  | .call c=>match bP s.f c with
    | some (g,asv)=>match j g with
      | some e=>match Y4 asv.length e.nt with
        |true=>io (e,asv)
        |false=>is
      |none=>is
    |none=>is
  |_=>is
structure Way where
  fns:VO
  un:Nat
  cl:Bool
def bK(ty:Ty)(y:Way):Nat->NT->List KI->AS->Prop->Option (Prop×NT×Stop)
  |0,nt,k,s,C=>io (C,nt,.out k s)
  |_+1,nt,[],s,C=>io (C,nt,.fin .normal s)
  |n+1,nt,.aA _::k,s,C=>bK ty y n nt k s C
  |_+1,nt,.lp R::_,s,C=>io (C,nt,.again R s)
  |n+1,nt,.Hv::k,s,C=>bK ty y n nt k s C
  |n+1,nt,.code (.scope b)::k,s,C=>bK ty y n nt (.code b:: .Hv::k) s C
  | n+1,nt,.F1 b m::k,s,C=>match m with
    |0=>io (C,nt,.bad 2 k s)
    |m+1=>bK ty y n nt (.code b:: .F1 b m::k) s C
  | n+1,_,.NU nt f res o all rest::k,s,C=>match res s with
    |none=>io (C,nt,.bad 3 k s)
    | some r=>match putDst nt o r ⟨f,s.h,s.nx⟩ with
      |none=>io (C,nt,.bad 4 k s)
      |some s'=>bK ty y n nt (.ops all rest::k) s' C
  | n+1,_,.NV nt f res j o all todo pend::k,s,C=>match res s with
    |none=>io (C,nt,.bad 5 k s)
    | some r=>match putDst nt o r ⟨f,s.h,s.nx⟩ with
      |none=>io (C,nt,.bad 6 k s)
      | some s'=>match c8 ty nt all s' (ba pend o) with
        |none=>io (C,nt,.bad 7 k s)
        |some C''=>bK ty y n nt (.bS all (todo.filter fun x=>!Xv x.1 j) (ba pend o)::k) s' (C∧C'')
  |n+1,nt,.code .skip::k,s,C=>bK ty y n nt k s C
  |n+1,nt,.code (.label _)::k,s,C=>bK ty y n nt k s C
  |n+1,nt,.code (.seq a b)::k,s,C=>bK ty y n nt (.code a:: .code b::k) s C
  |n+1,nt,.code (.block id b)::k,s,C=>bK ty y n nt (.code b:: .aA id::k) s C
  | n+1,nt,.code (.region id ops d)::k,s,C=>match d with
    |false=>bK ty y n nt (.ops ops.toList ops.toList::k) s C
    | true=>match vS ops.toList,jc 0 ops.toList,k9 ty nt ops.toList 0 ops.toList with
      |true,jp,jp=>bK ty y n nt (.bS ops.toList (jJ 0 ops.toList) []::k) s C
      |_,_,_=>io (C,nt,.draw id ops k s)
  |n+1,nt,.bS _ [] _::k,s,C=>bK ty y n nt k s C
  | n+1,nt,.bS all (x::todo) pend::k,s,C=>match mh ty nt s all (x::todo) pend (x::todo) with
    | some (.read i o p C')=>match putDst nt o p s with
      |none=>io (C,nt,.bad 8 k s)
      | some s'=>match BN o.op with
        |true=>bK ty y n nt (.bS all ((x::todo).filter fun x=>!Xv x.1 i) ((i,o)::pend)::k) s' (C∧C')
        |false=>bK ty y n nt (.bS all ((x::todo).filter fun x=>!Xv x.1 i) ((i,o)::pend)::k) s' C
    |some (.skip i o)=>bK ty y n nt (.bS all ((x::todo).filter fun x=>!Xv x.1 i) ((i,o)::pend)::k) (ik o s) C
    | some (.split d _)=>match s.f.get d with
      | .iv (.v (.bool t'))=>match y.cl with
        |false=>io (C,nt,.J1 all (x::todo) pend d t' k s)
        | true=>match t' with
          |true=>bK ty y n nt (.bS all (x::todo) pend::k) (setBool s (.tmp d) jp) C
          |false=>bK ty y n nt (.bS all (x::todo) pend::k) (setBool s (.tmp d) kw) C
      |_=>io (C,nt,.bad 9 k s)
    | none=>match dz (x::todo) with
      | [(j,o)]=>match bR nt all s.f o,gY all pend o,nR (x::todo) [j] with
        | some jp,jp,jp=>match l3 ty nt all s (x::todo) pend with
          |none=>io (C,nt,.bad 101 k s)
          | some CA=>match ji ty s o.op with
            | some (p,C')=>match putDst nt o p s with
              |none=>io (C,nt,.bad 102 k s)
              | some s'=>match c8 ty nt all s' (ba pend o) with
                |none=>io (C,nt,.bad 103 k s)
                |some C''=>bK ty y n nt (.bS all ((x::todo).filter fun x=>!Xv x.1 j) (ba pend o)::k) s' (C∧(CA∧C'∧C''))
            | none=>match I4 ty s o.op with
              | none=>match callee y.fns s o.op with
                | none=>match VG ty s o.op with
                  |none=>io (C,nt,.J4 all (x::todo) pend k s)
                  | some (C',p,s1)=>match putDst nt o p s1 with
                    |none=>io (C,nt,.bad 109 k s)
                    | some s'=>match c8 ty nt all s' (ba pend o) with
                      |none=>io (C,nt,.bad 110 k s)
                      |some C''=>bK ty y n nt (.bS all ((x::todo).filter fun x=>!Xv x.1 j) (ba pend o)::k) s' (C∧(CA∧C'∧C''))
                |some (e,asv)=>CX 0 asv fun f=>bK ty y n e.nt (.code e.body:: .NV nt s.f (jh ty · e.res) j o all (x::todo) pend::k) ⟨f,s.h,s.nx⟩ (C∧CA)
              | some (p,s1)=>match putDst nt o p s1 with
                |none=>io (C,nt,.bad 104 k s)
                | some s'=>match c8 ty nt all s' (ba pend o) with
                  |none=>io (C,nt,.bad 105 k s)
                  |some C''=>bK ty y n nt (.bS all ((x::todo).filter fun x=>!Xv x.1 j) (ba pend o)::k) s' (C∧(CA∧C''))
        |_,_,_=>io (C,nt,.J4 all (x::todo) pend k s)
      | []=>match BJ (x::todo) (x::todo) with
        |none=>io (C,nt,.J4 all (x::todo) pend k s)
        | some (i,o)=>match o.op,o.dst with
          | .alloc t,io d=>match ty t with
            |none=>io (C,nt,.bad 106 k s)
            | some e=>force (cj e.zero) fun A=>match c8 ty nt all s pend,c8 ty nt all (lf s d A) pend with
              |some C1,io C2=>bK ty y n nt (.bS all ((x::todo).filter fun x=>!Xv x.1 i) pend::k) (lf s d A) (C∧(C1∧C2))
              |_,_=>io (C,nt,.bad 107 k s)
          |_,_=>io (C,nt,.bad 108 k s)
      |_=>io (C,nt,.J4 all (x::todo) pend k s)
  | n+1,nt,.code (.cond c u v)::k,s,C=>match ev s.f c with
    | .iv (.v (.bool t))=>match y.cl with
      |false=>io (C,nt,.cond c t u v k s)
      | true=>match t with
        |true=>bK ty y n nt (.code u::k) s C
        |false=>bK ty y n nt (.code v::k) s C
    | .kb jp=>bK ty y n nt (.code u::k) s C
    | .kb kw=>bK ty y n nt (.code v::k) s C
    |_=>io (C,nt,.bad 14 k s)
  | n+1,nt,.code .ret::k,s,C=>match gI k with
    |some k'=>bK ty y n nt k' s C
    |none=>io (C,nt,.fin .ret s)
  | n+1,nt,.code (.exit id)::k,s,C=>match oE id k with
    |some k'=>bK ty y n nt k' s C
    |none=>io (C,nt,.bad 15 k s)
  | n+1,nt,.code (.loop b)::k,s,C=>match y.un with
    |0=>io (C,nt,.loop b k s)
    |u+1=>bK ty y n nt (.code b:: .F1 b u::k) s C
  |_+1,nt,.code _::k,s,C=>io (C,nt,.bad 16 k s)
  |_+1,nt,.ur _ _::k,s,C=>io (C,nt,.bad 17 k s)
  |n+1,nt,.ops _ []::k,s,C=>bK ty y n nt k s C
  | n+1,nt,.ops all (o::r)::k,s,C=>match o.guard with
    | some (j,want)=>match guardOf all s.f j with
      | some (d,.iv (.v (.bool t)))=>bif Xx d nt then(match y.cl with
        |false=>io (C,nt,.guard all r o d want t k s)
        | true=>match t with
          |true=>bK ty y n nt (.ops all (o::r)::k) (setBool s (.tmp d) jp) C
          |false=>bK ty y n nt (.ops all (o::r)::k) (setBool s (.tmp d) kw) C) else io (C,nt,.bad 18 k s)
      | some (d,.kb t)=>bif Xx d nt then(match t,want,o with
        |true,jp,⟨a1,a2,a3,a4,a5,_⟩=>bK ty y n nt (.ops all (⟨a1,a2,a3,a4,a5,is⟩::r)::k) s C
        |false,kw,⟨a1,a2,a3,a4,a5,_⟩=>bK ty y n nt (.ops all (⟨a1,a2,a3,a4,a5,is⟩::r)::k) s C
        |_,_,o=>bK ty y n nt (.ops all r::k) (ik o s) C) else io (C,nt,.bad 19 k s)
      |some (_,.iv (.v (.tuple _)))=>bK ty y n nt (.ops all r::k) (ik o s) C
      |_=>io (C,nt,.bad 20 k s)
    | none=>match ji ty s o.op with
      | none=>match I4 ty s o.op with
        | none=>match callee y.fns s o.op with
          | none=>match VG ty s o.op with
            |none=>io (C,nt,.op all r o k s)
            | some (C',p,s1)=>match putDst nt o p s1 with
              |none=>io (C,nt,.bad 111 k s)
              |some s'=>bK ty y n nt (.ops all r::k) s' (C∧C')
          |some (e,asv)=>CX 0 asv fun f=>bK ty y n e.nt (.code e.body:: .NU nt s.f (jh ty · e.res) o all r::k) ⟨f,s.h,s.nx⟩ C
        | some (p,s1)=>match putDst nt o p s1 with
          |none=>io (C,nt,.bad 21 k s)
          |some s'=>bK ty y n nt (.ops all r::k) s' C
      | some (p,C')=>match putDst nt o p s with
        |none=>io (C,nt,.bad 22 k s)
        | some s'=>match BN o.op with
          |true=>bK ty y n nt (.ops all r::k) s' (C∧C')
          |false=>bK ty y n nt (.ops all r::k) s' C
def fI(P:Program)(nt:NT)(Q:AQ):Stop->Prop
  | .fin e s=>Q e s
  | .cond c t x y k s=>(t=jp->GO P nt (.code x::k) Q (setBool s c jp))∧(t=kw->GO P nt (.code y::k) Q (setBool s c kw))
  | .guard all r o d want t k s=>(t=want->GO P nt (.ops all ({o with guard:=is}::r)::k) Q (setBool s (.tmp d) want))∧(t=!want->GO P nt (.ops all r::k) Q (ik o (setBool s (.tmp d) (!want))))
  | .op all r o k s=>GO P nt (.ops all (o::r)::k) Q s
  | .loop b k s=>GO P nt (.code (.loop b)::k) Q s
  | .draw id ops k s=>GO P nt (.code (.region id ops jp)::k) Q s
  | .again R s=>R s
  | .RH all r o d want t k s=>(t=want->GO P nt (.ur all ({o with guard:=is}::r)::k) Q (setBool s (.tmp d) want))∧(t=!want->GO P nt (.ur all r::k) Q (ik o (setBool s (.tmp d) (!want))))
  | .J1 all todo pend d t k s=>(t=jp->GO P nt (.bS all todo pend::k) Q (setBool s (.tmp d) jp))∧(t=kw->GO P nt (.bS all todo pend::k) Q (setBool s (.tmp d) kw))
  | .J4 all todo pend k s=>GO P nt (.bS all todo pend::k) Q s
  | .bad _ _ _=>False
  | .out k s=>GO P nt k Q s
section
variable {P:Program} {ty:Ty} {nt:NT} {Q:AQ}
theorem nF: ∀(k:List KI) {nt:NT} {s:AS},gI k=is->Q .ret s->kp P nt k Q .ret s
  | [],_,_,_,h=>h
  | .code _::k,_,_,g,h=>nF k g h
  | .aA _::k,_,_,g,h=>nF k g h
  | .ops _ _::k,_,_,g,h=>nF k g h
  | .lp _::k,_,_,g,h=>nF k g h
  | .ur _ _::k,_,_,g,h=>nF k g h
  | .bS _ _ _::k,_,_,g,h=>nF k g h
  | .F1 _ _::k,_,_,g,h=>nF k g h
  | .Hv::k,_,_,g,h=>nF k g h
  | .NU ..::_,_,_,g,_=>by simp[gI]at g
  | .NV ..::_,_,_,g,_=>by simp[gI]at g
theorem dU: ∀(k:List KI) {nt:NT} {s:AS} {j:List KI},gI k=io j->GO P nt j Q s->kp P nt k Q .ret s
  | [],_,_,_,g,_=>by simp[gI]at g
  | .code _::k,_,_,_,g,h=>dU k g h
  | .aA _::k,_,_,_,g,h=>dU k g h
  | .ops _ _::k,_,_,_,g,h=>dU k g h
  | .lp _::k,_,_,_,g,h=>dU k g h
  | .ur _ _::k,_,_,_,g,h=>dU k g h
  | .bS _ _ _::k,_,_,_,g,h=>dU k g h
  | .F1 _ _::k,_,_,_,g,h=>dU k g h
  | .Hv::k,_,_,_,g,h=>dU k g h
  | .NU ..::_,_,_,_,g,h=>by
    simp only[gI,W3]at g;subst g;exact⟨.inr Z,h.2⟩
  | .NV ..::_,_,_,_,g,h=>by
    simp only[gI,W3]at g;subst g;exact⟨.inr Z,h.2⟩
theorem dp{id:Nat}: ∀(k:List KI) {nt:NT} {u:List KI} {s:AS},oE id k=io u->GO P nt u Q s->kp P nt k Q (.exit id) s
  | [],_,_,_,h,_=>by cases h
  | .code _::k,_,_,_,h,g=>dp k h g
  | .ops _ _::k,_,_,_,h,g=>dp k h g
  | .lp _::k,_,_,_,h,g=>dp k h g
  | .ur _ _::k,_,_,_,h,g=>dp k h g
  | .bS _ _ _::k,_,_,_,h,g=>dp k h g
  | .F1 _ _::k,_,_,_,h,g=>dp k h g
  | .Hv::k,_,_,_,h,g=>dp k h g
  | .NU ..::_,_,_,_,h,_=>by cases h
  | .NV ..::_,_,_,_,h,_=>by cases h
  | .aA j::k,nt,u,s,h,g=>by
    simp only[oE]at h;show if id=j then _ else _;cases hb:Xv id j with
    | true=>
      simp only[hb,cond_true,W3]at h;subst h;rw[am (Xs hb)];exact g
    | false=>
      simp only[hb,cond_false]at h;rw[be (fun e=>by subst e;simp at hb)];exact dp k h g
theorem vD(j:bq P ty){s s':AS}{o:Oper}{p:PV}{C:Prop}(h:ji ty s o.op=io (p,C))(hC:C)(hp:putDst nt o p s=io s'):OT P nt o s (fun t=>t=s'):=by
  intro M N a w hf K Z hk;obtain⟨x,y,u⟩:=sU j hf h hC;unfold Oper.wp;rw[y];simp only[Oper.upon];cases hd:o.dst with
  | none=>
    have:=dR hp hd;subst this;exact hk M N s' _ w (.refl _ _ _ _ _) hf rfl
  | some d=>
    obtain⟨h1,rfl⟩:=dQ hp hd;exact hk M N {s with f:=(d,p)::s.f} _ w (.refl _ _ _ _ _) (hf.put d p x h1 u) rfl
theorem px(j:bq P ty){s s':AS}{o:Oper}{p:PV}{C:Prop}(h:ji ty s o.op=io (p,C))(hC:C)(hp:putDst nt o p s=io s'):
    (s'.h=s.h∧s'.nx=s.nx)∧ ∀M N a w,Fits M N s nt a w-> ∃x,(execOp a.eval o).run P w= .ok (.value x) w∧Fits M N s' nt (a.put o.dst x) w:=by
  cases hd:o.dst with
  | none=>
    have:=dR hp hd;subst this;exact⟨⟨rfl,rfl⟩,fun M N a w hf=>let ⟨x,hx,_⟩:=sU j hf h hC;⟨x,hx,hf⟩⟩
  | some d=>
    obtain⟨h1,rfl⟩:=dQ hp hd;exact⟨⟨rfl,rfl⟩,fun M N a w hf=>let ⟨x,hx,hv⟩:=sU j hf h hC;⟨x,hx,hf.put d p x h1 hv⟩⟩
theorem vJ{s:AS}{all:List Oper}{todo pend:List (Nat×Oper)}: ∀{l:List (Nat×Oper)} {i:Nat} {o:Oper},(∀x∈l,x∈todo)->
    ((∀{p C},mh ty nt s all todo pend l=io (.read i o p C)->(i,o)∈todo∧aV o=kw∧(∀x∈todo,waits o x.1=kw)∧bR nt all s.f o=io jp∧xD all pend o=jp∧ji ty s o.op=io (p,C))∧
     (mh ty nt s all todo pend l=io (.skip i o)->(i,o)∈todo∧aV o=kw∧(∀x∈todo,waits o x.1=kw)∧bR nt all s.f o=io kw∧xD all pend o=jp))
  | [],i,o,_=>⟨fun h=>by simp[mh]at h,fun h=>by simp[mh]at h⟩
  | (j,q)::r,i,o,hl=>by
    have u:=vJ (s:=s) (all:=all) (todo:=todo) (pend:=pend) (l:=r) (i:=i) (o:=o) (fun x I=>hl x (Xi _ I));have A:(todo.any (fun y=>waits q y.1)||aV q)=kw->aV q=kw∧ ∀x∈todo,waits q x.1=kw:=fun h=>by
      simp only[YS,XX]at h;exact⟨h.2,fun x I=>by simpa using h.1 x I⟩
    constructor
    · intro p C h
      simp only[mh]at h;split at h
      · exact u.1 h
      · rename_i B
        split at h
        · rename_i G
          split at h
          · rename_i hr
            split at h
            · rename_i D
              simp only[W3,KN.read.injEq]at h;obtain⟨rfl,rfl,rfl,rfl⟩:=h;exact⟨hl _ (by simp),(A B).1,(A B).2,G,D,hr⟩
            · exact u.1 h
          · exact u.1 h
        · split at h
          · cases h
          · exact u.1 h
        · split at h
          · split at h
            · cases h
            · exact u.1 h
          · exact u.1 h
    · intro h
      simp only[mh]at h;split at h
      · exact u.2 h
      · rename_i B
        split at h
        · split at h
          · split at h
            · cases h
            · exact u.2 h
          · exact u.2 h
        · rename_i G
          split at h
          · rename_i D
            simp only[W3,KN.skip.injEq]at h;obtain⟨rfl,rfl⟩:=h;exact⟨hl _ (by simp),(A B).1,(A B).2,G,D⟩
          · exact u.2 h
        · split at h
          · split at h
            · cases h
            · exact u.2 h
          · exact u.2 h
theorem xb{s s1:AS}{o:Oper}{d:Nat}{p:PV}(hd:o.dst=io d)(hs:s1={s with f:=(d,p)::s.f})(hp:ae p (s.f.get d)){M:Mem}{N:Nm}{a:Act}{w:World}(hf:Fits M N s1 nt a w):Fits M N s nt a w:=by
  subst hs;refine⟨hf.1,fun k=>?_,hf.2.2⟩;have:=hf.2.1 k;rw[AF.ay]at this;split at this
  · rename_i hk;subst hk;exact hp _ _ _ _ this
  · exact this
theorem cC(j:bq P ty){all:List Oper}{s:AS}: ∀{l:List (Nat×Oper)} {C:Prop},c8 ty nt all s l=io C->C-> ∀x∈l,fm P nt all s x.2
  | [],_,_,_,x,hx=>(nomatch hx)
  | (i,o)::r,C,h,hC,x,hx=>by
    simp only[c8]at h;split at h
    · cases h
    · rename_i R hR
      have key:R->(∀M N b w,Fits M N s nt b w-> ∃v,YieldsAt P all.toArray w o v b∧Fits M N s nt (b.put o.dst v) w)->fm P nt all s x.2:=by
        intro hr hh;rcases Xm.1 hx with rfl|hx
        · exact hh
        · exact cC j hR hr x hx
      split at h
      · rename_i u
        split at h
        · rename_i p I hr
          split at h
          · rename_i d hd
            cases hb:Xx d nt with
            |false=>simp[hb]at h
            | true=>
              simp only[hb,cond_true,W3]at h;subst h;obtain⟨⟨h1,D⟩,G⟩:=hC;refine key G fun M N b w hf=>?_;obtain⟨v,B,y⟩:=sU j hf hr D;refine⟨v,.inl ⟨gj u hf,.inl B⟩,?_⟩;rw[hd];exact xb hd Z h1 (hf.put d p v (WY hb) y)
          · rename_i hd
            simp only[W3]at h;subst h;refine key hC.2 fun M N b w hf=>?_;obtain⟨v,B,y⟩:=sU j hf hr hC.1;exact⟨v,.inl ⟨gj u hf,.inl B⟩,by rw[hd];exact hf⟩
        · cases h
      · rename_i u
        have A: ∀d,o.dst=io d->s.f.get d= .iv (.v (.tuple #[]))-> ∀M N b w,Fits M N s nt b w-> ∃v,YieldsAt P all.toArray w o v b∧Fits M N s nt (b.put o.dst v) w:=fun d hd h1 M N b w hf=>by
          refine⟨undef,.inr ⟨gj u hf,rfl⟩,?_⟩;have:=hf.skip o;unfold ik at this;rw[hd]at this ⊢;exact xb hd Z (h1▸ae.refl _) this
        split at h
        · rename_i d hd
          simp only[W3]at h;subst h;exact key hC.2 (A d hd hC.1)
        · rename_i hd
          simp only[W3]at h;subst h;exact key hC fun M N b w hf=>⟨undef,.inr ⟨gj u hf,rfl⟩,by rw[hd];exact hf⟩
      · cases h
theorem Fq{all:List Oper}{o:Oper}{r:List Oper}{d:Nat}{t:Bool}{k:List KI}{s:AS}{c:Bool}(hc:c=t)(u:s.f.get d= .iv (.v (.bool t)))(h:GO P nt (.ops all (o::r)::k) Q (setBool s (.tmp d) c)):GO P nt (.ops all (o::r)::k) Q s:=by
  subst hc;intro M N a w hf;have j:=hf.setBool (c:= .tmp d) u;exact AL.same (s:=s) h (kj _ _ _) j
theorem wq{c:Operand}{u v:Code}{t:Bool}{k:List KI}{s:AS}(hc:ev s.f c= .iv (.v (.bool t)))(h:GO P nt (.code (bif t then u else v)::k) Q s):GO P nt (.code (.cond c u v)::k) Q s:=by
  intro M N a w hf;refine wp_cond (hf.bool hc) ?_;cases t
  · exact h M N a w hf
  · exact h M N a w hf
theorem tZ{all:List Oper}{f:AF}{j d:Nat}{p:PV}(h:guardOf all f j=io (d,p)):f.get d=p:=by
  unfold guardOf at h;split at h
  · split at h
    · simp only[W3,Xe]at h;rw[<-h.1];exact h.2
    · cases h
  · cases h
theorem BI{todo:List (Nat×Oper)}: ∀{l:List (Nat×Oper)} {i:Nat} {o:Oper},(∀x∈l,x∈todo)->BJ todo l=io (i,o)->(i,o)∈todo∧AB todo i=jp
  | [],_,_,_,h=>by simp[BJ]at h
  | (j,q)::r,i,o,hl,h=>by
    simp only[BJ]at h;split at h
    · rename_i u
      simp only[W3,Xe]at h;obtain⟨rfl,rfl⟩:=h;exact⟨hl _ (by simp),u⟩
    · exact BI (fun x y=>hl x (Xi _ y)) h
theorem um{all:List Oper}{i:Nat}{o:Oper}: ∀{l:List Oper} {n:Nat},o9 all i o n l=jp-> ∀k q,l[k]? =io q->n+k≠i->(waits q i=jp∨looks all q o=kw)∧ ∀d,o.dst=io d->q.dst≠io d
  | [],_,_,k,q,hk,_=>by simp at hk
  | c::l,n,h,k,q,hk,hne=>by
    simp only[o9,XR,Zc,Ye]at h;cases k with
    | zero=>
      simp at hk;subst hk;rcases h.1 with h1|⟨h1,x⟩
      · exact absurd (Xs h1) (by simpa using hne)
      · refine⟨h1,fun d j u=>?_⟩
        rw[j,u]at x;simp at x
    |succ k=>exact um h.2 k q (by simpa using hk) (by omega)
theorem xC(y:bq P ty){all:List Oper}(h:k9 ty nt all 0 all=jp):jX P nt all:=by
  have key: ∀(l:List Oper) (n:Nat),k9 ty nt all n l=jp-> ∀k o,l[k]? =io o->aV o=jp->
      o.guard=is∧(∃d,o.dst=io d∧d<nt)∧(∃t v,o.op= .alloc t∧ ∀w,(zeroValue t).run P w= .ok v w)∧(∀k,waits o k=kw)∧o9 all (n+k) o 0 all=jp:=by
    intro l
    induction l with
    |nil=>intro n _ k o hk;simp at hk
    | cons c l ih=>
      intro n h k o hk j;simp only[k9,XR]at h;cases k with
      | zero=>
        simp at hk;subst hk;have h1:=h.1;split at h1
        · rename_i t ht
          split at h1
          · rename_i d e I hd u
            simp only[XR]at h1;refine⟨I,⟨d,hd,WY h1.1⟩,⟨t,_,ht,fun w=>dy (y _ _ u)⟩,fun k=>?_,h1.2.2⟩;unfold waits;refine XX.2 fun e u=>?_;have:=XO.1 h1.2.1 e u;simp only[Ye]at this;simp[this]
          · cases h1
        · rename_i x
          unfold aV at j;split at j
          · rename_i t ht;exact absurd ht (x t)
          · cases j
      | succ k=>
        have:=ih (n+1) h.2 k o (by simpa using hk) j;rw[show n+(k+1)=n+1+k by omega];exact this
  intro i o Y j;obtain⟨h1,B,D,G,A⟩:=key all 0 h i o Y j;refine⟨h1,B,D,G,fun k q hk J=>?_⟩;rw[Xo]at A;exact um A k q hk (by omega)
theorem yS{j:VO}(u:KK P j){s:AS}{o:Op}{e:WW}{asv:List PV}(h:callee j s o=io (e,asv)):
    ∃g c fn,o= .call c∧bP s.f c=io (g,asv)∧asv.length<=e.nt∧P.funcs[g]? =io fn∧fn.body=io e.body∧(fn.name== "runtime.NumGoroutine")=kw∧fn.ntmps=e.nt∧fn.results.toList=e.res:=by
  unfold callee at h;split at h
  · rename_i c
    split at h
    · rename_i g x G
      split at h
      · rename_i J I
        split at h
        · rename_i hb
          simp only[W3,Xe]at h;obtain⟨rfl,rfl⟩:=h;obtain⟨fn,h1,y,A,B,D⟩:=u _ _ I;exact⟨g,c,fn,rfl,G,WY hb,h1,y,A,B,D⟩
        · cases h
      · cases h
    · cases h
  · cases h
theorem R5(hm:P.follows .mixedOrders=jp)(B:bq P ty){y:Way}(x0:KK P y.fns): ∀(n:Nat) (nt:NT) (k:List KI) (s:AS) (C0 C:Prop) (J:NT) (st:Stop),bK ty y n nt k s C0=io (C,J,st)->(C->C0)∧(C->fI P J Q st->GO P nt k Q s):=by
  intro n
  induction n with
  | zero=>
    intro nt k s C0 C J st h;simp only[bK,W3,Xe]at h;obtain⟨rfl,rfl,rfl⟩:=h;exact⟨fun h=>h,fun _ g=>g⟩
  | succ n ih=>
    intro nt k s C0 C J st h;have A: ∀{Y:NT} {k2:List KI} {s2:AS},bK ty y n Y k2 s2 C0=io (C,J,st)->(GO P Y k2 Q s2->GO P nt k Q s)->(C->C0)∧(C->fI P J Q st->GO P nt k Q s):=
      fun h f=>have:=ih _ _ _ _ _ _ _ h;⟨this.1,fun hC g=>f (this.2 hC g)⟩
    have G: ∀{Y:NT} {k2:List KI} {s2:AS} {C1:Prop},bK ty y n Y k2 s2 (C0∧C1)=io (C,J,st)->(C1->GO P Y k2 Q s2->GO P nt k Q s)->(C->C0)∧(C->fI P J Q st->GO P nt k Q s):=
      fun h f=>have:=ih _ _ _ _ _ _ _ h;⟨fun hC=>(this.1 hC).1,fun hC g=>f (this.1 hC).2 (this.2 hC g)⟩
    have D: ∀{v0:Stop},io (C0,nt,v0)=io (C,J,st)->(fI P nt Q v0->GO P nt k Q s)->(C->C0)∧(C->fI P J Q st->GO P nt k Q s):=by
      intro v0 h f;simp only[W3,Xe]at h;obtain⟨rfl,rfl,rfl⟩:=h;exact⟨fun h=>h,fun _ g=>f g⟩
    have a0: ∀{Y:NT} {z0:Nat} {k2:List KI} {s2:AS},io (C0,Y,Stop.bad z0 k2 s2)=io (C,J,st)->(C->C0)∧(C->fI P J Q st->GO P nt k Q s):=by
      intro Y z0 k2 s2 h;simp only[W3,Xe]at h;obtain⟨rfl,rfl,rfl⟩:=h;exact⟨fun h=>h,fun _ g=>g.elim⟩
    cases k with
    |nil=>simp only[bK]at h;exact D h fun g=>g
    | cons i k=>
      cases i with
      |lp R=>simp only[bK]at h;exact D h fun g=>g
      |aA id=>simp only[bK]at h;exact A h SJ
      |Hv=>simp only[bK]at h;exact A h fun g=>g
      | F1 b m=>
        simp only[bK]at h;split at h
        · exact a0 h
        · exact A h go_round
      | NU Y f res o all rest=>
        simp only[bK]at h;split at h
        · exact a0 h
        · rename_i r hr
          split at h
          · exact a0 h
          · rename_i s' I
            exact A h fun g=>⟨.inl Z,r,s',hr,I,g⟩
      | NV Y f res j o all todo pend=>
        simp only[bK]at h;split at h
        · exact a0 h
        · rename_i r hr
          split at h
          · exact a0 h
          · rename_i s' I
            split at h
            · exact a0 h
            · rename_i n0 d0
              exact G h fun hC g=>⟨.inl Z,r,s',hr,I,cC B d0 hC,g⟩
      | code c=>
        cases c with
        |skip=>simp only[bK]at h;exact A h go_skip
        |scope b=>simp only[bK]at h;exact A h Jt
        |label l=>simp only[bK]at h;exact A h Jw
        |seq a b=>simp only[bK]at h;exact A h SG
        |block id b=>simp only[bK]at h;exact A h JC
        | region id ops d=>
          cases d with
          |false=>simp only[bK]at h;exact A h go_region
          | true=>
            simp only[bK]at h;split at h
            · rename_i h1 h2 h3
              exact A h (JA hm (GK h1) h2 (xC B h3))
            · exact D h fun g=>g
        | cond c u v=>
          simp only[bK]at h;split at h
          · rename_i t he
            split at h
            · exact D h fun g=>NO he g.1 g.2
            · split at h
              · exact A h (wq he)
              · exact A h (wq he)
          · rename_i he
            exact A h (wo he)
          · rename_i he
            exact A h (wo he)
          · exact a0 h
        | ret=>
          simp only[bK]at h;split at h
          · rename_i k' I
            exact A h fun g=>go_ret (dU k I g)
          · rename_i I
            exact D h fun g=>go_ret (nF k I g)
        | exit id=>
          simp only[bK]at h;split at h
          · rename_i k' I
            exact A h fun g=>NK (dp k I g)
          · exact a0 h
        | loop b=>
          simp only[bK]at h;split at h
          · exact D h fun g=>g
          · exact A h nL
        |_=>simp only[bK]at h;exact a0 h
      |ur all rest=>simp only[bK]at h;exact a0 h
      | bS all todo pend=>
        cases todo with
        |nil=>simp only[bK]at h;exact A h Cn
        | cons x todo=>
          have g0: ∀{j:Nat} {o:Oper},dz (x::todo)=[(j,o)]->(j,o)∈(x::todo)∧aV o=kw∧ ∀y∈(x::todo),waits o y.1=kw:=by
            intro j o h1;have h2:(j,o)∈dz (x::todo):=by rw[h1];simp
            obtain⟨h3,h4⟩:=XG.1 h2;simp only[Ye,YS,XX]at h4;exact⟨h3,h4.1,fun y hy=>by simpa using h4.2 y hy⟩
          have b0: ∀{CA:Prop},l3 ty nt all s (x::todo) pend=io CA->CA-> ∀y∈(x::todo),aV y.2=jp-> ∀y∈pend,fm P nt all s y.2:=by
            intro CA h1 f0 y hy k1;unfold l3 at h1;split at h1
            · exact cC B h1 f0
            · rename_i h2
              have:=XX.1 h2 y hy;rw[k1]at this;exact absurd Z this
          have e0: ∀{j:Nat} {o:Oper} {s':AS},dz (x::todo)=[(j,o)]->bR nt all s.f o=io jp->gY all pend o=jp->nR (x::todo) [j]=jp->(∀y∈(x::todo),aV y.2=jp-> ∀y∈pend,fm P nt all s y.2)->OT P nt o s (fun t=>t=s')->
              (∀y∈ba pend o,fm P nt all s' y.2)->GO P nt (.bS all ((x::todo).filter fun x=>!Xv x.1 j) (ba pend o)::k) Q s'->GO P nt (.bS all (x::todo) pend::k) Q s:=by
            intro j o s' h1 h2 h3 h4 ha h5 h6 h7;obtain⟨c0,r0,t0⟩:=g0 h1;refine pD h4 ⟨_,c0,r0⟩ ha fun j' o' hj _ hu=>?_;simp only[Xd]at hj;subst hj;have:=hu o c0;subst this;exact⟨r0,fun y hy _=>t0 y hy,h3,h2,_,h5,fun t ht=>by subst ht;exact⟨h6,h7⟩⟩
          simp only[bK]at h;split at h
          · rename_i i o p C' s0
            obtain⟨g1,ga,gb,g2,g3,g4⟩:=(vJ (fun _ h=>h)).1 s0;split at h
            · exact a0 h
            · rename_i s' I
              split at h
              · exact G h fun hC g=>wm g1 ga gb g2 g3 (px B g4 hC I).1 (px B g4 hC I).2 g
              · rename_i ho
                exact A h fun g=>wm g1 ga gb g2 g3 (px B g4 (zP g4 ho) I).1 (px B g4 (zP g4 ho) I).2 g
          · rename_i i o s0
            obtain⟨g1,ga,gb,g2,g3⟩:=(vJ (fun _ h=>h)).2 s0;exact A h (Jz g1 ga gb g2 g3)
          · split at h
            · rename_i t' hy
              split at h
              · exact D h fun g=>tm hy g.1 g.2
              · split at h
                · exact A h fun g=>tm hy (fun _=>g) (fun h=>by cases h)
                · exact A h fun g=>tm hy (fun h=>by cases h) (fun _=>g)
            · exact a0 h
          · split at h
            · rename_i j o m0
              split at h
              · rename_i i0 j0 k0
                split at h
                · exact a0 h
                · rename_i CA f0
                  split at h
                  · rename_i p C' hr
                    split at h
                    · exact a0 h
                    · rename_i s' I
                      split at h
                      · exact a0 h
                      · rename_i n0 d0
                        exact G h fun hC g=>e0 m0 i0 j0 k0 (b0 f0 hC.1) (vD B hr hC.2.1 I) (cC B d0 hC.2.2) g
                  · split at h
                    · split at h
                      · split at h
                        · exact D h fun g=>g
                        · rename_i C' p s1 o0
                          split at h
                          · exact a0 h
                          · rename_i s' I
                            split at h
                            · exact a0 h
                            · rename_i n0 d0
                              exact G h fun hC g=>e0 m0 i0 j0 k0 (b0 f0 hC.1) (Hz B o0 hC.2.1 I) (cC B d0 hC.2.2) g
                      · rename_i e b1 p0
                        rw[w5]at h;obtain⟨g,c,fn,ho,ha,he,h1,h2,h3,h4,h5⟩:=yS x0 p0;obtain⟨c0,r0,t0⟩:=g0 m0;exact G h fun hC gg=>NN B c0 k0 t0 (b0 f0 hC) j0 i0 ho ha h1 h2 h3 h4 h5 he gg
                    · rename_i p s1 q0
                      split at h
                      · exact a0 h
                      · rename_i s' I
                        split at h
                        · exact a0 h
                        · rename_i n0 d0
                          exact G h fun hC g=>e0 m0 i0 j0 k0 (b0 f0 hC.1) (DH B q0 I) (cC B d0 hC.2) g
              · exact D h fun g=>g
            · split at h
              · exact D h fun g=>g
              · rename_i i o j1
                split at h
                · rename_i t d i1 f1
                  split at h
                  · exact a0 h
                  · rename_i e he
                    rw[force_eq]at h;split at h
                    · rename_i C1 C2 d1 e1
                      obtain⟨m1,m2⟩:=BI (fun _ h=>h) j1;exact G h fun hC g=>Ha m1 i1 (fun w=>dy (B _ _ he)) f1 m2 (cC B d1 hC.1) (cC B e1 hC.2) g
                    · exact a0 h
                · exact a0 h
            · exact D h fun g=>g
      | ops all rest=>
        cases rest with
        |nil=>simp only[bK]at h;exact A h D0
        | cons o r=>
          simp only[bK]at h;split at h
          · rename_i j w0 hg
            split at h
            · rename_i d t hy
              cases hb:Xx d nt with
              |false=>simp only[hb,cond_false]at h;exact a0 h
              | true=>
                simp only[hb,cond_true]at h;split at h
                · exact D h fun g=>Jx hg hy (WY hb) g.1 g.2
                · split at h
                  · exact A h (Fq Z (tZ hy))
                  · exact A h (Fq Z (tZ hy))
            · rename_i d t hy
              cases hb:Xx d nt with
              |false=>simp only[hb,cond_false]at h;exact a0 h
              | true=>
                simp only[hb,cond_true]at h;obtain⟨a1,a2,a3,a4,a5,a6⟩:=o;cases t<;>cases w0<;>simp only at h
                all_goals exact A h fun g=>Cm hg hy (WY hb) g
            · rename_i d vs hy
              exact A h fun g=>Cl hg hy g
            · exact a0 h
          · rename_i hg
            split at h
            · split at h
              · split at h
                · split at h
                  · exact D h fun g=>g
                  · rename_i C' p s1 o0
                    split at h
                    · exact a0 h
                    · rename_i s' I
                      exact G h fun hC g=>bB hg (Hz B o0 hC I) fun t ht=>by subst ht;exact g
                · rename_i e b1 p0
                  rw[w5]at h;obtain⟨g,c,fn,ho,ha,he,h1,h2,h3,h4,h5⟩:=yS x0 p0;exact A h fun gg=>SH B hg ho ha h1 h2 h3 h4 h5 he gg
              · rename_i p s1 q0
                split at h
                · exact a0 h
                · rename_i s' I
                  exact A h fun g=>bB hg (DH B q0 I) fun t ht=>by subst ht;exact g
            · rename_i p C' hr
              split at h
              · exact a0 h
              · rename_i s' I
                split at h
                · exact G h fun hC g=>bB hg (vD B hr hC I) fun t ht=>by subst ht;exact g
                · rename_i ho
                  exact A h fun g=>bB hg (vD B hr (zP hr ho) I) fun t ht=>by subst ht;exact g
theorem Sn:KK P (fun _=>is):=fun _ _ h=>nomatch h
theorem DZ(hm:P.follows .mixedOrders=jp)(u:bq P ty)(n:Nat){k:List KI}{s:AS}{C:Prop}{j:NT}{st:Stop}(h:bK ty ⟨fun _=>is,0,kw⟩ n nt k s True=io (C,j,st))(hC:C)(hg:fI P j Q st):GO P nt k Q s:=
  (R5 hm u Sn n nt k s True C j st h).2 hC hg
end
mutual
def PV.low(n:Nat):PV->Bool
 | .iv _=>jp
 | .agg cs=>bu n cs
 | .a7 cs=>bu n cs
 | .ptr i _=>Xx i n
 | .cV i _ _ _=>Xx i n
 | .fe _ i=>Xx i n
 | .ot i _ _=>Xx i n
 | .sl i _ _ _=>Xx i n
 | .mp i=>Xx i n
 | .cB _ first caps=>match bu n first with
  |true=>bu n caps
  |false=>kw
 | .kb _=>jp
 | .any=>jp
def bu(n:Nat):List PV->Bool
 | []=>jp
 |p::r=>match PV.low n p with
  |true=>bu n r
  |false=>kw
end
theorem gr{n:Nat}: ∀{l:List PV},bu n l=jp-> ∀(j:Nat) (p:PV),l[j]? =io p->p.low n=jp
 | [],_,j,p,h=>by simp at h
 |c::l,hb,j,p,h=>by
  simp only[bu]at hb;split at hb
  .rename_i u;cases j with
   |zero=>simp at h;subst h;exact u
   |succ j=>exact gr hb j p (by simpa using h)
  .cases hb
def AO.low(n:Nat):AO->Prop
 | .cells cs _=>bu n cs=jp
 | .row _ es=> ∀(k:Nat) (e:List PV),es[k]? =io e->bu n e=jp
 | .bz _ _=>True
 | .fE=>True
 | .map ..=>True
 | .bY ..=>True
 | .eG _ _=>True
 | .iA ..=>True
 | .eJ q _ _=>q.low n=jp
 | .oK _ _ f=> ∀d,(AF.get f d).low n=jp
section
variable {M:Mem} {N:Nm} {U:Nat->Prop} {n:Nat}
theorem VR.down{p:PV}{x:Value}(h:VR M N U p x):p.low n=jp->VR M N (· <n) p x:=by
 induction h with
 |iv x y h=>exact fun _=> .iv x y h
 |agg cs ys hl hr ih=>exact fun hb=> .agg _ _ hl fun j p u=>ih j p u (gr hb j p u)
 |a7 cs ys hl hr ih=>exact fun hb=> .a7 _ _ hl fun j p u=>ih j p u (gr hb j p u)
 |ptr i off h=>exact fun hb=> .ptr i off (WY hb)
 |cV i sz k off h=>exact fun hb=> .cV i sz k off (WY hb)
 |fe z i h=>exact fun hb=> .fe z i (WY hb)
 |ot i o m h=>exact fun hb=> .ot i o m (WY hb)
 |sl i off len sz cap h A hl hc he=>exact fun hb=> .sl i off len sz cap (WY hb) A hl hc he
 |lx i sz h=>exact fun hb=> .lx i sz (WY hb)
 |sle i sz cap h hc he=>exact fun hb=> .sle i sz cap (WY hb) hc he
 |mp i h=>exact fun hb=> .mp i (WY hb)
 |cB fn first caps f' c' h1 h2 hr1 hr2 ih1 ih2=>
  intro hb;simp only[PV.low]at hb;split at hb
  .rename_i A;exact .cB _ _ _ _ _ h1 h2 (fun j p u=>ih1 j p u (gr A j p u)) (fun j p u=>ih2 j p u (gr hb j p u))
  .cases hb
 |kb b=>exact fun _=> .kb b
 |any x=>exact fun _=> .any x
theorem OR.down{w:World}{i:Nat}{o:AO}(h:OR M N U w i o)(hb:o.low n):OR M N (· <n) w i o:=by
 cases o with
 |cells cs T0=>obtain⟨c,T,h1,u,x,y,A⟩:=h;exact⟨c,T,h1,u,x,fun j p G=>(y j p G).down (gr hb j p G),A⟩
 |row sz es=>
  rcases h with h|⟨B,c,T,h1,u,x,y,A⟩
  .exact .inl h
  exact .inr ⟨B,c,T,h1,u,x,y,fun k e j p D I=>(A k e j p D I).down (gr (hb k e D) j p I)⟩
 |bz l T=>exact h
 |fE=>exact h
 |map kc ev z zv dv m=>exact h
 |bY kc ev m l cu=>exact h
 |eG s p=>exact h
 |iA kc ev z zv dv m bs c=>exact h
 |eJ q c l=>obtain⟨b,h1,u⟩:=h;exact⟨b,h1.down hb,u⟩
 |oK l c f=>
  obtain⟨B,r,h1,u,x,y,A,J,Y,h8⟩:=h;exact⟨B,r,h1,u,x,y,A,J,Y,fun d=>(h8 d).down (hb d)⟩
end
def OM(n:Nat)(f:AF):AF->Prop
 | []=>True
 |(d,p)::r=>f.get d=p∧p.low n=jp∧OM n f r
def Ep(n:Nat)(h:AH):AH->Prop
 | []=>True
 |(_,is)::r=>Ep n h r
 |(i,io o)::r=>h.get i=io o∧i<n∧o.low n∧Ep n h r
structure VA (s t:AS):Prop where
 nx:t.nx<=s.nx
 f:OM t.nx s.f t.f
 h:Ep t.nx s.h t.h
theorem sJ{n:Nat}{h:AH}: ∀{g:AH},Ep n h g-> ∀i o,g.get i=io o->h.get i=io o∧i<n∧o.low n
 | [],_,i,o,hi=>by simp[AH.get]at hi
 |(k,is)::r,hw,i,o,hi=>by
  rw[AH.ay]at hi;split at hi
  .cases hi
  .exact sJ (g:=r) hw i o hi
 |(k,io p)::r,hw,i,o,hi=>by
  obtain⟨h1,j,u,x⟩:=hw;rw[AH.ay]at hi;split at hi
  .rename_i e;subst e;simp only[W3]at hi;subst hi;exact⟨h1,j,u⟩
  .exact sJ x i o hi
theorem VA.ext{s t:AS}(hw:VA s t){M x:Mem}{N y:Nm}{n:Nat}{h:AH}{w A:World}(j:Ext M N (· <n) h w x y (· <s.nx) s.h A)(hn:n<=t.nx):Ext M N (· <n) h w x y (· <t.nx) t.h A:=
 ⟨j.os,j.tape,j.output,j.size,j.gK,j.oJ,j.iM,j.nm,fun _ hi=>YH hi hn,fun i o hi u=>j.gB i o (sJ hw.h i o hi).1 u⟩
theorem dc{p:Nat->Prop}(h: ∃n,p n): ∃n,p n∧ ∀m,p m->n<=m:=by
 obtain⟨n,x⟩:=h
 induction n using Nat.strongRecOn with
 |_ n ih=>
  by_cases u: ∃m,m<n∧p m
  .obtain⟨m,h1,j⟩:=u;exact ih m h1 j
  .exact⟨n,x,fun m j=>YA fun h1=>u ⟨m,h1,j⟩⟩
section
variable {P:Program} {nt:NT} {Q:AQ} {k:List KI} {s:AS}
end
section
variable {P:Program}
def Pure(P:Program)(k:FuncId)(args:List PV)(r:PV):Prop:=Fn P k args [] fun q h n=>q=r∧h=[]∧n=0
end
mutual
theorem PV.kn(σ:Nat->Nat): ∀p:PV,p.low 0=jp->p.b5 σ=p
 | .iv _,_=>rfl
 | .agg cs,h=>by simp only[PV.b5];rw[iQ σ cs (by simpa[PV.low]using h)]
 | .a7 cs,h=>by simp only[PV.b5];rw[iQ σ cs (by simpa[PV.low]using h)]
 | .ptr i o,h=>by simp[PV.low,Xx]at h
 | .cV i _ _ o,h=>by simp[PV.low,Xx]at h
 | .fe _ i,h=>by simp[PV.low,Xx]at h
 | .ot i _ _,h=>by simp[PV.low,Xx]at h
 | .sl i _ _ _,h=>by simp[PV.low,Xx]at h
 | .mp i,h=>by simp[PV.low,Xx]at h
 | .cB fn a b,h=>by
  simp only[PV.low]at h;simp only[PV.b5];split at h
  .rename_i j;rw[iQ σ a j,iQ σ b h]
  .cases h
 | .kb _,_=>rfl
 | .any,_=>rfl
theorem iQ(σ:Nat->Nat): ∀l:List PV,bu 0 l=jp->dh σ l=l
 | [],_=>rfl
 |p::r,h=>by
  simp only[bu]at h;split at h
  .rename_i j;simp only[dh];rw[PV.kn σ p j,iQ σ r h]
  .cases h
end
section
variable {P:Program} {nt:NT} {Q:AQ} {k:List KI} {s:AS}
theorem aF{all rest:List Oper}{o:Oper}{c:Call}{g:FuncId}{args:List PV}{r:PV}{s':AS}(hc:Pure P g args r)(ho:o.op= .call c)(hg:o.guard=is)(ha:bP s.f c=io (g,args))(hl:bu 0 args=jp)
  (hr:r.low 0=jp) (hp:putDst nt o r s=io s') (h:GO P nt (.ops all rest::k) Q s'):GO P nt (.ops all (o::rest)::k) Q s:=by
 refine bB (R:=fun t=>t=s') hg ?_ (fun t ht=>by subst ht;exact h);refine lM ho ha hc (L:=[]) (by simp) (by simp) Z (iQ _ _ hl).symm ?_;rintro q j u ⟨rfl,rfl,rfl⟩;exact⟨s',by rw[PV.kn _ _ hr];exact hp,rfl⟩
end
def fc(o q:AO):Prop:=(q.real=jp->o.real=jp)∧ ∀(M:Mem) (N:Nm) (U:Nat->Prop) (w:World) (i:Nat),OR M N U w i o->OR M N U w i q
theorem ae.of_eq{p q:PV}(h:p=q):ae p q:=h▸ .refl p
theorem jW.refl(p:IV):jW p p:=fun _ _ h=>h
theorem jW.of_eq{p q:IV}(h:p=q):jW p q:=h▸ .refl p
theorem fc.refl(o:AO):fc o o:=⟨id,fun _ _ _ _ _ h=>h⟩
theorem fc.of_eq{o q:AO}(h:o=q):fc o q:=h▸ .refl o
theorem fc.trans{o q r:AO}(a:fc o q)(b:fc q r):fc o r:=⟨fun h=>a.1 (b.1 h),fun M N U w i h=>b.2 M N U w i (a.2 M N U w i h)⟩
theorem ae.iv{p q:IV}(h:jW p q):ae (.iv p) (.iv q):=fun M N U x j=>by
 cases j with
 |iv _ _ hi=>exact .iv _ _ (h M x hi)
theorem jW.nil(sz:Nat)(el:Nat->List IV):jW (.v (.slice is 0 0)) (.bI sz 0 el):=fun M x h=>by
 cases h;exact .fS _ _ _ _
theorem ae.nil(sz:Nat)(el:Nat->List IV):ae (.iv (.v (.slice is 0 0))) (.iv (.bI sz 0 el)):= .iv (.nil sz el)
theorem ae.kb(b:Bool):ae (.kb b) (.iv (.v (.bool b))):=fun M N U x h=>by
 cases h;exact .iv _ _ (.v _)
theorem jW.bI{sz n y:Nat}{el u:Nat->List IV}(hn:n=y)(h: ∀k,k<n->el k=u k):jW (.bI sz n el) (.bI sz y u):=by
 subst hn;intro M x B;cases B with
 |fS=>exact .fS _ _ _ _
 |bI _ _ _ b off cap hn hc hl hm hr=>
  exact .bI _ _ _ _ _ _ hn hc (fun k hk=>by rw[<-h k hk];exact hl k hk) hm (fun k j p hk A=>hr k j p hk (by rw[h k hk];exact A))
theorem ae.bI{sz n u:Nat}{el j:Nat->List IV}(hn:n=u)(h: ∀k,k<n->el k=j k):ae (.iv (.bI sz n el)) (.iv (.bI sz u j)):= .iv (.bI hn h)
def ia:List PV->List PV->Prop
 | [],[]=>True
 |p::r,q::s=>ae p q∧ia r s
 |_,_=>False
theorem ia.length: ∀{a b:List PV},ia a b->a.length=b.length
 | [],[],_=>rfl
 |_::_,_::_,h=>congrArg (· +1) (ia.length h.2)
 | [],_::_,h=>h.elim
 |_::_,[],h=>h.elim
theorem ia.get: ∀{a b:List PV},ia a b-> ∀(j:Nat) (q:PV),b[j]? =io q-> ∃p,a[j]? =io p∧ae p q
 | [],[],_,j,q,h=>by simp at h
 |p::r,q0::s,hh,j,q,h=>by
  cases j with
  |zero=>simp at h;subst h;exact⟨p,rfl,hh.1⟩
  |succ j=>simpa using ia.get hh.2 j q (by simpa using h)
 | [],_::_,hh,_,_,_=>hh.elim
 |_::_,[],hh,_,_,_=>hh.elim
theorem ae.agg{a b:List PV}(h:ia a b):ae (.agg a) (.agg b):=fun M N U x y=>by
 cases y with
 |agg _ ys hl hr=>exact .agg _ _ (h.length▸hl) fun j q u=>let ⟨p,hp,hle⟩:=h.get j q u;hle M N U _ (hr j p hp)
theorem ae.a7{a b:List PV}(h:ia a b):ae (.a7 a) (.a7 b):=fun M N U x y=>by
 cases y with
 |a7 _ ys hl hr=>exact .a7 _ _ (h.length▸hl) fun j q u=>let ⟨p,hp,hle⟩:=h.get j q u;hle M N U _ (hr j p hp)
theorem fc.cells{a b:List PV}{u:Option TypeId}(h:ia a b):fc (.cells a u) (.cells b u):=⟨fun h=>h,fun M N U w i ⟨c,T,h1,h2,h3,h4,h5⟩=>
 ⟨c,T,h1,h2,h.length▸h3,fun j q x=>let ⟨p,hp,hle⟩:=h.get j q x;hle M N U _ (h4 j p hp),h5⟩⟩
theorem fc.Tx(a:List PV)(j:Option TypeId):fc (.cells a j) (.cells a):=⟨fun h=>h,fun M N U w i ⟨c,T,h1,h2,h3,h4,_⟩=>⟨c,T,h1,h2,h3,h4,.none _⟩⟩
theorem Fn.le{P:Program}{k:FuncId}{aa args:List PV}{os:List AO}{R:PV->AH->Nat->Prop}(h:Fn P k args os R)(u:ia aa args):Fn P k aa os R:=
 ⟨h.1,fun M N w vs hr hl y=>h.2 M N w vs hr (by rw[<-u.length];exact hl) fun j q x=>let ⟨p,hp,hpq⟩:=u.get j q x;hpq M N _ _ (y j p hp)⟩
theorem Pure.le{P:Program}{k:FuncId}{aa args:List PV}{r:PV}(h:Pure P k args r)(j:ia aa args):Pure P k aa r:=Fn.le h j
theorem Fn.mono{P:Program}{k:FuncId}{args:List PV}{os:List AO}{R j:PV->AH->Nat->Prop}(h:Fn P k args os R)(hR: ∀r h n,R r h n->j r h n):Fn P k args os j:=
 ⟨h.1,fun M N w vs hr hl u=>(h.2 M N w vs hr hl u).mono fun _ _ ⟨x,M',N',r,h',n',e,hh,rest⟩=>⟨x,M',N',r,h',n',e,hR _ _ _ hh,rest⟩⟩
def sg(n0:Nat)(L:List Nat)(i:Nat):Nat:=bif Xx i n0 then i else L.getD (i-n0) 0
theorem gG{n0:Nat}{L:List Nat}{i:Nat}(h:i<n0):sg n0 L i=i:=by
 have:Xx i n0=jp:=X0 h;simp[sg,this]
def HC(n:Nat)(σ:Nat->Nat)(f:AF):AF->Prop
 | []=>True
 |(d,p)::r=>ae (f.get d) (p.b5 σ)∧p.low n=jp∧HC n σ f r
def pc(n:Nat)(σ:Nat->Nat)(h:AH):AH->Prop
 | []=>True
 |(_,is)::r=>pc n σ h r
 |(i,io o)::r=>(∃j,h.get (σ i)=io j∧fc j (o.b5 σ))∧i<n∧o.low n∧pc n σ h r
def fD(σ:Nat->Nat):AH->List Nat
 | []=> []
 |(_,is)::r=>fD σ r
 |(i,io _)::r=>σ i::fD σ r
structure Wk (n0:Nat) (L:List Nat) (s t:AS):Prop where
 nx:t.nx=n0+L.length
 ns:n0<=s.nx
 lt: ∀j∈L,j<s.nx
 f:HC t.nx (sg n0 L) s.f t.f
 h:pc t.nx (sg n0 L) s.h t.h
 inj:(fD (sg n0 L) t.h).Nodup
theorem Eo{n:Nat}{σ:Nat->Nat}{f:AF}: ∀{g:AF},HC n σ f g-> ∀d,g.get d= .any∨(ae (f.get d) ((g.get d).b5 σ)∧(g.get d).low n=jp)
 | [],_,_=> .inl Z
 |(k,p)::r,h,d=>by
  obtain⟨h1,j,u⟩:=h;rw[AF.ay];by_cases hd:d=k
  .subst hd;rw[am Z];exact .inr ⟨h1,j⟩
  .rw[be hd];exact Eo u d
theorem jv{n:Nat}{σ:Nat->Nat}{h:AH}: ∀{g:AH},pc n σ h g-> ∀i o,g.get i=io o->(∃j,h.get (σ i)=io j∧fc j (o.b5 σ))∧i<n∧o.low n
 | [],_,i,o,hi=>by simp[AH.get]at hi
 |(k,is)::r,hw,i,o,hi=>by
  rw[AH.ay]at hi;split at hi
  .cases hi
  .exact jv (g:=r) hw i o hi
 |(k,io p)::r,hw,i,o,hi=>by
  obtain⟨h1,u,x,y⟩:=hw;rw[AH.ay]at hi;split at hi
  .rename_i e;subst e;simp only[W3]at hi;subst hi;exact⟨h1,u,x⟩
  .exact jv y i o hi
theorem kr{σ:Nat->Nat}: ∀{g:AH} {i:Nat} {o:AO},g.get i=io o->σ i∈fD σ g
 | [],i,o,h=>by simp[AH.get]at h
 |(k,is)::r,i,o,h=>by
  rw[AH.ay]at h;split at h
  .cases h
  .exact kr (g:=r) h
 |(k,io p)::r,i,o,h=>by
  rw[AH.ay]at h;split at h
  .rename_i e;subst e;simp[fD]
  .exact Xi _ (kr h)
theorem nh{σ:Nat->Nat}: ∀{g:AH},(fD σ g).Nodup-> ∀i j o p,g.get i=io o->g.get j=io p->σ i=σ j->i=j
 | [],_,i,j,o,p,h,_,_=>by simp[AH.get]at h
 |(k,is)::r,hn,i,j,o,p,hi,hj,he=>by
  rw[AH.ay]at hi hj;split at hi
  .cases hi
  .split at hj
   .cases hj
   .exact nh (g:=r) hn i j o p hi hj he
 |(k,io q)::r,hn,i,j,o,p,hi,hj,he=>by
  rw[AH.ay]at hi hj;simp only[fD,XN]at hn;split at hi
  .rename_i x;split at hj
   .rename_i u;rw[x,u]
   .subst x;exact absurd (he▸kr hj) hn.1
  .split at hj
   .rename_i u;subst u;exact absurd (he▸kr hi) hn.1
   .exact nh hn.2 i j o p hi hj he
section
variable {n0:Nat} {L:List Nat} {s t:AS} {M:Mem} {N:Nm} {w:World}
theorem fc.real{o q:AO}(h:fc o q)(j:q.real=jp):o.real=jp:=h.1 j
theorem Wk.fits(hw:Wk n0 L s t){nt:NT}{a:Act}(hf:Fits M N s nt a w):Fits M (N.comp (sg n0 L)) t nt a w:=by
 refine⟨⟨hf.1.dK,fun i o hi=>(jv hw.h i o hi).2.1,fun i o hi A=>?_,fun i o hi=>?_,fun i j o p hi D I J G=>?_⟩,fun d=>?_,hf.2.2⟩
 .obtain⟨⟨B,h1,u⟩,y,x⟩:=jv hw.h i o hi;exact hf.1.dS _ B h1 (u.real ((AO.cv _ o).trans A))
 .obtain⟨⟨B,h1,u⟩,y,x⟩:=jv hw.h i o hi;exact(OR.ry (u.2 M N _ w _ (hf.1.obj _ _ h1))).down x
 .obtain⟨⟨B,h1,u⟩,_⟩:=jv hw.h i o hi;obtain⟨⟨Y,y,x⟩,_⟩:=jv hw.h j p D;have:=hf.1.inj _ _ _ _ h1 y (u.real ((AO.cv _ o).trans I)) (x.real ((AO.cv _ p).trans J)) G;exact nh hw.inj i j o p hi D this
 .rcases Eo hw.f d with h|⟨h1,u⟩
  .rw[h];exact .any _
  .exact((h1 M N _ _ (hf.2.1 d)).ry Z).down u
theorem Wk.ext(hw:Wk n0 L s t){x:Mem}{y:Nm}{h0:AH}{A:World}(j:Ext x y (· <n0) h0 A M N (· <s.nx) s.h w):Ext x y (· <n0) h0 A M (N.comp (sg n0 L)) (· <t.nx) t.h w:=by
 refine⟨j.os,j.tape,j.output,j.size,j.gK,j.oJ,j.iM,⟨fun i hi=>?_,fun i hi=>?_⟩,fun i hi=>by have:=hw.nx;omega,fun i o hi u=>?_⟩
 .simp only[Nm.comp,gG hi];exact j.nm.aA i hi
 .simp only[Nm.comp,gG hi];exact j.nm.ext i hi
 .obtain⟨⟨D,h1,B⟩,_⟩:=jv hw.h i o hi;exact j.gB _ D h1 (B.real ((AO.cv _ o).trans u))
end
theorem nG{P:Program}{nt:NT}{Q:AQ}{k:List KI}{s:AS}{c:Code}{R u:AS->Prop}(h: ∀t,R t->u t)(hg:GO P nt (.code c:: .lp R::k) Q s):GO P nt (.code c:: .lp u::k) Q s:=by
 intro M N a w hf;refine AW.then hg hf fun e B D x y s' A j hr=>⟨x,y,s',A,j,?_⟩
 cases e with
 |normal=>exact h _ hr
 |_=>exact hr
section
variable {P:Program} {nt:NT} {Q:AQ} {k:List KI} {s:AS}
theorem bZ{L:List Nat}{t:AS}{c:Code}(hw:Wk s.nx L s t)(h:GO P nt (.code c::k) Q t):GO P nt (.code c::k) Q s:=by
 intro M N a w hf;exact AW.then h (hw.fits hf) fun e a2 D y A B x j u=>⟨y,A,B,(hw.ext (.refl _ _ _ _ _)).trans x,j,u⟩
theorem iF{body:Code}{σ:Type}(I:σ->AS)(μ:σ->Nat)(i0:σ)(L0:List Nat)(h0:Wk s.nx L0 s (I i0))
  (u: ∀i,GO P nt (.code body:: .lp (fun t=> ∃j L,μ j<μ i∧Wk s.nx L t (I j))::k) Q (I i)):GO P nt (.code (.loop body)::k) Q s:=by
 intro M0 N0 a0 w0 G
 let J:Act->World->Nat->Prop:=fun a w n=> ∃i M N,μ i=n∧Ext M0 N0 (· <s.nx) s.h w0 M N (· <(I i).nx) (I i).h w∧Fits M N (I i) nt a w
 have D:J a0 w0 (μ i0):=⟨i0,M0,N0.comp (sg s.nx L0),rfl,h0.ext (.refl _ _ _ _ _),h0.fits G⟩
 refine wp_loop (fun a w=> ∃n,J a w n) (fun a w=>by classical exact if h: ∃n,J a w n then Zx (dc h) else 0) ⟨_,D⟩ fun a w b0=>?_;obtain⟨⟨i,M,N,hi,hx,hf⟩,c0⟩:=YZ (dc b0);refine AW.then (u i) hf fun e B Y M' N' s' y x hr=>?_
 cases e with
 |normal=>
  obtain⟨j,L,hj,hw⟩:=hr;have A:J B Y (μ j):=⟨j,M',N'.comp (sg s.nx L),rfl,hw.ext (hx.trans y),hw.fits x⟩
  refine⟨⟨_,A⟩,?_⟩;simp only[dif_pos b0,dif_pos (⟨_,A⟩: ∃n,J B Y n)];rw[<-hi];exact aat ((YZ (dc (⟨_,A⟩: ∃n,J B Y n))).2 _ A) hj
 |_=>exact⟨M',N',s',hx.trans y,x,hr⟩
end
section
variable {P:Program} {nt:NT} {Q:AQ} {k:List KI} {s:AS}
theorem aN{body:Code}(i0 n:Nat)(u:i0<=n)(I:Nat->AS)(J:Nat->Prop)(x:List Nat)(A:J i0)(h0:Wk s.nx x s (I i0))
  (j: ∀i,i<=n->J i->GO P nt (.code body:: .lp (fun t=>i<n∧J (i+1)∧ ∃L,Wk s.nx L t (I (i+1)))::k) Q (I i)):GO P nt (.code (.loop body)::k) Q s:=by
 refine iF (σ:={i:Nat//i<=n∧J i}) (fun i=>I i.1) (fun i=>n-i.1) ⟨i0,u,A⟩ x h0 fun i=>?_;obtain⟨i,h1,y⟩:=i;have:=j i h1 y;refine nG ?_ this
 rintro t ⟨h3,h4,L,h5⟩;exact⟨⟨i+1,h3,h4⟩,L,by show n-(i+1)<n-i;omega,h5⟩
end
theorem jz{P:Program}{nt:NT}{Q:AQ}{k:List KI}{s:AS}{c:Code}(t sz:Nat)(ht:s.f.get t= .iv (.v (.slice is 0 0)))(h:GO P nt (.code c::k) Q (u9 s t sz)):GO P nt (.code c::k) Q s:=by
 intro M N a w hf;obtain⟨J,Y,sn⟩:=s;obtain⟨h1,G⟩:=hf.1.C7 sz;have j:Fits M N (u9 ⟨J,Y,sn⟩ t sz) nt a w:=by
  refine⟨G,fun k=>?_,hf.2.2⟩;simp only[u9];rw[AF.ay];split
  .rename_i x;subst x;have:=hf.2.1 k;simp only at ht this;rw[ht]at this;generalize a.tmps.getD k undef=v at this;cases this with
   |iv _ _ h=>cases h with
    |v=>exact .lx _ _ (YM _)
  .exact(hf.2.1 k).mono (.refl _) (.refl _ _) (fun i hi=>YF hi)
 exact AW.then h j fun e a2 w2 B D I A u y=>⟨B,D,I,h1.trans A,u,y⟩
mutual
def PV.dK(i sz:Nat)(el:Nat->List IV):PV->PV
 | .iv x=> .iv x
 | .agg cs=> .agg (oh i sz el cs)
 | .a7 cs=> .a7 (oh i sz el cs)
 | .sl j off len sz'=>bif Xv j i then .iv (.bI sz len (fun k=>el (off+k))) else .sl j off len sz'
 | .ptr j o=> .ptr j o
 | .cV j a b c=> .cV j a b c
 | .fe z j=> .fe z j
 | .ot j o n=> .ot j o n
 | .mp j=> .mp j
 | .cB fn a b=> .cB fn a b
 | .kb b=> .kb b
 | .any=> .any
def oh(i sz:Nat)(el:Nat->List IV):List PV->List PV
 | []=> []
 |p::r=>PV.dK i sz el p::oh i sz el r
end
theorem eL(i sz:Nat)(el:Nat->List IV): ∀l:List PV,oh i sz el l=l.map (PV.dK i sz el)
 | []=>rfl
 |p::r=>by simp[oh,eL i sz el r]
mutual
def PV.aZ(i sz n:Nat):PV->Prop
 | .agg cs=>aY i sz n cs
 | .a7 cs=>aY i sz n cs
 | .sl j off len sz'=>if j=i then sz'=sz∧off+len<=n else True
 |_=>True
def aY(i sz n:Nat):List PV->Prop
 | []=>True
 |p::r=>PV.aZ i sz n p∧aY i sz n r
end
theorem fo{i sz n:Nat}: ∀{l:List PV},aY i sz n l-> ∀(j:Nat) (p:PV),l[j]? =io p->p.aZ i sz n
 | [],_,j,p,h=>by simp at h
 |c::l,hh,j,p,h=>by
  cases j with
  |zero=>simp at h;subst h;exact hh.1
  |succ j=>exact fo hh.2 j p (by simpa using h)
theorem pE{M:Mem}{N:Nm}{n:Nat}{h:AH}{w:World}(hr:Rel M N (· <n) h w){i sz:Nat}{es:List (List PV)}(hi:h.get i=io (.row sz es)){el:Nat->List IV}
  (i0: ∀k e,es[k]? =io e->e=(el k).map .iv): ∃A,Ext M N (· <n) h w A N (· <n) ((i,is)::h) w∧Rel A N (· <n) ((i,is)::h) w∧
   ∀p x,VR M N (· <n) p x->p.aZ i sz es.length->VR A N (· <n) (p.dK i sz el) x:=by
 have key: ∀A:Mem,M.le A->(∀a0 len b0 b,a0+len<=es.length->0<len->len<=b0->b0<=maxLen->b=N.aA i->IR A (.bI sz len (fun k=>el (a0+k))) (.slice (io ⟨b,a0*sz,is⟩) len b0))->
   ∀p x,VR M N (· <n) p x->p.aZ i sz es.length->VR A N (· <n) (p.dK i sz el) x:=by
  intro A hM hs p x hx
  induction hx with
  |iv x y h=>exact fun _=> .iv _ _ (h.mono hM)
  |agg cs ys hl hr ih=>
   intro D;refine .agg _ _ (by simpa[eL]using hl) fun j q hq=>?_;rw[eL,W9,Xa]at hq;obtain⟨q0,I,rfl⟩:=hq
   exact ih j q0 I (fo (by simpa[PV.aZ]using D) j q0 I)
  |a7 cs ys hl hr ih=>
   intro D;refine .a7 _ _ (by simpa[eL]using hl) fun j q hq=>?_;rw[eL,W9,Xa]at hq;obtain⟨q0,I,rfl⟩:=hq
   exact ih j q0 I (fo (by simpa[PV.aZ]using D) j q0 I)
  |ptr i a0 h=>exact fun _=> .ptr _ _ h
  |cV i sz k a0 h=>exact fun _=> .cV _ _ _ _ h
  |fe z i h=>exact fun _=> .fe _ _ h
  |ot i o n h=>exact fun _=> .ot _ _ _ h
  |sl j a0 len sz' b0 h h0 hl hc he=>
   intro D;simp only[PV.aZ]at D;simp only[PV.dK];by_cases u:j=i
   .subst u;rw[am Z]at D;obtain⟨rfl,D⟩:=D;have:Xv j j=jp:=by simp
    rw[this,cond_true];exact .iv _ _ (hs a0 len b0 _ D h0 hl hc Z)
   .have:Xv j i=kw:=Bool.eq_false_iff.2 (fun e=>u (Xs e));rw[this,cond_false];exact .sl _ _ _ _ _ h h0 hl hc he
  |lx j sz' h=>
   intro D;simp only[PV.dK];cases hb:Xv j i with
   |true=>exact .iv _ _ (.fS _ _ _ _)
   |false=>exact .lx _ _ h
  |sle j sz' b0 h hc he=>
   intro D;simp only[PV.dK];cases hb:Xv j i with
   |true=>exact .iv _ _ (.fS _ _ _ _)
   |false=>exact .sle _ _ _ h hc he
  |mp i h=>exact fun _=> .mp _ h
  |cB fn first caps f' c' h1 Y hr1 hr2 ih1 ih2=>exact fun _=> .cB _ _ _ _ _ h1 Y (fun j p u=>(hr1 j p u).mono hM (.refl _ _) (fun _ h=>h)) (fun j p u=>(hr2 j p u).mono hM (.refl _ _) (fun _ h=>h))
  |kb b=>exact fun _=> .kb _
  |any x=>exact fun _=> .any _
 rcases hr.obj i _ hi with h0|⟨h0,c,T,h1,Y,h3,h4,h5⟩
 .subst h0;exact⟨M,(Ext.refl _ _ _ _ _).del i,hr.del i,key M (.refl _) fun a0 len b0 b h1 Y=>by simp at h1;omega⟩
 .have d0:es≠ []∨es=[]:=by cases es<;>simp
  rcases d0 with d0|rfl;rotate_left
  .exact⟨M,(Ext.refl _ _ _ _ _).del i,hr.del i,key M (.refl _) fun a0 len b0 b h1 Y=>by simp at h1;omega⟩
  have J:(AO.row sz es).real=jp:=by cases es with
   |nil=>exact absurd Z d0
   |cons=>rfl
  have f0:=hr.dS i _ hi J
  let A:Mem:=M.set (N.aA i) (.cells c) f0
  have hM:M.le A:=fun b d hb=>by
   simp only[A,Mem.set];by_cases B:b=N.aA i
   .rw[B,f0]at hb;cases hb
   .rw[be B];exact hb
  have hnew: ∀b d,M b=is->A b=io d->b=N.aA i:=fun b d h1 Y=>by
   simp only[A,Mem.set]at Y;by_cases B:b=N.aA i
   .exact B
   .rw[be B,h1]at Y;cases Y
  refine⟨A,?_,?_,key A hM fun a0 len b0 b hb h6 h7 h8 j0=>?_⟩
  .exact⟨rfl,rfl,⟨rfl,W8 _⟩,W8 _,fun _ _ _=>rfl,hM,fun b d h1 Y=> .inr ⟨i,_,hi,J,(hnew b d h1 Y).symm⟩,.refl _ _,fun _ h=>h,fun j o u J=> .inr ⟨j,o,(bn j o u).2,J,rfl⟩⟩
  .refine⟨fun b d hb=>?_,fun j o u=>hr.used j o (bn j o u).2,fun j o u c0=>?_,fun j o u=>?_,fun j k o p u hk=>hr.inj j k o p (bn j o u).2 (bn k p hk).2⟩
   .simp only[A,Mem.set]at hb;by_cases B:b=N.aA i
    .rw[am B]at hb;cases hb;exact⟨T,(0,0),by rw[B,h1]⟩
    .rw[be B]at hb;exact hr.dK b d hb
   .obtain⟨g1,g2⟩:=bn j o u;simp only[A,Mem.set];rw[be fun e=>g1 (hr.inj j i o _ g2 hi c0 J e)];exact hr.dS j o g2 c0
   .obtain⟨g1,g2⟩:=bn j o u;exact(hr.obj j o g2).mono hM (.refl _ _) (fun _ h=>h) (hr.used j o g2) Z
  .subst j0;have G: ∀o,A.cell (N.aA i) o=c[o]? :=fun o=>by simp[Mem.cell,A,Mem.set]
   have k0: ∀k j,k<len->j<sz->a0*sz+k*sz+j<c.size:=by
    intro k j hk u;have:(a0+k+1)*sz<=es.length*sz:=Xt _ (by omega);rw[XT,XT]at this;omega
   have g0: ∀k,k<len-> ∃e,es[a0+k]? =io e:=fun k hk=>⟨_,W5 (by omega)⟩
   refine .bI _ _ _ _ _ _ h7 h8 (fun k hk=>?_) (fun k j hk u=>?_) (fun k j p hk D=>?_)
   .obtain⟨e,he⟩:=g0 k hk;have:=h4 _ e he;rw[i0 _ e he]at this;simpa using this
   .rw[G];simp[k0 k j hk u]
   .obtain⟨e,he⟩:=g0 k hk;have h9:=h4 _ e he;have e0:=i0 _ e he;have u:j<sz:=by rw[<-h9,e0,Xw];exact(W4.1 D).1
    have:=h5 _ e j (.iv p) he (by rw[e0,W9,D];rfl);rw[G];have e2:a0*sz+k*sz+j=(a0+k)*sz+j:=by rw[XT]
    rw[e2];rw[WZ]at this;cases this with
    |iv _ _ h=>exact h.mono hM
def fy(h:AH)(n:Nat)(r:PV)(K:AH->PV->Prop):Prop:= ∀M N w,Rel M N (· <n) h w-> ∃j u y,Ext M N (· <n) h w j N (· <n) u w∧Rel j N (· <n) u w∧(∀x,VR M N (· <n) r x->VR j N (· <n) y x)∧K u y
theorem fy.done{h:AH}{n:Nat}{r:PV}{K:AH->PV->Prop}(hk:K h r):fy h n r K:=fun M N w hr=>⟨M,h,r,.refl _ _ _ _ _,hr,fun _ h=>h,hk⟩
theorem fy.row{h:AH}{n:Nat}{r:PV}{K:AH->PV->Prop}(i:Nat){sz:Nat}{es:List (List PV)}(el:Nat->List IV)(hi:h.get i=io (.row sz es))(j: ∀k e,es[k]? =io e->e=(el k).map .iv)
  (u:r.aZ i sz es.length) (hk:fy ((i,is)::h) n (r.dK i sz el) K):fy h n r K:=by
 intro M N w hr;obtain⟨y,h1,D,G⟩:=pE hr hi j;obtain⟨A,B,J,g1,g2,g3,g4⟩:=hk y N w D;exact⟨A,B,J,h1.trans g1,g2,fun x I=>g3 x (G _ _ I u),g4⟩
def OK(ty:Ty)(l:List ResultVar)(m:Nat)(R:PV->AH->Nat->Prop):AQ:=fun e s=>
 (e= .normal∨e= .ret)∧ ∃x,jh ty s l=io x∧fy s.h s.nx x fun y A=> ∃r j u L,R r j u∧Wk m L ⟨[(0,A)],y,s.nx⟩ ⟨[(0,r)],j,u⟩
section
variable {P:Program}
theorem lW {ty:Ty} (b0:bq P ty) {k:FuncId} {fn:Func} {c:Code} (hf:P.funcs[k]? =io fn) (hb:fn.body=io c) (hn:(fn.name== "runtime.NumGoroutine")=kw) {nt:Nat} (a0:fn.ntmps=nt)
  {l:List ResultVar} (hl:fn.results.toList=l) {args:List PV} (Y:args.length<=nt) {os:List AO} {R:PV->AH->Nat->Prop}
  (h:GO P nt [.code c] (OK ty l os.length R) ⟨mT 0 args,cO 0 os,os.length⟩):Fn P k args os R:=by
 have key:Fn P k args os (fun r0 h0 n0=>fy h0 n0 r0 fun j r2=> ∃r D G L,R r D G∧Wk os.length L ⟨[(0,r2)],j,n0⟩ ⟨[(0,r)],D,G⟩):=by
  refine D3 b0 hf hb hn a0 hl Y ?_;intro M N a w y;refine wp_mono (h M N a w y) fun e a' w' hp=>?_;obtain⟨I,B,s',h1,j,h3⟩:=hp;refine⟨I,B,s',h1,j,?_⟩;simp only[kp]at h3 ⊢;obtain⟨he,r,g1,g2⟩:=h3;exact⟨he,r,g1,g2⟩
 refine⟨key.1,fun M N w vs hr A hv=>(key.2 M N w vs hr A hv).mono ?_⟩;rintro e w' ⟨x,I,B,r0,h0,n0,rfl,hF,hx,hr',hvr⟩;obtain⟨M2,j,r2,g1,g2,g3,r,D,G,L,hR,hw⟩:=hF I B w' hr'
 have J:Fits M2 B ⟨[(0,r2)],j,n0⟩ ⟨1,[]⟩ ⟨#[x],[]⟩ w':=⟨g2,fun d=>by
  rw[AF.ay];by_cases hd:d=0
  .subst hd;rw[am Z];exact g3 x hvr
  .rw[be hd];exact .any _,rfl,rfl⟩
 have u:=hw.fits J;refine⟨x,M2,_,r,D,G,rfl,hR,hw.ext (hx.trans g1),u.1,?_⟩;have:=u.2.1 0;exact this
def Hs(ty:Ty)(l:List ResultVar)(r:PV):AQ:=fun e s=>
 (e= .normal∨e= .ret)∧ ∃j,jh ty s l=io j∧fy s.h s.nx j fun _ u=>ae u r
theorem ah {ty:Ty} (A:bq P ty) {k:FuncId} {fn:Func} {c:Code} (hf:P.funcs[k]? =io fn) (hb:fn.body=io c) (hn:(fn.name== "runtime.NumGoroutine")=kw) {nt:Nat} (y:fn.ntmps=nt)
  {l:List ResultVar} (hl:fn.results.toList=l) {args:List PV} (x:args.length<=nt) {r:PV} (hlow:r.low 0=jp)
  (h:GO P nt [.code c] (Hs ty l r) ⟨mT 0 args,[],0⟩):Pure P k args r:=by
 refine lW A hf hb hn y hl x ?_;intro M N a w j;refine wp_mono (h M N a w j) fun e a' w' Y=>?_;obtain⟨D,I,s',h1,u,B⟩:=Y;refine⟨D,I,s',h1,u,?_⟩;simp only[kp]at B ⊢;obtain⟨J,r0,g1,g2⟩:=B;refine⟨J,r0,g1,fun M N w hr=>?_⟩;obtain⟨G,u,r2,q1,q2,q3,q4⟩:=g2 M N w hr;refine⟨G,u,r2,q1,q2,q3,r,[],0,[],⟨rfl,rfl,rfl⟩,rfl,Xc _,by simp,⟨?_,hlow,ac⟩,ac,XY⟩;rw[PV.kn _ _ hlow];exact q4
theorem aM{ty:Ty}{l:List ResultVar}{r r0:PV}{e:Exit}{s:AS}(he:e= .normal∨e= .ret)(h:jh ty s l=io r0)(j:ae r0 r):Hs ty l r e s:=⟨he,r0,h,.done j⟩
end
section
variable {P:Program}
theorem JN{k:FuncId}{args:List PV}{os:List AO}{R:PV->AH->Nat->Prop}(hc:fK P k){n:Nat}(hn: ∃sz x,PV.iv (.bI sz n x)∈args)(h:n<=maxLen->Fn P k args os R):Fn P k args os R:=by
 refine⟨hc,fun M N w vs hr hl y=>?_⟩;obtain⟨sz,x,hn⟩:=hn;obtain⟨j,A⟩:=XU hn;have:=y j _ A;have u:n<=maxLen:=by
  generalize vs.getD j undef=v at this;cases this with
  |iv _ _ hi=>cases hi with
   |fS=>exact Xc _
   |bI=>omega
 exact(h u).2 M N w vs hr hl y
theorem IJ{k:FuncId}{args:List PV}{r:PV}(hc:fK P k){n:Nat}(hn: ∃sz j,PV.iv (.bI sz n j)∈args)(h:n<=maxLen->Pure P k args r):Pure P k args r:=JN hc hn h
end
abbrev iI(n:Int):IV:= .v (.int .i64 n)
abbrev iS(s:ByteArray):IV:= .v (.string s)
abbrev pI(n:Int):PV:= .iv (iI n)
abbrev pS(s:ByteArray):PV:= .iv (iS s)
abbrev pB(b:Bool):PV:= .iv (.v (.bool b))
abbrev ag(l:List IV):PV:= .agg (l.map .iv)
abbrev aT{α:Type}[Inhabited α](sz:Nat)(l:List α)(f:α->List IV):IV:= .bI sz l.length (fun k=>f (l.getD k co))
def aS{α:Type}(sz:Nat)(l:List α)(f:α->List IV):AO:= .row sz (l.map fun x=>(f x).map .iv)
theorem jx(σ:Nat->Nat): ∀l:List IV,dh σ (l.map .iv)=l.map .iv
 | []=>rfl
 |x::r=>by simp only[W7,dh,PV.b5,jx σ r]
theorem tA(n:Nat): ∀l:List IV,bu n (l.map .iv)=jp
 | []=>rfl
 |x::r=>by simp only[W7,bu,PV.low,tA n r]
section
variable {α:Type} {sz:Nat} {l:List α} {f:α->List IV}
theorem b7(σ:Nat->Nat):(aS sz l f).b5 σ=aS sz l f:=by
 simp only[aS,AO.b5,Yb];congr 1;exact Yj fun x _=>jx σ _
theorem eR(n:Nat):(aS sz l f).low n:=by
 intro k e j;rw[W9,Xa]at j;obtain⟨x,_,rfl⟩:=j;exact tA n _
theorem EV{es:List (List PV)}(σ:Nat->Nat)(h:es=l.map fun x=>(f x).map .iv):fc (.row sz es) ((aS sz l f).b5 σ):=by
 rw[b7];exact .of_eq (by rw[h];rfl)
theorem cG[Inhabited α]{es:List (List PV)}(h:es=l.map fun x=>(f x).map .iv): ∀k e,es[k]? =io e->e=(f (l.getD k co)).map .iv:=by
 subst h;intro k e j;rw[W9,Xa]at j;obtain⟨x,u,rfl⟩:=j;rw[W2,u];rfl
theorem zh[Inhabited α](l:List α)(f:α->List IV):(XC l.length).map (fun k=>(f (l.getD k co)).map PV.iv)=l.map fun x=>(f x).map .iv:=by
 apply Zh;intro k;rw[W9,W9];rcases XZ k l.length with h|h
 .rw[Zz h,W5 h];simp[W2,h]
 .simp[h]
theorem fi(h: ∀x,dB ((f x).map .iv)=jp)(l:List α):allOnes (l.map fun x=>(f x).map .iv)=jp:=by
 induction l with
 |nil=>rfl
 |cons x r ih=>simp only[W7,allOnes,h x,ih]
theorem iL[Inhabited α](h: ∀x,dB ((f x).map .iv)=jp)(l:List α):allOnes ((XC l.length).map (fun k=>(f (l.getD k co)).map PV.iv))=jp:=by
 rw[zh];exact fi h l
end
def ax(l:List IV):AO:= .cells (l.map .iv)
theorem Ec(σ:Nat->Nat)(l:List IV):(ax l).b5 σ=ax l:=by
 simp only[ax,AO.b5,jx]
theorem Hk{cs:List PV}{j:Option TypeId}{l:List IV}(σ:Nat->Nat)(h:cs=l.map .iv):fc (.cells cs j) ((ax l).b5 σ):=by
 rw[Ec];exact .trans (.Tx cs j) (.of_eq (by rw[h];rfl))
def cI:List Nat->Bool
 | []=>jp
 |x::r=>!r.elem x&&cI r
theorem eV: ∀{l:List Nat},cI l=jp->l.Nodup
 | [],_=>XY
 |x::r,h=>by
  simp only[cI,XR,Ye,List.elem_eq_mem,decide_eq_false_iff_not]at h;exact XN.2 ⟨h.1,eV h.2⟩
theorem wk{n0:Nat}{L:List Nat}{s t:AS}(h1:Xv t.nx (n0+L.length)=jp)(u:Y4 n0 s.nx=jp)(x:L.all (fun j=>Xx j s.nx)=jp)(hf:HC t.nx (sg n0 L) s.f t.f)(hh:pc t.nx (sg n0 L) s.h t.h)
  (y:cI (fD (sg n0 L) t.h)=jp):Wk n0 L s t:=
 ⟨Xs h1,WY u,fun j A=>WY (XO.1 x j A),hf,hh,eV y⟩
theorem wk0{n0:Nat}{s t:AS}(h1:t.nx=n0)(j:Y4 n0 s.nx=jp)(hf:HC t.nx (sg n0 []) s.f t.f)(hh:t.h=[]):Wk n0 [] s t:=
 ⟨by simpa using h1,WY j,by simp,hf,by rw[hh];trivial,by rw[hh];exact XY⟩
section
variable {n i:Nat} {σ:Nat->Nat} {h r:AH}
theorem hC{cs:List PV}{j:Option TypeId}{c:List IV}(ho:h.get (σ i)=io (.cells cs j))(he:cs=c.map .iv)(hi:Xx i n=jp)(hr:pc n σ h r):pc n σ h ((i,io (ax c))::r):=
 ⟨⟨_,ho,Hk σ he⟩,WY hi,tA n c,hr⟩
theorem hR{α:Type}{sz:Nat}{es:List (List PV)}{l:List α}{f:α->List IV}(ho:h.get (σ i)=io (.row sz es))(he:es=l.map fun x=>(f x).map .iv)(hi:Xx i n=jp)(hr:pc n σ h r):pc n σ h ((i,io (aS sz l f))::r):=
 ⟨⟨_,ho,EV σ he⟩,WY hi,eR n,hr⟩
theorem hM{V:Type}{kc:KC}{ev:V->IV}{z:V}{x:Value}{j:PV->V}{m u:List (kc.K×V)}(ho:h.get (σ i)=io (.map kc ev z x j m))(he:m=u)(hi:Xx i n=jp)(hr:pc n σ h r):pc n σ h ((i,io (.map kc ev z x j u))::r):=
 ⟨⟨_,ho,.of_eq (by rw[he];rfl)⟩,WY hi,ac,hr⟩
theorem SC{V:Type}{kc:KC}{ev:V->IV}{z:V}{u:Value}{x:PV->V}(ho:h.get (σ i)=io .fE)(A: ∀M,IR M (ev z) u)(hi:Xx i n=jp)(hr:pc n σ h r):pc n σ h ((i,io (.map kc ev z u x []))::r):=
 ⟨⟨_,ho,id,fun M N U w j y=>⟨#[],0,y,⟨rfl,by simp,by simp,by simp,by simp⟩,A M⟩⟩,WY hi,ac,hr⟩
theorem hI{V:Type}{kc:KC}{ev:V->IV}{m:List (kc.K×V)}{vs y:List Nat}{D u:Option (kc.K×V)}(ho:h.get (σ i)=io (.bY kc ev m vs D))(he:vs=y)(hc:u=D∨u=is)(hi:Xx i n=jp)(hr:pc n σ h r):pc n σ h ((i,io (.bY kc ev m y u))::r):=by
 refine⟨⟨_,ho,id,fun M N U w j G=>?_⟩,WY hi,ac,hr⟩;subst he;rcases hc with rfl|rfl
 .exact G
 .rcases G with⟨h1,A,_,B⟩|⟨b,ents,clock,x,h1,A,I,B,J,Y,h7⟩
  .exact .inl ⟨h1,A,rfl,B⟩
  .exact .inr ⟨b,ents,clock,x,h1,A,I,B,J,Y,by simp⟩
end
theorem dD{ty:Ty}{j:List ResultVar}{e:Exit}{s:AS}{α:Type}[Inhabited α]{i n sz:Nat}{es:List (List PV)}{L:List α}{f:α->List IV}(he:e= .normal∨e= .ret)(h:jh ty s j=io (.sl i 0 n sz))(hi:s.h.get i=io (.row sz es))
  (hes:es=L.map fun x=>(f x).map .iv) (hn:n=L.length):Hs ty j (.iv (aT sz L f)) e s:=by
 refine⟨he,_,h,.row i (fun k=>f (L.getD k co)) hi (cG hes) ?_ (.done ?_)⟩
 .subst hes;subst hn;simp[PV.aZ]
 .have:Xv i i=jp:=by simp
  simp only[PV.dK,this,cond_true,Xo];subst hn;exact .refl _
theorem ae.bk{b c:Bool}(h:b=c):ae (pB b) (.kb c):=fun _ _ _ _ j=>by
 subst h;cases j with
 |iv _ _ h=>cases h;exact .kb _
theorem ae.row{i n m sz:Nat}(h:n=m):ae (.sl i 0 n sz) (.sl i 0 m sz):= .of_eq (by rw[h])
section
variable {α:Type} [Inhabited α] {l:List α} {f:α->Bool} {i:Nat}
theorem c7(h:(l.take i).any f=kw)(hi:i<l.length):((l.take (i+1)).any f=kw↔f (l.getD i co)=kw):=by
 rw[ZL hi,List.any_append,h,W2,W5 hi];simp
theorem FV(hi:i<l.length)(h:f (l.getD i co)=jp):l.any f=jp:=by
 rw[W2,W5 hi]at h;exact Yr.2 ⟨_,XS hi,h⟩
omit [Inhabited α] in
theorem any_none(h:(l.take i).any f=kw)(hi:l.length<=i):l.any f=kw:=by
 rwa[Xh hi]at h
theorem bT(hi:i<l.length):l.take (i+1)=l.take i++ [l.getD i co]:=by
 rw[ZL hi,W2,W5 hi];rfl
theorem iG{β:Type}{g:β->α->β}{b:β}(hi:i<l.length):(l.take (i+1)).foldl g b=g ((l.take i).foldl g b) (l.getD i co):=by
 rw[bT hi,List.foldl_append];rfl
end
theorem gk{P:Program}{nt:NT}{Q:AQ}{k:List KI}{s:AS}{body:Code}{K:Type}(m:List K)(I:List Nat->AS)(J:List Nat->Prop)(D:List Nat)(j0:J [])(h0:Wk s.nx D s (I []))
  (y: ∀vs:List Nat,J vs->GO P nt (.code body:: .lp (fun t=> ∃j x,m[j]? =io x∧j∉vs∧J (j::vs)∧ ∃L,Wk s.nx L t (I (j::vs)))::k) Q (I vs)):GO P nt (.code (.loop body)::k) Q s:=by
 refine iF (σ:={vs:List Nat//vs.Nodup∧(∀j∈vs,j<m.length)∧J vs}) (fun v=>I v.1) (fun v=>m.length-v.1.length) ⟨[],XY,by simp,j0⟩ D h0 fun v=>?_;obtain⟨vs,h1,G,Y⟩:=v;refine nG ?_ (y vs Y)
 rintro t ⟨j,x,g1,g2,g3,L,g4⟩;have hj:j<m.length:=(W4.1 g1).1;have u: ∀i∈j::vs,i<m.length:=by
  intro i hi;rcases Xm.1 hi with rfl|hi
  .exact hj
  .exact G i hi
 have B:(j::vs).Nodup:=XN.2 ⟨g2,h1⟩;have A:(j::vs).length<=m.length:=by
  have:=Yo B (l₂:=XC m.length) (fun i hi=>Yz.2 (u i hi));simpa using this
 refine⟨⟨j::vs,B,u,g3⟩,L,?_,g4⟩;show m.length-(j::vs).length<m.length-vs.length;simp only[Xy]at A ⊢;omega
def bh(P:Program)(k:FuncId)(args:List PV)(os:List AO)(r:PV)(h:AH)(n:Nat):Prop:=Fn P k args os fun q j u=>q=r∧j=h∧u=n
def sH:List AO->List AO->Prop
 | [],[]=>True
 |p::r,q::s=>fc p q∧sH r s
 |_,_=>False
theorem sH.length: ∀{a b:List AO},sH a b->a.length=b.length
 | [],[],_=>rfl
 |_::_,_::_,h=>congrArg (· +1) (sH.length h.2)
 | [],_::_,h=>h.elim
 |_::_,[],h=>h.elim
theorem sH.get: ∀{a b:List AO},sH a b-> ∀(j:Nat) (q:AO),b[j]? =io q-> ∃p,a[j]? =io p∧fc p q
 | [],[],_,j,q,h=>by simp at h
 |p::r,q0::s,hh,j,q,h=>by
  cases j with
  |zero=>simp at h;subst h;exact⟨p,rfl,hh.1⟩
  |succ j=>simpa using sH.get hh.2 j q (by simpa using h)
 | [],_::_,hh,_,_,_=>hh.elim
 |_::_,[],hh,_,_,_=>hh.elim
theorem Fn.Qi{P:Program}{k:FuncId}{args:List PV}{os ps:List AO}{R:PV->AH->Nat->Prop}(h:Fn P k args os R)(D:sH ps os):Fn P k args ps R:=by
 have G:=D.length;have u: ∀i o,(cO 0 os).get i=io o-> ∃p,(cO 0 ps).get i=io p∧fc p o:=by
  intro i o hi;rw[tk,am (Xc _)]at hi ⊢;exact D.get _ _ hi
 refine⟨h.1,fun M N w vs hr hl hv=>?_⟩;rw[G]at hr hv ⊢;have Y:Rel M N (· <os.length) (cO 0 os) w:=by
  refine⟨hr.dK,fun i o hi=>?_,fun i o hi a0=>?_,fun i o hi=>?_,fun i j o p hi hj I hp he=>?_⟩
  .obtain⟨p,h1,y⟩:=u i o hi;exact hr.used i p h1
  .obtain⟨p,h1,y⟩:=u i o hi;exact hr.dS i p h1 (y.1 a0)
  .obtain⟨p,h1,y⟩:=u i o hi;exact y.2 _ _ _ _ _ (hr.obj i p h1)
  .obtain⟨o',h1,y⟩:=u i o hi;obtain⟨p',A,B⟩:=u j p hj;exact hr.inj i j o' p' h1 A (y.1 I) (B.1 hp) he
 refine(h.2 M N w vs Y hl hv).mono ?_;rintro e w' ⟨x,M',N',r,h',n',rfl,hR,hx,hrr,hvr⟩;refine⟨x,M',N',r,h',n',rfl,hR,⟨hx.os,hx.tape,hx.output,hx.size,fun b hb hn=>hx.gK b hb fun i o hi I=>?_,hx.oJ,fun b c h1 y=>?_,hx.nm,hx.ule,fun i o hi I=>?_⟩,hrr,hvr⟩
 .obtain⟨p,h1,y⟩:=u i o hi;exact hn i p h1 (y.1 I)
 .rcases hx.iM b c h1 y with A|⟨i,o,A,B,J⟩
  .exact .inl A
  .obtain⟨p,g1,g2⟩:=u i o A;exact .inr ⟨i,p,g1,g2.1 B,J⟩
 .rcases hx.gB i o hi I with A|⟨j,q,A,B,J⟩
  .exact .inl A
  .obtain⟨p,g1,g2⟩:=u j q A;exact .inr ⟨j,p,g1,g2.1 B,J⟩
theorem bh.Qi{P:Program}{k:FuncId}{args:List PV}{os u:List AO}{r:PV}{h:AH}{n:Nat}(hc:bh P k args os r h n)(j:sH u os):bh P k args u r h n:=Fn.Qi hc j
theorem bh.le{P:Program}{k:FuncId}{aa args:List PV}{os:List AO}{r:PV}{h:AH}{n:Nat}(hc:bh P k args os r h n)(j:ia aa args):bh P k aa os r h n:=Fn.le hc j
theorem Pure.nS{P:Program}{k:FuncId}{args:List PV}{r:PV}(h:Pure P k args r):bh P k args [] r [] 0:=h
section
variable {P:Program} {ty:Ty} {nt:NT} {Q:AQ} {k:List KI} {s:AS}
theorem Ap{o:Oper}{c:Call}{g:FuncId}{asv args:List PV}{os:List AO}{r:PV}{y:AH}{A:Nat}{s':AS}(L:List Nat)(hc:bh P g args os r y A)(ho:o.op= .call c)(ha:bP s.f c=io (g,asv))
  (hn:cI L=jp) (hl:L.all (fun j=>Xx j s.nx)=jp) (x:L.map s.h.get=os.map fun o=>io (o.b5 (sig L s.nx))) (u:asv=dh (sig L s.nx) args) (hp:putDst nt o (r.b5 (sig L s.nx)) (aC s L y A)=io s'):
  OT P nt o s (fun t=>t=s'):=
 lM ho ha hc (eV hn) (fun j B=>WY (XO.1 hl j B)) x u (by rintro q D n0 ⟨rfl,rfl,rfl⟩;exact⟨s',hp,rfl⟩)
theorem ai{all rest:List Oper}{o:Oper}{c:Call}{g:FuncId}{asv args:List PV}{os:List AO}{r:PV}{y:AH}{A:Nat}{s':AS}(L:List Nat)(hc:bh P g args os r y A)(ho:o.op= .call c)(hg:o.guard=is)(ha:bP s.f c=io (g,asv))
  (hn:cI L=jp) (hl:L.all (fun j=>Xx j s.nx)=jp) (x:L.map s.h.get=os.map fun o=>io (o.b5 (sig L s.nx))) (u:asv=dh (sig L s.nx) args) (hp:putDst nt o (r.b5 (sig L s.nx)) (aC s L y A)=io s')
  (h:GO P nt (.ops all rest::k) Q s'):GO P nt (.ops all (o::rest)::k) Q s:=
 bB hg (Ap L hc ho ha hn hl x u hp) fun t ht=>by subst ht;exact h
theorem ja(B:bq P ty){all:List Oper}{todo pend:List (Nat×Oper)}{j:Nat}{o:Oper}{s':AS}{CA Y:Prop}(hrd:dz todo=[(j,o)])(hg:bR nt all s.f o=io jp)(hpb:gY all pend o=jp)(hE:nR todo [j]=jp)
  (hag:l3 ty nt all s todo pend=io CA) (hCA:CA) (G:OT P nt o s (fun t=>t=s')) (hag2:c8 ty nt all s' (ba pend o)=io Y) (hC2:Y)
  (h:GO P nt (.bS all (todo.filter fun x=>!Xv x.1 j) (ba pend o)::k) Q s'):GO P nt (.bS all todo pend::k) Q s:=by
 have A:(j,o)∈dz todo:=by rw[hrd];simp
 obtain⟨h3,D⟩:=XG.1 A;simp only[Ye,YS,XX]at D;have u: ∀y∈todo,aV y.2=jp-> ∀y∈pend,fm P nt all s y.2:=by
  intro y I J;unfold l3 at hag;split at hag
  .exact cC B hag hCA
  .rename_i h2;have:=XX.1 h2 y I;rw[J]at this;exact absurd Z this
 refine pD hE ⟨_,h3,D.1⟩ u fun j' o' hj _ hu=>?_;simp only[Xd]at hj;subst hj;have:=hu o h3;subst this;exact⟨D.1,fun y I _=>by simpa using D.2 y I,hpb,hg,_,G,fun t ht=>by subst ht;exact⟨cC B hag2 hC2,h⟩⟩
theorem bf(A:bq P ty){all:List Oper}{todo pend:List (Nat×Oper)}{j:Nat}{o:Oper}{c:Call}{g:FuncId}{asv args:List PV}{os:List AO}{r:PV}{G:AH}{I:Nat}{s':AS}{D B:Prop}(L:List Nat)(hc:bh P g args os r G I)
  (hrd:dz todo=[(j,o)]) (ho:o.op= .call c) (ha:bP s.f c=io (g,asv))
  (hn:cI L=jp) (hl:L.all (fun j=>Xx j s.nx)=jp) (y:L.map s.h.get=os.map fun o=>io (o.b5 (sig L s.nx))) (u:asv=dh (sig L s.nx) args) (hp:putDst nt o (r.b5 (sig L s.nx)) (aC s L G I)=io s')
  (hg:bR nt all s.f o=io jp) (hpb:gY all pend o=jp) (hE:nR todo [j]=jp)
  (hag:l3 ty nt all s todo pend=io D) (hCA:D) (hag2:c8 ty nt all s' (ba pend o)=io B) (hC2:B)
  (h:GO P nt (.bS all (todo.filter fun x=>!Xv x.1 j) (ba pend o)::k) Q s'):GO P nt (.bS all todo pend::k) Q s:=
 ja A hrd hg hpb hE hag hCA (Ap L hc ho ha hn hl y u hp) hag2 hC2 h
def Ei(ty:Ty)(l:List ResultVar)(m:Nat)(r:PV)(h:AH)(n:Nat):AQ:=OK ty l m fun q j u=>q=r∧j=h∧u=n
theorem ak {nt:Nat} (y:bq P ty) {g:FuncId} {fn:Func} {c:Code} (hf:P.funcs[g]? =io fn) (hb:fn.body=io c) (hn:(fn.name== "runtime.NumGoroutine")=kw) (x:fn.ntmps=nt)
  {l:List ResultVar} (hl:fn.results.toList=l) {args:List PV} (u:args.length<=nt) {os:List AO} {r:PV} {h:AH} {n:Nat}
  (j:GO P nt [.code c] (Ei ty l os.length r h n) ⟨mT 0 args,cO 0 os,os.length⟩):bh P g args os r h n:=lW y hf hb hn x hl u j
theorem ar{l:List ResultVar}{m:Nat}{r r0:PV}{h:AH}{n:Nat}{e:Exit}(L:List Nat)(he:e= .normal∨e= .ret)(hr:jh ty s l=io r0)(hw:Wk m L ⟨[(0,r0)],s.h,s.nx⟩ ⟨[(0,r)],h,n⟩):Ei ty l m r h n e s:=
 ⟨he,r0,hr,.done ⟨r,h,n,L,⟨rfl,rfl,rfl⟩,hw⟩⟩
end
theorem fy.map{h:AH}{n:Nat}{r:PV}{K:AH->PV->Prop}(i:Nat){kc:KC}{V:Type}{e:V->IV}{z:V}{j:Value}{A:PV->V}{m:List (kc.K×V)}(hi:h.get i=io (.map kc e z j A m))
  (hk:fy ((i,is)::h.gm i (.fa kc e z j m)) n (r.gm i (.fa kc e z j m)) K):fy h n r K:=by
 intro M N w hr;obtain⟨u,h1,D,_,G⟩:=sk hr hi;obtain⟨y,B,J,g1,g2,g3,g4⟩:=hk u N w D;exact⟨y,B,J,h1.trans g1,g2,fun x I=>g3 x (G _ _ I),g4⟩
mutual
def PV.JK(i:Nat)(l:List IV):PV->PV
 | .iv x=> .iv x
 | .agg cs=> .agg (Cu i l cs)
 | .a7 cs=> .a7 (Cu i l cs)
 | .ptr j o=>bif Xv j i then .iv (.ln (l.drop o)) else .ptr j o
 | .sl j off len sz'=> .sl j off len sz'
 | .cV j a b c=> .cV j a b c
 | .fe z j=> .fe z j
 | .ot j o n=> .ot j o n
 | .mp j=> .mp j
 | .cB fn a b=> .cB fn a b
 | .kb b=> .kb b
 | .any=> .any
def Cu(i:Nat)(l:List IV):List PV->List PV
 | []=> []
 |p::r=>PV.JK i l p::Cu i l r
end
theorem oR(i:Nat)(x:List IV): ∀l:List PV,Cu i x l=l.map (PV.JK i x)
 | []=>rfl
 |p::r=>by simp[Cu,oR i x r]
theorem Hc{M:Mem}{N:Nm}{n:Nat}{h:AH}{w:World}(hr:Rel M N (· <n) h w){i:Nat}{l:List IV}{cs:List PV}{T0:Option TypeId}(hi:h.get i=io (.cells cs T0))(c0:cs=l.map .iv):
  ∃B,Ext M N (· <n) h w B N (· <n) ((i,is)::h) w∧Rel B N (· <n) ((i,is)::h) w∧ ∀p x,VR M N (· <n) p x->VR B N (· <n) (p.JK i l) x:=by
 subst c0;have b0:=hr.dS i _ hi Z;obtain⟨c,T,h1,I,h3,h4,h5⟩:=hr.obj i _ hi
 let B:Mem:=M.set (N.aA i) (.cells c) b0
 have hM:M.le B:=fun b d hb=>by
  simp only[B,Mem.set];by_cases u:b=N.aA i
  .rw[u,b0]at hb;cases hb
  .rw[be u];exact hb
 have hnew: ∀b d,M b=is->B b=io d->b=N.aA i:=fun b d h1 I=>by
  simp only[B,Mem.set]at I;by_cases u:b=N.aA i
  .exact u
  .rw[be u,h1]at I;cases I
 have D: ∀o,B.cell (N.aA i) o=c[o]? :=fun o=>by simp[Mem.cell,B,Mem.set]
 refine⟨B,?_,?_,fun p x hx=>?_⟩
 .exact⟨rfl,rfl,⟨rfl,W8 _⟩,W8 _,fun _ _ _=>rfl,hM,fun b d h1 I=> .inr ⟨i,_,hi,rfl,(hnew b d h1 I).symm⟩,.refl _ _,fun _ h=>h,fun j o A d0=> .inr ⟨j,o,(bn j o A).2,d0,rfl⟩⟩
 .refine⟨fun b d hb=>?_,fun j o A=>hr.used j o (bn j o A).2,fun j o A J=>?_,fun j o A=>?_,fun j k o p A hk=>hr.inj j k o p (bn j o A).2 (bn k p hk).2⟩
  .simp only[B,Mem.set]at hb;by_cases u:b=N.aA i
   .rw[am u]at hb;cases hb;exact⟨T,(0,0),by rw[u];exact h1⟩
   .rw[be u]at hb;exact hr.dK b d hb
  .obtain⟨g1,g2⟩:=bn j o A;simp only[B,Mem.set];rw[be fun e=>g1 (hr.inj j i o _ g2 hi J Z e)];exact hr.dS j o g2 J
  .obtain⟨g1,g2⟩:=bn j o A;exact(hr.obj j o g2).mono hM (.refl _ _) (fun _ h=>h) (hr.used j o g2) Z
 .induction hx with
  |iv x y h=>exact .iv _ _ (h.mono hM)
  |agg cs ys hl _ ih=>
   refine .agg _ _ (by simpa[oR]using hl) fun j q G=>?_;rw[oR,W9,Xa]at G;obtain⟨q0,Y,rfl⟩:=G
   exact ih j q0 Y
  |a7 cs ys hl _ ih=>
   refine .a7 _ _ (by simpa[oR]using hl) fun j q G=>?_;rw[oR,W9,Xa]at G;obtain⟨q0,Y,rfl⟩:=G
   exact ih j q0 Y
  |ptr j off h=>
   simp only[PV.JK];cases hb:Xv j i with
   |true=>
    have A:=Xs hb;subst A;have a0:l.length=c.size:=by simpa using h3
    refine .iv _ _ (.ln _ _ _ (fun k hk=>?_) fun k q G=>?_)
    .rw[X7]at hk;rw[D];simp[show off+k<c.size by omega]
    .rw[XW]at G;have e0:off+k<c.size:=by rw[<-a0];exact(W4.1 G).1
     have:=h4 (off+k) (.iv q) (by rw[W9,G];rfl);rw[D];rw[WZ]at this;cases this with
     |iv _ _ h=>exact h.mono hM
   |false=>exact .ptr _ _ h
  |cV i sz k off h=>exact .cV _ _ _ _ h
  |fe z i h=>exact .fe _ _ h
  |ot i o n h=>exact .ot _ _ _ h
  |sl j off len sz' cap h h0 hl hc he=>exact .sl _ _ _ _ _ h h0 hl hc he
  |lx j sz' h=>exact .lx _ _ h
  |sle j sz' cap h hc he=>exact .sle _ _ _ h hc he
  |mp j h=>exact .mp _ h
  |cB fn first caps f' c' h1 I hr1 hr2 _ _=>exact .cB _ _ _ _ _ h1 I (fun j p A=>(hr1 j p A).mono hM (.refl _ _) (fun _ h=>h)) (fun j p A=>(hr2 j p A).mono hM (.refl _ _) (fun _ h=>h))
  |kb b=>exact .kb _
  |any x=>exact .any _
theorem fy.cells{h:AH}{n:Nat}{r:PV}{K:AH->PV->Prop}(i:Nat)(l:List IV){cs:List PV}{A:Option TypeId}(hi:h.get i=io (.cells cs A))(j:cs=l.map .iv)(hk:fy ((i,is)::h) n (r.JK i l) K):fy h n r K:=by
 intro M N w hr;obtain⟨u,h1,D,G⟩:=Hc hr hi j;obtain⟨y,B,J,g1,g2,g3,g4⟩:=hk u N w D;exact⟨y,B,J,h1.trans g1,g2,fun x I=>g3 x (G _ _ I),g4⟩
theorem fp{ty:Ty}{l:List ResultVar}{r r0:PV}{e:Exit}{s:AS}(he:e= .normal∨e= .ret)(h:jh ty s l=io r0)(hk:fy s.h s.nx r0 fun _ j=>ae j r):Hs ty l r e s:=⟨he,r0,h,hk⟩
section
variable {P:Program} {ty:Ty} {nt:NT} {Q:AQ} {k:List KI} {s:AS}
theorem mF{all rest:List Oper}{o:Oper}{c:Call}{g:FuncId}{asv args:List PV}{os:List AO}{R:PV->AH->Nat->Prop}(L:List Nat)(hc:Fn P g args os R)(ho:o.op= .call c)(hg:o.guard=is)(ha:bP s.f c=io (g,asv))
  (hn:cI L=jp) (hl:L.all (fun j=>Xx j s.nx)=jp) (x:L.map s.h.get=os.map fun o=>io (o.b5 (sig L s.nx))) (u:asv=dh (sig L s.nx) args)
  (h: ∀r y A,R r y A-> ∃s',putDst nt o (r.b5 (sig L s.nx)) (aC s L y A)=io s'∧GO P nt (.ops all rest::k) Q s'):GO P nt (.ops all (o::rest)::k) Q s:=
 bB (R:=fun t=>GO P nt (.ops all rest::k) Q t) hg (lM ho ha hc (eV hn) (fun j B=>WY (XO.1 hl j B)) x u h) fun t ht=>ht
theorem dC{R:PV->AH->Nat->Prop}{l:List ResultVar}{m:Nat}{r r0:PV}{h:AH}{n:Nat}{e:Exit}(L:List Nat)(he:e= .normal∨e= .ret)(hr:jh ty s l=io r0)(hR:R r h n)(hw:Wk m L ⟨[(0,r0)],s.h,s.nx⟩ ⟨[(0,r)],h,n⟩):OK ty l m R e s:=
 ⟨he,r0,hr,.done ⟨r,h,n,L,hR,hw⟩⟩
end
theorem kR{P:Program}{nt:NT}{Q:AQ}{k:List KI}{s:AS}{c:Code}(i j sz:Nat){cs:List PV}{x:Option TypeId}(hi:s.h.get i=io (.cells cs x))(hj:cs[j]? =io (.iv (.v (.slice is 0 0))))
  (h:GO P nt (.code c::k) Q ⟨s.f,(i,io (.cells (cs.set j (.sl s.nx 0 0 sz)) x))::(s.nx,io (.row sz []))::s.h,s.nx+1⟩):GO P nt (.code c::k) Q s:=by
 intro M N a w hf;obtain⟨sf,sh,A⟩:=s;obtain⟨h1,h2⟩:=hf.1.C7 sz;have G:i≠A:=fun e=>by have:=hf.1.used i _ hi;simp only at this;omega
 have u:AH.get ((A,io (AO.row sz []))::sh) i=io (.cells cs x):=by
  rw[AH.ay,be G];exact hi
 obtain⟨Y,T,e1,e2,e3,e4,e5⟩:=h2.obj i _ u
 obtain⟨g1,g2⟩:=h2.write (i:=i) (o0:= .cells cs x) u Z w (.cells (cs.set j (.sl A 0 0 sz)) x) Z Z Z Z (fun _ _=>rfl) ⟨Y,T,e1,e2,by rw[List.length_set];exact e3,fun k p y=>by
  rw[YP]at y;split at y
  .rename_i hk;subst hk;split at y
   .cases y;have:=e4 j _ hj;generalize Y.getD j undef=v at this ⊢;cases this with
    |iv _ _ h=>cases h with
     |v=>exact .lx _ _ (YM _)
   .cases y
  .exact e4 k p y,e5⟩
 have B:Fits M N ⟨sf,(i,io (.cells (cs.set j (.sl A 0 0 sz)) x))::(A,io (.row sz []))::sh,A+1⟩ nt a w:=
  ⟨g2,fun k=>(hf.2.1 k).mono (.refl _) (.refl _ _) (fun i hi=>YF hi),hf.2.2⟩
 exact AW.then h B fun e a2 w2 M2 N2 s2 J D I=>⟨M2,N2,s2,(h1.trans g1).trans J,D,I⟩
theorem fy.fR{h:AH}{n:Nat}{r:PV}{K:AH->PV->Prop}{α:Type}[Inhabited α](i:Nat){sz:Nat}{es:List (List PV)}(L:List α)(f:α->List IV)(hi:h.get i=io (.row sz es))(hes:es=L.map fun x=>(f x).map .iv)
  (j:r.aZ i sz L.length) (hk:fy ((i,is)::h) n (r.dK i sz fun k=>f (L.getD k co)) K):fy h n r K:=
 .row i (fun k=>f (L.getD k co)) hi (cG hes) (by subst hes;simpa using j) hk
def AO.j6(i sz:Nat)(el:Nat->List IV):AO->AO
 | .cells cs T=> .cells (oh i sz el cs) T
 |o=>o
def AO.kK(i sz n:Nat):AO->Prop
 | .cells cs _=>aY i sz n cs
 | .row _ es=> ∀(k:Nat) (e:List PV) (j:Nat) (p:PV),es[k]? =io e->e[j]? =io p-> ∃y,p= .iv y
 |_=>True
def AH.j6(i sz:Nat)(el:Nat->List IV):AH->AH
 | []=> []
 |(k,is)::r=>(k,is)::AH.j6 i sz el r
 |(k,io o)::r=>(k,io (o.j6 i sz el))::AH.j6 i sz el r
def AH.kK(i sz n:Nat):AH->Prop
 | []=>True
 |(_,is)::r=>AH.kK i sz n r
 |(_,io o)::r=>o.kK i sz n∧AH.kK i sz n r
def AF.j6(i sz:Nat)(el:Nat->List IV):AF->AF
 | []=> []
 |(d,p)::r=>(d,p.dK i sz el)::AF.j6 i sz el r
def AF.kK(i sz n:Nat):AF->Prop
 | []=>True
 |(_,p)::r=>p.aZ i sz n∧AF.kK i sz n r
theorem AH.jQ(i sz:Nat)(el:Nat->List IV): ∀(h:AH) (j:Nat),(AH.j6 i sz el h).get j=(h.get j).map (AO.j6 i sz el)
 | [],_=>rfl
 |(k,is)::r,j=>by
  simp only[AH.j6,AH.ay,AH.jQ i sz el r j];split<;>rfl
 |(k,io o)::r,j=>by
  simp only[AH.j6,AH.ay,AH.jQ i sz el r j];split<;>rfl
theorem AH.lC{i sz n:Nat}: ∀{h:AH} (_:h.kK i sz n) (j:Nat) (o:AO),h.get j=io o->o.kK i sz n
 | [],_,j,o,ho=>nomatch ho
 |(k,is)::r,hh,j,o,ho=>by
  rw[AH.ay]at ho;split at ho
  .cases ho
  .exact AH.lC (h:=r) hh j o ho
 |(k,io q)::r,hh,j,o,ho=>by
  rw[AH.ay]at ho;split at ho
  .cases ho;exact hh.1
  .exact AH.lC (h:=r) hh.2 j o ho
theorem AF.jQ(i sz:Nat)(el:Nat->List IV): ∀(f:AF) (d:Nat),(AF.j6 i sz el f).get d=(f.get d).dK i sz el
 | [],_=>rfl
 |(k,p)::r,d=>by
  simp only[AF.j6,AF.ay,AF.jQ i sz el r d];split<;>rfl
theorem AF.lC{i sz n:Nat}: ∀{f:AF} (_:f.kK i sz n) (d:Nat),(f.get d).aZ i sz n
 | [],_,d=>trivial
 |(k,p)::r,h,d=>by
  rw[AF.ay];split
  .exact h.1
  .exact AF.lC (f:=r) h.2 d
theorem AO.tp(i sz:Nat)(el:Nat->List IV)(o:AO):(o.j6 i sz el).real=o.real:=by
 cases o<;>rfl
theorem iY{P:Program}{nt:NT}{Q:AQ}{k:List KI}{s:AS}{c:Code}(i:Nat){sz:Nat}{es:List (List PV)}(el:Nat->List IV)(hi:s.h.get i=io (.row sz es))(I: ∀k e,es[k]? =io e->e=(el k).map .iv)
  (hf:s.f.kK i sz es.length) (hh:s.h.kK i sz es.length) (h:GO P nt (.code c::k) Q ⟨s.f.j6 i sz el,(i,is)::s.h.j6 i sz el,s.nx⟩):GO P nt (.code c::k) Q s:=by
 intro M N a w u;obtain⟨G,h1,x,h4⟩:=pE u.1 hi I;have hM:M.le G:=h1.oJ;have B: ∀j o,AH.get ((i,is)::s.h.j6 i sz el) j=io o-> ∃p,AH.get ((i,is)::s.h) j=io p∧s.h.get j=io p∧o=p.j6 i sz el:=by
  intro j o y;obtain⟨g1,g2⟩:=bn j o y;rw[AH.jQ,Xa]at g2;obtain⟨p,g3,g4⟩:=g2;exact⟨p,by rw[AH.ay,be g1];exact g3,g3,g4.symm⟩
 have hE:Ext M N (· <s.nx) s.h w G N (· <s.nx) ((i,is)::s.h.j6 i sz el) w:=⟨h1.os,h1.tape,h1.output,h1.size,h1.gK,h1.oJ,h1.iM,h1.nm,h1.ule,fun j o y A=>by
  obtain⟨p,g1,_,rfl⟩:=B j o y;rw[AO.tp]at A
  exact h1.gB j p g1 A⟩
 have hR:Rel G N (· <s.nx) ((i,is)::s.h.j6 i sz el) w:=by
  refine⟨x.dK,fun j o y=>?_,fun j o y A=>?_,fun j o y=>?_,fun j k o p y hk ho hp=>?_⟩
  .obtain⟨p,g1,_,rfl⟩:=B j o y;exact x.used j p g1
  .obtain⟨p,g1,_,rfl⟩:=B j o y;rw[AO.tp]at A;exact x.dS j p g1 A
  .obtain⟨p,g1,g2,rfl⟩:=B j o y;cases p with
   |cells cs T0=>
    obtain⟨c,T,q1,q2,q3,q4,q5⟩:=u.1.obj j _ g2;have hok:=AH.lC hh j _ g2;refine⟨c,T,q1,q2,by simpa[eL]using q3,fun k q hq=>?_,q5⟩;rw[eL,W9,Xa]at hq;obtain⟨q0,D,rfl⟩:=hq;exact h4 _ _ (q4 k q0 D) (fo hok k q0 D)
   |row=>exact x.obj j _ g1
   |bz=>exact x.obj j _ g1
   |fE=>exact x.obj j _ g1
   |map=>exact x.obj j _ g1
   |bY=>exact x.obj j _ g1
   |eG=>exact x.obj j _ g1
   |iA=>exact x.obj j _ g1
   |eJ=>exact x.obj j _ g1
   |oK=>exact x.obj j _ g1
  .obtain⟨o',g1,_,rfl⟩:=B j o y;obtain⟨p',g2,_,rfl⟩:=B k p hk;rw[AO.tp]at ho hp;exact x.inj j k o' p' g1 g2 ho hp
 have J:Fits G N ⟨s.f.j6 i sz el,(i,is)::s.h.j6 i sz el,s.nx⟩ nt a w:=⟨hR,fun d=>by
  rw[AF.jQ];exact h4 _ _ (u.2.1 d) (AF.lC hf d),u.2.2⟩
 exact AW.then h J fun e a2 w2 M2 N2 s2 b0 Y a0=>⟨M2,N2,s2,hE.trans b0,Y,a0⟩
def AO.gZ(i sz:Nat)(el:Nat->List IV):AO->AO
 | .cells cs T=> .cells (oh i sz el cs) T
 | .row s es=> .row s (es.map (oh i sz el))
 |o=>o
def AO.vN(i sz n:Nat):AO->Prop
 | .cells cs _=>aY i sz n cs
 | .row _ es=> ∀e∈es,aY i sz n e
 |_=>True
def AH.gZ(i sz:Nat)(el:Nat->List IV):AH->AH
 | []=> []
 |(k,is)::r=>(k,is)::AH.gZ i sz el r
 |(k,io o)::r=>(k,io (o.gZ i sz el))::AH.gZ i sz el r
def AH.vN(i sz n:Nat):AH->Prop
 | []=>True
 |(_,is)::r=>AH.vN i sz n r
 |(_,io o)::r=>o.vN i sz n∧AH.vN i sz n r
theorem AH.pF(i sz:Nat)(el:Nat->List IV): ∀(h:AH) (j:Nat),(AH.gZ i sz el h).get j=(h.get j).map (AO.gZ i sz el)
 | [],_=>rfl
 |(k,is)::r,j=>by
  simp only[AH.gZ,AH.ay,AH.pF i sz el r j];split<;>rfl
 |(k,io o)::r,j=>by
  simp only[AH.gZ,AH.ay,AH.pF i sz el r j];split<;>rfl
theorem AH.mq{i sz n:Nat}: ∀{h:AH} (_:h.vN i sz n) (j:Nat) (o:AO),h.get j=io o->o.vN i sz n
 | [],_,j,o,ho=>nomatch ho
 |(k,is)::r,hh,j,o,ho=>by
  rw[AH.ay]at ho;split at ho
  .cases ho
  .exact AH.mq (h:=r) hh j o ho
 |(k,io q)::r,hh,j,o,ho=>by
  rw[AH.ay]at ho;split at ho
  .cases ho;exact hh.1
  .exact AH.mq (h:=r) hh.2 j o ho
theorem AO.jr(i sz:Nat)(el:Nat->List IV)(o:AO):(o.gZ i sz el).real=o.real:=by
 cases o with
 |row s es=>cases es<;>rfl
 |_=>rfl
def RJ:List Code->Code->Code
 | [],r=>r
 |c::l,r=> .seq c (RJ l r)
def zb:Nat->Code->List Code
 |n+1,.seq a b=>a::zb n b
 |_,_=> []
def uW:Nat->Code->Code
 |n+1,.seq _ b=>uW n b
 |_,c=>c
theorem Fc{P:Program}{nt:NT}{R:AQ}: ∀{l:List Code} {e:Exit} {s:AS},e≠ .normal->kp P nt (l.map KI.code) R e s->R e s
 | [],_,_,_,h=>h
 |c::l,e,s,he,h=>by
  cases e with
  |normal=>exact absurd Z he
  |_=>exact Fc (l:=l) he h
mutual
def yZ:PV->Bool
 | .iv (.v _)=>jp
 | .iv _=>kw
 | .agg cs=>sF cs
 | .a7 cs=>sF cs
 | .cB _ _ _=>kw
 |_=>jp
def sF:List PV->Bool
 | []=>jp
 |p::r=>yZ p&&sF r
end
theorem mR: ∀{l:List PV},sF l=jp-> ∀(j:Nat) (p:PV),l[j]? =io p->yZ p=jp
 | [],_,j,p,h=>by simp at h
 |c::l,hh,j,p,h=>by
  simp only[sF,XR]at hh;cases j with
  |zero=>simp at h;subst h;exact hh.1
  |succ j=>exact mR hh.2 j p (by simpa using h)
theorem wY{M A:Mem}{N:Nm}{U:Nat->Prop}{p:PV}{x:Value}(h:VR M N U p x):yZ p=jp->VR A N U p x:=by
 induction h with
 |iv x y h=>
  intro hb;cases h with
  |v=>exact .iv _ _ (.v _)
  |_=>cases hb
 |agg cs ys hl hr ih=>exact fun hb=> .agg _ _ hl fun j p u=>ih j p u (mR hb j p u)
 |a7 cs ys hl hr ih=>exact fun hb=> .a7 _ _ hl fun j p u=>ih j p u (mR hb j p u)
 |ptr i off h=>exact fun _=> .ptr _ _ h
 |cV i sz k off h=>exact fun _=> .cV _ _ _ _ h
 |fe z i h=>exact fun _=> .fe _ _ h
 |ot i off n h=>exact fun _=> .ot _ _ _ h
 |sl i off len sz cap h h0 hl hc he=>exact fun _=> .sl _ _ _ _ _ h h0 hl hc he
 |lx i sz h=>exact fun _=> .lx _ _ h
 |sle i sz cap h hc he=>exact fun _=> .sle _ _ _ h hc he
 |mp i h=>exact fun _=> .mp _ h
 |cB=>intro hb;cases hb
 |kb b=>exact fun _=> .kb _
 |any=>exact fun _=> .any _
def CU:AO->Prop
 | .row _ es=> ∀e∈es,sF e=jp
 | .cells cs _=>sF cs=jp
 |_=>False
theorem Kw{M G:Mem}{N:Nm}{U:Nat->Prop}{w:World}{i:Nat}{o:AO}(hb:CU o)(h:OR M N U w i o):OR G N U w i o:=by
 cases o with
 |row sz es=>
  rcases h with h|⟨I,c,T,h1,x,y,A,B⟩
  .exact .inl h
  .exact .inr ⟨I,c,T,h1,x,y,A,fun k e j p D u=>wY (B k e j p D u) (mR (hb e (XE D)) j p u)⟩
 |cells cs T0=>
  obtain⟨c,T,h1,x,y,A,B⟩:=h;exact⟨c,T,h1,x,y,fun j p u=>wY (A j p u) (mR hb j p u),B⟩
 |_=>exact hb.elim
section
variable {P:Program} {nt:NT} {Q:AQ} {k:List KI} {s:AS}
theorem CQ{o:Oper}{c:Call}{g:FuncId}{asv args:List PV}(ho:o.op= .call c)(ha:bP s.f c=io (g,asv)){r:PV}{h':AH}{n':Nat}(hc:bh P g args [] r h' n')
  (i0:args.length=asv.length) (hlow:bu 0 args=jp)
  (f0: ∀M N w,Rel M N (· <s.nx) s.h w-> ∃M1:Mem,M.le M1∧Rel M1 N (· <s.nx) [] w∧ ∀(j:Nat) (p:PV) (x:Value),args[j]? =io p->(∀q,asv[j]? =io q->VR M N (· <s.nx) q x)->VR M1 N (· <s.nx) p x)
  (e0:yZ (r.b5 (sig [] s.nx))=jp) (d0: ∀j o,(oe (sig [] s.nx) h').get j=io o->CU o)
  {s':AS} (hp:putDst nt o (r.b5 (sig [] s.nx)) (aC s [] h' n')=io s'):OT P nt o s (fun t=>t=s'):=by
 intro M N a w hf K Z hk;obtain⟨vs,a0,hl,hv⟩:=wD hf ho ha hc.1;unfold Oper.wp;rw[a0];simp only[Oper.upon];obtain⟨M1,m0,j0,k0⟩:=f0 M N w hf.1
 have Y:=Fn.calls (s:=⟨s.f,[],s.nx⟩) (L:=[]) hc XY (by simp) rfl (M:=M1) (N:=N) (w:=w) j0 (vs:=vs) (by omega) (fun j p A=>by
  rw[PV.kn _ _ (gr hlow j p A)]
  exact k0 j p _ A fun q hq=>hv j q hq)
 refine Y.mono ?_;rintro e w' ⟨x,M',N',r',h2,n2,rfl,⟨rfl,rfl,rfl⟩,hx,hr,hvr⟩;have B:N.agree N' (· <s.nx):=hx.nm;have G: ∀i,i<s.nx->i<s.nx+(n2-0):=fun i hi=>hx.ule i hi;have D: ∀b,b<w.heap.size->w'.heap[b]? =w.heap[b]? :=fun b hb=>hx.gK b hb fun i o hi=>(nomatch hi)
 have g0:(aC ⟨s.f,[],s.nx⟩ [] h2 n2).h=oe (sig [] s.nx) h2:=by simp[aC,CB]
 have y: ∀j o,(aC s [] h2 n2).h.get j=io o->(oe (sig [] s.nx) h2).get j=io o∨s.h.get j=io o:=by
  intro j o A;simp only[aC,CB,Xq]at A;rw[AH.get_append]at A;split at A
  .exact .inl A
  .exact .inr A
 rw[g0]at hr hx;have hnew: ∀j o,(oe (sig [] s.nx) h2).get j=io o->o.real=jp->w.heap.size<=N'.aA j:=by
  intro j o A u;rcases hx.gB j o A u with h|⟨i,p,hi,_⟩
  .exact h
  .exact nomatch hi
 have hR:Rel M N' (· <s.nx+(n2-0)) (aC s [] h2 n2).h w':=by
  refine⟨fun b d hb=>(hf.1.dK b d hb).mono (D b (hf.1.dK b d hb).lt),fun j o A=>?_,fun j o A u=>?_,fun j o A=>?_,fun i j o p hi A I J e=>?_⟩
  .rcases y j o A with h|h
   .exact hr.used j o h
   .exact G j (hf.1.used j o h)
  .rcases y j o A with h|h
   .have:=hnew j o h u;cases hm:M (N'.aA j) with
    |none=>rfl
    |some d=>have:=(hf.1.dK _ d hm).lt;omega
   .rw[B.aA j (hf.1.used j o h)];exact hf.1.dS j o h u
  .rcases y j o A with h|h
   .exact Kw (d0 j o h) (hr.obj j o h)
   .cases u:o.real with
    |true=>exact(hf.1.obj j o h).mono (.refl _) B G (hf.1.used j o h) (D _ ((hf.1.obj j o h).lt u))
    |false=>
     cases o with
     |row sz es=>cases es with
      |nil=>exact .inl rfl
      |cons=>cases u
     |bz l T=>cases l with
      |nil=>exact .inl rfl
      |cons=>cases u
     |_=>cases u
  .rcases y i o hi with h1|h1<;>rcases y j p A with h2'|h2'
   .exact hr.inj i j o p h1 h2' I J e
   .have:=hnew i o h1 I;rw[e,B.aA j (hf.1.used j p h2')]at this;have:=(hf.1.obj j p h2').lt J;omega
   .have:=hnew j p h2' J;rw[<-e,B.aA i (hf.1.used i o h1)]at this;have:=(hf.1.obj i o h1).lt I;omega
   .rw[B.aA i (hf.1.used i o h1),B.aA j (hf.1.used j p h2')]at e;exact hf.1.inj i j o p h1 h2' I J e
 have hX:Ext M N (· <s.nx) s.h w M N' (· <s.nx+(n2-0)) (aC s [] h2 n2).h w':=
  ⟨hx.os,hx.tape,hx.output,hx.size,fun b hb _=>D b hb,.refl _,fun b d g1 g2=>absurd (g1.symm.trans g2) (by simp),B,G,fun j o A u=>by
   rcases y j o A with h|h
   .exact .inl (hnew j o h u)
   .exact .inr ⟨j,o,h,u,(B.aA j (hf.1.used j o h)).symm⟩⟩
 have c0:Fits M N' (aC s [] h2 n2) nt a w':=⟨hR,hf.2.1.ext hX,hf.2.2⟩
 have b0:VR M N' (· <(aC s [] h2 n2).nx) (r'.b5 (sig [] s.nx)) x:=wY hvr e0;show K (a.put o.dst x) w';cases hd:o.dst with
 |none=>
  have:=dR hp hd;subst this;exact hk M N' _ _ w' hX c0 rfl
 |some d=>
  obtain⟨h1,rfl⟩:=dQ hp hd;exact hk M N' {aC s [] h2 n2 with f:=(d,r'.b5 (sig [] s.nx))::(aC s [] h2 n2).f} _ w' hX (c0.put d _ x h1 b0) rfl
theorem sc{all rest:List Oper}{o:Oper}{c:Call}{g:FuncId}{asv args:List PV}{r:PV}{A:AH}{I:Nat}{s':AS}(hc:bh P g args [] r A I)(ho:o.op= .call c)(hg:o.guard=is)(ha:bP s.f c=io (g,asv))
  (u:args.length=asv.length) (hlow:bu 0 args=jp)
  (G: ∀M N w,Rel M N (· <s.nx) s.h w-> ∃y:Mem,M.le y∧Rel y N (· <s.nx) [] w∧ ∀(j:Nat) (p:PV) (x:Value),args[j]? =io p->(∀q,asv[j]? =io q->VR M N (· <s.nx) q x)->VR y N (· <s.nx) p x)
  (D:yZ (r.b5 (sig [] s.nx))=jp) (B: ∀j o,(oe (sig [] s.nx) A).get j=io o->CU o) (hp:putDst nt o (r.b5 (sig [] s.nx)) (aC s [] A I)=io s')
  (h:GO P nt (.ops all rest::k) Q s'):GO P nt (.ops all (o::rest)::k) Q s:=
 bB hg (CQ ho ha hc u hlow G D B hp) fun t ht=>by subst ht;exact h
end
end
end Go.Al
namespace Go.Al
open Go.ChangeShapes Go.WideShapes Go.RowKit
section
def yC(W:World)(b:Nat):Option MB:=match W.heap[b]? with
 |some (.cells c _ _)=>io (.cells c)
 |some (.map es cl)=>io (.map es cl)
 |_=>is
def lN(W:World):Prop:= ∀b c,SD b=io c-> ∃T j,W.heap[b]? =io (.cells c T j)
def Mem.qS(W:World)(h:lN W):Mem:=⟨yC W,fun b c hb=>by obtain⟨T,j,e⟩:=h b c hb;simp[yC,e]⟩
def Tg:Nm:=⟨fun _=>0,fun _=>0⟩
theorem MR(W:World)(h:lN W):Rel (Mem.qS W h) Tg (· <0) [] W:=by
 refine⟨fun b c hb=>?_,fun i o hi=>by simp[AH.get]at hi,fun i o hi=>by simp[AH.get]at hi,fun i o hi=>by simp[AH.get]at hi,fun i j o p hi=>by simp[AH.get]at hi⟩;have u:yC W b=io c:=hb;unfold yC at u;split at u
 .rename_i y T x e;obtain rfl:=X4 u;exact⟨T,x,e⟩
 .rename_i es cl e;obtain rfl:=X4 u;exact e
 .cases u
theorem CO{W:World}{h:lN W}{b o:Nat}{v:Value}(hc:W.cell? ⟨b,o,is⟩=io v):(Mem.qS W h).cell b o=io v:=by
 show(match yC W b with|some (.cells c)=>c[o]? |_=>is)=io v;unfold World.cell? at hc;unfold yC;split at hc
 .rename_i c T j e;simp only at e;rw[e];simpa using hc
 .cases hc
def CR(M:Mem)(l:List IV)(cs:List Value):Prop:=l.length=cs.length∧ ∀j p,l[j]? =io p->IR M p (cs.getD j undef)
theorem CR.nil(M:Mem):CR M [] []:=⟨rfl,fun j p h=>by simp at h⟩
theorem CR.one{M:Mem}{p:IV}{v:Value}(h:IR M p v):CR M [p] [v]:=⟨rfl,fun j q u=>by
 cases j with
 |zero=>simp at u;subst u;simpa using h
 |succ j=>simp at u⟩
theorem CR.append{M:Mem}{l y:List IV}{cs u:List Value}(h:CR M l cs)(k:CR M y u):CR M (l++y) (cs++u):=by
 refine⟨by simp[h.1,k.1],fun j p x=>?_⟩;rcases XZ j l.length with hj|hj
 .rw[Xn hj]at x;have:=h.2 j p x;rw[W2]at this ⊢;rwa[Xn (by rw[<-h.1];exact hj)]
 .rw[Xl hj]at x;have:=k.2 _ p x;rw[W2]at this ⊢;rw[Xl (by rw[<-h.1];exact hj),<-h.1];exact this
theorem CR.eO{M:Mem}{l r:List IV}{cs:List Value}{o n o':Nat}(h:CR M l ((cs.drop o).take n))(e:o'=o+n)(k:CR M r (cs.drop o')):CR M (l++r) (cs.drop o):=by
 subst e;have:=h.append k;rwa[<-List.drop_drop,List.take_append_drop]at this
theorem CR.end_{M:Mem}{cs:List Value}{o:Nat}(h:cs.length=o):CR M [] (cs.drop o):=by
 rw[List.drop_eq_nil_of_le (by omega)];exact .nil M
theorem CR.agg{M:Mem}{N:Nm}{U:Nat->Prop}{l:List IV}{ys:Array Value}(h:CR M l ys.toList):VR M N U (ag l) (.agg ys):=by
 refine .agg _ _ (by simpa using h.1) fun j p u=>?_;rw[W9,Xa]at u;obtain⟨q,x,rfl⟩:=u;have:=h.2 j q x;exact .iv _ _ (by simpa[WZ,W2]using this)
theorem CR.le{M:Mem}{l x:List IV}{cs:List Value}(h:CR M l cs)(hl:l.length=x.length)(u: ∀(j:Nat) (p q:IV),l[j]? =io p->x[j]? =io q->jW p q):CR M x cs:=by
 refine⟨hl▸h.1,fun j q A=>?_⟩;have y:j<l.length:=by rw[hl];exact(W4.1 A).1
 exact u j _ q (W5 y) A M _ (h.2 j _ (W5 y))
theorem CR.DP{M:Mem}{p q:IV}{cs:List Value}(h:CR M [p] cs)(u:jW p q):CR M [q] cs:=
 h.le Z fun j A B x y=>by
  cases j with
  |zero=>simp at x y;subst x;subst y;exact u
  |succ j=>simp at x
section
variable {H:Type} {enc:TypeId×Value->H} {P:Program} {W:World} {hT:lN W} {sp:Nat->Bool} {held:Bool}
def Rd(enc:TypeId×Value->H)(P:Program)(W:World)(hT:lN W)(sp:Nat->Bool)(held:Bool)(t:TypeId){α:Type}(c:α->List IV)(Q:α->DataW H->Prop)(n:Nat):Prop:=
 ∀m,m<=n-> ∀j y,DataW.trod enc P W 0 sp held m t j=io y-> ∃x,CR (Mem.qS W hT) (c x) j∧Q x y.1
theorem Rd.mono{t:TypeId}{α:Type}{c:α->List IV}{Q:α->DataW H->Prop}{n m:Nat}(h:Rd enc P W hT sp held t c Q n)(hm:m<=n):Rd enc P W hT sp held t c Q m:=fun k hk=>h k (X6 hk hm)
theorem iR{t:TypeId}{k:IntKind}(ht:P.underlying t=io (.int k))(n:Nat):Rd enc P W hT sp held t (fun z=> [.v (.int k z)]) (fun z d=>d= .lit (.int k z)∧(Lit.int k z).wf=jp) n:=by
 intro m _ u y h;cases m with
 |zero=>simp[DataW.trod]at h
 |succ m=>
  unfold DataW.trod at h;rw[ht]at h;split at h<;>simp_all;obtain⟨⟨rfl,j⟩,rfl⟩:=h;exact⟨_,.one (.v _),rfl,j⟩
theorem jn{t:TypeId}(ht:P.underlying t=io .string)(n:Nat):Rd enc P W hT sp held t (fun s=> [.v (.string s)]) (fun s d=>d= .lit (.string s.data.toList)∧s.size<=maxLen) n:=by
 intro m _ u y h;cases m with
 |zero=>simp[DataW.trod]at h
 |succ m=>
  unfold DataW.trod at h;rw[ht]at h;split at h<;>simp_all;rename_i s;obtain⟨j,rfl⟩:=h;exact⟨s,.one (.v _),rfl,j⟩
def QL{α:Type}(Q:α->DataW H->Prop)(l:List α)(d:DataW H):Prop:=
 ∃j:List (DataW H),(d= .nil∧j=[]∨ ∃sp,d= .slice j sp)∧l.length=j.length∧ ∀(i:Nat) (x:α) (e:DataW H),l[i]? =io x->j[i]? =io e->Q x e
theorem gW{α:Type}[Inhabited α]{t e:TypeId}{sz:Nat}{c:α->List IV}{Q:α->DataW H->Prop}{n:Nat}(ht:P.underlying t=io (.slice e))(hc:P.cellsOf e=sz)(G:0<sz)(hl: ∀x,(c x).length=sz)
  (he:Rd enc P W hT sp held e c Q n):Rd enc P W hT sp held t (fun l:List α=> [aT sz l c]) (QL Q) (n+1):=by
 intro m hm cs y h;rcases DataW.trod_slice ht h with⟨rfl,rfl⟩|⟨a,len,i0,B,rest,k,rfl,rfl,rfl,_,h1,h2,h3,h4,_⟩
 .exact⟨[],.one (.fS ..),[],.inl ⟨rfl,rfl⟩,rfl,fun i x e h=>by simp at h⟩
 have key: ∀i,i<len-> ∃x,(∃A,W.cells? 0 (a.add (i*sz)) sz=io A∧CR (Mem.qS W hT) (c x) A)∧ ∃y,B[i]? =io y∧Q x y.1:=by
  intro i hi;have h5:=h4 i hi;rw[hc,W5 (by omega)]at h5;obtain⟨A,h6,h7⟩:=Option.bind_eq_some_iff.1 h5;obtain⟨x,h8,h9⟩:=he k (by omega) _ _ h7;exact⟨x,⟨A,h6,h8⟩,_,W5 (by omega),h9⟩
 obtain⟨f,hf⟩:=Deep.choose_lt key;refine⟨(XC len).map f,.one ?_,B.map (·.1),.inr ⟨_,rfl⟩,by simp[h3],fun i x e hx b0=>?_⟩
 .cases len with
  |zero=>exact .fS ..
  |succ len=>
   have k0: ∀i,i<len+1-> ∀j,j<sz->W.cell? ((a.add (i*sz)).add j)=((c (f i))[j]?).bind fun _=>(W.cell? ((a.add (i*sz)).add j)):=by
    intro i hi j D;rw[W5 (by rw[hl];exact D)];rfl
   have u: ∀i,i<len+1-> ∀j,j<sz-> ∃v,W.cell? ⟨a.block,a.off+i*sz+j,is⟩=io v∧(∀p,(c (f i))[j]? =io p->IR (Mem.qS W hT) p v)∧a.spot=is:=by
    intro i hi j D;obtain⟨⟨A,h6,h8⟩,_⟩:=hf i hi;obtain⟨_,h9,I⟩:=World.cells?_some h6;have J:=I j D;rw[W5 (by omega)]at J;have hs: ∀j,j<sz->(a.add (i*sz+j)).spot=is:=fun j D=>by
     have Y:=I j D;rw[W5 (by omega),Deep.add_add]at Y;exact World.cell?_spot Y
    have a0:a.add (i*sz+j)=⟨a.block,a.off+i*sz+j,is⟩:=by
     have:=hs j D;unfold Addr.add at this ⊢;split
     .rename_i h0;rw[am h0]at this;cases a;simp_all
     .rw[Yf]
    refine⟨A[j]'(by omega),?_,fun p hp=>?_,?_⟩
    .rw[<-a0,<-Deep.add_add];exact J
    .have:=h8.2 j p hp;rwa[W2,W5 (by omega)]at this
    .obtain⟨⟨j0,g6,_⟩,_⟩:=hf 0 (by omega);obtain⟨_,g9,f0⟩:=World.cells?_some g6;have e0:=f0 0 G;rw[W5 (by omega),Deep.add_add]at e0;have:=World.cell?_spot e0;simpa[Addr.add]using this
   have ha:io a=io (⟨a.block,a.off,is⟩:Addr):=by
    obtain⟨_,_,_,hs⟩:=u 0 (by omega) 0 G;cases a;simp_all
   rw[ha];have d0:((XC (len+1)).map f).length=len+1:=by simp
   have c0: ∀k,k<len+1->((XC (len+1)).map f).getD k co=f k:=fun k hk=>by
    simp[W2,Zz hk]
   unfold aT;rw[d0];refine .bI _ _ _ _ _ _ h1 h2 (fun k _=>hl _) (fun k j hk D=>?_) (fun k j p hk hp=>?_)
   .obtain⟨v,hv,_⟩:=u k hk j D;rw[CO hv];rfl
   .rw[c0 k hk]at hp;have D:j<sz:=by rw[<-hl (f k)];exact(W4.1 hp).1
    obtain⟨v,hv,g0,_⟩:=u k hk j D;rw[CO hv];exact g0 p hp
 .have hi:i<len:=by simpa using(W4.1 hx).1
  obtain⟨_,y,hy,hq⟩:=hf i hi;rw[W9,hy]at b0;rw[W9,Zz hi]at hx;simp at b0 hx;subst b0;subst hx;exact hq
theorem mI{n:Nat}{j:Array Field}{cs:List Value}{xs:List (DataW H×List MemPlace)}(hf: ∀(i:Nat) (f:Field),j[i]? =io f->DataW.trod enc P W 0 sp held n f.type ((cs.drop f.offset).take (P.cellsOf f.type))=xs[i]?)
  (i:Nat) {f:Field} (h1:j[i]? =io f) {t o sz:Nat} (u:f.type=t) (y:f.offset=o) (A:P.cellsOf t=sz) {x:DataW H×List MemPlace} (B:xs[i]? =io x):DataW.trod enc P W 0 sp held n t ((cs.drop o).take sz)=io x:=by
 subst u;subst y;subst A;rw[hf i f h1,B]
end
section
variable {H:Type} {enc:TypeId×Value->H} {P:Program} {W W':World} {T:TypeId->Prop}
theorem Gh{W W':World}(hk: ∀b,b<W.heap.size->W'.heap[b]? =W.heap[b]?){p:MemPlace}(hp:p.block<W.heap.size):W.sameAt W' p:=by
 cases p with
 |cell b o=>exact World.cell?_of_block (a:=⟨b,o,is⟩) (hk b hp)
 |map b=>exact hk b hp
theorem p6(K:Kids P T)(A: ∀{t e},T t->P.underlying t=io (.slice e)->0<P.cellsOf e)(hk: ∀b,b<W.heap.size->W'.heap[b]? =W.heap[b]?){sp:Nat->Bool}:
  ∀{ts:List TypeId} {vs:List Value} {y:List (DataW H)} {u:List MemPlace},(∀t∈ts,T t)->DataW.TrodAll enc P W 0 (fun _=>jp) jp ts vs y u->(∀p∈u,p.block<W.heap.size)->(∀p∈u,sp p.block=jp)->
   DataW.TrodAll enc P W' 0 sp jp ts vs y u
 | [],vs,y,u,_,h,_,_=>by
  obtain⟨rfl,rfl,rfl⟩:=trodAll_nil h;exact trodAll_mk0
 |t::ts,vs,y,u,hT,h,hlt,hsp=>by
  obtain⟨v,G,d,B,p,q,rfl,rfl,rfl,⟨n,h1⟩,D⟩:=trodAll_cons h;refine⟨p,q,⟨n,DataW.trod_stays K A (fun h=>by cases h) (hT t (by simp)) h1 (fun x j=>Gh hk (hlt x (XV _ j))) (fun x j=>hsp x (XV _ j))⟩,?_,rfl⟩;exact p6 K A hk (fun t ht=>hT t (Xi _ ht)) D (fun x j=>hlt x (YB _ j)) (fun x j=>hsp x (YB _ j))
theorem NA{W W':World}(u:W'.os=W.os)(j:W'.output=W.output)(hk: ∀b,b<W.heap.size->W'.heap[b]? =W.heap[b]?)(may:MemPlace->Prop):W.keptBut W' may:=by
 refine World.keptBut_mono (fun p x=>(x:False).elim) (World.keptBut_none_iff.2 ⟨u,j,hk⟩)
theorem zA{f:Func}{s:ChangeSpec}{y J A again:Bool}{args:Array Value}{v:Value}{D gs:List (DataW H)}{u:List MemPlace}
  (K:Kids P T) (hz: ∀{t e},T t->P.underlying t=io (.slice e)->0<P.cellsOf e) (f0: ∀t∈f.params.toList,T t) (B:s.vars=[])
  (hW:DataW.Whole enc P f.params.toList s.vars y W args.toList D gs u) (j0:W'.os=W.os) (b0:W'.output=W.output) (hk: ∀b,b<W.heap.size->W'.heap[b]? =W.heap[b]?)
  (I: ∀(b:Nat) (sp:Nat->Bool) (hd:Bool),DataW.TrodAll enc P W' b sp hd f.resultTypes.toList (v.resultList f.resultTypes.size) (s.fn H (D++gs)).results [])
  (Y:(s.fn H (D++gs)).args=D) (m0:(s.fn H (D++gs)).vars=[])
  (hok: ∀(j:Nat) (t:TypeId) (r:Value),f.resultTypes[j]? =io t->(v.resultList f.resultTypes.size)[j]? =io r->Value.okWide P W' .any 0 t r):
  s.post enc P f y J A again W args v W':=by
 have a0: ∀p∈u,p.block<W.heap.size:=fun p hp=>by simpa using hW.lt p hp
 have G: ∀p∈u,(fun b=>lc (b<W.heap.size)) p.block=jp:=fun p hp=>by simpa using hW.lt p hp
 obtain⟨pa,pv,hA,hV,rfl,g0,i0⟩:=id hW;rw[B]at hV;obtain⟨rfl,rfl⟩:gs=[]∧pv=[]:=by
  cases gs with
  |nil=>exact⟨rfl,hV⟩
  |cons _ _=>exact hV.elim
 rw[XM]at a0 G;have x: ∀sp:Nat->Bool,(∀p∈pa,sp p.block=jp)->DataW.TrodAll enc P W' 0 sp jp f.params.toList args.toList (s.fn H (D++ [])).args pa:=fun sp k0=>by
  rw[Y];exact p6 K hz hk f0 hA a0 k0
 have d0: ∀sp:Nat->Bool,DataW.TrodVars enc P W' sp s.vars (s.fn H (D++ [])).vars []:=fun sp=>by
  rw[m0,B];rfl
 refine⟨D,[],pa++ [],[],pa,[],hW,I _ _ _,x _ G,d0 _,?_,fun _=>⟨hok,_,_,([]++pa)++ [],⟨[]++pa,[],trodAll_append (x _ (fun _ _=>rfl)) (I _ _ _),d0 _,rfl,?_,?_⟩,?_⟩⟩
 .exact NA j0 b0 hk _
 .intro b e0 hp;have c0:MemPlace.cell b e0∈pa:=by simpa using hp
  have hb:=a0 _ c0;have:=g0 b e0 (by simpa using c0);rw[<-this];simp only[World.frozen?];rw[hk b hb]
 .intro ha;have:=i0 ha;simpa using this
 .intro p hp _;simpa using hp
end
section
variable {P:Program} {ty:Ty} {nt:NT} {s:AS} {Q:AQ} {k:List KI}
def aH(c:UInt8):List IV:=[.v (.int .u8 (c.toNat:Int))]
theorem mf(w:World)(t u I e:TypeId)(i:TypeInfo)(ht:P.underlying t=io (.slice e))(hu:P.underlying u=io .string)(hi:P.info? e=io i)(G:i.size=1)(T:TypeId)
  (g j y:Nat) (x:Array Value) (hg:w.heap[g]? =io (.cells x T (0,0))) (b:ByteArray)
  (A:j+b.size<=y) (B:j+b.size<=x.size):
  (Builtin.append_ #[t,u] I #[.slice (io ⟨g,0,is⟩) j y,.string b]).run P w=
   .ok (.slice (io ⟨g,0,is⟩) (j+b.size) y) (w.setRow g (x.toList.take j++Lib.strCells b++x.toList.drop (j+b.size)).toArray):=by
 have hf:=Lib.run_firstCells_string (P:=P) w 1 b;have D:=run_storeCells_at P g j T (Lib.strCells b) 0 x w hg (by simpa[Lib.strCells_length]using B) (Lib.strCells_oneCell b);simp only[YC,Lib.strCells_length]at D;simp[Builtin.append_,run_underlying ht,run_underlying hu,sizeOf,typeInfo,hi,G,Builtin.lenOf,A,hf,Addr.add_lit,D]
theorem gy(w:World)(t u B e:TypeId)(i:TypeInfo)(ht:P.underlying t=io (.slice e))(hu:P.underlying u=io .string)(hi:P.info? e=io i)(A:Option Addr)(x j:Nat)(y:x<=j)(b:ByteArray)(hb:b.size=0)(hs:A=is∨ ∃b o,A=io ⟨b,o,is⟩):
  (Builtin.append_ #[t,u] B #[.slice A x j,.string b]).run P w= .ok (.slice A x j) w:=by
 have hf:=Lib.run_firstCells_string (P:=P) w i.size b;have D:Lib.strCells b=[]:=XL (by rw[Lib.strCells_length];exact hb);rw[hb,D]at hf;rcases hs with rfl|⟨g,o,rfl⟩
 .simp[Builtin.append_,run_underlying ht,run_underlying hu,sizeOf,typeInfo,hi,Builtin.lenOf,hb,y,hf]
 .simp[Builtin.append_,run_underlying ht,run_underlying hu,sizeOf,typeInfo,hi,Builtin.lenOf,hb,y,hf,storeCells]
def uu(s:AS)(i:Nat)(l:List UInt8)(u:TypeId):AS:=⟨s.f,(s.nx,io (.bz l u))::(i,is)::s.h,s.nx+1⟩
theorem rE{i:Nat}{l:List UInt8}{u:TypeId}{M j:Mem}{N x:Nm}{a:Act}{w y:World}(hf:Fits M N s nt a w)(A:Ext M N (· <s.nx) s.h w j x (· <s.nx+1) ((s.nx,io (.bz l u))::(i,is)::s.h) y)
  (hr:Rel j x (· <s.nx+1) ((s.nx,io (.bz l u))::(i,is)::s.h) y):
  Ext M N (· <s.nx) s.h w j x (· <(uu s i l u).nx) (uu s i l u).h y∧Fits j x (uu s i l u) nt a y:=
 ⟨A,hr,hf.2.1.ext A,hf.2.2⟩
theorem Rel.ON{M:Mem}{N:Nm}{w:World}{n:Nat}{h:AH}(hr:Rel M N (· <n) h w)(T:TypeId):Ext M N (· <n) h w M N (· <n+1) ((n,io (.bz [] T))::h) w∧Rel M N (· <n+1) ((n,io (.bz [] T))::h) w:=by
 have u: ∀i p,AH.get ((n,io (.bz [] T))::h) i=io p->(i=n∧p= .bz [] T)∨(i<n∧h.get i=io p):=by
  intro i p hi;rw[AH.ay]at hi;split at hi
  .rename_i B;exact .inl ⟨B,by simpa using hi.symm⟩
  .exact .inr ⟨hr.used i p hi,hi⟩
 refine⟨⟨rfl,rfl,⟨rfl,W8 _⟩,W8 _,fun _ _ _=>rfl,.refl _,fun b c h1 y=>by simp[h1]at y,.refl _ _,fun i hi=>by omega,fun i p hi x=>?_⟩,⟨hr.dK,fun i p hi=>?_,fun i p hi x=>?_,fun i p hi=>?_,fun i j p q hi J D G A=>?_⟩⟩
 .rcases u i p hi with⟨rfl,rfl⟩|⟨h1,y⟩
  .cases x
  .exact .inr ⟨i,p,y,x,rfl⟩
 .rcases u i p hi with⟨rfl,rfl⟩|⟨h1,y⟩<;>omega
 .rcases u i p hi with⟨rfl,rfl⟩|⟨h1,y⟩
  .cases x
  .exact hr.dS i p y x
 .rcases u i p hi with⟨rfl,rfl⟩|⟨h1,y⟩
  .exact .inl Z
  .exact(hr.obj i p y).mono (.refl _) (.refl _ _) (fun i hi=>by omega) h1 Z
 .rcases u i p hi with⟨rfl,rfl⟩|⟨h1,y⟩<;>rcases u j q J with⟨rfl,rfl⟩|⟨Y,I⟩
  .rfl
  .cases D
  .cases G
  .exact hr.inj i j p q y I D G A
theorem Mv(z0:bq P ty){o:Oper}{x y:Operand}{t tu u:TypeId}(ho:o.op= .call ⟨.builtin .append, #[x,y], #[t,tu]⟩){e et eu:bC}(ht:ty t=io e)(hk:e.k= .aP (.slice u))(v1:ty tu=io et)(o1:et.k= .aP .string)(hu:ty u=io eu)
  {i len:Nat} {l:List UInt8} {b:ByteArray} (hx:ev s.f x= .sl i 0 len 1) (hi:s.h.get i=io (.bz l u)) (D:l.length=len) (t1:eu.size=1) (m1:eu.bytes=1) (hz:eu.zero= .int .u8 0)
  (r1:ev s.f y= .iv (.v (.string b))) (b2:len+b.size<=140737488355328)
  {s':AS} (hp:putDst nt o (.sl s.nx 0 (len+b.size) 1) (uu s i (l++b.data.toList) u)=io s'):OT P nt o s (fun t=>t=s'):=by
 refine OT.value hp fun M N a w hf=>?_;obtain⟨⟨ii,i0,s0,r0,t0⟩,_⟩:=z0 u _ hu;rw[t1]at s0;rw[m1]at r0;rw[hz]at t0
 have m0:P.underlying t=io (.slice u):=by
  have:=(z0 t _ ht).2.1;rw[hk]at this;exact this.1
 have k0:P.underlying tu=io .string:=by
  have:=(z0 tu _ v1).2.1;rw[o1]at this;exact this.1
 have a1:=aO hf.2.1 x;rw[hx]at a1;have b1:=aO hf.2.1 y;rw[r1]at b1;have z1:a.eval y= .string b:=by
  generalize a.eval y=v at b1;cases b1 with
  |iv _ _ h=>cases h;rfl
 have A: ∀v w',(Builtin.append_ #[t,tu] o.type #[a.eval x,a.eval y]).run P w= .ok v w'->(execOp a.eval o).run P w= .ok (.value v) w':=by
  intro v w' h;simp only[execOp,ho,resolve];simp[invoke,builtin,h]
 rw[z1]at A;have c2:i<s.nx:=hf.1.used i _ hi;have n0:s.nx≠i:=by omega
 have p1:=hf.1.obj i _ hi;have g0:b.data.toList.length=b.size:=by simp
 have f0: ∀(j:Nat) (x:UInt8),b.data.toList[j]? =io x->(Lib.strCells b).getD j undef= .int .u8 (x.toNat:Int):=by
  intro j x hx;simp only[Lib.strCells,W2,W9,hx,Ya,X9]
 have c0: ∀z:Array Value,(∀(j:Nat) (x:UInt8),l[j]? =io x->z.getD j undef= .int .u8 (x.toNat:Int))->(∀j,j<b.size->z.getD (len+j) undef=(Lib.strCells b).getD j undef)->
   ∀(j:Nat) (x:UInt8),(l++b.data.toList)[j]? =io x->z.getD j undef= .int .u8 (x.toNat:Int):=by
  intro z h1 h2 j x G;rcases XZ j l.length with hk|hk
  .rw[Xn hk]at G;exact h1 j x G
  .rw[Xl hk]at G;have v0:j-l.length<b.size:=by rw[<-g0];exact(W4.1 G).1
   have:=h2 _ v0;rw[f0 _ _ G,show len+(j-l.length)=j by omega]at this;exact this
 have b0: ∀(I:List Value) (a0:Nat),I.length=len->(∀(j:Nat) (x:UInt8),l[j]? =io x->I.getD j undef= .int .u8 (x.toNat:Int))->len+b.size<=a0->a0<=maxLen->0<len+b.size->
   ∀z:Array Value,z=I.toArray++(Lib.strCells b).toArray++Builtin.zeroCells (Value.int .u8 0).cells (a0-(len+b.size))->
   ∃M' Y,Ext M N (· <s.nx) s.h w M' Y (· <(uu s i (l++b.data.toList) u).nx) (uu s i (l++b.data.toList) u).h (w.drew.alloc (.cells z u))∧Fits M' Y (uu s i (l++b.data.toList) u) nt a (w.drew.alloc (.cells z u))∧
    VR M' Y (· <(uu s i (l++b.data.toList) u).nx) (.sl s.nx 0 (len+b.size) 1) (.slice (io ⟨w.heap.size,0,is⟩) (len+b.size) a0):=by
  intro I a0 i1 w1 p0 n1 w0 z d1;have a2:(Value.int IntKind.u8 0).cells.size=1:=rfl;have J:z.size=a0:=by
   rw[d1,YE,YE,size_zeroCells,a2];simp only[Zg,i1,Lib.strCells_length];omega
  obtain⟨Y,h1,h2,h3,h4,h5⟩:=hf.1.drew.alloc (.cells z u) (.bz (l++b.data.toList) u) z.size (fun Y g1 g2 g3=>by
   refine .inr ⟨z,by rw[g1];exact heap_alloc_new _ _,g2.symm,by rw[J,W1,D,g0];omega,c0 z (fun j x G=>?_) (fun j G=>?_)⟩
   .have d2:=(W4.1 G).1;have e1:z.getD j undef=I.getD j undef:=by
     rw[d1,WZ,ZH,XF (by simp;omega),W2];simp
    rw[e1];exact w1 j x G
   .rw[d1,WZ,XF (by simp[Lib.strCells_length];omega),YV (by simp;omega),W2]
    simp[i1])
  have s1:=(h5.del i).swap (Ne.symm n0);have x1:=(((Ext.drew (M:=M) (N:=N) (U:=(· <s.nx)) (h:=s.h) (w:=w)).trans h4).del i).swap (Ne.symm n0);obtain⟨g1,g2⟩:=rE hf x1 s1;refine⟨M,Y,g1,g2,?_⟩;have:=VR.sl (M:=M) (N:=Y) (U:=(· <s.nx+1)) s.nx 0 (len+b.size) 1 a0 (by omega) w0 p0 n1 (by rw[h2,J];simp);rw[h1,YD]at this;exact this
 generalize a.eval x=vx at a1 A;cases a1 with
 |lx _ _ hU=>
  have he:l=[]:=XL D;subst he;by_cases hm:b.size=0
  .have o0:b.data.toList=[]:=XL (by rw[g0];exact hm);have B:=gy (P:=P) w t tu o.type u ii m0 k0 i0 is 0 0 (W8 _) b hm (.inl Z);obtain⟨h1,h2⟩:=hf.1.ON u;obtain⟨g1,g2⟩:=rE (i:=i) (l:=[]) (u:=u) hf ((h1.del i).swap (Ne.symm n0)) ((h2.del i).swap (Ne.symm n0));rw[o0,hm];exact⟨_,w,M,N,A _ _ B,g1,g2,.lx _ _ (by simp only[uu];omega)⟩
  .have B:=run_append_nil_string (P:=P) w t tu o.type u ii (.int .u8 0) m0 k0 i0 t0 b (by omega) (by omega) (by rw[r0];omega);have e1:(b.data.map fun b=>Value.int .u8 b.toNat)=(Lib.strCells b).toArray:=by
    apply Array.ext';simp[Lib.strCells]
   rw[e1]at B;obtain⟨M',Y,g1,g2,g3⟩:=b0 [] (grownCap w b.size 0 u) Z (by simp) (by simpa using grownCap_ge w b.size 0 u) (grownCap_le_maxLen w _ _ _ (by simp only[maxLen];omega)) (by omega) _ Z;simp only[Xo,Xq,aau] at*
   exact⟨_,_,M',Y,A _ _ B,by simpa using g1,by simpa using g2,by simpa using g3⟩
 |sl _ _ _ _ a0 hU h0 hl hc hext=>
  rcases p1 with rfl|⟨cur,q1,q2,q3,q4⟩
  .simp at D;omega
  have d0:(AO.bz l u).real=jp:=by cases l with
   |nil=>simp at D;omega
   |cons=>rfl
  rw[YD]at A;have q0:cur.size=a0:=by rw[q2,<-hext];omega
  by_cases hm:b.size=0
  .have o0:b.data.toList=[]:=XL (by rw[g0];exact hm);have B:=gy (P:=P) w t tu o.type u ii m0 k0 i0 (io ⟨N.aA i,0,is⟩) len a0 hl b hm (.inr ⟨_,_,rfl⟩)
   obtain⟨h1,h2⟩:=hf.1.move hi d0 w (.bz (l++ []) u) Z Z Z Z (fun _ _=>rfl) (by
    rw[XM]
    exact .inr ⟨cur,by simpa using q1,by simpa using q2,q3,q4⟩)
   obtain⟨g1,g2⟩:=rE (i:=i) hf h1 h2;rw[o0,hm];refine⟨_,w,M,_,A _ _ B,g1,g2,?_⟩;have:=VR.sl (M:=M) (N:=N.with s.nx (N.aA i) (N.ext i)) (U:=(· <s.nx+1)) s.nx 0 len 1 a0 (by omega) h0 hl hc (by simpa using hext);simpa[uu]using this
  .by_cases e0:len+b.size<=a0
   .have B:=mf (P:=P) w t tu o.type u ii m0 k0 i0 s0 u (N.aA i) len a0 cur q1 b e0 (by omega);generalize hL:(cur.toList.take len++Lib.strCells b++cur.toList.drop (len+b.size)).toArray=L at B;have f1:L.size=cur.size:=by rw[<-hL];simp[Lib.strCells_length];omega
    have x0:=setRow_heap w (N.aA i) cur L u (0,0) q1;have k1: ∀j,j<len->L.getD j undef=cur.getD j undef:=by
     intro j G;rw[<-hL,WZ,WZ];simp only[XP];rw[Xf,Xn (by simp;omega),XK,am G,Xz]
    have j1: ∀j,j<b.size->L.getD (len+j) undef=(Lib.strCells b).getD j undef:=by
     intro j G;rw[<-hL,WZ,W2];simp only[XP];rw[Xn (by simp[Lib.strCells_length];omega),Xl (by simp;omega)];congr 2;simp;omega
    obtain⟨h1,h2⟩:=hf.1.move hi d0 (w.setRow (N.aA i) L) (.bz (l++b.data.toList) u) Z Z Z (by simp) (fun b hb=>by
      simp only[World.setRow,XB]
      rw[be (fun e=>hb e.symm)]) (by
     refine .inr ⟨L,by simpa using x0,by rw[f1];simpa using q2,by rw[f1,q0,W1,D,g0];omega,c0 L (fun j x G=>?_) j1⟩;rw[k1 j (by rw[<-D];exact(W4.1 G).1)]
     exact q4 j x G)
    obtain⟨g1,g2⟩:=rE (i:=i) hf h1 h2;refine⟨_,_,M,_,A _ _ B,g1,g2,?_⟩;have:=VR.sl (M:=M) (N:=N.with s.nx (N.aA i) (N.ext i)) (U:=(· <s.nx+1)) s.nx 0 (len+b.size) 1 a0 (by omega) (by omega) e0 hc (by simpa using hext);simpa[uu]using this
   .have j0: ∀(j:Nat) (v:Value),(cur.toList.take len)[j]? =io v->w.cell? ((⟨N.aA i,0,is⟩:Addr).add j)=io v:=by
     intro j v hv;rw[XK]at hv;split at hv
     .rw[c9,Xo];simp only[World.cell?,q1];simpa using hv
     .cases hv
    have B:=Lib.run_append_grow_string (P:=P) w t tu o.type u ii (.int .u8 0) m0 k0 i0 t0 ⟨N.aA i,0,is⟩ len a0 (cur.toList.take len) (by rw[s0];simp;omega) j0 b (by omega) (by omega)
     (by rw[r0];exact growslice_fits (by omega) (by omega))
    obtain⟨M',Y,g1,g2,g3⟩:=b0 (cur.toList.take len) (grownCap w (len+b.size) a0 u) (by simp;omega) (fun j x G=>by
      have:=q4 j x G;have v0:j<len:=by rw[<-D];exact(W4.1 G).1
      rw[W2,XK,am v0,Xz]
      rw[WZ]at this;exact this) (grownCap_ge w _ _ _) (grownCap_le_maxLen w _ _ _ (by simp only[maxLen];omega)) (by omega) _ Z
    exact⟨_,_,M',Y,A _ _ B,g1,g2,g3⟩
theorem NG(Y:bq P ty){all rest:List Oper}{o:Oper}{x y:Operand}{t tu u d:Nat}{e et eu:bC}{i len:Nat}{l:List UInt8}{b:ByteArray}(ho:o.op= .call ⟨.builtin .append, #[x,y], #[t,tu]⟩)(hg:o.guard=is)(ht:ty t=io e)(hk:e.k= .aP (.slice u))(J:ty tu=io et)(D:et.k= .aP .string)(hu:ty u=io eu)
  (hx:ev s.f x= .sl i 0 len 1) (hi:s.h.get i=io (.bz l u)) (I:eu.size=1) (B:eu.bytes=1) (hz:eu.zero= .int .u8 0)
  (G:ev s.f y= .iv (.v (.string b))) (hd:o.dst=io d) (hlt:Xx d nt=jp) (j:l.length=len) (A:len+b.size<=140737488355328)
  (h:GO P nt (.ops all rest::k) Q ⟨(d,.sl s.nx 0 (l++b.data.toList).length 1)::s.f,(s.nx,io (.bz (l++b.data.toList) u))::(i,is)::s.h,s.nx+1⟩):GO P nt (.ops all (o::rest)::k) Q s:=by
 have e:(l++b.data.toList).length=len+b.size:=by rw[W1,j];simp
 rw[e]at h
 exact bB hg (Mv Y ho ht hk J D hu hx hi j I B hz G A (s':=⟨(d,.sl s.nx 0 (len+b.size) 1)::s.f,(s.nx,io (.bz (l++b.data.toList) u))::(i,is)::s.h,s.nx+1⟩) (by
  simp only[putDst,uu,hd,hlt,cond_true,dL])) fun t ht=>by subst ht;exact h
theorem H7{o:Oper}{I:Operand}(ho:o.op= .next I jp){i:Nat}(J:ev s.f I= .ptr i 0){b:ByteArray}{a0:Nat}(hi:s.h.get i=io (.eG b a0)){d:Nat}(hd:o.dst=io d)(hlt:Xx d nt=jp):
  OT P nt o s (fun t=>(b.size<=a0∧t=⟨(d,.a7 [.kb kw])::s.f,s.h,s.nx⟩)∨
   (a0<b.size∧t=⟨(d,.a7 [.kb jp,.iv (.v (.int .i64 (a0:Nat))),.iv (.v (.int .i32 (Utf8.decode b a0).1))])::s.f,(i,io (.eG b (a0+(Utf8.decode b a0).2)))::s.h,s.nx⟩)):=by
 intro M N a w hf K Z hk;have Y:=aO hf.2.1 I;rw[J]at Y;have A:w.heap[N.aA i]? =io (.stringIter b a0):=hf.1.obj i _ hi;have B:N.aA i<w.heap.size:=(Yh.1 A).1;have D:d<nt:=WY hlt;have G:a.eval I= .pointer (io ⟨N.aA i,0,is⟩):=by
  generalize a.eval I=y at Y;cases Y;rfl
 unfold Oper.wp;by_cases u:a0<b.size
 .have x:(execOp a.eval o).run P w= .ok (.value (.tuple #[.bool jp,.int .i64 (a0:Nat),.int .i32 (Utf8.decode b a0).1])) {w with heap:=w.heap.setIfInBounds (N.aA i) (.stringIter b (a0+(Utf8.decode b a0).2))}:=by
   simp only[execOp,ho,G];simp[Instr.next,getObj,setObj,Sem.run,A,u,Result.andThen,goInt]
  rw[x];simp only[Oper.upon]
  obtain⟨q1,q2⟩:=hf.1.write hi rfl {w with heap:=w.heap.setIfInBounds (N.aA i) (.stringIter b (a0+(Utf8.decode b a0).2))} (.eG b (a0+(Utf8.decode b a0).2)) rfl rfl rfl (by simp) (fun c hc=>by
   show(w.heap.setIfInBounds _ _)[c]? =_
   rw[XD,be (fun e=>hc e.symm)]) (by
   show(w.heap.setIfInBounds _ _)[_]? =_
   rw[XD,am rfl,am B])
  refine hk M N _ _ _ q1 ?_ (.inr ⟨u,rfl⟩);rw[hd];refine Fits.put (s:=⟨s.f,(i,io (.eG b (a0+(Utf8.decode b a0).2)))::s.h,s.nx⟩) ⟨q2,hf.2⟩ d _ _ D (.a7 _ _ rfl fun q p u=>?_)
  match q with
  |0=>simp at u;subst u;exact .kb _
  |1=>simp at u;subst u;exact .iv _ _ (.v _)
  |2=>simp at u;subst u;exact .iv _ _ (.v _)
  |q+3=>simp at u
 .have x:(execOp a.eval o).run P w= .ok (.value (.tuple #[.bool kw])) w:=by
   simp only[execOp,ho,G];simp[Instr.next,getObj,Sem.run,A,u,Result.andThen]
  rw[x];simp only[Oper.upon];refine hk M N ⟨(d,.a7 [.kb kw])::s.f,s.h,s.nx⟩ _ w (.refl _ _ _ _ _) ?_ (.inl ⟨by omega,rfl⟩);rw[hd]
  exact hf.put d _ _ D (.a7 _ _ rfl fun j p u=>by
    match j with
    |0=>simp at u;subst u;exact .kb _
    |j+1=>simp at u)
theorem mE{all rest:List Oper}{o:Oper}{u:Operand}{i:Nat}{b:ByteArray}{a0 d:Nat}(ho:o.op= .next u jp)(hg:o.guard=is)(j:ev s.f u= .ptr i 0)(hi:s.h.get i=io (.eG b a0))(hd:o.dst=io d)(hlt:Xx d nt=jp)
  (h1:b.size<=a0->GO P nt (.ops all rest::k) Q ⟨(d,.a7 [.kb kw])::s.f,s.h,s.nx⟩)
  (x:a0<b.size->GO P nt (.ops all rest::k) Q ⟨(d,.a7 [.kb jp,.iv (.v (.int .i64 (a0:Nat))),.iv (.v (.int .i32 (Utf8.decode b a0).1))])::s.f,(i,io (.eG b (a0+(Utf8.decode b a0).2)))::s.h,s.nx⟩):
  GO P nt (.ops all (o::rest)::k) Q s:=by
 refine bB hg (H7 ho j hi hd hlt) fun t ht=>?_;rcases ht with⟨g1,rfl⟩|⟨g1,rfl⟩
 .exact h1 g1
 .exact x g1
theorem yz(y:bq P ty){all rest:List Oper}{o:Oper}{x:Operand}{t d:Nat}{b:ByteArray}{e:bC}(ho:o.op= .range t x)(hg:o.guard=is)(ht:ty t=io e)(hk:e.k= .aP .string)(I:ev s.f x= .iv (.v (.string b)))(hd:o.dst=io d)(hlt:Xx d nt=jp)
  (h:GO P nt (.ops all rest::k) Q ⟨(d,.ptr s.nx 0)::s.f,(s.nx,io (.eG b 0))::s.h,s.nx+1⟩):GO P nt (.ops all (o::rest)::k) Q s:=by
 have A:P.underlying t=io .string:=by
  have:=(y t _ ht).2.1;rw[hk]at this;exact this.1
 refine bB (R:=fun t=>t=⟨(d,.ptr s.nx 0)::s.f,(s.nx,io (.eG b 0))::s.h,s.nx+1⟩) hg (OT.value (s1:=newObj s (.eG b 0)) (p:= .ptr s.nx 0) (by cases s;simp only[putDst,newObj,hd,hlt,cond_true,dL]) fun M N a w hf=>?_) fun t ht=>by subst ht;exact h
 have j:=aO hf.2.1 x;rw[I]at j;have B:a.eval x= .string b:=by
  generalize a.eval x=v at j;cases j with
  |iv _ _ h=>cases h;rfl
 obtain⟨u,h1,J,Y,D,G⟩:=hf.1.alloc (.stringIter b 0) (.eG b 0) 0 (fun u g1 g2 g3=>by
  show(w.alloc _).heap[u.aA s.nx]? =_
  rw[g1];exact heap_alloc_new w _)
 refine⟨.pointer (io ⟨w.heap.size,0,is⟩),_,M,u,?_,D,eB hf D G,?_⟩
 .simp only[execOp,ho,B];simp[Instr.range,run_underlying A]
 .have:=VR.ptr (M:=M) (N:=u) (U:=(· <s.nx+1)) s.nx 0 (by omega);rw[h1]at this;exact this
end
section
variable {P:Program} {ty:Ty} {nt:NT} {s:AS} {Q:AQ} {k:List KI}
theorem pC(a0:bq P ty){all rest:List Oper}{o:Oper}{x:Operand}{t t' u d:Nat}{b:ByteArray}{et c0 eu:bC}(ho:o.op= .convert t t' x)(hg:o.guard=is)(ht:ty t=io et)(hk:et.k= .aP .string)(k0:ty t'=io c0)(g0:c0.k= .aP (.slice u))(hu:ty u=io eu)(i0:eu.k= .aP (.int .u8))
  (hx:ev s.f x= .iv (.v (.string b))) (hd:o.dst=io d) (hlt:Xx d nt=jp) (hb:b.size<=1000000000)
  (h:GO P nt (.ops all rest::k) Q ⟨(d,.iv (.bI 1 b.data.toList.length fun k=>aH (b.data.toList.getD k co)))::s.f,s.h,s.nx⟩):GO P nt (.ops all (o::rest)::k) Q s:=by
 have hs:P.underlying t=io .string:=by have:=(a0 t _ ht).2.1;rw[hk]at this;exact this.1
 have j0:P.underlying t'=io (.slice u):=by have:=(a0 t' _ k0).2.1;rw[g0]at this;exact this.1
 have m0:P.underlying u=io (.int .u8):=by have:=(a0 u _ hu).2.1;rw[i0]at this;exact this.1
 refine bB (R:=fun t=>t=⟨(d,.iv (.bI 1 b.data.toList.length fun k=>aH (b.data.toList.getD k co)))::s.f,s.h,s.nx⟩) hg (OT.value (s1:=s) (p:= .iv (.bI 1 b.data.toList.length fun k=>aH (b.data.toList.getD k co))) (by cases s;simp only[putDst,hd,hlt,cond_true,dL]) fun M N a w hf=>?_) fun t ht=>by subst ht;exact h
 have b0:=aO hf.2.1 x;rw[hx]at b0;have n0:a.eval x= .string b:=by
  generalize a.eval x=v at b0;cases b0 with
  |iv _ _ h=>cases h;rfl
 have I:=Go.run_bytes_of_string (P:=P) w t t' u b hs j0 m0;generalize hC:bytesRow b (grownCap w b.size 0 u)=C at I;have B:M w.heap.size=is:=by
  cases hm:M w.heap.size with
  |none=>rfl
  |some c=>exact absurd (hf.1.dK _ _ hm).lt (ZC _)
 have D: ∀c,c<w.heap.size->(w.drew.alloc (.cells C u (C.size,C.size+1))).heap[c]? =w.heap[c]? :=fun c A=>by
  show(w.heap.push _)[c]? =_;rw[Zj,be (by omega)]
 have hnew:(w.drew.alloc (.cells C u (C.size,C.size+1))).heap[w.heap.size]? =io (.cells C u (C.size,C.size+1)):=by
  show(w.heap.push _)[w.heap.size]? =_;simp
 have d0: ∀j,j<b.data.toList.length->C[j]? =io (.int .u8 ((b.data.toList.getD j co).toNat:Int)):=by
  intro j hj;have J:j<b.data.size:=by simpa using hj
  rw[<-hC];simp only[bytesRow];rw[XF (by simpa using J)];simp[W2];exact⟨b.data[j],XJ J,by rw[XJ J];rfl⟩
 have G:=grownCap_ge w b.size 0 u;refine⟨.slice (io ⟨w.heap.size,0,is⟩) b.size (grownCap w b.size 0 u),w.drew.alloc (.cells C u (C.size,C.size+1)),M.set w.heap.size (.cells C) B,N,?_,?_,?_,?_⟩
 .simp only[execOp,ho,n0];rw[Sem.run_bind,I];rfl
 .have q1:M.le (M.set w.heap.size (.cells C) B):=fun c e A=>by
   simp only[Mem.set];rw[be fun e2=>by rw[e2,B]at A;cases A];exact A
  have q2: ∀c e,M c=is->(M.set w.heap.size (.cells C) B) c=io e->w.heap.size<=c∨ ∃i o,s.h.get i=io o∧o.real=jp∧N.aA i=c:=fun c e h1 h2=>by
   simp only[Mem.set]at h2;by_cases he:c=w.heap.size
   .exact .inl (by omega)
   .rw[be he,h1]at h2;cases h2
  exact⟨rfl,rfl,⟨rfl,Yw _⟩,(by show w.heap.size<=(w.heap.push _).size;simp),fun c A _=>D c A,q1,q2,.refl _ _,fun _ h=>h,fun i o hi y=> .inr ⟨i,o,hi,y,rfl⟩⟩
 .have e0:M.le (M.set w.heap.size (.cells C) B):=fun c e A=>by
   simp only[Mem.set];rw[be fun e2=>by rw[e2,B]at A;cases A];exact A
  refine⟨⟨fun c e A=>?_,hf.1.used,fun i o hi y=>?_,fun i o hi=>?_,hf.1.inj⟩,fun i=>(hf.2.1 i).mono e0 (.refl _ _) fun _ h=>h,hf.2.2⟩
  .simp only[Mem.set]at A;by_cases he:c=w.heap.size
   .rw[am he]at A;cases A;exact⟨u,(C.size,C.size+1),by rw[he];exact hnew⟩
   .rw[be he]at A;exact(hf.1.dK c e A).mono (D c (hf.1.dK c e A).lt)
  .simp only[Mem.set];have:=hf.1.lt hi y;rw[be (by omega)];exact hf.1.dS i o hi y
  .cases y:o.real with
   |true=>exact(hf.1.obj i o hi).mono e0 (.refl _ _) (fun _ h=>h) (hf.1.used i o hi) (D _ (hf.1.lt hi y))
   |false=>
    cases o with
    |row sz es=>cases es with
     |nil=>exact .inl Z
     |cons=>cases y
    |bz l T=>cases l with
     |nil=>exact .inl Z
     |cons=>cases y
    |_=>cases y
 .have f0:b.data.toList.length=b.size:=by simp
  rw[<-f0]at G ⊢;by_cases h0:b.data.toList.length=0
  .rw[h0];exact .iv _ _ (.fS _ _ _ _)
  .refine .iv _ _ (.bI _ _ _ _ _ _ (by omega) (grownCap_le_maxLen w _ _ _ (by simp only[maxLen];omega)) (fun _ _=>rfl) (fun k j hk hj=>?_) (fun k j p hk hp=>?_))
   .have Y:j=0:=by omega
    subst Y;have:=d0 k hk;simp only[Mem.cell,Mem.set,if_true,Xo,Zu,YC,this,Option.isSome_some]
   .have Y:j=0:=by
     have:=(W4.1 hp).1;simp[aH]at this;exact this
    subst Y;cases hp;have:=d0 k hk;simp only[Mem.cell,Mem.set,if_true,Xo,Zu,YC,this,X9];exact .v _
theorem NP(D:bq P ty)(l:List UInt8){all rest:List Oper}{o:Oper}{x:Operand}{t G u d i n:Nat}{es:List (List PV)}{et J eu:bC}(ho:o.op= .convert t G x)(hg:o.guard=is)(ht:ty t=io et)(hk:et.k= .aP (.slice u))(j0:ty G=io J)(f0:J.k= .aP .string)(hu:ty u=io eu)(g0:eu.k= .aP (.int .u8))
  (hx:ev s.f x= .sl i 0 n 1) (hi:s.h.get i=io (.row 1 es)) (hd:o.dst=io d) (hlt:Xx d nt=jp) (hes:es=l.map fun x=>(aH x).map .iv) (hn:n=l.length)
  (h:GO P nt (.ops all rest::k) Q ⟨(d,.iv (.v (.string ⟨l.toArray⟩)))::s.f,s.h,s.nx⟩):GO P nt (.ops all (o::rest)::k) Q s:=by
 have hs:P.underlying G=io .string:=by have:=(D G _ j0).2.1;rw[f0]at this;exact this.1
 have c0:P.underlying t=io (.slice u):=by have:=(D t _ ht).2.1;rw[hk]at this;exact this.1
 have d0:P.underlying u=io (.int .u8):=by have:=(D u _ hu).2.1;rw[g0]at this;exact this.1
 subst hn;subst hes;refine bB (R:=fun t=>t=⟨(d,.iv (.v (.string ⟨l.toArray⟩)))::s.f,s.h,s.nx⟩) hg (OT.value (s1:=s) (p:= .iv (.v (.string ⟨l.toArray⟩))) (by cases s;simp only[putDst,hd,hlt,cond_true,dL]) fun M N a w hf=>?_) fun t ht=>by subst ht;exact h
 have A:=aO hf.2.1 x;rw[hx]at A;have b0:(convert t G (a.eval x)).run P w= .ok (.string ⟨l.toArray⟩) w:=by
  generalize a.eval x=v at A;cases hor:l with
  |nil=>
   rw[hor]at A;generalize I:PV.sl i 0 ([]:List UInt8).length 1=q at A;cases A with
   |sl _ _ _ _ _ _ h0=>cases I;simp at h0
   |lx _ _ _=>
    have:=run_convert_bytes_nil (P:=P) w t u c0 d0 0 0 G hs;exact this
   |_=>cases I
  |cons x0 r0=>
   rw[<-hor];have a0:0<l.length:=by rw[hor];simp
   generalize i0:l.length=n at A a0;generalize I:PV.sl i 0 n 1=q at A;cases A with
   |sl _ _ _ _ cap hU h0 hl hc he=>
    cases I;rcases hf.1.obj i _ hi with B|⟨_,c,T,q1,q2,q3,q4,q5⟩
    .rw[hor]at B;cases B
    rw[YD,<-i0];refine run_convert_bytes_back (P:=P) w t G u ⟨N.aA i,0,is⟩ cap l c0 d0 hs fun j hj=>?_;rw[c9,Xo];have Y:j<c.size:=by rw[Xw]at q3;omega
    have:=q5 j [.iv (.v (.int .u8 (l[j].toNat:Int)))] 0 _ (by rw[W9,W5 hj];rfl) Z;rw[Zu,YC,WZ,XJ Y,X9]at this;simp only[World.cell?,q1];generalize e0:c[j]=y at this;cases this with
    |iv _ _ h=>cases h;simp[Y,e0]
   |lx _ _ _=>cases I;omega
   |_=>cases I
 exact⟨_,w,M,N,by simp only[execOp,ho];exact a8 b0,.refl _ _ _ _ _,hf,.iv _ _ (.v _)⟩
theorem uT(y:bq P ty){all rest:List Oper}{o:Oper}{x:Operand}{t A d:Nat}{q J:IntKind}{n:Int}{I u:bC}(ho:o.op= .convert t A x)(hg:o.guard=is)(ht:ty t=io I)(hk:I.k= .aP (.int q))(D:ty A=io u)(B:u.k= .aP .string)
  (Y:ev s.f x= .iv (.v (.int J n))) (hd:o.dst=io d) (hlt:Xx d nt=jp)
  (h:GO P nt (.ops all rest::k) Q ⟨(d,.iv (.v (.string (Utf8.encode n))))::s.f,s.h,s.nx⟩):GO P nt (.ops all (o::rest)::k) Q s:=by
 have hs:P.underlying A=io .string:=by have:=(y A _ D).2.1;rw[B]at this;exact this.1
 have hi:P.underlying t=io (.int q):=by have:=(y t _ ht).2.1;rw[hk]at this;exact this.1
 refine bB (R:=fun t=>t=⟨(d,.iv (.v (.string (Utf8.encode n))))::s.f,s.h,s.nx⟩) hg (OT.value (s1:=s) (p:= .iv (.v (.string (Utf8.encode n)))) (by cases s;simp only[putDst,hd,hlt,cond_true,dL]) fun M N a w hf=>?_) fun t ht=>by subst ht;exact h
 have j:=aO hf.2.1 x;rw[Y]at j;have G:a.eval x= .int J n:=by
  generalize a.eval x=v at j;cases j with
  |iv _ _ h=>cases h;rfl
 refine⟨_,w,M,N,?_,.refl _ _ _ _ _,hf,.iv _ _ (.v _)⟩;simp only[execOp,ho,G];refine a8 ?_;simp[convert,run_underlying hi,run_underlying hs,Conv.intToString]
end
def b4{kc:KC}{V:Type}(key:V->kc.K)(m:List (kc.K×V))(S:List V):Prop:= ∃T:List V,T.Perm S∧m=T.map fun v=>(key v,v)
section
variable {kc:KC} {V:Type} {key:V->kc.K}
theorem Jp(T:List V)(f:V)(j: ∀u∈T,key u=key f->u=f):dA kc (T.map fun v=>(key v,v)) (key f)=jp↔f∈T:=by
 induction T with
 |nil=>simp[dA]
 |cons v r ih=>
  simp only[W7,dA];have x:=ih fun u hu=>j u (Xi _ hu);by_cases e:key v=key f
  .have:=j v (Xk ..) e;subst this;simp
  .rw[be e,x,Xm];exact⟨.inr,fun q=>q.resolve_left fun q=>e (by rw[q])⟩
theorem zx(T:List V)(f:V)(hn: ∀u∈T,key u≠key f):cS kc (T.map fun v=>(key v,v)) (key f) f=(T++ [f]).map fun v=>(key v,v):=by
 induction T with
 |nil=>rfl
 |cons v r ih=>
  simp only[W7,cS,Xp];rw[be (hn v (Xk ..)),ih fun u hu=>hn u (Xi _ hu)]
theorem J3[DecidableEq V](T:List V)(f:V)(j: ∀u∈T,key u=key f->u=f):lq kc (T.map fun v=>(key v,v)) (key f)=(T.erase f).map fun v=>(key v,v):=by
 induction T with
 |nil=>rfl
 |cons v r ih=>
  simp only[W7,lq];by_cases e:key v=key f
  .have:=j v (Xk ..) e;subst this;rw[am Z,List.erase_cons_head]
  .have x: ¬v=f:=fun q=>e (by rw[q])
   rw[be e,ih fun u hu=>j u (Xi _ hu),List.erase_cons_tail (by simpa using x),W7]
theorem b4.perm{m:List (kc.K×V)}{S j:List V}(h:b4 key m S)(p:S.Perm j):b4 key m j:=by
 obtain⟨T,h1,u⟩:=h;exact⟨T,h1.trans p,u⟩
theorem b4.nil:b4 key ([]:List (kc.K×V)) []:=⟨[],.nil,rfl⟩
theorem b4.len{m:List (kc.K×V)}{S:List V}(h:b4 key m S):m.length=S.length:=by
 obtain⟨T,h1,rfl⟩:=h;rw[Xw,h1.length_eq]
theorem b4.has{m:List (kc.K×V)}{S:List V}(h:b4 key m S){f:V}(j: ∀u∈S,key u=key f->u=f):dA kc m (key f)=jp↔f∈S:=by
 obtain⟨T,h1,rfl⟩:=h;rw[Jp T f fun u hu=>j u (h1.mem_iff.1 hu),h1.mem_iff]
theorem b4.put{m:List (kc.K×V)}{S:List V}(h:b4 key m S){f:V}(j: ∀u∈S,key u=key f->u=f)(hf:f∉S):b4 key (cS kc m (key f) f) (f::S):=by
 obtain⟨T,h1,rfl⟩:=h;refine⟨T++ [f],?_,zx T f fun u hu e=>hf (j u (h1.mem_iff.1 hu) e▸h1.mem_iff.1 hu)⟩;exact(List.perm_append_comm).trans ((List.Perm.cons f h1))
theorem b4.del[DecidableEq V]{m:List (kc.K×V)}{S:List V}(h:b4 key m S){f:V}(j: ∀u∈S,key u=key f->u=f):b4 key (lq kc m (key f)) (S.erase f):=by
 obtain⟨T,h1,rfl⟩:=h;exact⟨T.erase f,h1.erase f,J3 T f fun u hu=>j u (h1.mem_iff.1 hu)⟩
theorem b4.AR{m:List (kc.K×V)}{S:List V}(h:b4 key m S):(m.map (·.2)).Perm S:=by
 obtain⟨T,h1,rfl⟩:=h;rw[Yb];show(T.map id).Perm S;rw[List.map_id];exact h1
end
section
variable {P:Program} {ty:Ty} {nt:NT} {Q:AQ} {k:List KI} {s:AS}
theorem NY{o:Oper}{g:FuncId}{x y:Operand}{ts:Array TypeId}{j u v:Value}(ho:o.op= .call ⟨.value (.func g), #[x,y],ts⟩)(G:ev s.f x= .iv (.v j))(I:ev s.f y= .iv (.v u))
  (hc: ∀w,(callFunc g #[j,u]).run P w= .ok (.value v) w) {s':AS} (hp:putDst nt o (.iv (.v v)) s=io s'):OT P nt o s fun t=>t=s':=by
 refine OT.value hp fun M N a w hf=>⟨v,w,M,N,?_,.refl _ _ _ _ _,hf,.iv _ _ (.v _)⟩
 have h1:=aO hf.2.1 x;have A:=aO hf.2.1 y;rw[G]at h1;rw[I]at A;have B:a.eval x=j:=by
  generalize a.eval x=z at h1;cases h1 with
  |iv _ _ h=>cases h;rfl
 have D:a.eval y=u:=by
  generalize a.eval y=z at A;cases A with
  |iv _ _ h=>cases h;rfl
 simp only[execOp,ho,resolve,Act.eval,Deferred.ofValue,pure_bind,invoke];have: #[]++Array.map a.eval #[x,y]++ #[]= #[j,u]:=by simp[B,D]
 first
  |(rw[this];exact hc w)
  |(simp only[Act.eval] at*;simpa[B,D]using hc w)
theorem NJ{all rest:List Oper}{o:Oper}{g:FuncId}{x y:Operand}{ts:Array TypeId}{j u:Value}(v:Value)(ho:o.op= .call ⟨.value (.func g), #[x,y],ts⟩)(hg:o.guard=is)(A:ev s.f x= .iv (.v j))(B:ev s.f y= .iv (.v u))
  (hc: ∀w,(callFunc g #[j,u]).run P w= .ok (.value v) w) {s':AS} (hp:putDst nt o (.iv (.v v)) s=io s') (h:GO P nt (.ops all rest::k) Q s'):GO P nt (.ops all (o::rest)::k) Q s:=
 bB hg (NY ho A B hc hp) fun t ht=>by subst ht;exact h
end
theorem s9(i sz n:Nat): ∀l:List IV,aY i sz n (l.map .iv)
 | []=>trivial
 |_::r=>⟨ac,s9 i sz n r⟩
theorem EZ{α:Type}(i sz n u:Nat)(l:List α)(f:α->List IV):(aS u l f).kK i sz n:=by
 intro k e j p A B;rw[W9,Xa]at A;obtain⟨x,_,rfl⟩:=A;rw[W9,Xa]at B;obtain⟨y,_,rfl⟩:=B;exact⟨y,rfl⟩
section
variable {P:Program} {ty:Ty} {nt:NT} {s:AS}
theorem qY{M:Mem}{N:Nm}{a:Act}{w:World}(hf:Fits M N s nt a w){x:Operand}{k:IntKind}{n:Int}(h:ev s.f x= .iv (.v (.int k n))):a.eval x= .int k n:=by
 have hi:=aO hf.2.1 x;rw[h]at hi;generalize a.eval x=v at hi;cases hi with
 |iv _ _ hi=>cases hi with
  |v=>rfl
theorem U4(G:bq P ty){o:Oper}{t u:TypeId}{l c:Operand}(ho:o.op= .makeSlice t l c){e eu:bC}(ht:ty t=io e)(hk:e.k= .aP (.slice u))(hu:ty u=io eu)
  {n m sz:Nat} {kl kc:IntKind} {ml nc:Int} (hl:ev s.f l= .iv (.v (.int kl ml))) (hc:ev s.f c= .iv (.v (.int kc nc))) (j0:ml=(m:Int)) (k0:nc=(n:Int)) (hn:0<n) (r0:n<=100000000000) (hb:eu.bytes*n<=281474976710656) (o0:eu.size=sz) (I:eu.zero.cells.size=sz) (n0:0<sz)
  {z:List PV} (hz:z=cj eu.zero) {p:PV} (D:(m=0∧p= .sl s.nx 1 0 sz)∨(m=n∧p= .sl s.nx 0 n sz))
  {s':AS} (hp:putDst nt o p (newObj s (.row sz (X3 n z)))=io s'):OT P nt o s (fun t=>t=s'):=by
 refine OT.value hp fun M N a w hf=>?_;subst hz o0 j0 k0;obtain⟨⟨ii,c0,d0,b0,e0⟩,_⟩:=G u _ hu
 have p0:P.underlying t=io (.slice u):=by
  have:=(G t _ ht).2.1;rw[hk]at this;exact this.1
 have q0:m<=n:=by rcases D with⟨h,_⟩|⟨h,_⟩<;>omega
 have B:=run_make w t u ii eu.zero p0 c0 e0 kl kc (m:Int) (n:Int) (by omega) (by omega) (by rw[b0];omega) (by omega);rw[W6,W6,d0]at B;have J:(cj eu.zero).length=eu.size:=by rw[(fL (M:=M) (N:=N) (U:=(· <s.nx)) eu.zero).1,I]
 have A: ∀(k:Nat) (e:List PV),(X3 n (cj eu.zero))[k]? =io e->k<n∧e=cj eu.zero:=by
  intro k e x;rw[List.getElem?_replicate]at x;split at x
  .exact⟨by assumption,by simpa using x.symm⟩
  .cases x
 obtain⟨Y,h1,h2,h8,h9,a0⟩:=hf.1.alloc (.cells (madeCells eu.zero.cells (n*eu.size)) u) (.row eu.size (X3 n (cj eu.zero))) (n*eu.size) (fun Y g1 g2 g3=>
  .inr ⟨n0,_,u,by rw[g1];exact heap_alloc_new w _,by rw[size_madeCells,g2],by rw[size_madeCells,List.length_replicate];exact W8 _,fun k e x=>by rw[(A k e x).2,J],fun k e j p x hj=>by
   obtain⟨g0,rfl⟩:=A k e x;have f0:j<eu.size:=by rw[<-J];exact(W4.1 hj).1
   have i0:k*eu.size+j<n*eu.size:=by
    have:(k+1)*eu.size<=n*eu.size:=Xt _ g0;rw[XT]at this;omega
   have h7:(madeCells eu.zero.cells (n*eu.size)).getD (k*eu.size+j) undef=eu.zero.cells.getD j undef:=by
    have hx:(Z3 (n*eu.size))[k*eu.size+j]? =io (k*eu.size+j):=by simp[i0]
    have hm:(k*eu.size+j) % eu.zero.cells.size=j:=by rw[I,Nat.add_comm,Nat.add_mul_mod_self_right,Zl f0]
    rw[madeCells,WZ,ZG,hx];simp only[Ya,X9,hm];rw[WZ,getElem!_pos eu.zero.cells j (by omega),XJ (by omega)];rfl
   rw[h7];exact(fL eu.zero).2 j p hj⟩)
 refine⟨.slice (io ⟨w.heap.size,0,is⟩) m n,_,M,Y,?_,h9,eB hf h9 a0,?_⟩
 .simp only[execOp,ho,qY hf hl,qY hf hc];rw[Sem.run_bind,B];rfl
 .have m0:(newObj s (.row eu.size (X3 n (cj eu.zero)))).nx=s.nx+1:=by cases s;rfl
  rw[m0];have y:n<=maxLen:=by simp only[maxLen];omega
  rcases D with⟨rfl,rfl⟩|⟨rfl,rfl⟩
  .have:=VR.sle (M:=M) (N:=Y) (U:=(· <s.nx+1)) s.nx eu.size n (by omega) y (by rw[h2]);rw[h1]at this;exact this
  .have:=VR.sl (M:=M) (N:=Y) (U:=(· <s.nx+1)) s.nx 0 m eu.size m (by omega) hn (W8 _) y (by rw[h2,Xo]);rw[h1,YD]at this;exact this
theorem Sq(x:bq P ty){o:Oper}{t u:TypeId}{l c:Operand}(ho:o.op= .makeSlice t l c){e eu:bC}(ht:ty t=io e)(hk:e.k= .aP (.slice u))(hu:ty u=io eu)
  {sz:Nat} (el:Nat->List IV) {kl kc:IntKind} {ml nc:Int} (hl:ev s.f l= .iv (.v (.int kl ml))) (hc:ev s.f c= .iv (.v (.int kc nc))) (D:ml=0) (G:nc=0)
  {s':AS} (hp:putDst nt o (.iv (.bI sz 0 el)) (newObj s (.row sz []))=io s'):OT P nt o s (fun t=>t=s'):=by
 refine OT.value hp fun M N a w hf=>?_;subst D G;obtain⟨⟨ii,A,b0,a0,B⟩,_⟩:=x u _ hu
 have I:P.underlying t=io (.slice u):=by
  have:=(x t _ ht).2.1;rw[hk]at this;exact this.1
 have j:=run_make w t u ii eu.zero I A B kl kc 0 0 (by omega) (by omega) (by omega) (by omega);obtain⟨J,h1,h2,h8,Y,y⟩:=hf.1.alloc (.cells (madeCells eu.zero.cells ((0:Int).toNat*ii.size)) u) (.row sz []) 0 (fun J g1 g2 g3=> .inl Z);refine⟨.slice (io ⟨w.heap.size,0,is⟩) 0 0,_,M,J,?_,Y,eB hf Y y,.iv _ _ (.fS _ _ _ _)⟩;simp only[execOp,ho,qY hf hl,qY hf hc];rw[Sem.run_bind,j];rfl
theorem SU(D:bq P ty){o:Oper}{t u:TypeId}{x hi:Operand}(ho:o.op= .slice t x is (io hi) is){e eu:bC}(ht:ty t=io e)(hk:e.k= .aP (.slice u))(hu:ty u=io eu)
  {i n m sz:Nat} {kc:IntKind} {J:Int} (hx:ev s.f x= .sl i 0 n sz) (hh:ev s.f hi= .iv (.v (.int kc J))) (G:J=(m:Int)) (a0:m<=n) (hn:0<n)
  {p:PV} (I:(m=0∧p= .sl i 1 0 sz)∨(0<m∧p= .sl i 0 m sz)) {s':AS} (hp:putDst nt o p s=io s'):OT P nt o s (fun t=>t=s'):=by
 refine OT.value hp fun M N a w hf=>?_;subst G
 have A:P.underlying t=io (.slice u):=by
  have:=(D t _ ht).2.1;rw[hk]at this;exact this.1
 have y:P.elem t=u:=by simp[Program.elem,A]
 have B:=aO hf.2.1 x;rw[hx]at B;generalize hv:a.eval x=vx at B;cases B with
 |lx=>omega
 |sl _ _ _ _ cap hU h0 hl hc hext=>
  have j:=run_slice_h (P:=P) (w:=w) t (io ⟨N.aA i,0*sz,is⟩) n cap (by rw[y];exact A) kc (m:Int) (by omega) (by omega);rw[y,aQ (D u _ hu)]at j;refine⟨sliced (io ⟨N.aA i,0*sz,is⟩) 0 m cap eu.size,w,M,N,?_,.refl _ _ _ _ _,hf,?_⟩
  .simp only[execOp,ho,hv,Ya,Y7,qY hf hh];refine a8 ?_;rw[run_sliceAt_slice w t _ _ _ _ (by rw[y];exact A),j];rfl
  .rcases I with⟨rfl,rfl⟩|⟨Y,rfl⟩
   .have:=VR.sle (M:=M) (N:=N) (U:=(· <s.nx)) i sz cap hU hc (by rw[<-hext,Xo]);simpa[sliced,Addr.add]using this
   .have:=VR.sl (M:=M) (N:=N) (U:=(· <s.nx)) i 0 m sz cap hU Y (by omega) hc hext;simpa[sliced,Addr.add]using this
theorem OC(k0:bq P ty){o:Oper}{x y:Operand}{t u:TypeId}(ho:o.op= .call ⟨.builtin .append, #[x,y], #[t,t]⟩){e eu:bC}(ht:ty t=io e)(hk:e.k= .aP (.slice u))(hu:ty u=io eu)
  {i sz:Nat} {es news:List (List PV)} {py:PV} (hx:ev s.f x= .sl i 1 0 sz) (hi:s.h.get i=io (.row sz es)) (z0:eu.size=sz) (c0:news.length<=es.length) (hm:0<news.length)
  (x0:ev s.f y=py) (hy:Src s.h sz py news) (f0: ∀e∈news,dB e=jp)
  {s':AS} (hp:putDst nt o (.sl s.nx 0 news.length sz) (iN s i sz [] news)=io s'):OT P nt o s (fun t=>t=s'):=by
 refine OT.value hp fun M N a w hf=>?_;subst z0;obtain⟨⟨ii,s0,e0,f1,i1⟩,_⟩:=k0 u _ hu
 have a1:P.underlying t=io (.slice u):=by
  have:=(k0 t _ ht).2.1;rw[hk]at this;exact this.1
 have i0:=aO hf.2.1 x;rw[hx]at i0;have o0:=aO hf.2.1 y;rw[x0]at o0;obtain⟨I,ao,c,d1,a0⟩:=hy.ok hf o0;have B: ∀v w',(Builtin.append_ #[t,t] o.type #[a.eval x,a.eval y]).run P w= .ok v w'->(execOp a.eval o).run P w= .ok (.value v) w':=by
  intro v w' h;simp only[execOp,ho,resolve];simp[invoke,builtin,h]
 rw[d1]at B;have J:(AO.row eu.size es).real=jp:=by cases es with
  |nil=>exact absurd c0 (by simp only[Yg];omega)
  |cons=>rfl
 rcases hf.1.obj i _ hi with rfl|⟨hsz0,cur,T,q1,q2,q3,q4,q5⟩
 .cases J
 generalize a.eval x=vx at i0 B;cases i0 with
 |sl _ _ _ _ _ _ h0=>exact absurd h0 (ZC _)
 |sle _ _ cap hU hc hext=>
  have G:cur.size=cap*eu.size:=by rw[q2,<-hext]
  have A:news.length<=cap:=by
   have:es.length*eu.size<=cap*eu.size:=by rw[<-G];exact q3
   have:=Nat.le_of_mul_le_mul_right this hsz0;omega
  obtain⟨b2,e1,q0,b0⟩:=a0 (List.ne_nil_of_length_pos hm);subst q0;obtain⟨vs,m0,b1,n0⟩:=lu (s:=s) b0;have Y:vs.length=news.length*eu.size:=by rw[m0,fF I]
  have r0:vs.length<=cur.size:=by rw[Y,G];exact Xt _ A
  have d0: ∀v∈vs,v.oneCell'=jp:=by
   intro v hv;obtain⟨j,hj⟩:=XU hv;have t0:j<news.flatten.length:=by rw[<-m0];exact(W4.1 hj).1
   have hp:=W5 t0;obtain⟨k,e,i',h1,h2,_⟩:=jS I j _ hp;have:=(n0 j _ hp).one (gE (f0 e (XE h1)) i' _ h2);rw[W2,hj]at this;exact this
  have D:=jl (P:=P) (w:=w) t o.type u ii a1 s0 T (N.aA i) 0 cap cur q1 ⟨b2,e1,is⟩ news.length c vs (by rw[Y,e0]) b1 d0 (by omega) (by rw[e0];omega);rw[e0]at D;generalize hL:(cur.toList.take (0*eu.size)++vs++cur.toList.drop (0*eu.size+vs.length)).toArray=L at D;rw[Xo]at D;have j0:L.size=cur.size:=by rw[<-hL];simp;omega
  have g0:=setRow_heap w (N.aA i) cur L T (0,0) q1;have p0: ∀j,j<vs.length->L.getD j undef=vs.getD j undef:=by
   intro j hj;rw[<-hL,WZ,W2];simp only[XP];rw[Xn (by simp;omega),Xl (by simp)];simp
  obtain⟨h1,h2⟩:=hf.1.move hi J (w.setRow (N.aA i) L) (.row eu.size ([]++news)) Z Z Z (by simp) (fun b hb=>by
    simp only[World.setRow,XB]
    rw[be (fun e=>hb e.symm)]) (by
   refine .inr ⟨hsz0,L,T,by simpa using g0,by rw[j0];simpa using q2,by rw[j0,G];exact Xt _ A,fun k e he=>I _ e he,fun k e j p he hj=>?_⟩;have j1:j<eu.size:=by rw[<-I _ e he];exact(W4.1 hj).1
   have v0:k<news.length:=(W4.1 he).1;have w0:k*eu.size+j<vs.length:=by
    rw[Y];have:(k+1)*eu.size<=news.length*eu.size:=Xt _ v0;rw[XT]at this;omega
   rw[p0 _ w0]
   exact(n0 _ p (jR I _ e j p he hj)).mono (.refl _) (N.dx _ _ _) (fun i hi=>by omega))
  obtain⟨g1,g2⟩:=jf (es:=[]) (news:=news) (i:=i) hf h1 h2;refine⟨_,_,M,_,B _ _ D,g1,g2,?_⟩;have:=VR.sl (M:=M) (N:=N.with s.nx (N.aA i) (N.ext i)) (U:=(· <s.nx+1)) s.nx 0 news.length eu.size cap (by omega) hm A hc (by simpa using hext);rw[ig];simpa using this
section
variable {Q:AQ} {k:List KI} {all rest:List Oper} {o:Oper} {s':AS}
theorem Jv(D:bq P ty){t u:TypeId}{l c:Operand}(n m:Nat)(hg:o.guard=is)(ho:o.op= .makeSlice t l c){e eu:bC}(ht:ty t=io e)(hk:e.k= .aP (.slice u))(hu:ty u=io eu)
  {Y kc:IntKind} {I nc:Int} (hl:ev s.f l= .iv (.v (.int Y I))) (hc:ev s.f c= .iv (.v (.int kc nc))) (j:I=(m:Int)) (y:nc=(n:Int)) (hn:0<n) (x:n<=100000000000) (hb:eu.bytes*n<=281474976710656) (G:eu.zero.cells.size=eu.size) (B:0<eu.size)
  {z:List PV} (J:z=cj eu.zero) {p:PV} (A:(m=0∧p= .sl s.nx 1 0 eu.size)∨(m=n∧p= .sl s.nx 0 n eu.size))
  (hp:putDst nt o p (newObj s (.row eu.size (X3 n z)))=io s') (h:GO P nt (.ops all rest::k) Q s'):GO P nt (.ops all (o::rest)::k) Q s:=
 bB hg (U4 D ho ht hk hu hl hc j y hn x hb Z G B J A hp) fun t ht=>by subst ht;exact h
theorem Ju(y:bq P ty){t u:TypeId}{l c:Operand}(sz:Nat)(el:Nat->List IV)(hg:o.guard=is)(ho:o.op= .makeSlice t l c){e eu:bC}(ht:ty t=io e)(hk:e.k= .aP (.slice u))(hu:ty u=io eu)
  {B kc:IntKind} {A nc:Int} (hl:ev s.f l= .iv (.v (.int B A))) (hc:ev s.f c= .iv (.v (.int kc nc))) (j:A=0) (x:nc=0)
  (hp:putDst nt o (.iv (.bI sz 0 el)) (newObj s (.row sz []))=io s') (h:GO P nt (.ops all rest::k) Q s'):GO P nt (.ops all (o::rest)::k) Q s:=
 bB hg (Sq y ho ht hk hu el hl hc j x hp) fun t ht=>by subst ht;exact h
theorem sb(B:bq P ty){t u:TypeId}{x hi:Operand}{i n sz:Nat}(m:Nat)(hg:o.guard=is)(ho:o.op= .slice t x is (io hi) is){e eu:bC}(ht:ty t=io e)(hk:e.k= .aP (.slice u))(hu:ty u=io eu)
  {kc:IntKind} {D:Int} (G:ev s.f x= .sl i 0 n sz) (hh:ev s.f hi= .iv (.v (.int kc D))) (j:D=(m:Int)) (y:m<=n) (hn:0<n)
  {p:PV} (A:(m=0∧p= .sl i 1 0 sz)∨(0<m∧p= .sl i 0 m sz)) (hp:putDst nt o p s=io s') (h:GO P nt (.ops all rest::k) Q s'):GO P nt (.ops all (o::rest)::k) Q s:=
 bB hg (SU B ho ht hk hu G hh j y hn A hp) fun t ht=>by subst ht;exact h
theorem sd(D:bq P ty){x y:Operand}{t u:TypeId}(hg:o.guard=is)(ho:o.op= .call ⟨.builtin .append, #[x,y], #[t,t]⟩){e eu:bC}(ht:ty t=io e)(hk:e.k= .aP (.slice u))(hu:ty u=io eu)
  {i:Nat} {es news:List (List PV)} {py:PV} (G:ev s.f x= .sl i 1 0 eu.size) (hi:s.h.get i=io (.row eu.size es))
  (B:ev s.f y=py) (I:xp s.h eu.size py=io news) (j:news.length<=es.length) (hm:0<news.length) (A: ∀e∈news,dB e=jp)
  (hp:putDst nt o (.sl s.nx 0 news.length eu.size) (iN s i eu.size [] news)=io s') (h:GO P nt (.ops all rest::k) Q s'):GO P nt (.ops all (o::rest)::k) Q s:=
 bB hg (OC D ho ht hk hu G hi Z j hm B (ib I) A hp) fun t ht=>by subst ht;exact h
end
section
variable {Q:AQ} {k:List KI} {all rest:List Oper} {o:Oper} {s':AS}
end
end
theorem fc.take{sz n:Nat}{es:List (List PV)}:fc (.row sz es) (.row sz (es.take n)):=by
 refine⟨fun h=>?_,fun M N U w i h=>?_⟩
 .cases es with
  |nil=>rw[List.take_nil]at h;exact h
  |cons=>rfl
 .rcases h with h|⟨x,c,T,h1,y,A,B,D⟩
  .exact .inl (by rw[h,List.take_nil])
  .refine .inr ⟨x,c,T,h1,y,X6 (Xt _ (by rw[XA];omega)) A,fun k e u=>?_,fun k e j p u G=>?_⟩
   .rw[XK]at u;split at u
    .exact B k e u
    .cases u
   .rw[XK]at u;split at u
    .exact D k e j p u G
    .cases u
theorem iZ{P:Program}{nt:NT}{Q:AQ}{k:List KI}{s:AS}{body:Code}{σ:Type}(i0 n:Nat)(y:i0<=n)(I:Nat->σ->AS)(J:Nat->σ->Prop)(A:σ)(B:List Nat)(G:J i0 A)(h0:Wk s.nx B s (I i0 A))
  (j: ∀i x,i<=n->J i x->GO P nt (.code body:: .lp (fun t=>i<n∧ ∃u L,J (i+1) u∧Wk s.nx L t (I (i+1) u))::k) Q (I i x)):GO P nt (.code (.loop body)::k) Q s:=by
 refine iF (σ:={p:Nat×σ//p.1<=n∧J p.1 p.2}) (fun p=>I p.1.1 p.1.2) (fun p=>n-p.1.1) ⟨(i0,A),y,G⟩ B h0 fun p=>?_;obtain⟨⟨i,x⟩,h1,D⟩:=p;refine nG ?_ (j i x h1 D)
 rintro t ⟨h3,u,L,h4,h5⟩;exact⟨⟨(i+1,u),h3,h4⟩,L,by show n-(i+1)<n-i;omega,h5⟩
theorem Qn{P:Program}{nt:NT}{Q:AQ}{k:List KI}{s:AS}{all rest:List Oper}(d:Nat){p:PV}(j:ae (s.f.get d) p)(h:GO P nt (.ops all rest::k) Q ⟨(d,p)::s.f,s.h,s.nx⟩):GO P nt (.ops all rest::k) Q s:=by
 intro M N a w hf;refine h M N a w ⟨hf.1,fun e=>?_,hf.2.2⟩;rw[AF.ay];split
 .rename_i u;subst u;exact j M N _ _ (hf.2.1 e)
 .exact hf.2.1 e
theorem NH{P:Program}{ty:Ty}{nt:NT}{Q:AQ}{k:List KI}{s:AS}(y:bq P ty){all rest:List Oper}{o:Oper}{t:TypeId}{x i:Operand}(p:PV)(ho:o.op= .lookup t x i kw)(hg:o.guard=is)
  {kc:KC} {V:Type} {e:V->IV} {z:V} {A:Value} {m:List (kc.K×V)} (D:ev s.f x= .iv (.fa kc e z A m)) {q:PV} (hl:v7 ty t kw kc e z A m (ev s.f i)=io (q,True)) (B:q=p)
  {s':AS} (hp:putDst nt o p s=io s') (h:GO P nt (.ops all rest::k) Q s'):GO P nt (.ops all (o::rest)::k) Q s:=by
 have j:ji ty s o.op=io (p,True):=by
  rw[ho,<-B];simp only[ji,D];exact hl
 exact bB hg (vD y j ac hp) fun u hu=>by subst hu;exact h
section
variable {P:Program} {ty:Ty} {nt:NT} {s:AS}
theorem H2{o:Oper}{p:PV}{s':AS}(hp:putDst nt o p s=io s')(h: ∀M N a w,Fits M N s nt a w-> ∃x,(execOp a.eval o).run P w= .ok (.value x) w∧VR M N (· <s.nx) p x):
  (s'.h=s.h∧s'.nx=s.nx)∧ ∀M N a w,Fits M N s nt a w-> ∃x,(execOp a.eval o).run P w= .ok (.value x) w∧Fits M N s' nt (a.put o.dst x) w:=by
 cases hd:o.dst with
 |none=>
  have:=dR hp hd;subst this;exact⟨⟨rfl,rfl⟩,fun M N a w hf=>let ⟨x,hx,_⟩:=h M N a w hf;⟨x,hx,hf⟩⟩
 |some d=>
  obtain⟨h1,rfl⟩:=dQ hp hd;exact⟨⟨rfl,rfl⟩,fun M N a w hf=>let ⟨x,hx,hv⟩:=h M N a w hf;⟨x,hx,hf.put d p x h1 hv⟩⟩
theorem kT{Q:AQ}{k:List KI}{all:List Oper}{todo pend:List (Nat×Oper)}{o:Oper}{s':AS}{p:PV}(i:Nat)(u:todo.find? (fun x=>Xv x.1 i)=io (i,o))(y:aV o=kw)(A:todo.all (fun x=>!waits o x.1)=jp)(hg:bR nt all s.f o=io jp)(j:xD all pend o=jp)
  (hp:putDst nt o p s=io s') (B: ∀M N a w,Fits M N s nt a w-> ∃x,(execOp a.eval o).run P w= .ok (.value x) w∧VR M N (· <s.nx) p x)
  (h:GO P nt (.bS all (todo.filter fun x=>!Xv x.1 i) ((i,o)::pend)::k) Q s'):GO P nt (.bS all todo pend::k) Q s:=
 have g:=H2 hp B
 wm (List.mem_of_find?_eq_some u) y (fun x D=>by simpa using XO.1 A x D) hg j g.1 g.2 h
end
end
end Go.Al
namespace Go.Al
open Go
section
section
variable {P:Program} {ty:Ty} {nt:NT} {s:AS}
theorem Kd(D:bq P ty){o:Oper}{t u:TypeId}{x hi:Operand}(ho:o.op= .slice t x is (io hi) is){e eu:bC}(ht:ty t=io e)(hk:e.k= .aP (.slice u))(hu:ty u=io eu)
  {n m sz:Nat} {el:Nat->List IV} {kc:IntKind} {Y:Int} (hx:ev s.f x= .iv (.bI sz n el)) (hh:ev s.f hi= .iv (.v (.int kc Y))) (I:Y=(m:Int)) (b0:m<=n):
  ∀M N a w,Fits M N s nt a w-> ∃x,(execOp a.eval o).run P w= .ok (.value x) w∧VR M N (· <s.nx) (.iv (.bI sz m el)) x:=by
 intro M N a w hf;subst I;have B:P.underlying t=io (.slice u):=by
  have:=(D t _ ht).2.1;rw[hk]at this;exact this.1
 have A:P.elem t=u:=by simp[Program.elem,B]
 have G:=aO hf.2.1 x;rw[hx]at G;generalize J:a.eval x=vx at G;cases G with
 |iv _ _ hir=>
  cases hir with
  |fS _ _ a0 cap=>
   obtain rfl:m=0:=by omega
   have y:=run_slice_h (P:=P) (w:=w) t a0 0 cap (by rw[A];exact B) kc ((0:Nat):Int) (by omega) (by omega);rw[A,aQ (D u _ hu)]at y;refine⟨sliced a0 0 0 cap eu.size,?_,?_⟩
   .simp only[execOp,ho,J,Ya,Y7,qY hf hh];refine a8 ?_;rw[run_sliceAt_slice w t _ _ _ _ (by rw[A];exact B),y];rfl
   .exact .iv _ _ (.fS _ _ _ _)
  |bI _ _ _ b off cap hn hc hl hm hr=>
   have y:=run_slice_h (P:=P) (w:=w) t (io ⟨b,off,is⟩) n cap (by rw[A];exact B) kc (m:Int) (by omega) (by omega);rw[A,aQ (D u _ hu)]at y;refine⟨sliced (io ⟨b,off,is⟩) 0 m cap eu.size,?_,?_⟩
   .simp only[execOp,ho,J,Ya,Y7,qY hf hh];refine a8 ?_;rw[run_sliceAt_slice w t _ _ _ _ (by rw[A];exact B),y];rfl
   .have h:=IR.bI sz m el b off cap (by omega) hc (fun k hk=>hl k (by omega)) (fun k j hk=>hm k j (by omega)) (fun k j p hk=>hr k j p (by omega));exact .iv _ _ (by simpa[sliced,Addr.add]using h)
end
section
variable {P:Program} {nt:NT} {Q:AQ} {k:List KI} {s s':AS}
theorem kG{o:Oper}{p:PV}(j: ∀M N a w,Fits M N s nt a w-> ∃x,(execOp a.eval o).run P w= .ok (.value x) w∧VR M N (· <s.nx) p x)(hp:putDst nt o p s=io s'):OT P nt o s (fun t=>t=s'):=by
 intro M N a w hf K Z hk;obtain⟨x,u,j⟩:=j M N a w hf;unfold Oper.wp;rw[u];simp only[Oper.upon];cases hd:o.dst with
 |none=>
  have:=dR hp hd;subst this;exact hk M N s' _ w (.refl _ _ _ _ _) hf rfl
 |some d=>
  obtain⟨h1,rfl⟩:=dQ hp hd;exact hk M N {s with f:=(d,p)::s.f} _ w (.refl _ _ _ _ _) (hf.put d p x h1 j) rfl
theorem go_neg{all rest:List Oper}{o:Oper}{t:TypeId}{x:Operand}{c:Int}(hg:o.guard=is)(ho:o.op= .unOp .neg t x)(A:ev s.f x= .iv (.v (.int .i64 c)))(h1: -9223372036854775807<=c)(B:c<=9223372036854775807)
  (hp:putDst nt o (.iv (.v (.int .i64 (-c)))) s=io s') (h:GO P nt (.ops all rest::k) Q s'):GO P nt (.ops all (o::rest)::k) Q s:=by
 refine bB hg (kG (p:= .iv (.v (.int .i64 (-c)))) (fun M N a w hf=>?_) hp) fun t ht=>by subst ht;exact h
 have j:=aO hf.2.1 x;rw[A]at j;generalize u:a.eval x=v at j;cases j with
 |iv _ _ hi=>cases hi with
  |v=>
   refine⟨.int .i64 (-c),?_,.iv _ _ (.v _)⟩;unfold execOp;rw[ho];simp only[u];have y:IntKind.i64.wrap (0-c)= -c:=by rw[Int.zero_sub];exact IntWalk.i64_in _ (by constructor<;>omega)
   have e:(Op.unary UnOp.neg (.int .i64 c)).run P w= .ok (.int .i64 (IntKind.i64.wrap (0-c))) w:=rfl;rw[<-y];exact a8 e
end
section
variable {P:Program} {ty:Ty} {nt:NT} {Q:AQ} {k:List KI} {s:AS}
theorem jP{all rest:List Oper}{o:Oper}{t e:TypeId}{x:Operand}{d sz n:Nat}{el:Nat->List IV}(hg:o.guard=is)(ho:o.op= .binOp .eql t x (.const (.slice is 0 0)) t)(hd:o.dst=io d)(A:Xx d nt=jp)(ht:P.underlying t=io (.slice e))(D:ev s.f x= .iv (.bI sz n el))
  (h: ∀b:Bool,(b=jp->n=0)->GO P nt (.ops all rest::k) Q ⟨(d,pB b)::s.f,s.h,s.nx⟩):GO P nt (.ops all (o::rest)::k) Q s:=by
 refine bB (R:=fun u=> ∃b:Bool,(b=jp->n=0)∧u=⟨(d,pB b)::s.f,s.h,s.nx⟩) hg (fun M N a w hf K Z hk=>?_) fun u ⟨b,hb,hu⟩=>by subst hu;exact h b hb
 have y:=aO hf.2.1 x;rw[D]at y;generalize B:a.eval x=v at y;have j: ∀(a0:Option Addr) (l c:Nat),v= .slice a0 l c->(execOp a.eval o).run P w= .ok (.value (.bool a0.isNone)) w:=fun a0 l c y=>by
  unfold execOp;rw[ho];simp only[B,y];exact a8 (Lib.run_eql_slice_nil w t e a0 l c 0 0 ht)
 have b0: ∀(b:Bool),(b=jp->n=0)->(execOp a.eval o).run P w= .ok (.value (.bool b)) w->o.wp P a w K Z:=fun b hb hr=>by
  unfold Oper.wp;rw[hr];simp only[Oper.upon];rw[hd];exact hk M N ⟨(d,pB b)::s.f,s.h,s.nx⟩ _ w (.refl _ _ _ _ _) (hf.put d (pB b) (.bool b) (WY A) (.iv _ _ (.v _))) ⟨b,hb,rfl⟩
 cases y with
 |iv _ _ hi=>cases hi with
  |fS _ _ a0 cap=>exact b0 _ (fun _=>rfl) (j a0 0 cap rfl)
  |bI _ _ _ b off cap hn hc hl hm hr=>exact b0 kw (fun h=>by cases h) (j _ n cap rfl)
theorem lH(j:bq P ty){all rest:List Oper}{o:Oper}{t u:TypeId}{d:Nat}(hg:o.guard=is)(ho:o.op= .buildSlice t 0 #[])(hd:o.dst=io d)(y:Xx d nt=jp){e eu:bC}(ht:ty t=io e)(hk:e.k= .aP (.slice u))(hu:ty u=io eu)
  (h: ∀b:Nat,GO P nt (.ops all rest::k) Q ⟨(d,.iv (.v (.slice (io ⟨b,0,is⟩) 0 0)))::s.f,(s.nx,io (.row 1 []))::s.h,s.nx+1⟩):GO P nt (.ops all (o::rest)::k) Q s:=by
 refine bB (R:=fun v=> ∃b:Nat,v=⟨(d,.iv (.v (.slice (io ⟨b,0,is⟩) 0 0)))::s.f,(s.nx,io (.row 1 []))::s.h,s.nx+1⟩) hg (fun M N a w hf K Z B=>?_) fun v ⟨b,hv⟩=>by subst hv;exact h b
 have G:P.underlying t=io (.slice u):=by
  have:=(j t _ ht).2.1;rw[hk]at this;exact this.1
 obtain⟨I,h1,Y,h8,J,x⟩:=hf.1.alloc (.cells #[] u) (.row 1 []) 0 (fun I g1 g2 g3=> .inl rfl);have hr:(execOp a.eval o).run P w= .ok (.value (.slice (io ⟨w.heap.size,0,is⟩) 0 0)) (w.alloc (.cells #[] u)):=by
  have D:=aQ (w:=w) (j u eu hu);simp[execOp,ho,Instr.buildSlice,Sem.run_bind,run_underlying G,Result.andThen_ok,D,newRow,Instr.fill,show Z3 0= #[] from rfl]
 have A:=eB hf J x;unfold Oper.wp;rw[hr];simp only[Oper.upon];rw[hd];exact B M I ⟨(d,.iv (.v (.slice (io ⟨w.heap.size,0,is⟩) 0 0)))::s.f,(s.nx,io (.row 1 []))::s.h,s.nx+1⟩ _ _ J (Fits.put (s:=⟨s.f,(s.nx,io (.row 1 []))::s.h,s.nx+1⟩) A d _ _ (WY y) (.iv _ _ (.v _))) ⟨_,rfl⟩
theorem lI(e0:bq P ty){all rest:List Oper}{o:Oper}{x y:Operand}{t u:TypeId}(hg:o.guard=is)(ho:o.op= .call ⟨.builtin .append, #[x,y], #[t,t]⟩){e eu:bC}(ht:ty t=io e)(hk:e.k= .aP (.slice u))(hu:ty u=io eu)
  {b0 sz:Nat} {news:List (List PV)} {py:PV} (hx:ev s.f x= .iv (.v (.slice (io ⟨b0,0,is⟩) 0 0))) (w0:eu.size=sz) (hz:eu.zero.cells.size=sz) (v0:0<sz)
  (t0:ev s.f y=py) (hy:Src s.h sz py news) (hm:news≠ []) (hb:news.length*eu.bytes<=140737488355328) (f1:news.length<=140737488355328)
  {s':AS} (hp:putDst nt o (.sl s.nx 0 news.length sz) (newObj s (.row sz news))=io s') (h:GO P nt (.ops all rest::k) Q s'):GO P nt (.ops all (o::rest)::k) Q s:=by
 refine bB hg (OT.value hp fun M N a w hf=>?_) fun v hv=>by subst hv;exact h
 subst w0;obtain⟨⟨ii,p0,q0,o0,r0⟩,_⟩:=e0 u _ hu;have x0:P.underlying t=io (.slice u):=by
  have:=(e0 t _ ht).2.1;rw[hk]at this;exact this.1
 have c0:=aO hf.2.1 x;rw[hx]at c0;have g0:=aO hf.2.1 y;rw[t0]at g0;obtain⟨D,ao,c,b1,G⟩:=hy.ok hf g0;have A: ∀v w',(Builtin.append_ #[t,t] o.type #[a.eval x,a.eval y]).run P w= .ok v w'->(execOp a.eval o).run P w= .ok (.value v) w':=by
  intro v w' h;simp only[execOp,ho,resolve];simp[invoke,builtin,h]
 rw[b1]at A;have a0: ∀vs:List Value,vs.length=news.flatten.length->vs.length=news.length*ii.size:=fun vs h=>by rw[h,fF D,q0]
 generalize a.eval x=vx at c0 A;cases c0 with
 |iv _ _ hi=>cases hi with
  |v=>
   obtain⟨b,d1,k0,I⟩:=G hm;subst k0;obtain⟨vs,f0,z0,a1⟩:=lu (s:=s) I;have k1:0<news.length:=Yi.2 hm;have J:=run_append_grow (P:=P) w t o.type u ii eu.zero x0 p0 r0 ⟨b0,0,is⟩ 0 0 [] (by simp) (fun j v hj=>by simp at hj) ⟨b,d1,is⟩ news.length c vs (a0 vs f0) z0 (by omega) (by omega) (growslice_fits (by omega) (by rw[o0,Xo];exact hb));have Y:vs.length=news.length*eu.size:=by rw[f0,fF D]
   have d0:=grownCap_ge w (0+news.length) 0 u;have m0:=grownCap_le_maxLen w (0+news.length) 0 u (by simp only[maxLen];omega);generalize grownCap w (0+news.length) 0 u=cap at*
   generalize j0:([]:List Value).toArray++vs.toArray++Builtin.zeroCells eu.zero.cells (cap-(0+news.length))=z at J;have B:z.size=cap*eu.size:=by
    rw[<-j0,YE,YE,size_zeroCells,hz];simp only[Zg,Y,Yg,Xo] at*
    rw[<-XT,Nat.add_sub_cancel' d0]
   obtain⟨N',h1,h2,h3,h4,h5⟩:=hf.1.drew.alloc (.cells z u) (.row eu.size news) z.size (fun N' g1 g2 g3=>by
    refine .inr ⟨v0,z,u,by rw[g1];exact heap_alloc_new _ _,g2.symm,?_,fun k e he=>D _ e he,fun k e j p he hj=>?_⟩
    .rw[B];exact Xt _ (by omega)
    .have i1:j<eu.size:=by rw[<-D _ e he];exact(W4.1 hj).1
     have s0:k<news.length:=(W4.1 he).1;have n0:=jR D _ e j p he hj;have j1:k*eu.size+j<vs.length:=by
      rw[Y];have:(k+1)*eu.size<=news.length*eu.size:=Xt _ s0;rw[XT]at this;omega
     have:=a1 _ p n0;have e1:z.getD (k*eu.size+j) undef=vs.getD (k*eu.size+j) undef:=by
      rw[<-j0,WZ,XF (by simp;omega),W2];simp
     rw[e1];exact this.mono (.refl _) g3 (fun i hi=>by omega))
   have i0:=(Ext.drew (M:=M) (N:=N) (U:=(· <s.nx)) (h:=s.h) (w:=w)).trans h4;refine⟨_,_,M,N',A _ _ J,i0,⟨h5,hf.2.1.ext i0,hf.2.2⟩,?_⟩;have:=VR.sl (M:=M) (N:=N') (U:=(· <s.nx+1)) s.nx 0 (0+news.length) eu.size cap (by omega) (by omega) d0 m0 (by rw[h2,B];simp);rw[h1,YD,show PV.sl s.nx 0 (0+news.length) eu.size=PV.sl s.nx 0 news.length eu.size by rw[Xo]]at this;exact(show(newObj s (.row eu.size news)).nx=s.nx+1 from rfl)▸this
theorem mG(J:bq P ty){all rest:List Oper}{o:Oper}{x y:Operand}{t u:TypeId}(hg:o.guard=is)(ho:o.op= .call ⟨.builtin .append, #[x,y], #[t,t]⟩){e eu:bC}(ht:ty t=io e)(hk:e.k= .aP (.slice u))(hu:ty u=io eu)
  {b0 sz:Nat} (hx:ev s.f x= .iv (.v (.slice (io ⟨b0,0,is⟩) 0 0))) (d0:eu.size=sz)
  {el:Nat->List IV} (c0:ev s.f y= .iv (.bI sz 0 el)) {el2:Nat->List IV}
  {s':AS} (hp:putDst nt o (.iv (.bI sz 0 el2)) s=io s') (h:GO P nt (.ops all rest::k) Q s'):GO P nt (.ops all (o::rest)::k) Q s:=by
 refine bB hg (OT.value hp fun M N a w hf=>?_) fun v hv=>by subst hv;exact h
 subst d0;obtain⟨⟨ii,a0,g0,f0,i0⟩,_⟩:=J u _ hu;have e0:P.underlying t=io (.slice u):=by
  have:=(J t _ ht).2.1;rw[hk]at this;exact this.1
 have B:=aO hf.2.1 x;rw[hx]at B;have D:=aO hf.2.1 y;rw[c0]at D;have j: ∀v G,(Builtin.append_ #[t,t] o.type #[a.eval x,a.eval y]).run P w= .ok v G->(execOp a.eval o).run P w= .ok (.value v) G:=by
  intro v G h;simp only[execOp,ho,resolve];simp[invoke,builtin,h]
 generalize a.eval x=vx at B j;generalize a.eval y=vy at D j;have A: ∀(I:Option Addr) (c:Nat),vx= .slice (io ⟨b0,0,is⟩) 0 0->vy= .slice I 0 c-> ∃v G Y N',(execOp a.eval o).run P w= .ok (.value v) G∧Ext M N (· <s.nx) s.h w Y N' (· <s.nx) s.h G∧Fits Y N' s nt a G∧VR Y N' (· <s.nx) (.iv (.bI eu.size 0 el2)) v:=fun I c e1 e2=>by
  subst e1 e2;exact⟨_,w,M,N,j _ _ (fC (P:=P) (w:=w) t o.type u ii e0 a0 (io ⟨b0,0,is⟩) 0 0 (W8 _) I c (.inr ⟨_,_,rfl⟩)),.refl _ _ _ _ _,hf,.iv _ _ (.fS _ _ _ _)⟩
 cases B with
 |iv _ _ hi=>cases hi with
  |v=>cases D with
   |iv _ _ hi=>cases hi with
    |fS _ _ I c=>exact A I c Z Z
    |bI _ _ _ b off cap=>exact A _ _ Z Z
end
section
variable {P:Program} {ty:Ty} {nt:NT} {Q:AQ} {k:List KI} {s:AS}
theorem vk(r0:bq P ty){o:Oper}{t:TypeId}{a x:Operand}(ho:o.op= .store t a x)(hd:o.dst=is){i sz q:Nat}{e:bC}(he:ty t=io e)(z0:e.size=sz){es:List (List PV)}{xs:List PV}
  (ha:ev s.f a= .cV i sz q 0) (hi:s.h.get i=io (.row sz es)) (hq:q<es.length) (v0:(ev s.f x).cells=io xs) (f0:xs.length=sz) (b0:dB xs=jp):
  OT P nt o s (fun u=>u=⟨s.f,(i,io (.row sz (es.set q xs)))::s.h,s.nx⟩):=by
 have hp:putDst nt o .any ⟨s.f,(i,io (.row sz (es.set q xs)))::s.h,s.nx⟩=io ⟨s.f,(i,io (.row sz (es.set q xs)))::s.h,s.nx⟩:=by simp only[putDst,hd]
 refine OT.skip hp fun M N b w hf=>?_;have hu:=aO hf.2.1 a;have hy:=aO hf.2.1 x;rw[ha]at hu;generalize s0:b.eval a=u at hu;generalize w0:b.eval x=y at hy
 have key: ∃w',(Instr.storeAt t u y).run P w= .ok () w'∧Ext M N (· <s.nx) s.h w M N (· <s.nx) ((i,io (.row sz (es.set q xs)))::s.h) w'∧Fits M N ⟨s.f,(i,io (.row sz (es.set q xs)))::s.h,s.nx⟩ nt b w':=by
  cases hu with
  |cV _ _ _ _ hU=>
   obtain⟨hl,hv⟩:=o5 hy v0;have a1:y.cells.size=sz:=by omega
   rcases hf.1.obj i _ hi with h0|⟨h0,c,T,g1,g2,g3,g4,g5⟩
   .rw[h0]at hq;simp at hq
   have a0:(q+1)*sz<=es.length*sz:=Xt _ hq;have x0:q*sz+sz<=c.size:=by rw[YL]at a0;omega
   have D: ∀z∈y.cells.toList,z.oneCell'=jp:=by
    intro v t0;obtain⟨j,hj⟩:=XU t0;have k0:j<y.cells.toList.length:=(W4.1 hj).1;have e0:xs[j]? =io (xs[j]'(by simp at k0;omega)):=W5 _;have:=(hv j _ e0).one (gE b0 j _ e0);rw[WZ]at this;have i0:y.cells[j]? =io v:=by simpa using hj
    rw[i0]at this;exact this
   have d0:=run_storeCells_at P (N.aA i) (q*sz) T y.cells.toList 0 c w g1 (by simp;omega) D;refine⟨w.setRow (N.aA i) (c.toList.take (q*sz+0)++y.cells.toList++c.toList.drop (q*sz+0+y.cells.toList.length)).toArray,?_,?_⟩
   .have G:=aQ (w:=w) (r0 t e he);have q0:y.cells.size=e.size:=by omega
    simp only[Instr.storeAt,Instr.sureAddr,pure_bind,storeVar,Sem.run_bind,G,Result.andThen_ok,q0,ne_eq,not_true_eq_false,if_false];exact d0
   .have c0:=setRow_heap w (N.aA i) c (c.toList.take (q*sz+0)++y.cells.toList++c.toList.drop (q*sz+0+y.cells.toList.length)).toArray T (0,0) g1;have o0: ∀b,b≠N.aA i->(w.setRow (N.aA i) (c.toList.take (q*sz+0)++y.cells.toList++c.toList.drop (q*sz+0+y.cells.toList.length)).toArray).heap[b]? =w.heap[b]? :=by
     intro b hb;simp only[World.setRow,XB];rw[be (fun e=>hb e.symm)]
    have p0:(AO.row sz es).real=jp:=by cases es with
     |nil=>simp at hq
     |cons=>rfl
    have g0: ∀m,(c.toList.take (q*sz+0)++y.cells.toList++c.toList.drop (q*sz+0+y.cells.toList.length)).toArray.getD m undef=if q*sz<=m∧m<q*sz+sz then y.cells.getD (m-q*sz) undef else c.getD m undef:=by
     intro m;rw[WZ,WZ,WZ];have m0:y.cells.toList.length=sz:=by simp;omega
     split
     .rename_i hm;have e1:(c.toList.take (q*sz+0)++y.cells.toList++c.toList.drop (q*sz+0+y.cells.toList.length)).toArray[m]? =y.cells[m-q*sz]? :=by
       simp only[XP];rw[Xn (by simp;omega),Xl (by simp;omega)];simp only[XA,Za,Xz];congr 1;omega
      rw[e1]
     .rename_i hm;have e1:(c.toList.take (q*sz+0)++y.cells.toList++c.toList.drop (q*sz+0+y.cells.toList.length)).toArray[m]? =c[m]? :=by
       simp only[XP];rcases XZ m (q*sz) with k1|k1
       .rw[Xf,Xn (by simp;omega),XK,am (by omega),Xz]
       .rw[Xl (by simp;omega),XW,Xz];congr 1;simp;omega
      rw[e1]
    have:=hf.1.write hi p0 (w.setRow (N.aA i) (c.toList.take (q*sz+0)++y.cells.toList++c.toList.drop (q*sz+0+y.cells.toList.length)).toArray) (.row sz (es.set q xs)) Z Z Z (by simp) o0
     (.inr ⟨h0,_,T,c0,by simp;omega,by simp;omega,fun I e2 A=>?_,fun I e2 Y p2 A J=>?_⟩)
    .exact⟨this.1,this.2,hf.2.1,hf.2.2⟩
    .rw[YP]at A;split at A
     .cases A;exact f0
     .exact g4 I e2 A
    .rw[g0];rw[YP]at A;split at A
     .rename_i B;subst B;cases A;have j0:Y<sz:=by rw[<-f0];exact(W4.1 J).1
      rw[am (by omega),show q*sz+Y-q*sz=Y by omega];exact hv Y p2 J
     .rename_i B;have j0:Y<sz:=by rw[<-g4 I e2 A];exact(W4.1 J).1
      rw[be ?_]
      .exact g5 I e2 Y p2 A J
      .intro⟨e1,e2⟩;rcases Zd q I with n0|heq|hgt
       .have:(q+1)*sz<=I*sz:=Xt _ n0;rw[YL]at this;omega
       .exact B heq
       .have:(I+1)*sz<=q*sz:=Xt _ hgt;rw[YL]at this;omega
 obtain⟨w',h1,A,J⟩:=key;refine⟨w',M,N,?_,A,J⟩;simp only[execOp,ho];simp[s0,w0,h1]
end
def Tc{σ:Type}(P:Program)(nt:NT)(k:List KI)(Q:AQ)(n0:Nat)(t:σ->AS):AQ:=fun e u=>(e= .normal∧ ∃i L,Wk n0 L u (t i))∨(e≠ .normal∧kp P nt k Q e u)
theorem go_cut{P:Program}{nt:NT}{Q:AQ}{k:List KI}{s:AS}{c:Code}{σ:Type}(n:Nat)(t:σ->AS)(B:c=RJ (zb n c) (uW n c))
  (h1:GO P nt ((zb n c).map KI.code) (Tc P nt k Q s.nx t) s) (h2: ∀i,GO P nt (.code (uW n c)::k) Q (t i)):GO P nt (.code c::k) Q s:=by
 intro M N a w hf;rw[B];have key: ∀(l:List Code) (u:AS) G J a' D,Ext M N (· <s.nx) s.h w G J (· <u.nx) u.h D->Fits G J u nt a' D->
   kp P nt (l.map KI.code) (Tc P nt k Q s.nx t) .normal u->(RJ l (uW n c)).wp P (od nt M N s w (kp P nt k Q)) a' D:=by
  intro l
  induction l with
  |nil=>
   intro u G J a' D hx A hk;rcases hk with⟨_,i,L,hw⟩|⟨he,_⟩
   .exact AW.then (h2 i) (hw.fits A) fun e a2 w2 I Y s2 y j x=>⟨I,Y,s2,(hw.ext hx).trans y,j,x⟩
   .exact absurd Z he
  |cons c l ih=>
   intro u G J a' D hx A hk;refine wp_seq (AW.then hk A fun e a2 w2 I Y s2 y j x=>?_);cases e with
   |normal=>exact ih s2 I Y a2 w2 (hx.trans y) j x
   |_=>
    rcases Fc (l:=l) (by simp) x with⟨he,_⟩|⟨_,hq⟩
    .cases he
    .exact⟨I,Y,s2,hx.trans y,j,hq⟩
 exact key _ s M N a w (.refl _ _ _ _ _) hf h1
theorem lZ{P:Program}{nt:NT}{k:List KI}{Q:AQ}{n0:Nat}{σ:Type}{t:σ->AS}{u:AS}(i:σ)(L:List Nat)(h:Wk n0 L u (t i)):Tc P nt k Q n0 t .normal u:= .inl ⟨rfl,i,L,h⟩
section
variable {P:Program} {ty:Ty} {nt:NT} {Q:AQ} {k:List KI} {s:AS}
theorem kS(x:bq P ty){all rest:List Oper}{o:Oper}{t:TypeId}{a:Operand}(ho:o.op= .load t a)(hg:o.guard=is){e:bC}(he:ty t=io e){i sz q off:Nat}{es:List (List PV)}{row:List PV}{v:PV}
  (ha:ev s.f a= .cV i sz q off) (hi:s.h.get i=io (.row sz es)) (y:es[q]? =io row) (hr:iq e (row.drop off)=io v)
  {s':AS} (hp:putDst nt o v s=io s') (h:GO P nt (.ops all rest::k) Q s'):GO P nt (.ops all (o::rest)::k) Q s:=by
 have hb:behind s.h (.cV i sz q off)=io (row.drop off):=by
  simp only[behind,hi,y,aaw]
 have j:ji ty s o.op=io (v,True):=by
  rw[ho];simp only[ji,he,ha,hb,hr]
 exact bB hg (vD x j ac hp) fun u hu=>by subst hu;exact h
end
section
variable {P:Program} {ty:Ty} {nt:NT} {Q:AQ} {k:List KI} {s:AS}
theorem mY(t0:bq P ty){o:Oper}{t:TypeId}{a x:Operand}(ho:o.op= .store t a x)(hd:o.dst=is){i sz q off:Nat}{e:bC}(he:ty t=io e){es:List (List PV)}{row xs:List PV}
  (ha:ev s.f a= .cV i sz q off) (hi:s.h.get i=io (.row sz es)) (hq:es[q]? =io row) (x0:(ev s.f x).cells=io xs) (d1:xs.length=e.size) (g0:off+e.size<=sz) (b0:dB xs=jp):
  OT P nt o s (fun u=>u=⟨s.f,(i,io (.row sz (es.set q (setCells row off xs))))::s.h,s.nx⟩):=by
 have hp:putDst nt o .any ⟨s.f,(i,io (.row sz (es.set q (setCells row off xs))))::s.h,s.nx⟩=io ⟨s.f,(i,io (.row sz (es.set q (setCells row off xs))))::s.h,s.nx⟩:=by simp only[putDst,hd]
 refine OT.skip hp fun M N b w hf=>?_;have hu:=aO hf.2.1 a;have hy:=aO hf.2.1 x;rw[ha]at hu;generalize v0:b.eval a=u at hu;generalize z0:b.eval x=y at hy
 have key: ∃w',(Instr.storeAt t u y).run P w= .ok () w'∧Ext M N (· <s.nx) s.h w M N (· <s.nx) ((i,io (.row sz (es.set q (setCells row off xs))))::s.h) w'∧Fits M N ⟨s.f,(i,io (.row sz (es.set q (setCells row off xs))))::s.h,s.nx⟩ nt b w':=by
  cases hu with
  |cV _ _ _ _ hU=>
   obtain⟨hl,hv⟩:=o5 hy x0;have f1:y.cells.size=e.size:=by omega
   have q0:q<es.length:=(W4.1 hq).1;rcases hf.1.obj i _ hi with h0|⟨h0,c,T,g1,g2,g3,g4,g5⟩
   .rw[h0]at hq;simp at hq
   have f0:row.length=sz:=g4 q row hq;have a0:(q+1)*sz<=es.length*sz:=Xt _ q0;have b1:q*sz+off+e.size<=c.size:=by rw[YL]at a0;omega
   have G: ∀z∈y.cells.toList,z.oneCell'=jp:=by
    intro v w0;obtain⟨j,hj⟩:=XU w0;have m0:j<y.cells.toList.length:=(W4.1 hj).1;have e0:xs[j]? =io (xs[j]'(by simp at m0;omega)):=W5 _;have:=(hv j _ e0).one (gE b0 j _ e0);rw[WZ]at this;have j0:y.cells[j]? =io v:=by simpa using hj
    rw[j0]at this;exact this
   have d0:=run_storeCells_at P (N.aA i) (q*sz+off) T y.cells.toList 0 c w g1 (by simp;omega) G;refine⟨w.setRow (N.aA i) (c.toList.take ((q*sz+off)+0)++y.cells.toList++c.toList.drop ((q*sz+off)+0+y.cells.toList.length)).toArray,?_,?_⟩
   .have I:=aQ (w:=w) (t0 t e he);have s0:y.cells.size=e.size:=by omega
    simp only[Instr.storeAt,Instr.sureAddr,pure_bind,storeVar,Sem.run_bind,I,Result.andThen_ok,s0,ne_eq,not_true_eq_false,if_false];exact d0
   .have c0:=setRow_heap w (N.aA i) c (c.toList.take ((q*sz+off)+0)++y.cells.toList++c.toList.drop ((q*sz+off)+0+y.cells.toList.length)).toArray T (0,0) g1;have p0: ∀b,b≠N.aA i->(w.setRow (N.aA i) (c.toList.take ((q*sz+off)+0)++y.cells.toList++c.toList.drop ((q*sz+off)+0+y.cells.toList.length)).toArray).heap[b]? =w.heap[b]? :=by
     intro b hb;simp only[World.setRow,XB];rw[be (fun e=>hb e.symm)]
    have r0:(AO.row sz es).real=jp:=by cases es with
     |nil=>simp at hq
     |cons=>rfl
    have i0: ∀m,(c.toList.take ((q*sz+off)+0)++y.cells.toList++c.toList.drop ((q*sz+off)+0+y.cells.toList.length)).toArray.getD m undef=if q*sz+off<=m∧m<q*sz+off+e.size then y.cells.getD (m-(q*sz+off)) undef else c.getD m undef:=by
     intro m;rw[WZ,WZ,WZ];have n0:y.cells.toList.length=e.size:=by simp;omega
     split
     .rename_i hm;have e1:(c.toList.take ((q*sz+off)+0)++y.cells.toList++c.toList.drop ((q*sz+off)+0+y.cells.toList.length)).toArray[m]? =y.cells[m-(q*sz+off)]? :=by
       simp only[XP];rw[Xn (by simp;omega),Xl (by simp;omega)];simp only[XA,Za,Xz];congr 1;omega
      rw[e1]
     .rename_i hm;have e1:(c.toList.take ((q*sz+off)+0)++y.cells.toList++c.toList.drop ((q*sz+off)+0+y.cells.toList.length)).toArray[m]? =c[m]? :=by
       simp only[XP];rcases XZ m (q*sz+off) with k1|k1
       .rw[Xf,Xn (by simp;omega),XK,am (by omega),Xz]
       .rw[Xl (by simp;omega),XW,Xz];congr 1;simp;omega
      rw[e1]
    have:=hf.1.write hi r0 (w.setRow (N.aA i) (c.toList.take ((q*sz+off)+0)++y.cells.toList++c.toList.drop ((q*sz+off)+0+y.cells.toList.length)).toArray) (.row sz (es.set q (setCells row off xs))) Z Z Z (by simp) p0
     (.inr ⟨h0,_,T,c0,by simp;omega,by simp;omega,fun J e2 A=>?_,fun J e2 B p2 A Y=>?_⟩)
    .exact⟨this.1,this.2,hf.2.1,hf.2.2⟩
    .rw[YP]at A;split at A
     .cases A;rw[da];exact f0
     .exact g4 J e2 A
    .rw[i0];rw[YP]at A;split at A
     .rename_i D;subst D;cases A;have k0:B<sz:=by rw[<-f0,<-da row off xs];exact(W4.1 Y).1
      rcases iP row off xs B p2 Y with⟨k1,k3⟩|⟨k1,k3⟩
      .have a1:B-off<xs.length:=(W4.1 k3).1;rw[am (by omega),show q*sz+B-(q*sz+off)=B-off by omega];exact hv _ p2 k3
      .rw[be (by omega)];exact g5 q row B p2 hq k3
     .rename_i D;have k0:B<sz:=by rw[<-g4 J e2 A];exact(W4.1 Y).1
      rw[be ?_]
      .exact g5 J e2 B p2 A Y
      .intro⟨e1,e3⟩;rcases Zd q J with o0|heq|hgt
       .have:(q+1)*sz<=J*sz:=Xt _ o0;rw[YL]at this;omega
       .exact D heq
       .have:(J+1)*sz<=q*sz:=Xt _ hgt;rw[YL]at this;omega
 obtain⟨w',h1,A,Y⟩:=key;refine⟨w',M,N,?_,A,Y⟩;simp only[execOp,ho];simp[v0,z0,h1]
theorem ye{es:List (List PV)}{q off:Nat}{row xs:List PV}(j:es[q]? =io row)(h:setCells row off xs=row):es.set q (setCells row off xs)=es:=by
 rw[h];refine Zh fun i=>?_;rw[YP];split
 .rename_i e;subst e;split
  .exact j.symm
  .rename_i g;rw[List.getElem?_eq_none (by omega)]
 .rfl
theorem nM(B:bq P ty){all rest:List Oper}{o:Oper}{t:TypeId}{a x:Operand}(ho:o.op= .store t a x)(hd:o.dst=is)(hg:o.guard=is){i sz q off:Nat}{e:bC}(he:ty t=io e){es:List (List PV)}{row xs:List PV}
  (ha:ev s.f a= .cV i sz q off) (hi:s.h.get i=io (.row sz es)) (I:es[q]? =io row) (G:(ev s.f x).cells=io xs) (D:xs.length=e.size) (y:off+e.size<=sz) (A:dB xs=jp) (j:setCells row off xs=row)
  (h:GO P nt (.ops all rest::k) Q ⟨s.f,(i,io (.row sz es))::s.h,s.nx⟩):GO P nt (.ops all (o::rest)::k) Q s:=
 bB hg (mY B ho hd he ha hi I G D y A) fun u hu=>by subst hu;rw[ye I j];exact h
theorem gv(B:bq P ty){o:Oper}{t:TypeId}{a x:Operand}(ho:o.op= .store t a x)(hd:o.dst=is){i sz q off:Nat}{e:bC}(he:ty t=io e){es:List (List PV)}{row xs:List PV}
  (ha:ev s.f a= .cV i sz q off) (hi:s.h.get i=io (.row sz es)) (I:es[q]? =io row) (G:(ev s.f x).cells=io xs) (D:xs.length=e.size) (y:off+e.size<=sz) (A:dB xs=jp) (j:setCells row off xs=row):
  OT P nt o s fun u=>u=⟨s.f,(i,io (.row sz es))::s.h,s.nx⟩:=by
 have:=mY (P:=P) (nt:=nt) B ho hd he ha hi I G D y A;rwa[ye I j]at this
theorem dr(u:bq P ty){o:Oper}{t:TypeId}{a:Operand}(ho:o.op= .load t a){e:bC}(he:ty t=io e){i sz q off:Nat}{es:List (List PV)}{row:List PV}{v:PV}
  (ha:ev s.f a= .cV i sz q off) (hi:s.h.get i=io (.row sz es)) (y:es[q]? =io row) (hr:iq e (row.drop off)=io v):
  ∀M N b w,Fits M N s nt b w-> ∃x,(execOp b.eval o).run P w= .ok (.value x) w∧VR M N (· <s.nx) v x:=by
 have hb:behind s.h (.cV i sz q off)=io (row.drop off):=by
  simp only[behind,hi,y,aaw]
 have j:ji ty s o.op=io (v,True):=by
  rw[ho];simp only[ji,he,ha,hb,hr]
 intro M N b w hf;exact sU u hf j ac
def HL(P:Program)(nt:NT)(all:List Oper)(s:AS):List (Nat×Oper)->Prop
 | []=>True
 |x::r=>fm P nt all s x.2∧HL P nt all s r
theorem HL.mem{all:List Oper}{l:List (Nat×Oper)}(h:HL P nt all s l): ∀x∈l,fm P nt all s x.2:=by
 induction l with
 |nil=>intro x j;cases j
 |cons y r ih=>
  intro x j;rcases Xm.1 j with e|m
  .rw[e];exact h.1
  .exact ih h.2 x m
theorem mU(u:bq P ty){all:List Oper}{o:Oper}{t:TypeId}{a:Operand}(ho:o.op= .load t a)(hg:bR nt all s.f o=io jp){d:Nat}(hd:o.dst=io d)(j:Xx d nt=jp){e:bC}(he:ty t=io e){i sz q off:Nat}{es:List (List PV)}{row:List PV}{v:PV}
  (ha:ev s.f a= .cV i sz q off) (hi:s.h.get i=io (.row sz es)) (y:es[q]? =io row) (hr:iq e (row.drop off)=io v) (hs:ae v (s.f.get d)):fm P nt all s o:=fun M N b w hf=>by
 obtain⟨x,B,A⟩:=dr u ho he ha hi y hr M N b w hf;refine⟨x,.inl ⟨gj hg hf,.inl B⟩,?_⟩;rw[hd];exact xb hd Z hs (hf.put d v x (WY j) A)
theorem NL(B:bq P ty)(H:List Nat){all:List Oper}{todo pend:List (Nat×Oper)}{j:Nat}{o:Oper}{s':AS}{CA Y:Prop}(hrd:dz todo=[(j,o)])(hg:bR nt all s.f o=io jp)(hpb:gY all pend o=jp)(hE:nR todo [j]=jp)
  (hag:l3 ty nt all s todo pend=io CA) (hCA:CA) (G:OT P nt o s (fun t=>t=s')) (hag2:c8 ty nt all s' ((ba pend o).filter fun x=>!H.any (Xv x.1))=io Y) (hC2:Y) (hH:HL P nt all s' ((ba pend o).filter fun x=>H.any (Xv x.1)))
  (h:GO P nt (.bS all (todo.filter fun x=>!Xv x.1 j) (ba pend o)::k) Q s'):GO P nt (.bS all todo pend::k) Q s:=by
 have A:(j,o)∈dz todo:=by rw[hrd];simp
 obtain⟨h3,D⟩:=XG.1 A;simp only[Ye,YS,XX]at D;have u: ∀y∈todo,aV y.2=jp-> ∀y∈pend,fm P nt all s y.2:=by
  intro y I J;unfold l3 at hag;split at hag
  .exact cC B hag hCA
  .rename_i h2;have:=XX.1 h2 y I;rw[J]at this;exact absurd Z this
 refine pD hE ⟨_,h3,D.1⟩ u fun j' o' hj _ hu=>?_;simp only[Xd]at hj;subst hj;have:=hu o h3;subst this
 refine⟨D.1,fun y I _=>by simpa using D.2 y I,hpb,hg,_,G,fun t ht=>by
  subst ht;refine⟨fun x hx=>?_,h⟩;cases hb:H.any (Xv x.1) with
  |true=>exact hH.mem x (XG.2 ⟨hx,hb⟩)
  |false=>exact cC B hag2 hC2 x (XG.2 ⟨hx,by simp only[hb];rfl⟩)⟩
theorem sa(A:bq P ty)(H:List Nat){all:List Oper}{todo pend:List (Nat×Oper)}{j:Nat}{o:Oper}{c:Call}{g:FuncId}{asv args:List PV}{os:List AO}{r:PV}{G:AH}{I:Nat}{s':AS}{D B:Prop}(L:List Nat)(hc:bh P g args os r G I)
  (hrd:dz todo=[(j,o)]) (ho:o.op= .call c) (ha:bP s.f c=io (g,asv))
  (hn:cI L=jp) (hl:L.all (fun j=>Xx j s.nx)=jp) (y:L.map s.h.get=os.map fun o=>io (o.b5 (sig L s.nx))) (u:asv=dh (sig L s.nx) args) (hp:putDst nt o (r.b5 (sig L s.nx)) (aC s L G I)=io s')
  (hg:bR nt all s.f o=io jp) (hpb:gY all pend o=jp) (hE:nR todo [j]=jp)
  (hag:l3 ty nt all s todo pend=io D) (hCA:D) (hag2:c8 ty nt all s' ((ba pend o).filter fun x=>!H.any (Xv x.1))=io B) (hC2:B) (hH:HL P nt all s' ((ba pend o).filter fun x=>H.any (Xv x.1)))
  (h:GO P nt (.bS all (todo.filter fun x=>!Xv x.1 j) (ba pend o)::k) Q s'):GO P nt (.bS all todo pend::k) Q s:=
 NL A H hrd hg hpb hE hag hCA (Ap L hc ho ha hn hl y u hp) hag2 hC2 hH h
end
theorem fc.US{sz:Nat}{es x:List (List PV)}(hl:es.length=x.length)(h: ∀(k:Nat) (e A:List PV),es[k]? =io e->x[k]? =io A->ia e A):fc (.row sz es) (.row sz x):=by
 have y:x=[]↔es=[]:=by rw[<-Yv,<-Yv,hl]
 refine⟨fun hr=>?_,fun M N U w i G=>?_⟩
 .cases es with
  |nil=>rw[y.2 Z]at hr;cases hr
  |cons=>rfl
 .rcases G with B|⟨B,c,T,g1,g2,g3,g4,g5⟩
  .exact .inl (y.2 B)
  .refine .inr ⟨B,c,T,g1,g2,by rw[<-hl];exact g3,fun k A u=>?_,fun k A j p u I=>?_⟩
   .have hk:k<es.length:=by rw[hl];exact(W4.1 u).1
    have:=h k _ A (W5 hk) u;rw[<-this.length];exact g4 k _ (W5 hk)
   .have hk:k<es.length:=by rw[hl];exact(W4.1 u).1
    obtain⟨q,J,D⟩:=(h k _ A (W5 hk) u).get j p I;exact D _ _ _ _ (g5 k _ j q (W5 hk) J)
def dG:List (List PV)->List (List PV)->Prop
 | [],[]=>True
 |p::r,q::s=>ia p q∧dG r s
 |_,_=>False
theorem dG.length: ∀{a b:List (List PV)},dG a b->a.length=b.length
 | [],[],_=>rfl
 |_::_,_::_,h=>congrArg (· +1) (dG.length h.2)
 | [],_::_,h=>h.elim
 |_::_,[],h=>h.elim
theorem dG.get: ∀{a b:List (List PV)},dG a b-> ∀(k:Nat) (e j:List PV),a[k]? =io e->b[k]? =io j->ia e j
 | [],[],_,_,_,_,h,_=>by simp at h
 |p::r,q::s,hh,k,e,j,h,g=>by
  cases k with
  |zero=>simp at h g;subst h;subst g;exact hh.1
  |succ k=>exact dG.get hh.2 k e j (by simpa using h) (by simpa using g)
 | [],_::_,hh,_,_,_,_,_=>hh.elim
 |_::_,[],hh,_,_,_,_,_=>hh.elim
theorem ia.refl: ∀a:List PV,ia a a
 | []=>trivial
 |p::r=>⟨.refl p,ia.refl r⟩
theorem dG.refl: ∀a:List (List PV),dG a a
 | []=>trivial
 |p::r=>⟨ia.refl p,dG.refl r⟩
theorem dG.app: ∀{a b c d:List (List PV)},dG a b->dG c d->dG (a++c) (b++d)
 | [],[],_,_,_,h=>h
 |_::_,_::_,_,_,h,g=>⟨h.1,dG.app h.2 g⟩
 | [],_::_,_,_,h,_=>h.elim
 |_::_,[],_,_,h,_=>h.elim
theorem Tl{n i:Nat}{σ:Nat->Nat}{h r:AH}{α:Type}{sz:Nat}{es:List (List PV)}{l:List α}{f:α->List IV}(ho:h.get (σ i)=io (.row sz es))(he:dG es (l.map fun x=>(f x).map .iv))(hi:Xx i n=jp)(hr:pc n σ h r):pc n σ h ((i,io (aS sz l f))::r):=
 ⟨⟨_,ho,(fc.US he.length he.get).trans (EV σ Z)⟩,WY hi,eR n,hr⟩
section
variable {P:Program} {ty:Ty} {nt:NT} {s:AS}
theorem Oz(A:bq P ty){o:Oper}{u v:TypeId}{x:Operand}(ho:o.op= .slice u x is is is){G I:bC}(hu:ty u=io G){n:Nat}(B:G.k= .arr n v)(Y:ty v=io I)
  {i off:Nat} (hx:ev s.f x= .ptr i off): ∀M N a w,Fits M N s nt a w-> ∃x,(execOp a.eval o).run P w= .ok (.value x) w∧VR M N (· <s.nx) (.ot i off n) x:=by
 intro M N a w hf;have D:P.underlying u=io (.array n v):=by
  have:=(A u _ hu).2.1;rw[B]at this;exact this
 have j:=aO hf.2.1 x;rw[hx]at j;generalize hy:a.eval x=y at j;cases j with
 |ptr _ _ hU=>
  refine⟨.slice (io ⟨N.aA i,off,is⟩) n n,?_,.ot _ _ _ hU⟩;simp only[execOp,ho,hy,Y7];refine a8 ?_;have J:(⟨N.aA i,off,is⟩:Addr).add 0=⟨N.aA i,off,is⟩:=by rw[c9,YC]
  simp[Instr.sliceAt,run_underlying D,Instr.sliceBounds,aQ (A v _ Y),Instr.sureAddr,J]
theorem Kg(f0:bq P ty){o:Oper}{x y:Operand}{t t' u:TypeId}(ho:o.op= .call ⟨.builtin .copy, #[x,y], #[t,t']⟩){e eu:bC}(ht:ty t=io e)(hk:e.k= .aP (.slice u))(hu:ty u=io eu)
  {i off n:Nat} {cs:List PV} {T:Option TypeId} {news:List (List PV)} {py:PV} (hx:ev s.f x= .ot i off n) (hi:s.h.get i=io (.cells cs T)) (x0:ev s.f y=py) (hy:Src s.h eu.size py news) (c0: ∀e∈news,dB e=jp)
  (hn:news.length<=n) (v0:off+news.length*eu.size<=cs.length)
  {s':AS} (hp:putDst nt o (.iv (.v (.int .i64 news.length))) ⟨s.f,(i,io (.cells (cs.take off++news.flatten++cs.drop (off+news.length*eu.size)) T))::s.h,s.nx⟩=io s'):OT P nt o s (fun t=>t=s'):=by
 refine OT.value hp fun M N a w hf=>?_
 have o0:P.underlying t=io (.slice u):=by
  have:=(f0 t _ ht).2.1;rw[hk]at this;exact this.1
 have g0:=aO hf.2.1 x;rw[hx]at g0;have q0:=aO hf.2.1 y;rw[x0]at q0;obtain⟨m0,ao,c,s0,G⟩:=hy.ok hf q0;have I:=fF m0;obtain⟨B,CT,g1,g2,g3,g4,g5⟩:=hf.1.obj i _ hi;have r0:a.eval x= .slice (io ⟨N.aA i,off,is⟩) n n:=by
  generalize a.eval x=z at g0;cases g0;rfl
 have D: ∀v w',(Builtin.copy_ #[t,t'] o.type #[a.eval x,a.eval y]).run P w= .ok v w'->(execOp a.eval o).run P w= .ok (.value v) w':=by
  intro v w' h;simp only[execOp,ho,resolve];simp[invoke,builtin,h]
 have a0:Nat.min news.length n=news.length:=Y9 hn;by_cases k0:news=[]
 .subst k0;have t0:cs.take off++([]:List (List PV)).flatten++cs.drop (off+([]:List (List PV)).length*eu.size)=cs:=by simp
  rw[t0];obtain⟨q1,q2⟩:=hf.1.write hi Z w (.cells cs T) Z Z Z Z (fun _ _=>rfl) ⟨B,CT,g1,g2,g3,g4,g5⟩;refine⟨.int .i64 0,w,M,N,D _ _ ?_,q1,⟨q2,hf.2⟩,.iv _ _ (.v _)⟩;rw[r0,s0];have hl:(Builtin.firstCells eu.size 0 (.slice ao 0 c)).run P w= .ok #[] w:=by
   cases ao with
   |none=>simp[Builtin.firstCells]
   |some a=>simp[Builtin.firstCells,loadCells,loadCellsFrom]
  simp[Builtin.copy_,run_underlying o0,Builtin.lenOf,aQ (f0 u _ hu),hl,storeCells,goInt]
 .obtain⟨b,i0,rfl,J⟩:=G k0;obtain⟨vs,v1,v2,v3⟩:=lu (s:=s) J;have p0:vs.length=news.length*eu.size:=by rw[v1,I]
  have Y: ∀z∈vs,z.oneCell'=jp:=by
   intro z hz;obtain⟨j,A⟩:=XU hz;have j0:j<news.flatten.length:=by rw[<-v1];exact(W4.1 A).1
   obtain⟨k,e,i2,h1,h2,_⟩:=jS m0 j _ (W5 j0);have h3:=v3 j _ (W5 j0);have h4:=h3.one (gE (c0 e (XE h1)) i2 _ h2);rw[W2,A]at h4;exact h4
  have hl:=run_firstCells_some (P:=P) w eu.size news.length ⟨b,i0,is⟩ news.length c vs p0 v2;have n0:=run_storeCells_at P (N.aA i) off CT vs 0 B w g1 (by omega) Y;simp only[YC]at n0;have d0:=setRow_heap w (N.aA i) B (B.toList.take off++vs++B.toList.drop (off+vs.length)).toArray CT (0,0) g1;have b0: ∀b,b≠N.aA i->(w.setRow (N.aA i) (B.toList.take off++vs++B.toList.drop (off+vs.length)).toArray).heap[b]? =w.heap[b]? :=by
   intro b hb;simp only[World.setRow,XB];rw[be (fun e=>hb e.symm)]
  have w0: ∀(j:Nat) (p:PV),(cs.take off++news.flatten++cs.drop (off+news.length*eu.size))[j]? =io p->VR M N (· <s.nx) p ((B.toList.take off++vs++B.toList.drop (off+vs.length)).toArray.getD j undef):=by
   intro j p A;rw[WZ,XP];have z0:(cs.take off).length=off:=by rw[XA];omega
   have e0:(B.toList.take off).length=off:=by rw[XA,Za];omega
   rw[Xf]at A ⊢;rcases XZ j off with h1|h1
   .rw[Xn (by omega)]at A ⊢;rw[XK,am h1]at A ⊢;rw[Xz,<-WZ];exact g4 j p A
   .rw[Xl (by omega),z0]at A;rw[Xl (by omega),e0];rcases XZ (j-off) news.flatten.length with h2|h2
    .rw[Xn h2]at A;rw[Xn (by rw[v1];exact h2),<-W2];exact v3 _ p A
    .rw[Xl h2,XW,I]at A;rw[Xl (by rw[v1];exact h2),XW,p0,Xz,<-WZ];rw[I]at h2;have e1:off+news.length*eu.size+(j-off-news.length*eu.size)=j:=by omega
     rw[e1]at A;rw[e1];exact g4 j p A
  obtain⟨q1,q2⟩:=hf.1.write hi Z (w.setRow (N.aA i) (B.toList.take off++vs++B.toList.drop (off+vs.length)).toArray) (.cells (cs.take off++news.flatten++cs.drop (off+news.length*eu.size)) T) Z Z Z (by simp) b0
   ⟨_,CT,d0,by simp;omega,by simp[I];omega,w0,g5⟩
  refine⟨.int .i64 news.length,_,M,N,D _ _ ?_,q1,⟨q2,hf.2⟩,.iv _ _ (.v _)⟩;rw[r0,s0];simp[Builtin.copy_,run_underlying o0,Builtin.lenOf,aQ (f0 u _ hu),a0,hl,n0,goInt]
end
end
end Go.Al
namespace Go.Al
open Go.Sort Go.RowKit
def Eh(P:Program)(I k:Nat):Prop:=
 (∀{α:Type} [Inhabited α] (enc:α->List Value) (_: ∀x,(enc x).length=k) (_: ∀x,∀v∈enc x,v.oneCell'=jp) (A:α->α->Int) (_:SWO fun x y=>lc (A x y<0)) (g:Nat) (G:Array Value) (j a0 b0:Nat) (d:Array α) (w:World)
  (_: ∀args w,(callFunc g args).run P w= .ok (.enter g args) w)
  (_: ∀(m:Nat) (os:Array Obj) (dk:Array α),dk.size=d.size-> ∀x y:α,
   Calls P g (#[.agg (enc x).toArray,.agg (enc y).toArray]++G) (grow (putRowK enc k (Sort.ahead w m) j a0 dk) os) fun e u=>e= .returned (.int .i64 (A x y))∧ ∃q D,u=grow ((grow (putRowK enc k (Sort.ahead w m) j a0 dk) os).drewN q) D)
  (_:HoldsK enc k w j a0 d) (_:j<w.heap.size) (_:d.size<4611686018427387904),
  Calls P I #[.slice (io ⟨j,a0,is⟩) d.size b0,.func (.func g) #[] G] w fun e u=>
   e= .returned (.tuple #[])∧ ∃B n os,PermIn 0 d.size d B∧SortedIn (fun x y=>lc (A x y<0)) 0 d.size B∧u=grow (putRowK enc k (Sort.ahead w n) j a0 B) os)∧
 ∀(p:Option Addr) (b0:Nat) (J:Value) (w:World),Calls P I #[.slice p 0 b0,J] w fun e u=>e= .returned (.tuple #[])∧u=w
def IV.flat:IV->Bool
 | .agg _=>kw
 | .v x=>x.oneCell'
 |_=>jp
theorem IR.one{M:Mem}{c:IV}{v:Value}(h:IR M c v)(hf:c.flat=jp):v.oneCell'=jp:=by
 cases h with
 |v=>exact hf
 |agg=>cases hf
 |_=>rfl
theorem yd{β:Type}{R:β->β->Prop}: ∀{a b:List β},a.Perm b->a.Pairwise R->b.Pairwise R->(∀x∈a,∀y∈a,R x y->R y x->x=y)->a=b
 | [],b,h,_,_,_=>h.nil_eq
 |x::a,[],h,_,_,_=>absurd h.length_eq (by simp)
 |x::a,y::b,h,h1,h2,h3=>by
  rw[Yd]at h1 h2;have e:x=y:=by
   have hx:x∈y::b:=h.mem_iff.1 (Xk ..);have j:y∈x::a:=h.mem_iff.2 (Xk ..);rcases Xm.1 hx with hx|hx
   .exact hx
   .rcases Xm.1 j with hy'|hy'
    .exact hy'.symm
    .exact h3 x (Xk ..) y j (h1.1 y hy') (h2.1 x hx)
  subst e;rw[yd (h.cons_inv) h1.2 h2.2 fun u hu v A=>h3 u (Xi _ hu) v (Xi _ A)]
theorem NF{M x:Mem}{N y:Nm}{A:Nat->Prop}{I:AH}{U:Nat->Prop}{w j:World}(u:Ext M N U [] w x y A I j): ∃q os,j=grow (w.drewN q) os:=by
 refine⟨j.drawn-w.drawn,j.heap.extract w.heap.size j.heap.size,?_⟩;have hh:j.heap=w.heap++j.heap.extract w.heap.size j.heap.size:=by
  refine Array.ext_getElem? fun b=>?_;by_cases hb:b<w.heap.size
  .rw[XF hb];exact u.gK b hb fun i o hi=>nomatch hi
  .rw[YV (by omega),Array.getElem?_extract];have:=u.size;split
   .congr 1;omega
   .rw[Zr];omega
 have hd:=u.output.drawn;have B:=u.os;have D:=u.tape;have G:=u.output.out;cases j;cases w;simp only[grow,World.drewN] at*
 subst B D G;simp only[World.mk.injEq,and_true,true_and];exact⟨hh,by omega⟩
def CZ{β:Type}(M:Mem)(ev:β->List IV)(ok:β->Prop)(k:Nat):Type:=
 {p:β×List Value//ok p.1∧p.2.length=k∧(∀v∈p.2,v.oneCell'=jp)∧ ∀j c,(ev p.1)[j]? =io c->IR M c (p.2.getD j undef)}
theorem xW{β:Type}{l:List β}{f:β->List IV}{i:Nat}{e:List PV}(h:(l.map fun x=>(f x).map PV.iv)[i]? =io e): ∃s,l[i]? =io s∧e=(f s).map PV.iv:=by
 rw[W9,Xa]at h;obtain⟨s,h1,rfl⟩:=h;exact⟨s,h1,rfl⟩
set_option maxHeartbeats 1000000 in
theorem xQ{P:Program}{fs g k:Nat}{β:Type}(hS:Eh P fs k)(m1:fK P fs)(k1:fK P g)(t0:0<k)(ev:β->List IV)(a0:β->β->Int)(ok:β->Prop)
  (n1: ∀x y,ok x->ok y->Pure P g [ag (ev x),ag (ev y)] (pI (a0 x y))) (f0: ∀x,(ev x).length=k) (p1: ∀x,∀c∈ev x,c.flat=jp)
  (Sz: ∀x,ok x-> ¬a0 x x<0) (tr: ∀x y z,ok x->ok y->ok z->a0 x y<0->a0 y z<0->a0 x z<0) (VI: ∀x y z,ok x->ok y->ok z-> ¬a0 x y<0-> ¬a0 y z<0-> ¬a0 x z<0)
  (l l':List β) (hl: ∀x∈l,ok x) (Td: ∀x∈l,∀y∈l,¬a0 x y<0-> ¬a0 y x<0->x=y) (hp:l.Perm l') (hs:l'.Pairwise fun x y=> ¬a0 y x<0) (t1:l.length<=1000000000000)
  (pv:PV) (a2: ∀M N U v,VR M N U pv v->v= .func (.func g) #[] #[]):
  bh P fs [.sl 0 0 l.length k,pv] [aS k l ev] (.a7 []) [(0,io (aS k l' ev))] 1:=by
 refine⟨m1,fun M N w vs hr i0 hv=>?_⟩;obtain⟨v,v1,rfl⟩: ∃v v1,vs=[v,v1]:=by
  match vs,i0 with
  | [v,v1],_=>exact⟨v,v1,rfl⟩
 have J:=hv 0 _ Z;have i1:=a2 _ _ _ _ (hv 1 _ Z);simp only[YX]at J;simp only[Yt,YX]at i1;subst i1;have z1:=hr.obj 0 _ Z;cases l with
 |nil=>
  have s1:l'=[]:=(hp.nil_eq).symm;subst s1;obtain⟨p,b0,rfl⟩: ∃p b0,v= .slice p 0 b0:=by
   generalize A:PV.sl 0 0 ([]:List β).length k=q at J;cases J with
   |sl i off len sz b0 h h0 h1 hc he=>cases A;simp at h0
   |lx i sz h=>exact⟨_,_,rfl⟩
   |sle i sz b0 h hc he=>cases A
   |_=>cases A
  refine(hS.2 p b0 _ w).mono ?_;rintro e w' ⟨rfl,rfl⟩;exact⟨_,M,N,.a7 [],_,1,rfl,⟨rfl,rfl,rfl⟩,.refl _ _ _ _ _,hr,.a7 [] #[] Z (by simp)⟩
 |cons s0 r=>
  generalize hL:s0::r=L at*
  have m0:0<L.length:=by rw[<-hL];simp
  obtain⟨b0,b2⟩: ∃b0,v= .slice (io ⟨N.aA 0,0,is⟩) L.length b0:=by
   generalize hn:L.length=n at J m0;generalize A:PV.sl 0 0 n k=q at J;cases J with
   |sl i off len sz b0 h h0 h1 hc he=>cases A;exact⟨b0,by simp⟩
   |lx i sz h=>cases A;omega
   |_=>cases A
  subst b2;rcases z1 with h0|⟨_,c,T,h1,h2,h3,h4,h5⟩
  .rw[<-hL]at h0;cases h0
  rw[Xw]at h3;have v0:(aS k L ev).real=jp:=by rw[<-hL];rfl
  have x1:=hr.lt (i:=0) Z v0;have n0: ∀(i:Nat) (x:β),L[i]? =io x-> ∀j q,(ev x)[j]? =io q->IR M q (c.getD (i*k+j) undef):=fun i x hi j q A=>by
   have:=h5 i ((ev x).map .iv) j (.iv q) (by rw[W9,hi];rfl) (by rw[W9,A];rfl);cases this with
   |iv _ _ h=>exact h
  let z0:(i:Nat)->(h:i<L.length)->CZ M ev ok k:=fun i h=>⟨(L[i],(XC k).map fun j=>c.getD (i*k+j) undef),by
   have hg: ∀j,j<k-> ∃q,(ev L[i])[j]? =io q:=fun j u=>⟨_,W5 (by rw[f0];exact u)⟩
   refine⟨hl _ (XS h),by simp,fun v hv=>?_,fun j q A=>?_⟩
   .rw[XH]at hv;obtain⟨j,u,rfl⟩:=hv;obtain⟨q,A⟩:=hg j (Yz.1 u);exact(n0 i _ (W5 h) j q A).one (p1 _ q (XE A))
   .have u:j<k:=by rw[<-f0 L[i]];exact(W4.1 A).1
    have:=n0 i _ (W5 h) j q A;rw[W2,W9,Zz u]
    exact this⟩
  haveI:Inhabited (CZ M ev ok k):=⟨z0 0 m0⟩
  let d:Array (CZ M ev ok k):=Array.ofFn (n:=L.length) fun i=>z0 i.1 i.2
  have D:d.size=L.length:=by simp[d]
  let enc:CZ M ev ok k->List Value:=fun x=>x.1.2
  have I: ∀x,(enc x).length=k:=fun x=>x.2.2.1
  have a1: ∀i (h:i<L.length),d[i]! =z0 i h:=fun i h=>by
   rw[getElem!_pos d i (by rw[D];exact h)];simp[d]
  have hH:HoldsK enc k w (N.aA 0) 0 d:=by
   intro t ht;rw[size_flatK,D]at ht;have A:t/k<L.length:=Nat.div_lt_of_lt_mul (by rw[ZM];exact ht);have hm:t % k<k:=Nat.mod_lt _ t0;have hb:t/k*k+t % k=t:=Nat.div_add_mod' t k;have g1:t<c.size:=by omega
   constructor
   .simp only[World.cell?,h1,Xo,Option.isSome_none,YQ,if_false];rw[get_flatK _ _ _ _ (by rw[D];exact ht),a1 _ A];show c[t]? =io (((XC k).map fun j=>c.getD (t/k*k+j) undef)[t % k]!);rw[getElem!_pos _ _ (by simpa using hm)];simp only[YN,List.getElem_range,hb];rw[XJ g1,WZ,XJ g1];rfl
   .simp[World.frozen?,h1]
  have hO:SWO fun x y:CZ M ev ok k=>lc (a0 x.1.1 y.1.1<0):=
   ⟨fun x=>decide_eq_false (Sz _ x.2.1),fun x y z a b=>decide_eq_true (tr _ _ _ x.2.1 y.2.1 z.2.1 (of_decide_eq_true a) (of_decide_eq_true b)),
    fun x y z a b=>decide_eq_false (VI _ _ _ x.2.1 y.2.1 z.2.1 (of_decide_eq_false a) (of_decide_eq_false b))⟩
  have Y: ∀x:CZ M ev ok k,VR M N (· <0) (ag (ev x.1.1)) (.agg (enc x).toArray):=fun x=>by
   refine .agg _ _ (by simp[I,f0]) fun j p u=>?_;rw[W9,Xa]at u;obtain⟨q,A,rfl⟩:=u;refine .iv _ _ ?_;have:=x.2.2.2.2 j q A;rw[WZ,XP,<-W2];exact this
  have q0: ∀(m:Nat) (os:Array Obj) (dk:Array (CZ M ev ok k)),dk.size=d.size-> ∀x y:CZ M ev ok k,
    Calls P g (#[.agg (enc x).toArray,.agg (enc y).toArray]++ #[]) (grow (putRowK enc k (Sort.ahead w m) (N.aA 0) 0 dk) os) fun e w'=>
     e= .returned (.int .i64 (a0 x.1.1 y.1.1))∧ ∃q c2,w'=grow ((grow (putRowK enc k (Sort.ahead w m) (N.aA 0) 0 dk) os).drewN q) c2:=by
   intro m os dk _ x y;generalize hW:grow (putRowK enc k (Sort.ahead w m) (N.aA 0) 0 dk) os=W;have g0: ∀b,b<w.heap.size->b≠N.aA 0->W.heap[b]? =w.heap[b]? :=fun b hb hn=>by
    rw[<-hW];show((w.heap.modify (N.aA 0) _)++os)[b]? =_;rw[XF (by simpa using hb),XB,be fun e=>hn e.symm]
   have w0:Rel M N (· <([]:List AO).length) (cO 0 []) W:=
    ⟨fun b c hb=>(hr.dK b c hb).mono (g0 b (hr.dK b c hb).lt fun e=>by
      have:=hr.dS 0 _ Z v0
      rw[e]at hb;rw[hb]at this;cases this),
     fun i o hi=>(nomatch hi),fun i o hi=>(nomatch hi),fun i o hi=>(nomatch hi),fun i j o p hi=>(nomatch hi)⟩
   refine((n1 x.1.1 y.1.1 x.2.1 y.2.1).2 M N W [.agg (enc x).toArray,.agg (enc y).toArray] w0 Z fun j p u=>?_).mono ?_
   .match j with
    |0=>cases u;exact Y x
    |1=>cases u;exact Y y
    |j+2=>simp at u
   .rintro e w' ⟨v,M',N',r,h',n',rfl,⟨rfl,rfl,rfl⟩,hx,_,hv⟩;cases hv with
    |iv _ _ h=>cases h;exact⟨rfl,NF hx⟩
  have c0:=hS.1 enc I (fun x=>x.2.2.2.1) (fun x y=>a0 x.1.1 y.1.1) hO g #[] (N.aA 0) 0 b0 d w k1 q0 hH x1 (by omega);rw[D]at c0;refine c0.mono ?_;rintro e w' ⟨rfl,d',n,os,hpm,hst,rfl⟩;have d0:d'.size=L.length:=hpm.1.trans D;have j1:(d'.toList.map fun x=>x.1.1)=l':=by
   have b1:(d.toList.map fun x=>x.1.1)=L:=by
    refine Zy (by simpa using D) fun i h1 h2=>?_;have h3:i<L.length:=h2;have:=a1 i h3;rw[getElem!_pos d i (by omega)]at this;rw[YN,Array.getElem_toList,this]
   have k0:d'.toList.Perm d.toList:=by
    have:=hpm.2.2;rw[show d'.extract 0 L.length=d' by rw[<-d0,aav],show d.extract 0 L.length=d by rw[<-D,aav]]at this;exact this
   refine yd ((k0.map _).trans (by rw[b1];exact hp)) ?_ hs fun x hx y hy a b=>?_
   .rw[Yl];intro i j hi u r1;simp only[Xw,Za]at hi u;have:=of_decide_eq_false (hst i j (Xc _) r1 (by omega));rw[getElem!_pos d' i hi,getElem!_pos d' j u]at this;simpa using this
   .have hm: ∀z,z∈(d'.toList.map fun x=>x.1.1)->z∈L:=fun z hz=>by
     rw[<-b1];exact((k0.map _).mem_iff).1 hz
    exact Td x (hm x hx) y (hm y hy) b a
  subst j1;generalize hW:putRowK enc k (Sort.ahead w n) (N.aA 0) 0 d'=w1;have r0:w1.heap=w.heap.modify (N.aA 0) (onCells (putCells id 0 (flatK enc k d'))):=by rw[<-hW];rfl
  have f1:w1.heap.size=w.heap.size:=by rw[r0];simp
  have x0:OR M N (· <1) w1 0 (aS k (d'.toList.map fun x=>x.1.1) ev):=by
   refine .inr ⟨t0,putCells id 0 (flatK enc k d') c,T,?_,?_,?_,?_,?_⟩
   .rw[r0,XB,am Z,h1];rfl
   .simp[putCells,h2]
   .simp only[Xw,Za,d0,putCells,Array.size_mapIdx];omega
   .intro i e he;obtain⟨s,_,rfl⟩:=xW he;simp[f0]
   .intro i e j p he u;obtain⟨s,d1,rfl⟩:=xW he;rw[W9,Xa]at u;obtain⟨q,A,rfl⟩:=u;rw[W9,Xa]at d1;obtain⟨y,hy,rfl⟩:=d1;have hi:i<d'.size:=by
     have:=(W4.1 hy).1;simpa using this
    have u:j<k:=by rw[<-f0 y.1.1];exact(W4.1 A).1
    have j0:=Xt k (show i+1<=d'.size from hi);rw[XT,Nat.one_mul]at j0;have o1:d'[i]! =y:=by
     rw[getElem!_pos d' i hi];rw[Xz,XJ hi]at hy;exact X4 hy
    have e0:(putCells id 0 (flatK enc k d') c).getD (i*k+j) undef=(enc y).getD j undef:=by
     have q1:i*k+j<c.size:=by rw[d0]at j0;omega
     rw[WZ];simp only[putCells,Array.getElem?_mapIdx];rw[XJ q1,Ya,X9,am ⟨Xc _,by rw[size_flatK];omega⟩,ZK,id,get_flatK _ _ _ _ (by omega)];have e1:(i*k+j)/k=i:=by rw[ZM,Nat.mul_add_div t0,Nat.div_eq_of_lt u];rfl
     have e2:(i*k+j) % k=j:=by rw[ZM,Nat.mul_add_mod,Zl u]
     rw[e1,e2,o1,getElem!_pos _ j (by rw[I];exact u),W2,W5 (by rw[I];exact u)];rfl
    rw[e0];exact .iv _ _ (y.2.2.2.2 j q A)
  have G:=hr.write (i:=0) (o0:=aS k L ev) Z v0 w1 (aS k (d'.toList.map fun x=>x.1.1) ev) (by rw[<-hW];rfl) (by rw[<-hW];rfl) (by rw[<-hW];rfl) f1 (fun b hb=>by
   rw[r0,XB,be fun e=>hb e.symm]) x0 (by rw[<-hW];exact ZS _ _)
  have p0:Rel M N (· <1) ((0,io (aS k (d'.toList.map fun x=>x.1.1) ev))::cO 0 [aS k L ev]) (grow w1 os):=G.2.more fun b hb=>by
   show(w1.heap++os)[b]? =_;rw[XF hb]
  have B: ∀i o,AH.get [(0,io (aS k (d'.toList.map fun x=>x.1.1) ev))] i=io o->AH.get ((0,io (aS k (d'.toList.map fun x=>x.1.1) ev))::cO 0 [aS k L ev]) i=io o:=by
   intro i o h;rw[AH.ay]at h ⊢;split at h
   .rename_i h6;rw[am h6];exact h
   .simp[AH.get]at h
  refine⟨_,M,N,.a7 [],_,1,rfl,⟨rfl,rfl,rfl⟩,⟨G.1.os,G.1.tape,⟨G.1.output.out,G.1.output.drawn⟩,?_,?_,.refl _,fun b c h1 h2=>(nomatch (h1.symm.trans h2)),.refl _ _,fun _ h=>h,fun i o hi=>G.1.gB i o (B i o hi)⟩,?_,.a7 [] #[] Z (by simp)⟩
  .show w.heap.size<=(grow w1 os).heap.size;rw[size_grow,f1];omega
  .intro b hb hn;have h7:=G.1.gK b hb hn;show(w1.heap++os)[b]? =_;rw[XF (by omega)];exact h7
  .exact⟨p0.dK,fun i o hi=>p0.used i o (B i o hi),fun i o hi=>p0.dS i o (B i o hi),fun i o hi=>p0.obj i o (B i o hi),fun i j o p hi u=>p0.inj i j o p (B i o hi) (B j p u)⟩
def KO(P:Program)(f:Nat):Prop:=
 ∀(b:Nat) (es:Array MapEntry) (clock:Nat) (w:World),w.heap[b]? =io (.map es clock)->Calls P f #[.map (io b)] w fun e j=>e= .returned (.map (io w.heap.size))∧j=w.alloc (.map es clock)
def AO.isMap:AO->Bool
 | .fE=>jp
 | .map ..=>jp
 | .iA ..=>jp
 |_=>kw
theorem OR.isMap{M:Mem}{N:Nm}{U:Nat->Prop}{w:World}{i:Nat}{o:AO}(h:OR M N U w i o)(ho:o.isMap=jp): ∃es clock,w.heap[N.aA i]? =io (.map es clock):=by
 cases o with
 |fE=>exact⟨_,_,h⟩
 |map=>obtain⟨es,clock,h1,_⟩:=h;exact⟨_,_,h1⟩
 |iA=>obtain⟨es,h1,_⟩:=h;exact⟨_,_,h1⟩
 |_=>cases ho
theorem OR.Vz{M:Mem}{N x:Nm}{U A:Nat->Prop}{w y:World}{i j:Nat}{o:AO}(h:OR M N U w i o)(ho:o.isMap=jp)(e:y.heap[x.aA j]? =w.heap[N.aA i]?):OR M x A y j o:=by
 cases o with
 |fE=>exact e.trans h
 |map=>obtain⟨es,clock,h1,u⟩:=h;exact⟨es,clock,e.trans h1,u⟩
 |iA=>obtain⟨es,h1,u⟩:=h;exact⟨es,e.trans h1,u⟩
 |_=>cases ho
theorem Kj{P:Program}{f:Nat}(hS:KO P f)(hc:fK P f){o:AO}(ho:o.isMap=jp):bh P f [.mp 0] [o] (.mp 1) [(1,io o),(0,io o)] 2:=by
 refine⟨hc,fun M N w vs hr j A=>?_⟩;obtain⟨v,rfl⟩: ∃v,vs=[v]:=by
  match vs,j with
  | [v],_=>exact⟨v,rfl⟩
 have x:=A 0 _ Z;simp only[YX]at x;obtain rfl:v= .map (io (N.aA 0)):=by cases x;rfl
 have u:=hr.obj 0 _ Z;obtain⟨es,clock,h1⟩:=u.isMap ho;refine(hS (N.aA 0) es clock w h1).mono ?_;rintro e Y ⟨rfl,rfl⟩;obtain⟨y,B,I,J,D,G⟩:=hr.alloc (n:=1) (.map es clock) o 0 fun y g1 g2 g3=>u.Vz ho (by rw[g1,h1];exact heap_alloc_new w _);refine⟨_,M,y,.mp 1,_,2,rfl,⟨rfl,rfl,rfl⟩,D,G,?_⟩;have:=VR.mp (M:=M) (N:=y) (U:=(· <2)) 1 (by decide);rw[B]at this;exact this
end Go.Al
namespace Go.Al
open Go.MapKept
section
section
variable {P:Program} {ty:Ty} {nt:NT} {s:AS} {Q:AQ} {k:List KI}
theorem xZ(a0:bq P ty){o:Oper}{t:TypeId}{x:Operand}(ho:o.op= .range t x){i:Nat}{kc:KC}{V:Type}{e:V->IV}{z:V}{I:Value}{G:PV->V}{m:List (kc.K×V)}(hx:ev s.f x= .mp i)(hi:s.h.get i=io (.map kc e z I G m))
  {te:bC} (ht:ty t=io te) {kt et:TypeId} (Y:te.k= .aP (.map kt et)) {d:Nat} (hd:o.dst=io d) (hlt:d<nt):
  OT P nt o s fun u=> ∃bs clock,bs.length=m.length∧bs.Nodup∧(∀b∈bs,b<clock)∧u=⟨(d,.ptr s.nx 0)::s.f,(s.nx,io (.eJ (.mp i) clock []))::(i,io (.iA kc e z I G m bs clock))::s.h,s.nx+1⟩:=by
 have hu:P.underlying t=io (.map kt et):=by
  have:=(a0 _ _ ht).2.1;rw[Y]at this;exact this.1
 intro M N a w hf K Z hk;have A:=aO hf.2.1 x;rw[hx]at A;have J:a.eval x= .map (io (N.aA i)):=by
  generalize a.eval x=y at A;cases A;rfl
 obtain⟨ents,clock,g1,g2,g3⟩:=hf.1.obj i _ hi;obtain⟨q1,q2⟩:=hf.1.write hi rfl w (.iA kc e z I G m (ents.toList.map MapEntry.born) clock) rfl rfl rfl rfl (fun _ _=>rfl) ⟨ents,g1,g2,g3,rfl⟩
 obtain⟨D,r1,r2,r3,r4,r5⟩:=q2.alloc (.mapIter (io (N.aA i)) clock #[] clock) (.eJ (.mp i) clock []) 0 (fun D h1 h2 h3=>
  ⟨N.aA i,by have:=VR.mp (M:=M) (N:=D) (U:=(· <s.nx+1)) i (YF (hf.1.used i _ hi));rwa[h3.aA i (hf.1.used i _ hi)]at this,by rw[h1];exact heap_alloc_new w _⟩)
 have B:(execOp a.eval o).run P w= .ok (.value (.pointer (io ⟨w.heap.size,0,is⟩))) (w.alloc (.mapIter (io (N.aA i)) clock #[] clock)):=by
  simp only[execOp,ho,J];simp[Instr.range,run_underlying hu,getObj,Sem.run,g1,Result.andThen]
 unfold Oper.wp;rw[B];simp only[Oper.upon];refine hk M D _ _ _ (q1.trans r4) ?_ ⟨_,clock,by simp[g2.size],?_,fun b hb=>?_,rfl⟩
 .rw[hd];refine Fits.put (s:=⟨s.f,(s.nx,io (.eJ (.mp i) clock []))::(i,io (.iA kc e z I G m (ents.toList.map MapEntry.born) clock))::s.h,s.nx+1⟩) ⟨r5,fun d=>(hf.2.1 d).mono (.refl _) r3 (fun i hi=>YF hi),hf.2.2⟩ d _ _ hlt ?_;have:=VR.ptr (M:=M) (N:=D) (U:=(· <s.nx+1)) s.nx 0 (by omega);rw[r1]at this;exact this
 .rw[List.Nodup,List.pairwise_map,Yl];intro p q hp hq c0 he;have:=g2.inj p q _ _ (by rw[<-Xz,W5 hp]) (by rw[<-Xz,W5 hq]) he;omega
 .obtain⟨x,b0,rfl⟩:=XH.1 hb;obtain⟨j,hj⟩:=XU b0;exact g2.lt j x (by simpa using hj)
theorem BY{o:Oper}{it:Operand}(ho:o.op= .next it kw){i j:Nat}(p0:ev s.f it= .ptr i 0){kc:KC}{V:Type}{e:V->IV}{z:V}{zv:Value}{dv:PV->V}{m:List (kc.K×V)}{bs A:List Nat}{clock:Nat}
  (hi:s.h.get i=io (.eJ (.mp j) clock A)) (hj:s.h.get j=io (.iA kc e z zv dv m bs clock)) {d:Nat} (hd:o.dst=io d) (hlt:d<nt):
  OT P nt o s fun u=>((∀(q b:Nat),bs[q]? =io b->b∈A)∧u=⟨(d,.a7 [.kb kw])::s.f,s.h,s.nx⟩)∨
   ∃(q:Nat) (x:kc.K×V) (b:Nat),m[q]? =io x∧bs[q]? =io b∧b∉A∧u=⟨(d,.a7 [.kb jp,kc.pk x.1,(e x.2).pv])::s.f,(i,io (.eJ (.mp j) clock (A++ [b])))::s.h,s.nx⟩:=by
 intro M N a w hf K Z hk;have hx:=aO hf.2.1 it;rw[p0]at hx;have j0:=hf.1.obj i _ hi;have c0:N.aA i<w.heap.size:=OR.lt j0 rfl;have i0:a.eval it= .pointer (io ⟨N.aA i,0,is⟩):=by
  generalize a.eval it=y at hx;cases hx;rfl
 obtain⟨b0,f0,h1⟩:=j0;have o0:b0=N.aA j:=by cases f0;rfl
 subst o0;obtain⟨ents,hb,h3,h4,h5⟩:=hf.1.obj j _ hj;have e0: ∀x∈ents.toList,x.born<clock:=by
  intro x hx;obtain⟨j,hj⟩:=XU hx;exact h3.lt j x (by simpa using hj)
 have g0: ∀q (I:q<ents.size),bs[q]? =io ents[q].born:=fun q I=>by
  rw[<-h5,W9,Xz,XJ I];rfl
 unfold Oper.wp;rcases run_next_at (P:=P) w o.type (N.aA i) (N.aA j) clock clock A.toArray ents clock h1 hb e0 (W8 _) with⟨g1,g2⟩|⟨x,n0,J,m0,g2⟩
 .have G:(execOp a.eval o).run P w= .ok (.value (.tuple #[.bool kw])) w:=by
   simp only[execOp,ho,i0];exact a8 g2
  rw[G];simp only[Oper.upon]
  refine hk M N ⟨(d,.a7 [.kb kw])::s.f,s.h,s.nx⟩ _ w (.refl _ _ _ _ _) (by
   rw[hd]
   exact hf.put d _ _ hlt (.a7 _ _ rfl fun j p D=>by
    match j with
    |0=>simp at D;subst D;exact .kb _
    |j+1=>simp at D)) (.inl ⟨fun q b I=>?_,rfl⟩)
  have r0:q<ents.size:=by
   have:=(W4.1 I).1;rw[<-h5]at this;simpa using this
  rw[g0 q r0]at I;cases I;refine Decidable.byContradiction fun hn=>?_
  have:ents[q]∈leftOf ents A.toArray:=by
   simp only[leftOf,ZR];exact⟨by simp,by simpa using hn⟩
  rw[Yn g1]at this;simp at this
 .have G:(execOp a.eval o).run P w= .ok (.value (.tuple #[.bool jp,x.key,x.val])) (oB J (N.aA i) (.mapIter (io (N.aA j)) clock (A.toArray.push x.born) clock)):=by
   simp only[execOp,ho,i0];rw[Sem.run_bind,g2];rfl
  rw[G];simp only[Oper.upon];simp only[leftOf,Array.mem_toList_iff,ZR]at n0;obtain⟨t0,v0⟩:=n0;obtain⟨q,I,k0⟩:=Array.getElem_of_mem t0;have s0:q<m.length:=by rw[<-h3.size];exact I
  have d0:m[q]? =io m[q]:=W5 s0;have B:J.heap=w.heap∧J.os=w.os∧J.tape=w.tape∧J.output=w.output:=by
   rcases m0 with rfl|rfl<;>exact⟨rfl,rfl,rfl,rfl⟩
  have q0:OR M N (· <s.nx) (oB J (N.aA i) (.mapIter (io (N.aA j)) clock (A.toArray.push x.born) clock)) i (.eJ (.mp j) clock (A++ [x.born])):=by
   refine⟨N.aA j,f0,?_⟩;show(J.heap.setIfInBounds _ _)[_]? =_;rw[XD,am rfl,B.1,am c0];simp
  obtain⟨q1,q2⟩:=hf.1.write hi rfl (oB J (N.aA i) (.mapIter (io (N.aA j)) clock (A.toArray.push x.born) clock)) _ B.2.1 B.2.2.1 B.2.2.2 (by simp[oB,B.1]) (fun c hc=>by
   show(J.heap.setIfInBounds _ _)[c]? =_
   rw[XD,be (fun e=>hc e.symm),B.1]) q0 (m0.elim (fun e=>e▸W8 _) fun e=>e▸Yw _)
  have Y:=h3.key q _ d0;have a0:=h3.val q _ d0;rw[h3.D1 I,k0]at Y a0
  refine hk M N ⟨(d,.a7 [.kb jp,kc.pk m[q].1,(e m[q].2).pv])::s.f,(i,io (.eJ (.mp j) clock (A++ [x.born])))::s.h,s.nx⟩ _ _ q1 (by
   rw[hd];refine Fits.put (s:=⟨s.f,(i,io (.eJ (.mp j) clock (A++ [x.born])))::s.h,s.nx⟩) ⟨q2,hf.2⟩ d _ _ hlt (.a7 _ _ rfl fun q p D=>?_)
   match q with
   |0=>simp at D;subst D;exact .kb _
   |1=>simp at D;subst D;simp only[WZ];simp;rw[Y];exact yc kc _
   |2=>simp at D;subst D;exact x7 a0
   |q+3=>simp at D) (.inr ⟨q,m[q],x.born,d0,by rw[g0 q I,k0],by simpa using v0,rfl⟩)
theorem yI{o:Oper}{it:Operand}(ho:o.op= .entry it){i j:Nat}(e0:ev s.f it= .ptr i 0){kc:KC}{V:Type}{e:V->IV}{z:V}{zv:Value}{dv:PV->V}{m:List (kc.K×V)}{bs A:List Nat}{clock:Nat}
  (hi:s.h.get i=io (.eJ (.mp j) clock A)) (hj:s.h.get j=io (.iA kc e z zv dv m bs clock)) {q:Nat} {x:kc.K×V} {b:Nat} (hl:A.getLast? =io b) (hq:bs[q]? =io b) (hm:m[q]? =io x) {s':AS}
  (hp:putDst nt o (.a7 [kc.pk x.1,(e x.2).pv]) s=io s'):OT P nt o s fun u=>u=s':=by
 refine OT.value hp fun M N a w hf=>?_;have hx:=aO hf.2.1 it;rw[e0]at hx
 have d0:a.eval it= .pointer (io ⟨N.aA i,0,is⟩):=by
  generalize a.eval it=y at hx;cases hx;rfl
 obtain⟨b0,a0,h1⟩:=hf.1.obj i _ hi;have c0:b0=N.aA j:=by cases a0;rfl
 subst c0;obtain⟨ents,hb,h3,h4,h5⟩:=hf.1.obj j _ hj;have J:q<ents.size:=by
  have:=(W4.1 hq).1;rw[<-h5]at this;simpa using this
 have Y:ents[q].born=b:=by
  rw[<-h5,W9,Xz,XJ J]at hq;simpa using hq
 have B:=h3.key q _ hm;have D:=h3.val q _ hm;rw[h3.D1 J]at B D;have I:ents.find? (fun e=>e.born==b)=io ents[q]:=by
  rw[Array.find?_eq_some_iff_getElem];refine⟨by simp[Y],q,J,rfl,fun p f0=>?_⟩;simp only[Ye,beq_eq_false_iff_ne];intro he;have:=h3.inj p q ents[p] ents[q] (by simp) (by simp) (he.trans Y.symm);omega
 refine⟨.tuple #[ents[q].key,ents[q].val],w,M,N,?_,.refl _ _ _ _ _,hf,?_⟩
 .simp only[execOp,ho,d0];refine a8 ?_;have G:A.toArray.back? =io b:=by simpa using hl
  simp[Instr.entry,getObj,Sem.run,h1,hb,G,I,Result.andThen]
 .refine .a7 _ _ Z fun p r hr=>?_
  match p with
  |0=>simp at hr;subst hr;simp only[WZ];simp;rw[B];exact yc kc _
  |1=>simp at hr;subst hr;exact x7 D
  |p+2=>simp at hr
theorem D9(B:bq P ty){o:Oper}{J ko:Operand}{t t':TypeId}(ho:o.op= .call ⟨.builtin .delete, #[J,ko], #[t,t']⟩){j:Nat}(hm:ev s.f J= .mp j){kc:KC}{V:Type}{e:V->IV}{z:V}{zv:Value}{dv:PV->V}{m:List (kc.K×V)}{bs:List Nat}{clock:Nat}
  (hj:s.h.get j=io (.iA kc e z zv dv m bs clock)) {te:bC} (ht:ty t=io te) {kt et:TypeId} (d0:te.k= .aP (.map kt et)) (I:dV ty kt=io kc) {Y:kc.K} (b0:kc.dk (ev s.f ko)=io Y) {q:Nat} (D:kX kc m Y=io q) {s':AS}
  (hp:putDst nt o .any ⟨s.f,(j,io (.iA kc e z zv dv (m.eraseIdx q) (bs.eraseIdx q) clock))::s.h,s.nx⟩=io s'):OT P nt o s fun u=>u=s':=by
 have hu:P.underlying t=io (.map kt et):=by
  have:=(B _ _ ht).2.1;rw[d0]at this;exact this.1
 refine OT.value hp fun M N a w hf=>?_;have e0:=FD b0 (aO hf.2.1 ko);have A:=aO hf.2.1 J;rw[hm]at A
 have i0:a.eval J= .map (io (N.aA j)):=by
  generalize a.eval J=y at A;cases A;rfl
 obtain⟨ents,h1,h2,h3,h4⟩:=hf.1.obj j _ hj;have f0:=OR.lt (hf.1.obj j _ hj) Z;have a0:=lG (P:=P) (w:=w) B I Y ents.isEmpty 9994;have G:=nP (P:=P) (w:=w) B I Y h2.keys;rw[D]at G;have hg:(getObj (N.aA j)).run P w= .ok (.map ents clock) w:=by simp[getObj,Sem.run,h1]
 obtain⟨v,g0,_⟩:=mK D;have j0:=(W4.1 g0).1;have c0:=h2.erase j0
 obtain⟨g3,g4⟩:=hf.1.write hj Z (oB w (N.aA j) (.map (ents.eraseIdxIfInBounds q) clock)) (.iA kc e z zv dv (m.eraseIdx q) (bs.eraseIdx q) clock) Z Z Z (by simp[oB]) (fun b hb=>by
  show(w.heap.setIfInBounds _ _)[b]? =_
  rw[XD,be (fun e=>hb e.symm)]) ⟨ents.eraseIdxIfInBounds q,by
   show(w.heap.setIfInBounds _ _)[_]? =_;rw[XD,am Z,am f0],c0,h3,by
   rw[<-h4];have key: ∀(l:List MapEntry) (n:Nat),(l.eraseIdx n).map MapEntry.born=(l.map MapEntry.born).eraseIdx n:=by
    intro l
    induction l with
    |nil=>intro n;rfl
    |cons x l ih=>intro n;cases n with
     |zero=>rfl
     |succ n=>simp[List.eraseIdx,ih n]
   simp[key]⟩
 refine⟨.tuple #[],_,M,N,?_,g3,⟨g4,hf.2.1,hf.2.2⟩,.any _⟩;simp only[execOp,ho,resolve];simp[invoke,builtin,i0,e0,Builtin.delete_,run_underlying hu,hg,a0,G,jE (P:=P) _ h1]
theorem Oq{kc:KC}{V:Type}{e:V->IV}{z:V}{u:Value}{j:PV->V}{m:List (kc.K×V)}{bs:List Nat}{clock:Nat}:fc (.iA kc e z u j m bs clock) (.map kc e z u j m):=
 ⟨fun _=>rfl,fun _ _ _ _ _ ⟨ents,h1,h2,h3,_⟩=>⟨ents,clock,h1,h2,h3⟩⟩
end
def lR(bs vs:List Nat):List Nat:=vs.map fun j=>bs.getD j 0
theorem vp{bs vs:List Nat}{q b:Nat}(hb:bs[q]? =io b)(h:b∉lR bs vs):q∉vs:=fun m=>h (XH.2 ⟨q,m,by rw[W2,hb];rfl⟩)
theorem Ia{bs vs:List Nat}(hn:bs.Nodup)(D: ∀j∈vs,j<bs.length)(h: ∀(q b:Nat),bs[q]? =io b->b∈lR bs vs): ∀q,q<bs.length->q∈vs:=by
 intro q y;obtain⟨j,A,x⟩:=XH.1 (h q _ (W5 y));have u:=D j A;rw[W2,W5 u,X9]at x;have:j=q:=by
  have B:=Yl.1 hn;rcases Zd j q with g|g|g
  .exact absurd x (B j q u y g)
  .exact g
  .exact absurd x.symm (B q j y u g)
 exact this▸A
theorem y5{n:Nat}{vs:List Nat}(hn:vs.Nodup)(u: ∀j∈vs,j<n)(h: ∀q,q<n->q∈vs):vs.Perm (XC n):=
 (YJ hn List.nodup_range).2 fun q=>⟨fun m=>Yz.2 (u q m),fun m=>h q (Yz.1 m)⟩
theorem C5{n:Nat}{vs:List Nat}(hn:vs.Nodup)(u: ∀j∈vs,j<n):vs.length<=n:=by
 have:=Yo hn (l₂:=XC n) (fun i hi=>Yz.2 (u i hi));simpa using this
theorem cz{α:Type}(m:List α)(d:α):(XC m.length).map (fun j=>m.getD j d)=m:=by
 refine Zy (by simp) fun i h1 u=>?_;simp[W5 u]
theorem I6{α:Type}{m:List α}{d:α}{bs vs:List Nat}(hl:bs.length=m.length)(hn:bs.Nodup)(h1:vs.Nodup)(x: ∀j∈vs,j<m.length)(h: ∀(q b:Nat),bs[q]? =io b->b∈lR bs vs):(vs.map fun j=>m.getD j d).Perm m:=by
 have:=(y5 h1 (fun j u=>x j u) fun q y=>Ia hn (fun j u=>by rw[hl];exact x j u) h q (by rw[hl];exact y)).map fun j=>m.getD j d;rwa[cz]at this
theorem xR{bs vs:List Nat}{b:Nat}:(lR bs vs++ [b]).getLast? =io b:=by simp
theorem sP{bs vs:List Nat}{q b:Nat}(hb:bs[q]? =io b):lR bs (vs++ [q])=lR bs vs++ [b]:=by
 unfold lR;rw[Xg,List.map_singleton,W2,hb];rfl
section
variable {P:Program} {nt:NT} {Q:AQ} {k:List KI} {s:AS}
theorem Fp{body:Code}(n:Nat)(I:List Nat->AS)(J:List Nat->Prop)(B:List Nat)(j0:J [])(h0:Wk s.nx B s (I []))
  (x: ∀vs:List Nat,vs.Nodup->(∀j∈vs,j<n)->J vs->GO P nt (.code body:: .lp (fun t=> ∃j,j<n∧j∉vs∧J (vs++ [j])∧ ∃L,Wk s.nx L t (I (vs++ [j])))::k) Q (I vs)):GO P nt (.code (.loop body)::k) Q s:=by
 refine iF (σ:={vs:List Nat//vs.Nodup∧(∀j∈vs,j<n)∧J vs}) (fun v=>I v.1) (fun v=>n-v.1.length) ⟨[],XY,by simp,j0⟩ B h0 fun v=>?_;obtain⟨vs,h1,D,G⟩:=v;refine nG ?_ (x vs h1 D G)
 rintro t ⟨j,g1,g2,g3,L,g4⟩;have u: ∀i∈vs++ [j],i<n:=by
  intro i hi;rcases Xr.1 hi with hi|hi
  .exact D i hi
  .rw[Xd.1 hi];exact g1
 have A:(vs++ [j]).Nodup:=by
  rw[YG];refine⟨h1,by simp,fun a Y b hb=>?_⟩;rw[Xd.1 hb];intro e;exact g2 (e▸Y)
 have y:(vs++ [j]).length<=n:=by
  have:=Yo A (l₂:=XC n) (fun i hi=>Yz.2 (u i hi));simpa using this
 refine⟨⟨vs++ [j],A,u,g3⟩,L,?_,g4⟩;show n-(vs++ [j]).length<n-vs.length;simp only[W1,Xu]at y ⊢;omega
end
section
variable {n i:Nat} {σ:Nat->Nat} {h r:AH}
theorem hMb{V:Type}{kc:KC}{ev:V->IV}{z:V}{x:Value}{j:PV->V}{m u:List (kc.K×V)}{bs:List Nat}{clock:Nat}(ho:h.get (σ i)=io (.iA kc ev z x j m bs clock))(he:m=u)(hi:Xx i n=jp)(hr:pc n σ h r):pc n σ h ((i,io (.map kc ev z x j u))::r):=
 ⟨⟨_,ho,by subst he;exact Oq⟩,WY hi,ac,hr⟩
end
theorem uz{l:List Nat}(hn:l.Nodup){q j:Nat}(h:l[q]? =io j):l.eraseIdx q=l.filter fun x=>!(x==j):=by
 induction l generalizing q with
 |nil=>simp at h
 |cons y r ih=>
  rw[XN]at hn;cases q with
  |zero=>
   simp at h;subst h;rw[List.eraseIdx_zero,List.tail_cons,YT];simp only[beq_self_eq_true,Zs,YQ,if_false]
   symm
   rw[ZA];intro x B;have: ¬x=y:=fun e=>hn.1 (e▸B)
   simpa using this
  |succ q=>
   have u:r[q]? =io j:=by simpa using h
   have A:j∈r:=XE u;have: ¬y=j:=fun e=>hn.1 (e▸A);rw[List.eraseIdx_cons_succ,ih hn.2 u,YT,am (by simpa using this)]
theorem lY{α β:Type}(f:α->β): ∀(l:List α) (q:Nat),(l.map f).eraseIdx q=(l.eraseIdx q).map f
 | [],_=>rfl
 |_::_,0=>rfl
 |x::r,q+1=>by simp[List.eraseIdx,lY f r q]
def iE(n:Nat)(dl:Nat->Bool)(vs:List Nat):List Nat:=(XC n).filter fun j=>!(lc (j∈vs)&&dl j)
section
variable {n:Nat} {dl:Nat->Bool} {vs:List Nat}
theorem yt:iE n dl []=XC n:=by
 unfold iE;rw[ZA];intro j _;simp
theorem Cd:(iE n dl vs).Nodup:=Zi _ List.nodup_range
theorem Ce: ∀j∈iE n dl vs,j<n:=fun _ u=>Yz.1 (XG.1 u).1
theorem DT{j:Nat}(h:dl j=kw):iE n dl (vs++ [j])=iE n dl vs:=by
 unfold iE;refine Y5 fun i _=>?_;by_cases e:i=j
 .subst e;simp[h]
 .simp[e]
theorem G6{j q:Nat}(h:dl j=jp)(u:(iE n dl vs)[q]? =io j):iE n dl (vs++ [j])=(iE n dl vs).eraseIdx q:=by
 rw[uz Cd u];unfold iE;rw[List.filter_filter];refine Y5 fun i _=>?_;by_cases e:i=j
 .subst e;simp[h]
 .simp[e]
theorem G7(h: ∀j∈iE n dl vs,j∈vs):iE n dl vs=(XC n).filter fun j=>!dl j:=by
 unfold iE at*
 refine Y5 fun i hi=>?_;by_cases e:i∈vs
 .simp[e]
 .have:i∈(XC n).filter fun j=>!(lc (j∈vs)&&dl j):=XG.2 ⟨hi,by simp[e]⟩
  exact absurd (h i this) e
end
abbrev oP{α:Type}(m:List α)(d:α)(dl:Nat->Bool)(vs:List Nat):List α:=(iE m.length dl vs).map fun j=>m.getD j d
abbrev qj(n:Nat)(bs:List Nat)(dl:Nat->Bool)(vs:List Nat):List Nat:=(iE n dl vs).map fun j=>bs.getD j 0
section
variable {α:Type} {m:List α} {d:α} {dl:Nat->Bool} {vs:List Nat} {bs:List Nat}
theorem GY:oP m d dl []=m:=by unfold oP;rw[yt,cz]
theorem GW:(oP m d dl vs).Sublist m:=by
 have h:((iE m.length dl vs).map fun j=>m.getD j d).Sublist ((XC m.length).map fun j=>m.getD j d):=List.Sublist.map _ List.filter_sublist;rwa[cz]at h
theorem GZ(h:bs.length=m.length):qj m.length bs dl []=bs:=by unfold qj;rw[yt,<-h,cz]
theorem left_at{q b:Nat}{x:α}(hl:bs.length=m.length)(h1:(oP m d dl vs)[q]? =io x)(y:(qj m.length bs dl vs)[q]? =io b): ∃j,(iE m.length dl vs)[q]? =io j∧m[j]? =io x∧bs[j]? =io b∧j<m.length:=by
 rw[W9,Xa]at h1 y;obtain⟨j,g1,g2⟩:=h1;obtain⟨A,g3,g4⟩:=y;rw[g1]at g3;cases g3;have u:=Ce j (XE g1);refine⟨j,g1,?_,?_,u⟩
 .rw[<-g2,W2,W5 u];rfl
 .rw[<-g4,W2,W5 (by rw[hl];exact u)];rfl
theorem Jc{q j:Nat}(h:dl j=jp)(u:(iE m.length dl vs)[q]? =io j):oP m d dl (vs++ [j])=(oP m d dl vs).eraseIdx q∧qj m.length bs dl (vs++ [j])=(qj m.length bs dl vs).eraseIdx q:=by
 unfold oP qj;rw[G6 h u,lY,lY];exact⟨rfl,rfl⟩
theorem Jd(hl:bs.length=m.length)(hn:bs.Nodup)(J: ∀j∈vs,j<m.length)(D:α->Bool)(A: ∀j,dl j=D (m.getD j d))(h: ∀(q b:Nat),(qj m.length bs dl vs)[q]? =io b->b∈lR bs vs):oP m d dl vs=m.filter fun e=>!D e:=by
 have key: ∀j∈iE m.length dl vs,j∈vs:=by
  intro j x;obtain⟨q,I⟩:=XU x;have G:=Ce j x;have hb:=h q (bs.getD j 0) (by unfold qj;rw[W9,I];rfl);obtain⟨i,hi,u⟩:=XH.1 hb;have B:=J i hi;rw[W2,W2,W5 (by omega:i<bs.length),W5 (by omega:j<bs.length),X9,X9]at u;have y:=Yl.1 hn;rcases Zd i j with g|g|g
  .exact absurd u (y i j (by omega) (by omega) g)
  .exact g▸hi
  .exact absurd u.symm (y j i (by omega) (by omega) g)
 unfold oP;rw[G7 key];have:=congrArg (List.filter fun e=>!D e) (cz m d);rw[<-this,List.filter_map];congr 1;refine Y5 fun i _=>?_;simp[A]
end
theorem Fx{kc:KC}{V:Type}: ∀{m:List (kc.K×V)} {q:Nat} {x:kc.K×V},(m.map (·.1)).Nodup->m[q]? =io x->kX kc m x.1=io q
 | [],q,x,_,h=>by simp at h
 |(a,b)::r,0,x,_,h=>by
  simp at h;subst h;simp[kX]
 |(a,b)::r,q+1,x,hn,h=>by
  rw[W7,XN]at hn;have j:r[q]? =io x:=by simpa using h
  have: ¬a=x.1:=fun e=>hn.1 (XH.2 ⟨x,XE j,e.symm⟩);simp[kX,this,Fx hn.2 j]
theorem Jy{P:Program}{nt:NT}{Q:AQ}{k:List KI}{s:AS}{c:Code}(i:Nat){sz:Nat}{es:List (List PV)}(el:Nat->List IV)(hi:s.h.get i=io (.row sz es))(a0: ∀k e,es[k]? =io e->e=(el k).map .iv)
  (hf:s.f.kK i sz es.length) (hh:s.h.vN i sz es.length) (h:GO P nt (.code c::k) Q ⟨s.f.j6 i sz el,(i,is)::s.h.gZ i sz el,s.nx⟩):GO P nt (.code c::k) Q s:=by
 intro M N a w u;obtain⟨M',h1,x,h4⟩:=pE u.1 hi a0;have D: ∀j o,AH.get ((i,is)::s.h.gZ i sz el) j=io o-> ∃p,AH.get ((i,is)::s.h) j=io p∧s.h.get j=io p∧o=p.gZ i sz el:=by
  intro j o y;obtain⟨g1,g2⟩:=bn j o y;rw[AH.pF,Xa]at g2;obtain⟨p,g3,g4⟩:=g2;exact⟨p,by rw[AH.ay,be g1];exact g3,g3,g4.symm⟩
 have hE:Ext M N (· <s.nx) s.h w M' N (· <s.nx) ((i,is)::s.h.gZ i sz el) w:=⟨h1.os,h1.tape,h1.output,h1.size,h1.gK,h1.oJ,h1.iM,h1.nm,h1.ule,fun j o y A=>by
  obtain⟨p,g1,_,rfl⟩:=D j o y;rw[AO.jr]at A
  exact h1.gB j p g1 A⟩
 have hR:Rel M' N (· <s.nx) ((i,is)::s.h.gZ i sz el) w:=by
  refine⟨x.dK,fun j o y=>?_,fun j o y A=>?_,fun j o y=>?_,fun j k o p y hk ho I=>?_⟩
  .obtain⟨p,g1,_,rfl⟩:=D j o y;exact x.used j p g1
  .obtain⟨p,g1,_,rfl⟩:=D j o y;rw[AO.jr]at A;exact x.dS j p g1 A
  .obtain⟨p,g1,g2,rfl⟩:=D j o y;cases p with
   |cells cs T0=>
    obtain⟨c,T,q1,q2,q3,q4,q5⟩:=u.1.obj j _ g2;have hok:=AH.mq hh j _ g2;refine⟨c,T,q1,q2,by simpa[eL]using q3,fun k q hq=>?_,q5⟩;rw[eL,W9,Xa]at hq;obtain⟨q0,Y,rfl⟩:=hq;exact h4 _ _ (q4 k q0 Y) (fo hok k q0 Y)
   |row s2 es2=>
    have hok:=AH.mq hh j _ g2;rcases u.1.obj j _ g2 with rfl|⟨q0,c,T,q1,q2,q3,q4,q5⟩
    .exact .inl Z
    .refine .inr ⟨q0,c,T,q1,q2,by simpa using q3,fun k e G=>?_,fun k e j2 p G I=>?_⟩
     .rw[W9,Xa]at G;obtain⟨e0,B,rfl⟩:=G;rw[eL,Xw];exact q4 k e0 B
     .rw[W9,Xa]at G;obtain⟨e0,B,rfl⟩:=G;rw[eL,W9,Xa]at I;obtain⟨p0,J,rfl⟩:=I;exact h4 _ _ (q5 k e0 j2 p0 B J) (fo (hok e0 (XE B)) j2 p0 J)
   |bz=>exact x.obj j _ g1
   |fE=>exact x.obj j _ g1
   |map=>exact x.obj j _ g1
   |bY=>exact x.obj j _ g1
   |eG=>exact x.obj j _ g1
   |iA=>exact x.obj j _ g1
   |eJ=>exact x.obj j _ g1
   |oK=>exact x.obj j _ g1
  .obtain⟨o',g1,_,rfl⟩:=D j o y;obtain⟨p',g2,_,rfl⟩:=D k p hk;rw[AO.jr]at ho I;exact x.inj j k o' p' g1 g2 ho I
 have b0:Fits M' N ⟨s.f.j6 i sz el,(i,is)::s.h.gZ i sz el,s.nx⟩ nt a w:=⟨hR,fun d=>by
  rw[AF.jQ];exact h4 _ _ (u.2.1 d) (AF.lC hf d),u.2.2⟩
 exact AW.then h b0 fun e a2 w2 M2 N2 s2 f0 c0 d0=>⟨M2,N2,s2,hE.trans f0,c0,d0⟩
def Nm.one(b e:Nat):Nm:=⟨fun _=>b,fun _=>e⟩
inductive SB:Type 1 where
 |obj (o:AO) (e:Nat)
 |out (i e:Nat)
abbrev bE:=Nat->Option SB
def bE.nil:bE:=fun _=>is
def bE.put(X:bE)(b:Nat)(x:SB):bE:=fun c=>if c=b then io x else X c
def bE.still(X:bE):Prop:= ∀b i e,X b≠io (.out i e)
theorem bE.gd(X:bE)(b:Nat)(x:SB):X.put b x b=io x:=by simp[bE.put]
theorem bE.j3(X:bE){b c:Nat}(x:SB)(h:c≠b):X.put b x c=X c:=by simp[bE.put,h]
theorem bE.M8(X:bE)(b:Nat)(x y:SB):(X.put b x).put b y=X.put b y:=by
 funext c;simp only[bE.put];split<;>rfl
structure fx (M:Mem) (N:Nm) (n:Nat) (h:AH) (X:bE) (w:World):Prop where
 real: ∀b o e,X b=io (.obj o e)->o.real=jp
 obj: ∀b o e,X b=io (.obj o e)->OR M (Nm.one b e) (fun _=>False) w 0 o
 dK: ∀b o e,X b=io (.obj o e)->M b=is
 apart: ∀b o e,X b=io (.obj o e)-> ∀i p,h.get i=io p->p.real=jp->N.aA i≠b
 out: ∀b i e,X b=io (.out i e)->i<n∧N.aA i=b∧N.ext i=e
def AO.all(G:PV->Prop):AO->Prop
 | .cells cs _=> ∀p∈cs,G p
 | .row _ es=> ∀e∈es,∀p∈e,G p
 | .eJ q _ _=>G q
 | .oK _ _ f=> ∀d,G (AF.get f d)
 |_=>True
theorem AO.all_true(o:AO):o.all fun _=>True:=by cases o<;>simp[AO.all]
theorem OR.move{M M':Mem}{N B:Nm}{U U':Nat->Prop}{w w':World}{i J:Nat}{o:AO}{G:PV->Prop}(hM:M.le M')(Y:o.all G)(hV: ∀p x,G p->VR M N U p x->VR M' B U' p x)
  (hb:B.aA J=N.aA i) (he:B.ext J=N.ext i) (hw:w'.heap[N.aA i]? =w.heap[N.aA i]?) (h:OR M N U w i o):OR M' B U' w' J o:=by
 cases o with
 |cells cs T0=>
  obtain⟨c,T,h1,u,y,A,D⟩:=h;exact⟨c,T,by rw[hb,hw,h1],by rw[he,u],y,fun j p I=>hV _ _ (Y p (XE I)) (A j p I),D⟩
 |row sz es=>
  rcases h with h|⟨h0,c,T,h1,u,y,A,D⟩
  .exact .inl h
  exact .inr ⟨h0,c,T,by rw[hb,hw,h1],by rw[he,u],y,A,fun k e j p hk I=>hV _ _ (Y e (XE hk) p (XE I)) (D k e j p hk I)⟩
 |bz l T=>
  rcases h with h|⟨c,h1,u,y,A⟩
  .exact .inl h
  exact .inr ⟨c,by rw[hb,hw,h1],by rw[he,u],y,A⟩
 |fE=>show w'.heap[B.aA J]? =_;rw[hb,hw];exact h
 |map kc ev z zv dv m=>
  obtain⟨e,cl,h1,u,y⟩:=h;exact⟨e,cl,by rw[hb,hw,h1],u.mono hM,y.mono hM⟩
 |bY kc ev m l cu=>
  rcases h with⟨h1,u,y,A⟩|⟨b,e,cl,se,h1,u,y,A⟩
  .exact .inl ⟨h1,u,y,by rw[hb,hw,A]⟩
  .exact .inr ⟨b,e,cl,se,by rw[hb,hw,h1],hM _ _ u,y.mono hM,A⟩
 |eG s p=>show w'.heap[B.aA J]? =_;rw[hb,hw];exact h
 |iA kc ev z zv dv m bs c=>
  obtain⟨e,h1,u,y,A⟩:=h;exact⟨e,by rw[hb,hw,h1],u.mono hM,y.mono hM,A⟩
 |eJ q c l=>
  obtain⟨b,h1,u⟩:=h;exact⟨b,hV _ _ Y h1,by rw[hb,hw,u]⟩
 |oK l c f=>
  obtain⟨rfl,r,h1,u,y,A,D,h6,h7,h8⟩:=h;exact⟨hb,r,by rw[hw];exact h1,u,y,A,D,h6,h7,fun d=>hV _ _ (Y d) (h8 d)⟩
theorem VR.E0{M j:Mem}{N u:Nm}{y:Nat->Prop}(hM:M.le j){p:PV}{x:Value}(h:VR M N (fun _=>False) p x):VR j u y p x:=
 h.mono hM ⟨fun _ h=>h.elim,fun _ h=>h.elim⟩ (fun _ h=>h.elim)
def PV.flat:PV->Prop
 | .iv _=>True
 | .kb _=>True
 | .any=>True
 |_=>False
theorem VR.Mj{M:Mem}{N j:Nm}{U u:Nat->Prop}{p:PV}{x:Value}(hp:p.flat)(h:VR M N U p x):VR M j u p x:=by
 cases h with
 |iv x y h=>exact .iv _ _ h
 |kb b=>exact .kb _
 |any x=>exact .any _
 |_=>exact hp.elim
def Own(N:Nm)(h:AH)(X:bE)(b:Nat):Prop:=(∃i o,h.get i=io o∧o.real=jp∧N.aA i=b)∨ ∃o e,X b=io (.obj o e)
structure lj (M:Mem) (N:Nm) (n:Nat) (h:AH) (X:bE) (w:World) (M':Mem) (N':Nm) (n':Nat) (h':AH) (X':bE) (w':World):Prop where
 os:w'.os=w.os
 tape:w'.tape=w.tape
 output:uq w w'
 size:w.heap.size<=w'.heap.size
 gK: ∀b,b<w.heap.size-> ¬Own N h X b->w'.heap[b]? =w.heap[b]?
 oJ:M.le M'
 iM: ∀b c,M b=is->M' b=io c->w.heap.size<=b∨Own N h X b
 nm:N.agree N' (· <n)
 ule:n<=n'
 gB: ∀b,Own N' h' X' b->w.heap.size<=b∨Own N h X b
theorem lj.refl(M:Mem)(N:Nm)(n:Nat)(h:AH)(X:bE)(w:World):lj M N n h X w M N n h X w:=
 ⟨rfl,rfl,⟨rfl,W8 _⟩,W8 _,fun _ _ _=>rfl,.refl _,fun b c h1 j=>by simp[h1]at j,.refl _ _,W8 _,fun _ h=> .inr h⟩
theorem lj.trans{M j u:Mem}{N x y:Nm}{n I J:Nat}{h h1 D:AH}{X A B:bE}{w Y w2:World}
  (a:lj M N n h X w j x I h1 A Y) (b:lj j x I h1 A Y u y J D B w2):lj M N n h X w u y J D B w2 where
 os:=b.os.trans a.os
 tape:=b.tape.trans a.tape
 output:=b.output.trans a.output
 size:=X6 a.size b.size
 gK:=fun k hk G=>by
  rw[b.gK k (YH hk a.size) (fun ho=>?_),a.gK k hk G];rcases a.gB k ho with h3|h3
  .omega
  .exact G h3
 oJ:=a.oJ.trans b.oJ
 iM:=fun k c h3 h4=>by
  cases h5:j k with
  |some c'=>exact a.iM k c' h3 h5
  |none=>
   rcases b.iM k c h5 h4 with h6|h6
   .exact .inl (X6 a.size h6)
   .exact a.gB k h6
 nm:=⟨fun i hi=>(b.nm.aA i (YH hi a.ule)).trans (a.nm.aA i hi),fun i hi=>(b.nm.ext i (YH hi a.ule)).trans (a.nm.ext i hi)⟩
 ule:=X6 a.ule b.ule
 gB:=fun k hk=>by
  rcases b.gB k hk with h3|h3
  .exact .inl (X6 a.size h3)
  .exact a.gB k h3
theorem lj.frame{M M':Mem}{N N':Nm}{n Y:Nat}{h h':AH}{X:bE}{w w':World}(x:Ext M N (· <n) h w M' N' (· <Y) h' w')(hs:fx M N n h X w):
  lj M N n h X w M' N' Y h' X w'∧fx M' N' Y h' X w':=by
 have I: ∀b o e,X b=io (.obj o e)->b<w.heap.size:=fun b o e hb=>(hs.obj b o e hb).lt (hs.real b o e hb);have B:n<=Y:=YA fun hh=>absurd (x.ule Y hh) (ZC _);refine⟨⟨x.os,x.tape,x.output,x.size,fun b hb hn=>x.gK b hb fun i o hi J he=>hn (.inl ⟨i,o,hi,J,he⟩),x.oJ,fun b c h1 h2=>?_,x.nm,B,fun b hb=>?_⟩,hs.real,fun b o e hb=>?_,fun b o e hb=>?_,fun b o e hb i p hi J a0=>?_,fun b i e hb=>?_⟩
 .rcases x.iM b c h1 h2 with u|⟨i,o,u,D,A⟩
  .exact .inl u
  .exact .inr (.inl ⟨i,o,u,D,A⟩)
 .rcases hb with⟨i,o,u,D,A⟩|hb
  .rcases x.gB i o u D with h6|⟨j,p,h6,h7,h8⟩
   .exact .inl (A▸h6)
   .exact .inr (.inl ⟨j,p,h6,h7,h8.trans A⟩)
  .exact .inr (.inr hb)
 .refine OR.move (G:=fun _=>True) x.oJ (AO.all_true o) (fun p y _ hv=>hv.E0 x.oJ) Z Z ?_ (hs.obj b o e hb);exact x.gK b (I b o e hb) (hs.apart b o e hb)
 .cases hM:M' b with
  |none=>rfl
  |some c=>
   rcases x.iM b c (hs.dK b o e hb) hM with u|⟨i,p,u,D,A⟩
   .have:=I b o e hb;omega
   .exact absurd A (hs.apart b o e hb i p u D)
 .rcases x.gB i p hi J with u|⟨j,q,u,D,A⟩
  .have:=I b o e hb;omega
  .exact hs.apart b o e hb j q u D (A.trans a0)
 .obtain⟨h1,h2,u⟩:=hs.out b i e hb;exact⟨YH h1 B,(x.nm.aA i h1).trans h2,(x.nm.ext i h1).trans u⟩
theorem lj.Rw{M A:Mem}{N B:Nm}{n G:Nat}{h D:AH}{J:bE}{w I:World}(x:lj M N n h bE.nil w A B G D J I):Ext M N (· <n) h w A B (· <G) D I:=by
 have j: ∀b,Own N h bE.nil b-> ∃i o,h.get i=io o∧o.real=jp∧N.aA i=b:=fun b hb=>by
  rcases hb with hb|⟨o,e,hb⟩
  .exact hb
  .cases hb
 refine⟨x.os,x.tape,x.output,x.size,fun b hb hn=>x.gK b hb fun ho=>?_,x.oJ,fun b c h1 u=>?_,x.nm,fun i hi=>YH hi x.ule,fun i o hi y=>?_⟩
 .obtain⟨i,o,h1,u,Y⟩:=j b ho;exact hn i o h1 u Y
 .exact(x.iM b c h1 u).imp id (j b)
 .exact(x.gB _ (.inl ⟨i,o,hi,y,rfl⟩)).imp id (j _)
theorem fx.nil(M:Mem)(N:Nm)(n:Nat)(h:AH)(w:World):fx M N n h bE.nil w:=⟨nofun,nofun,nofun,nofun,nofun⟩
abbrev XQ:=Exit->AS->bE->Prop
def pb(nt:NT)(M:Mem)(N:Nm)(s:AS)(X:bE)(w:World)(R:XQ):Exit->Act->World->Prop:=fun e A y=>
 ∃j u s' x,lj M N s.nx s.h X w j u s'.nx s'.h x y∧Fits j u s' nt A y∧fx j u s'.nx s'.h x y∧R e s' x
theorem pb.later{nt:NT}{M j:Mem}{N u:Nm}{s s':AS}{X y:bE}{w A:World}{R:XQ}{e:Exit}{a:Act}{B:World}
  (x:lj M N s.nx s.h X w j u s'.nx s'.h y A) (h:pb nt j u s' y A R e a B):pb nt M N s X w R e a B:=by
 obtain⟨D,G,Y,I,h1,J⟩:=h;exact⟨D,G,Y,I,x.trans h1,J⟩
theorem pb.now{nt:NT}{M:Mem}{N:Nm}{s:AS}{X:bE}{w:World}{R:XQ}{e:Exit}{a:Act}(hf:Fits M N s nt a w)(hs:fx M N s.nx s.h X w)(h:R e s X):pb nt M N s X w R e a w:=
 ⟨M,N,s,X,.refl _ _ _ _ _ _,hf,hs,h⟩
def AX(P:Program)(nt:NT)(c:Code)(R:XQ)(s:AS)(X:bE):Prop:= ∀M N a w,Fits M N s nt a w->fx M N s.nx s.h X w->c.wp P (pb nt M N s X w R) a w
def ALX(P:Program)(nt:NT)(all rest:List Oper)(R:XQ)(s:AS)(X:bE):Prop:= ∀M N a w,Fits M N s nt a w->fx M N s.nx s.h X w->wpList P all.toArray (pb nt M N s X w R) rest a w
def SLX(P:Program)(nt:NT)(all rest:List Oper)(R:XQ)(s:AS)(X:bE):Prop:= ∀M N a w,Fits M N s nt a w->fx M N s.nx s.h X w->
 wpStill P all.toArray w (fun j=>pb nt M N s X w R .normal j w) rest a
inductive XI where
 |ur (all rest:List Oper)
 |code (c:Code)
 |aA (id:Nat)
 |ops (all rest:List Oper)
 |lp (R:AS->bE->Prop)
 |Hv
def kx(P:Program)(nt:NT):List XI->XQ->XQ
 | [],Q=>Q
 | .code c::k,Q=>fun e s X=>match e with| .normal=>AX P nt c (kx P nt k Q) s X|e=>kx P nt k Q e s X
 | .ops all rest::k,Q=>fun e s X=>match e with| .normal=>ALX P nt all rest (kx P nt k Q) s X|e=>kx P nt k Q e s X
 | .ur all rest::k,Q=>fun e s X=>match e with| .normal=>SLX P nt all rest (kx P nt k Q) s X|e=>kx P nt k Q e s X
 | .lp R::k,Q=>fun e s X=>match e with| .normal=>R s X|e=>kx P nt k Q e s X
 | .aA id::k,Q=>fun e s X=>match e with| .exit j=>if j=id then kx P nt k Q .normal s X else kx P nt k Q (.exit j) s X|e=>kx P nt k Q e s X
 | .Hv::k,Q=>fun e s X=>match e with| .goto _=>False|e=>kx P nt k Q e s X
def GX(P:Program)(nt:NT)(k:List XI)(Q:XQ)(s:AS)(X:bE):Prop:=kx P nt k Q .normal s X
section
variable {P:Program} {nt:NT} {Q:XQ} {k:List XI} {s:AS} {X:bE}
theorem AX.then{c:Code}{R:XQ}(h:AX P nt c R s X){M:Mem}{N:Nm}{a:Act}{w:World}(hf:Fits M N s nt a w)(hs:fx M N s.nx s.h X w){Z:Exit->Act->World->Prop}
  (B: ∀e A j u x s' y,lj M N s.nx s.h X w u x s'.nx s'.h y j->Fits u x s' nt A j->fx u x s'.nx s'.h y j->R e s' y->Z e A j):c.wp P Z a w:=
 wp_mono (h M N a w hf hs) fun e A j ⟨u,x,s',y,h1,h2,h3,h4⟩=>B e A j u x s' y h1 h2 h3 h4
theorem Vd{u:AQ}{k0:List KI}{c:Code}(h:GX P nt [.code c] (fun e t _=>kp P nt k0 u e t) s bE.nil):GO P nt (.code c::k0) u s:=by
 intro M N a w hf;exact AX.then h hf (.nil ..) fun e D G x y s' B A j _ hr=>⟨x,y,s',A.Rw,j,hr⟩
theorem kQ{c:Code}(h:GO P nt [.code c] (fun e u=>kx P nt k Q e u X) s):GX P nt (.code c::k) Q s X:=by
 intro M N a w hf hs;refine AW.then h hf fun e D G x y s' B j hr=>?_;obtain⟨h1,A⟩:=lj.frame B hs;exact⟨x,y,s',X,h1,j,A,hr⟩
theorem db{x y:Code}(h:GX P nt (.code x:: .code y::k) Q s X):GX P nt (.code (.seq x y)::k) Q s X:=by
 intro M N a w hf hs;refine wp_seq (AX.then h hf hs fun e a' w' J N' s' X' I j u hr=>?_);cases e with
 |normal=>exact AX.then hr j u fun e a2 w2 Y N2 s2 X2 G A D B=>⟨Y,N2,s2,X2,I.trans G,A,D,B⟩
 |_=>exact⟨J,N',s',X',I,j,u,hr⟩
theorem uP(h:GX P nt k Q s X):GX P nt (.code .skip::k) Q s X:=fun _ _ _ _ hf hs=>wp_skip (.now hf hs h)
theorem uR{id:Nat}(h:kx P nt k Q (.exit id) s X):GX P nt (.code (.exit id)::k) Q s X:=fun _ _ _ _ hf hs=>wp_exit (.now hf hs h)
theorem Jq{id:Nat}(h:GX P nt k Q s X):GX P nt (.aA id::k) Q s X:=h
theorem jM{id:Nat}{x:Code}(h:GX P nt (.code x:: .aA id::k) Q s X):GX P nt (.code (.block id x)::k) Q s X:=by
 intro M N a w hf hs;refine wp_block (AX.then h hf hs fun e J Y A B s' D I u y hr=>?_);cases e with
 |exit j=>
  simp only[kx]at hr;simp only[Exit.inBlock];split
  .rename_i G;rw[am G]at hr;exact⟨A,B,s',D,I,u,y,hr⟩
  .rename_i G;rw[be G]at hr;exact⟨A,B,s',D,I,u,y,hr⟩
 |_=>exact⟨A,B,s',D,I,u,y,hr⟩
theorem yx{id:Nat}{ops:Array Oper}(h:GX P nt (.ops ops.toList ops.toList::k) Q s X):GX P nt (.code (.region id ops kw)::k) Q s X:=by
 intro M N a w hf hs;refine wp_region_list ?_;have:=h M N a w hf hs;simpa using this
theorem wg{all:List Oper}(h:GX P nt k Q s X):GX P nt (.ops all []::k) Q s X:=fun _ _ _ _ hf hs=>wpList_nil (pb.now hf hs h)
theorem uS{c:Operand}{x y:Code}{t:Bool}(hc:ev s.f c= .iv (.v (.bool t)))(h1:t=jp->GX P nt (.code x::k) Q s X)(j:t=kw->GX P nt (.code y::k) Q s X):
  GX P nt (.code (.cond c x y)::k) Q s X:=by
 intro M N a w hf hs;refine wp_cond_split (hf.bool hc) (fun ht=>?_) (fun ht=>?_)
 .exact h1 ht M N a w hf hs
 .exact j ht M N a w hf hs
theorem zR{o:Oper}{a:Act}{w:World}{K K':Act->World->Prop}{Q u:Exit->Act->World->Prop}(h: ∀a w,K a w->K' a w)(y: ∀e a w,e≠ .normal->Q e a w->u e a w)(hh:o.wp P a w K Q):o.wp P a w K' u:=by
 have hl:LetsOut Q->LetsOut u:=fun⟨a,w,x⟩=>⟨a,w,y _ _ _ (by simp) x⟩
 unfold Oper.wp at*
 generalize(execOp a.eval o).run P w=r at*
 cases r with
 |ok n w'=>
  cases n<;>simp only[Oper.upon]at hh ⊢ <;>
   first
    |exact h _ _ hh
    |exact Calls.mono hh (fun e A j=>by cases e<;>first|exact h _ _ j|exact hl j|exact y _ _ _ (by simp) j)
    |exact Rows.mono hh (fun _ _ j=>h _ _ j)
 |halt x w'=>cases x<;>simp only[Oper.upon]at hh ⊢ <;>exact y _ _ _ (by simp) hh
theorem mV{ops:Array Oper}{x y:Exit->Act->World->Prop}(u:List Oper)(A: ∀a w,x .normal a w->wpList P ops y u a w)(j: ∀e a w,e≠ .normal->x e a w->y e a w): ∀(l:List Oper) (a:Act) (w:World),wpList P ops x l a w->wpList P ops y (l++u) a w
 | [],a,w,h=>A _ _ h
 |o::r,a,w,h=>by
  rw[Xp];rw[wpList]at h ⊢;split
  .rename_i B;rw[am B]at h;exact h.imp (zR (mV u A j r) j) (fun⟨h3,a1,w1,h4⟩=>⟨h3,a1,w1,j _ _ _ (by simp) h4⟩)
  .rename_i B;rw[be B]at h;exact mV u A j r _ _ h
theorem G9{all I r2:List Oper}(h:GO P nt [.ops all I] (fun e u=>kx P nt (.ops all r2::k) Q e u X) s):GX P nt (.ops all (I++r2)::k) Q s X:=by
 intro M N a w hf hs;refine mV r2 (fun A J D=>?_) (fun e A J Y D=>?_) I a w (h M N a w hf)
 .obtain⟨x,y,s',G,j,hr⟩:=D;obtain⟨h1,B⟩:=lj.frame G hs;have:=hr x y A J j B;exact fT (fun _ _ _=>pb.later h1) r2 A J this
 .obtain⟨x,y,s',G,j,hr⟩:=D;obtain⟨h1,B⟩:=lj.frame G hs;refine⟨x,y,s',X,h1,j,B,?_⟩;cases e with
  |normal=>exact absurd Z Y
  |_=>exact hr
theorem uQ{all rest:List Oper}(m:Nat)(h:GO P nt [.ops all (rest.take m)] (fun e u=>kx P nt (.ops all (rest.drop m)::k) Q e u X) s):GX P nt (.ops all rest::k) Q s X:=by
 have:=G9 h;rwa[List.take_append_drop]at this
def SX(nt:NT)(s:AS)(X:bE)(T:AS->bE->Prop):Prop:= ∀M N a w,Fits M N s nt a w->fx M N s.nx s.h X w->
 ∃j u t Y,lj M N s.nx s.h X w j u t.nx t.h Y w∧Fits j u t nt a w∧fx j u t.nx t.h Y w∧T t Y
theorem Qm{c:Code}{T:AS->bE->Prop}(h:SX nt s X T)(hk: ∀t Y,T t Y->GX P nt (.code c::k) Q t Y):GX P nt (.code c::k) Q s X:=by
 intro M N a w hf hs;obtain⟨M',N',t,Y,h1,G,I,J⟩:=h M N a w hf hs;exact AX.then (hk t Y J) G I fun e a2 w2 A B s2 D y j x u=>⟨A,B,s2,D,h1.trans y,j,x,u⟩
theorem Ag{all rest:List Oper}{T:AS->bE->Prop}(h:SX nt s X T)(hk: ∀t Y,T t Y->GX P nt (.ops all rest::k) Q t Y):GX P nt (.ops all rest::k) Q s X:=by
 intro M N a w hf hs;obtain⟨j,u,t,Y,h1,x,y,A⟩:=h M N a w hf hs;exact fT (fun _ _ _=>pb.later h1) rest a w (hk t Y A j u a w x y)
theorem Vc{body:Code}{σ:Type 1}(I:σ->AS)(J:σ->bE)(μ:σ->Nat)(i0:σ)(L0:List Nat)(h0:Wk s.nx L0 s (I i0))(y:J i0=X)(j0: ∀i,(J i).still)
  (A: ∀i,GX P nt (.code body:: .lp (fun t Y=> ∃j L,μ j<μ i∧Wk s.nx L t (I j)∧Y=J j)::k) Q (I i) (J i)):GX P nt (.code (.loop body)::k) Q s X:=by
 intro M0 N0 a0 w0 d0 g0
 let K:Act->World->Nat->Prop:=fun a w n=> ∃i M N,μ i=n∧lj M0 N0 s.nx s.h X w0 M N (I i).nx (I i).h (J i) w∧Fits M N (I i) nt a w∧fx M N (I i).nx (I i).h (J i) w
 have c0:K a0 w0 (μ i0):=by
  obtain⟨h1,h2⟩:=lj.frame (h0.ext (.refl M0 N0 (· <s.nx) s.h w0)) g0;exact⟨i0,M0,N0.comp (sg s.nx L0),rfl,by rw[y];exact h1,h0.fits d0,by rw[y];exact h2⟩
 refine wp_loop (fun a w=> ∃n,K a w n) (fun a w=>by classical exact if h: ∃n,K a w n then Zx (dc h) else 0) ⟨_,c0⟩ fun a w b0=>?_;obtain⟨⟨i,M,N,hi,hx,hf,hs⟩,e0⟩:=YZ (dc b0);refine AX.then (A i) hf hs fun e a' w' M' N' s' X' D B x hr=>?_
 cases e with
 |normal=>
  obtain⟨j,L,hj,G,hY⟩:=hr
  have y:K a' w' (μ j):=⟨j,M',N'.comp (sg s.nx L),rfl,by
   have u:=hx.trans D;rw[hY]at u x;refine⟨u.os,u.tape,u.output,u.size,u.gK,u.oJ,u.iM,⟨fun i hi=>?_,fun i hi=>?_⟩,by have:=G.nx;omega,fun b hb=>u.gB b ?_⟩
   .simp only[Nm.comp,gG hi];exact u.nm.aA i hi
   .simp only[Nm.comp,gG hi];exact u.nm.ext i hi
   .rcases hb with⟨i,o,h3,h4,h5⟩|hb
    .obtain⟨⟨o',g1,g2⟩,_⟩:=jv G.h i o h3;exact .inl ⟨_,o',g1,g2.real ((AO.cv _ o).trans h4),h5⟩
    .exact .inr hb,G.fits B,by
   rw[hY]at x;refine⟨x.real,x.obj,x.dK,fun b o e hb i p hi f0=>?_,fun b i e hb=>?_⟩
   .obtain⟨⟨o',g1,g2⟩,_⟩:=jv G.h i p hi;exact x.apart b o e hb _ o' g1 (g2.real ((AO.cv _ p).trans f0))
   .exact absurd hb (j0 j b i e)⟩
  refine⟨⟨_,y⟩,?_⟩;simp only[dif_pos b0,dif_pos (⟨_,y⟩: ∃n,K a' w' n)];rw[<-hi];exact aat ((YZ (dc (⟨_,y⟩: ∃n,K a' w' n))).2 _ y) hj
 |_=>exact⟨M',N',s',X',hx.trans D,B,x,hr⟩
theorem RA{b e d:Nat}{o:AO}{p:PV}(hX:X b=io (.obj o e))(hp: ∀(M:Mem) (N:Nm) (U:Nat->Prop) (x:Value),U s.nx->N.aA s.nx=b->N.ext s.nx=e->VR M N U (s.f.get d) x->VR M N U p x):
  SX nt s X (fun t Y=>t=⟨(d,p)::s.f,(s.nx,io o)::s.h,s.nx+1⟩∧Y=X.put b (.out s.nx e)):=by
 intro M N a w hf hs;obtain⟨f,h,n⟩:=s
 let N':Nm:=⟨fun j=>if j=n then b else N.aA j,fun j=>if j=n then e else N.ext j⟩
 have A:N.agree N' (· <n):=⟨fun i hi=>be (aab hi),fun i hi=>be (aab hi)⟩
 have I:N'.aA n=b:=am Z;have a0:N'.ext n=e:=am Z;have hU: ∀i,i<n->i<n+1:=fun i hi=>YF hi;have c0:=hs.real b o e hX
 have D: ∀i q,AH.get ((n,io o)::h) i=io q->(i=n∧q=o)∨(i<n∧h.get i=io q):=by
  intro i q hi;rw[AH.ay]at hi;split at hi
  .rename_i b0;exact .inl ⟨b0,by simpa using hi.symm⟩
  .exact .inr ⟨hf.1.used i q hi,hi⟩
 refine⟨M,N',⟨(d,p)::f,(n,io o)::h,n+1⟩,X.put b (.out n e),⟨rfl,rfl,⟨rfl,W8 _⟩,W8 _,fun _ _ _=>rfl,.refl _,fun c m h1 h2=>by simp[h1]at h2,A,Yw _,fun c B=> .inr ?_⟩,⟨⟨hf.1.dK,fun i q hi=>?_,fun i q hi hr=>?_,fun i q hi=>?_,fun i j q r hi hj hq hr he=>?_⟩,fun k=>?_,hf.2.2⟩,⟨fun c q g B=>?_,fun c q g B=>?_,fun c q g B=>?_,fun c q g B i r hi hr=>?_,fun c i g B=>?_⟩,rfl,rfl⟩
 .rcases B with⟨i,q,h1,h2,h3⟩|⟨q,g,h1⟩
  .rcases D i q h1 with⟨rfl,rfl⟩|⟨J,h5⟩
   .rw[I]at h3;subst h3;exact .inr ⟨_,_,hX⟩
   .exact .inl ⟨i,q,h5,h2,by rw[<-h3];exact(A.aA i J).symm⟩
  .by_cases u:c=b
   .subst u;rw[bE.gd]at h1;cases h1
   .rw[bE.j3 _ _ u]at h1;exact .inr ⟨q,g,h1⟩
 .rcases D i q hi with⟨rfl,rfl⟩|⟨J,_⟩
  .exact YM _
  .exact hU i J
 .rcases D i q hi with⟨rfl,rfl⟩|⟨J,h5⟩
  .rw[I];exact hs.dK _ _ _ hX
  .rw[A.aA i J];exact hf.1.dS i q h5 hr
 .rcases D i q hi with⟨rfl,rfl⟩|⟨J,h5⟩
  .exact OR.move (G:=fun _=>True) (.refl _) (AO.all_true _) (fun p y _ hv=>hv.E0 (.refl _)) I a0 Z (hs.obj b _ e hX)
  .exact(hf.1.obj i q h5).mono (.refl _) A hU J Z
 .rcases D i q hi with⟨rfl,rfl⟩|⟨J,h5⟩<;>rcases D j r hj with⟨h6,rfl⟩|⟨h6,h7⟩
  .exact h6.symm
  .rw[I,A.aA j h6]at he;exact absurd he.symm (hs.apart b _ e hX j r h7 hr)
  .subst h6;rw[I,A.aA i J]at he;exact absurd he (hs.apart b _ e hX i q h5 hq)
  .rw[A.aA i J,A.aA j h6]at he;exact hf.1.inj i j q r h5 h7 hq hr he
 .rw[AF.ay];split
  .rename_i hk;subst hk;exact hp M N' _ _ (YM _) I a0 ((hf.2.1 k).mono (.refl _) A hU)
  .exact(hf.2.1 k).mono (.refl _) A hU
 all_goals by_cases u:c=b
 .subst u;rw[bE.gd]at B;cases B
 .rw[bE.j3 _ _ u]at B;exact hs.real c q g B
 .subst u;rw[bE.gd]at B;cases B
 .rw[bE.j3 _ _ u]at B;exact hs.obj c q g B
 .subst u;rw[bE.gd]at B;cases B
 .rw[bE.j3 _ _ u]at B;exact hs.dK c q g B
 .subst u;rw[bE.gd]at B;cases B
 .rw[bE.j3 _ _ u]at B;rcases D i r hi with⟨rfl,rfl⟩|⟨J,h5⟩
  .rw[I];exact fun e=>u e.symm
  .rw[A.aA i J];exact hs.apart c q g B i r h5 hr
 .subst u;rw[bE.gd]at B;cases B;exact⟨YM _,I,a0⟩
 .rw[bE.j3 _ _ u]at B;obtain⟨h1,h2,h3⟩:=hs.out c i g B;exact⟨hU i h1,(A.aA i h1).trans h2,(A.ext i h1).trans h3⟩
theorem F5{b e d:Nat}{o:AO}(u:X b=io (.obj o e))(hd:s.f.get d= .iv (.v (.map (io b)))):
  SX nt s X (fun t Y=>t=⟨(d,.mp s.nx)::s.f,(s.nx,io o)::s.h,s.nx+1⟩∧Y=X.put b (.out s.nx e)):=
 RA u fun M N U x hu hb hE j=>by
  rw[hd]at j;cases j with
  |iv _ _ hi=>cases hi with
   |v=>
    have:=VR.mp (M:=M) (N:=N) s.nx hu;rw[hb]at this;exact this
theorem Rel.drop{M:Mem}{N:Nm}{n:Nat}{h:AH}{w:World}(hr:Rel M N (· <n) h w)(i:Nat):Rel M N (· <n) ((i,is)::h) w:=
 ⟨hr.dK,fun j o u=>hr.used j o (bn j o u).2,fun j o u x=>hr.dS j o (bn j o u).2 x,fun j o u=>hr.obj j o (bn j o u).2,fun j l o p u hl A B y=>hr.inj j l o p (bn j o u).2 (bn l p hl).2 A B y⟩
theorem EC{M:Mem}{N:Nm}{n:Nat}{h:AH}{w:World}(hr:Rel M N (· <n) h w)(hs:fx M N n h X w){i:Nat}{o:AO}(hi:h.get i=io o)(A:o.real=jp)(I:o.all PV.flat):
  lj M N n h X w M N n ((i,is)::h) (X.put (N.aA i) (.obj o (N.ext i))) w∧fx M N n ((i,is)::h) (X.put (N.aA i) (.obj o (N.ext i))) w:=by
 refine⟨⟨rfl,rfl,⟨rfl,W8 _⟩,W8 _,fun _ _ _=>rfl,.refl _,fun b c h1 B=>by simp[h1]at B,.refl _ _,W8 _,fun c y=> .inr ?_⟩,fun c q g y=>?_,fun c q g y=>?_,fun c q g y=>?_,fun c q g y j r J D=>?_,fun c j g y=>?_⟩
 .rcases y with⟨j,q,h1,B,Y⟩|⟨q,g,h1⟩
  .exact .inl ⟨j,q,(bn j q h1).2,B,Y⟩
  .by_cases u:c=N.aA i
   .exact .inl ⟨i,o,hi,A,u.symm⟩
   .rw[bE.j3 _ _ u]at h1;exact .inr ⟨q,g,h1⟩
 all_goals by_cases u:c=N.aA i
 .subst u;rw[bE.gd]at y;cases y;exact A
 .rw[bE.j3 _ _ u]at y;exact hs.real c q g y
 .subst u;rw[bE.gd]at y;cases y;exact OR.move (G:=PV.flat) (N:=N) (i:=i) (.refl _) I (fun p x hg hv=>hv.Mj hg) Z Z Z (hr.obj i o hi)
 .rw[bE.j3 _ _ u]at y;exact hs.obj c q g y
 .subst u;exact hr.dS i o hi A
 .rw[bE.j3 _ _ u]at y;exact hs.dK c q g y
 .obtain⟨h1,B⟩:=bn j r J;subst u;exact fun e=>h1 (hr.inj j i r o B hi D A e)
 .rw[bE.j3 _ _ u]at y;exact hs.apart c q g y j r (bn j r J).2 D
 .subst u;rw[bE.gd]at y;cases y
 .rw[bE.j3 _ _ u]at y;exact hs.out c j g y
theorem Ui{b e i:Nat}{o:AO}(A:X b=io (.out i e))(hi:s.h.get i=io o)(u:o.real=jp)(j:o.all PV.flat):
  SX nt s X (fun t Y=>t=⟨s.f,(i,is)::s.h,s.nx⟩∧Y=X.put b (.obj o e)):=by
 intro M N a w hf hs;obtain⟨h1,rfl,rfl⟩:=hs.out b i e A;obtain⟨x,y⟩:=EC hf.1 hs hi u j;exact⟨M,N,⟨s.f,(i,is)::s.h,s.nx⟩,_,x,⟨hf.1.drop i,hf.2⟩,y,rfl,rfl⟩
theorem RC{i d:Nat}{o:AO}{G:Nat->Nat->PV->Prop}(B:X.still)(hi:s.h.get i=io o)(u:o.real=jp)(A:o.all PV.flat)
  (hq: ∀(M:Mem) (N:Nm) (U:Nat->Prop) (x:Value),VR M N U (s.f.get d) x-> ∃q,G (N.aA i) (N.ext i) q∧VR M N U q x):
  SX nt s X (fun t Y=> ∃b e q,X b=is∧G b e q∧t=⟨(d,q)::s.f,(i,is)::s.h,s.nx⟩∧Y=X.put b (.obj o e)):=by
 intro M N a w hf hs;obtain⟨D,I⟩:=EC hf.1 hs hi u A;obtain⟨q,J,h5⟩:=hq M N _ _ (hf.2.1 d);refine⟨M,N,⟨(d,q)::s.f,(i,is)::s.h,s.nx⟩,_,D,⟨hf.1.drop i,fun k=>?_,hf.2.2⟩,I,N.aA i,N.ext i,q,?_,J,rfl,rfl⟩
 .rw[AF.ay];split
  .rename_i hk;subst hk;exact h5
  .exact hf.2.1 k
 .cases hx:X (N.aA i) with
  |none=>rfl
  |some y=>
   cases y with
   |obj p g=>exact absurd Z (hs.apart _ p g hx i o hi u)
   |out j g=>exact absurd hx (B _ _ _)
theorem F6{i d:Nat}{o:AO}(y:X.still)(hi:s.h.get i=io o)(u:o.real=jp)(j:o.all PV.flat)(hd:s.f.get d= .mp i):
  SX nt s X (fun t Y=> ∃b e,X b=is∧t=⟨(d,.iv (.v (.map (io b))))::s.f,(i,is)::s.h,s.nx⟩∧Y=X.put b (.obj o e)):=by
 intro M N a w hf hs
 obtain⟨B,D,t,Y,h1,I,J,b,e,q,h4,rfl,h8,h9⟩:=RC (G:=fun b e q=>q= .iv (.v (.map (io b)))) (d:=d) y hi u j (fun M N U x A=>by
  rw[hd]at A;cases A with
  |mp _ hu=>exact⟨_,rfl,.iv _ _ (.v _)⟩) M N a w hf hs
 exact⟨B,D,t,Y,h1,I,J,b,e,h4,h8,h9⟩
inductive Up (X:bE):Value->IV->Prop
 | row (b len cap sz e:Nat) (es:List (List PV)) (el:Nat->List IV) (hX:X b=io (.obj (.row sz es) e)) (hn:len=es.length) (hl:len<=cap) (hc:cap<=maxLen) (hel: ∀k e,es[k]? =io e->e=(el k).map .iv):
   Up X (.slice (io ⟨b,0,is⟩) len cap) (.bI sz len el)
 |map {V:Type} (b e:Nat) (kc:KC) (ev:V->IV) (z:V) (zv:Value) (dv:PV->V) (m:List (kc.K×V)) (hX:X b=io (.obj (.map kc ev z zv dv m) e)):Up X (.map (io b)) (.fa kc ev z zv m)
 |fE {V:Type} (b e:Nat) (kc:KC) (ev:V->IV) (z:V) (zv:Value) (hX:X b=io (.obj .fE e)) (hz: ∀M,IR M (ev z) zv):Up X (.map (io b)) (.fa kc ev z zv [])
 |U3 (y:Value):Up X y (.v y)
 |nil (sz:Nat) (el:Nat->List IV) (a:Option Addr) (cap:Nat):Up X (.slice a 0 cap) (.bI sz 0 el)
theorem H9{M:Mem}{N:Nm}{n:Nat}{h:AH}{w:World}(hr:Rel M N (· <n) h w)(hs:fx M N n h X w):
  ∃x:Mem,M.le x∧lj M N n h X w x N n h bE.nil w∧Rel x N (· <n) h w∧ ∀y p,Up X y p->IR x p y:=by
 let x:Mem:=⟨fun b=>match X b with
  |some (.obj _ _)=>(match w.heap[b]? with|some (.cells c _ _)=>io (.cells c)|some (.map es cl)=>io (.map es cl)|_=>is)
  |_=>M.fn b,fun b c hb=>by
   have:=M.NQ b c hb;cases u:X b with
   |none=>simpa using this
   |some y=>cases y with
    |obj o e=>exact absurd (this.symm.trans (hs.dK b o e u)) (by simp)
    |out i e=>simpa using this⟩
 have A: ∀b,(∀o e,X b≠io (.obj o e))->x b=M b:=fun b hb=>by
  show(match X b with|some (.obj _ _)=>_|_=>M.fn b)=M.fn b;cases u:X b with
  |none=>rfl
  |some y=>cases y with
   |obj o e=>exact absurd u (hb o e)
   |out i e=>rfl
 have G: ∀b o e,X b=io (.obj o e)->x b=(match w.heap[b]? with|some (.cells c _ _)=>io (MB.cells c)|some (.map es cl)=>io (MB.map es cl)|_=>is):=fun b o e hb=>by
  show(match X b with|some (.obj _ _)=>_|_=>M.fn b)=_;rw[hb]
 have B:M.le x:=fun b c hb=>by
  rw[A b fun o e u=>absurd (hb.symm.trans (hs.dK b o e u)) (by simp)];exact hb
 refine⟨x,B,⟨rfl,rfl,⟨rfl,W8 _⟩,W8 _,fun _ _ _=>rfl,B,fun b c h1 I=>?_,.refl _ _,W8 _,fun c J=> .inr ?_⟩,⟨fun b c hb=>?_,hr.used,fun i o hi c0=>?_,fun i o hi=>(hr.obj i o hi).mono B (.refl _ _) (fun _ h=>h) (hr.used i o hi) Z,hr.inj⟩,fun y p hu=>?_⟩
 .cases u:X b with
  |none=>rw[A b (by simp[u]),h1]at I;cases I
  |some y=>cases y with
   |obj o e=>exact .inr (.inr ⟨o,e,u⟩)
   |out i e=>rw[A b (by simp[u]),h1]at I;cases I
 .rcases J with J|⟨o,e,J⟩
  .exact .inl J
  .cases J
 .cases u:X b with
  |none=>rw[A b (by simp[u])]at hb;exact hr.dK b c hb
  |some y=>cases y with
   |out i e=>rw[A b (by simp[u])]at hb;exact hr.dK b c hb
   |obj o e=>
    rw[G b o e u]at hb;split at hb
    .rename_i hh;cases hb;exact⟨_,_,hh⟩
    .rename_i hh;cases hb;exact hh
    .cases hb
 .rw[A _ fun q e u=>hs.apart _ q e u i o hi c0 Z];exact hr.dS i o hi c0
 .cases hu with
  |U3=>exact .v _
  |nil=>exact .fS _ _ _ _
  |fE b e kc ev z zv hX hz=>
   have h1:=hs.obj b _ e hX;have I:x b=io (.map #[] 0):=by rw[G b _ e hX];rw[show w.heap[b]? =io (.map #[] 0) from h1]
   exact .fa _ _ _ _ _ b #[] 0 I Z (by simp) (by simp) (hz x) (by simp) (by simp)
  |map b e kc ev z zv dv m hX=>
   obtain⟨ents,cl,h1,I,h3⟩:=hs.obj b _ e hX;have h4:x b=io (.map ents cl):=by rw[G b _ e hX];rw[show w.heap[b]? =io (.map ents cl) from h1]
   have h5:=I.mono B;exact .fa _ _ _ _ _ b ents cl h4 h5.size h5.key h5.val (h3.mono B) h5.inj h5.lt
  |row b len cap sz e es el hX hn hl J hel=>
   rcases hs.obj b _ e hX with h0|⟨h0,c,T,g1,g2,g3,g4,g5⟩
   .have:=hs.real b _ e hX;rw[h0]at this;cases this
   have h4:x b=io (.cells c):=by rw[G b _ e hX];rw[show w.heap[b]? =io (.cells c T (0,0)) from g1]
   have D: ∀o,x.cell b o=c[o]? :=fun o=>by simp only[Mem.cell,h4]
   have b0: ∀k,k<len-> ∃e,es[k]? =io e:=fun k hk=>⟨_,W5 (by omega)⟩
   have d0: ∀k j,k<len->j<sz->k*sz+j<c.size:=fun k j hk hj=>by
    have:(k+1)*sz<=es.length*sz:=Xt _ (by omega);rw[XT]at this;omega
   refine .bI _ _ _ _ _ _ hl J (fun k hk=>?_) (fun k j hk hj=>?_) (fun k j p hk hp=>?_)
   .obtain⟨e,Y⟩:=b0 k hk;have:=g4 _ e Y;rw[hel _ e Y]at this;simpa using this
   .rw[D,Xo];simp[d0 k j hk hj]
   .obtain⟨e,Y⟩:=b0 k hk;have h9:=g4 _ e Y;have a0:=hel _ e Y;have hj:j<sz:=by rw[<-h9,a0,Xw];exact(W4.1 hp).1
    have:=g5 _ e j (.iv p) Y (by rw[a0,W9,hp];rfl);rw[D,Xo];rw[WZ]at this;cases this with
    |iv _ _ h=>exact h.mono B
def Up1(X:bE)(p j:PV):Prop:=j=p∨ ∃y q,p= .iv (.v y)∧j= .iv q∧Up X y q
inductive Qz (X:bE):AO->AO->Prop
 | row (sz:Nat) (es es':List (List PV)) (hl:es'.length=es.length) (h: ∀(k:Nat) (e':List PV),es'[k]? =io e'-> ∃e,es[k]? =io e∧e'.length=e.length∧ ∀(j:Nat) (p':PV),e'[j]? =io p'-> ∃p,e[j]? =io p∧Up1 X p p'):
   Qz X (.row sz es) (.row sz es')
 | map {V V':Type} (kc:KC) (ev:V->IV) (z:V) (zv:Value) (dv:PV->V) (m:List (kc.K×V)) (ev':V'->IV) (z':V') (dv':PV->V') (m':List (kc.K×V')) (hl:m'.length=m.length)
   (h: ∀(j:Nat) (x':kc.K×V'),m'[j]? =io x'-> ∃x y,m[j]? =io x∧x'.1=x.1∧ev x.2= .v y∧Up X y (ev' x'.2)) (hz: ∀M,IR M (ev' z') zv):Qz X (.map kc ev z zv dv m) (.map kc ev' z' zv dv' m')
theorem Qz.or{M B:Mem}{N:Nm}{U:Nat->Prop}{w:World}{i:Nat}{o o':AO}(a0:M.le B)(hu: ∀y p,Up X y p->IR B p y)(h:Qz X o o')(ho:OR M N U w i o):OR B N U w i o':=by
 have hv: ∀p G x,Up1 X p G->VR M N U p x->VR B N U G x:=by
  rintro p G x (rfl|⟨y,q,rfl,rfl,D⟩) hx
  .exact hx.mono a0 (.refl _ _) (fun _ h=>h)
  .cases hx with
   |iv _ _ hi=>cases hi with
    |v=>exact .iv _ _ (hu _ _ D)
 cases h with
 |row sz es es' hl h=>
  rcases ho with rfl|⟨h0,c,T,g1,g2,g3,g4,g5⟩
  .left;exact Yv.1 hl
  .refine .inr ⟨h0,c,T,g1,g2,by rw[hl];exact g3,fun k I u=>?_,fun k I j G u b0=>?_⟩
   .obtain⟨e,h1,J,_⟩:=h k I u;rw[J];exact g4 k e h1
   .obtain⟨e,h1,_,D⟩:=h k I u;obtain⟨p,Y,h5⟩:=D j G b0;exact hv _ _ _ h5 (g5 k e j p h1 Y)
 |map kc ev z zv dv m ev' z' dv' m' hl h hz=>
  obtain⟨ents,cl,g1,g2,g3⟩:=ho;refine⟨ents,cl,g1,⟨g2.size.trans hl.symm,fun j x' A=>?_,fun j x' A=>?_,g2.inj,g2.lt⟩,hz B⟩
  .obtain⟨x,y,h1,J,_⟩:=h j x' A;rw[J];exact g2.key j x h1
  .obtain⟨x,y,h1,_,D,Y⟩:=h j x' A;have:=g2.val j x h1;rw[D]at this;generalize(ents.getD j co).val=v at this ⊢;cases this with
   |v=>exact hu _ _ Y
theorem Qz.real{o o':AO}(h:Qz X o o'):o'.real=o.real:=by
 cases h with
 |row sz es es' hl h=>cases es<;>cases es'<;>first|rfl|simp at hl
 |map=>rfl
theorem RE{i:Nat}{o o':AO}(hi:s.h.get i=io o)(hu:Qz X o o'):SX nt s X (fun t Y=>t=⟨s.f,(i,io o')::s.h,s.nx⟩∧Y=bE.nil):=by
 intro M N a w hf hs;obtain⟨G,h1,A,B,I⟩:=H9 hf.1 hs;have u: ∀j q,AH.get ((i,io o')::s.h) j=io q-> ∃y,s.h.get j=io y∧q.real=y.real∧(q=y∨(j=i∧q=o')):=by
  intro j q x;rw[AH.ay]at x;split at x
  .rename_i D;subst D;cases x;exact⟨o,hi,hu.real,.inr ⟨rfl,rfl⟩⟩
  .exact⟨q,x,rfl,.inl Z⟩
 refine⟨G,N,⟨s.f,(i,io o')::s.h,s.nx⟩,bE.nil,?_,⟨⟨B.dK,fun j q x=>?_,fun j q x hr=>?_,fun j q x=>?_,fun j k q r x hk hq hr J=>?_⟩,fun k=>(hf.2.1 k).mono h1 (.refl _ _) (fun _ h=>h),hf.2.2⟩,.nil ..,rfl,rfl⟩
 .exact⟨A.os,A.tape,A.output,A.size,A.gK,A.oJ,A.iM,A.nm,A.ule,fun b hb=> .inr<|by
   rcases hb with⟨j,q,g1,g2,g3⟩|⟨q,g,g1⟩
   .obtain⟨y,g4,g5,_⟩:=u j q g1;exact .inl ⟨j,y,g4,g5▸g2,g3⟩
   .cases g1⟩
 .obtain⟨y,g4,_⟩:=u j q x;exact hf.1.used j y g4
 .obtain⟨y,g4,g5,_⟩:=u j q x;exact B.dS j y g4 (g5▸hr)
 .obtain⟨y,g4,_,rfl|⟨rfl,rfl⟩⟩:=u j q x
  .exact B.obj j _ g4
  .exact hu.or h1 I (hf.1.obj j o hi)
 .obtain⟨y,g4,g5,_⟩:=u j q x;obtain⟨r',g6,g7,_⟩:=u k r hk;exact hf.1.inj j k y r' g4 g6 (g5▸hq) (g7▸hr) J
end
section
variable {P:Program}
section
variable {nt:NT} {Q:XQ} {k0:List XI} {s:AS} {X:bE}
theorem Mm{t:AS}(hh:t.h=s.h)(hn:t.nx=s.nx)(h: ∀M N a w,Fits M N s nt a w->fx M N s.nx s.h X w->FR M N (· <s.nx) t.f a.tmps):SX nt s X (fun j Y=>j=t∧Y=X):=by
 intro M N a w hf hs;obtain⟨f,u,n⟩:=t;simp only at hh hn;subst hh;subst hn;exact⟨M,N,⟨f,s.h,s.nx⟩,X,.refl _ _ _ _ _ _,⟨hf.1,h M N a w hf hs,hf.2.2⟩,hs,rfl,rfl⟩
theorem HX{b j e d:Nat}{p:PV}(A:X b=io (.out j e))(hp: ∀(M:Mem) (N:Nm) (U:Nat->Prop) (x:Value),U j->N.aA j=b->N.ext j=e->VR M N U (s.f.get d) x->VR M N U p x):
  SX nt s X (fun t Y=>t=⟨(d,p)::s.f,s.h,s.nx⟩∧Y=X):=
 Mm Z Z fun M N a w hf hs k=>by
  obtain⟨h1,u,y⟩:=hs.out b j e A;rw[AF.ay];split
  .rename_i hk;subst hk;exact hp M N _ _ h1 u y (hf.2.1 k)
  .exact hf.2.1 k
theorem Dw{M:Mem}{N:Nm}{n:Nat}{h:AH}{w:World}(hr:Rel M N (· <n) h w){i:Nat}{o o':AO}(hi:h.get i=io o)(D:o'.real=jp->o.real=jp)(ho:OR M N (· <n) w i o'):Rel M N (· <n) ((i,io o')::h) w:=by
 have u: ∀j q,AH.get ((i,io o')::h) j=io q->(j=i∧q=o')∨(j≠i∧h.get j=io q):=by
  intro j q y;rw[AH.ay]at y;split at y
  .rename_i B;exact .inl ⟨B,by simpa using y.symm⟩
  .rename_i B;exact .inr ⟨B,y⟩
 refine⟨hr.dK,fun j q y=>?_,fun j q y x=>?_,fun j q y=>?_,fun j k q r y hk J x I=>?_⟩
 .rcases u j q y with⟨rfl,rfl⟩|⟨_,A⟩
  .exact hr.used j o hi
  .exact hr.used j q A
 .rcases u j q y with⟨rfl,rfl⟩|⟨_,A⟩
  .exact hr.dS j o hi (D x)
  .exact hr.dS j q A x
 .rcases u j q y with⟨rfl,rfl⟩|⟨_,A⟩
  .exact ho
  .exact hr.obj j q A
 .rcases u j q y with⟨rfl,rfl⟩|⟨g1,A⟩<;>rcases u k r hk with⟨g2,G⟩|⟨g2,G⟩
  .exact g2.symm
  .exact hr.inj j k o r hi G (D J) x I
  .subst g2;subst G;exact hr.inj j k q o A hi J (D x) I
  .exact hr.inj j k q r A G J x I
theorem RB{i:Nat}{o o':AO}(hi:s.h.get i=io o)(A:o'.real=jp->o.real=jp)(ho: ∀M N w,fx M N s.nx s.h X w->OR M N (· <s.nx) w i o->OR M N (· <s.nx) w i o'):
  SX nt s X (fun t Y=>t=⟨s.f,(i,io o')::s.h,s.nx⟩∧Y=X):=by
 intro M N a w hf hs;have u: ∀j q,AH.get ((i,io o')::s.h) j=io q->q.real=jp-> ∃y,s.h.get j=io y∧y.real=jp:=by
  intro j q x B;rw[AH.ay]at x;split at x
  .rename_i G;subst G;cases x;exact⟨o,hi,A B⟩
  .exact⟨q,x,B⟩
 refine⟨M,N,⟨s.f,(i,io o')::s.h,s.nx⟩,X,⟨rfl,rfl,⟨rfl,W8 _⟩,W8 _,fun _ _ _=>rfl,.refl _,fun b c h1 D=>by simp[h1]at D,.refl _ _,W8 _,fun b hb=> .inr ?_⟩,
  ⟨Dw hf.1 hi A (ho M N w hs (hf.1.obj i o hi)),hf.2⟩,⟨hs.real,hs.obj,hs.dK,fun b p e hb j q x B=>?_,hs.out⟩,rfl,rfl⟩
 .rcases hb with⟨j,q,h1,D,I⟩|hb
  .obtain⟨y,g1,g2⟩:=u j q h1 D;exact .inl ⟨j,y,g1,g2,I⟩
  .exact .inr hb
 .obtain⟨y,g1,g2⟩:=u j q x B;exact hs.apart b p e hb j y g1 g2
theorem RD{i:Nat}{o o':AO}(hi:s.h.get i=io o)(j:fc o o'):SX nt s X (fun t Y=>t=⟨s.f,(i,io o')::s.h,s.nx⟩∧Y=X):=
 RB hi j.1 fun M N w _ h=>j.2 M N _ w i h
end
end
section
variable {P:Program} {nt:NT} {Q:XQ} {k0:List XI} {s:AS} {X:bE} {ty:Ty}
theorem DS{c:Code}{R x:AS->bE->Prop}(h: ∀t Y,R t Y->x t Y)(hg:GX P nt (.code c:: .lp R::k0) Q s X):GX P nt (.code c:: .lp x::k0) Q s X:=by
 intro M N a w hf hs;refine AX.then hg hf hs fun e G I y A s' B D j u hr=>⟨y,A,s',B,D,j,u,?_⟩
 cases e with
 |normal=>exact h _ _ hr
 |_=>exact hr
theorem Ah{body:Code}{σ:Type 1}(i0 n:Nat)(A:i0<=n)(I:Nat->σ->AS)(J:Nat->σ->bE->Prop)(D:σ)(G:List Nat)(j0:J i0 D X)(h0:Wk s.nx G s (I i0 D))(B: ∀i x Y,J i x Y->Y.still)
  (j: ∀i x Y,i<=n->J i x Y->GX P nt (.code body:: .lp (fun t y=>i<n∧ ∃u L,J (i+1) u y∧Wk s.nx L t (I (i+1) u))::k0) Q (I i x) Y):GX P nt (.code (.loop body)::k0) Q s X:=by
 refine Vc (σ:={p:Nat×σ×bE//p.1<=n∧J p.1 p.2.1 p.2.2}) (fun p=>I p.1.1 p.1.2.1) (fun p=>p.1.2.2) (fun p=>n-p.1.1) ⟨(i0,D,X),A,j0⟩ G h0 Z (fun p=>B _ _ _ p.2.2) fun p=>?_;obtain⟨⟨i,x,Y⟩,h1,h2⟩:=p;refine DS ?_ (j i x Y h1 h2)
 rintro t y ⟨h3,u,L,h4,h5⟩;exact⟨⟨(i+1,u,y),h3,h4⟩,L,by show n-(i+1)<n-i;omega,h5,rfl⟩
end
section
variable {P:Program} {nt:NT} {Q:XQ} {k:List XI} {s:AS} {X:bE}
def GoW(P:Program)(nt:NT)(k:List XI)(Q:XQ)(X:bE)(n0:Nat)(t:AS):AQ:=fun e u=>(e= .normal∧ ∃L,Wk n0 L u t)∨(e≠ .normal∧kx P nt k Q e u X)
theorem yy{n0:Nat}{t u:AS}(L:List Nat)(h:Wk n0 L u t):GoW P nt k Q X n0 t .normal u:= .inl ⟨rfl,L,h⟩
theorem wh{c:Code}(t:AS)(h1:GO P nt [.code c] (GoW P nt k Q X s.nx t) s)(D:GX P nt k Q t X):GX P nt (.code c::k) Q s X:=by
 intro M N a w hf hs;refine AW.then h1 hf fun e G I x B u A j hr=>?_;rcases hr with⟨rfl,L,y⟩|⟨_,hr⟩
 .obtain⟨g1,g2⟩:=lj.frame (y.ext A) hs;exact⟨x,_,t,X,g1,y.fits j,g2,D⟩
 .obtain⟨g1,g2⟩:=lj.frame A hs;exact⟨x,B,u,X,g1,j,g2,hr⟩
end
def To(s t:AS):Prop:= ∀M N (nt:NT) a w,Fits M N s nt a w-> ∃j u,Ext M N (· <s.nx) s.h w j u (· <t.nx) t.h w∧Fits j u t nt a w
theorem To.refl(s:AS):To s s:=fun M N _ _ _ hf=>⟨M,N,.refl _ _ _ _ _,hf⟩
theorem To.trans{s t u:AS}(h:To s t)(g:To t u):To s u:=fun M N nt a w hf=>by
 obtain⟨j,y,B,f1⟩:=h M N nt a w hf;obtain⟨x,A,D,f2⟩:=g j y nt a w f1;exact⟨x,A,B.trans D,f2⟩
theorem To.wk{s t:AS}{L:List Nat}(hw:Wk s.nx L s t):To s t:=fun M N _ _ _ hf=>⟨M,_,hw.ext (.refl _ _ _ _ _),hw.fits hf⟩
theorem To.row{s:AS}(i:Nat){sz:Nat}{es:List (List PV)}(el:Nat->List IV)(hi:s.h.get i=io (.row sz es))(a0: ∀k e,es[k]? =io e->e=(el k).map .iv)
  (hf:s.f.kK i sz es.length) (hh:s.h.vN i sz es.length):To s ⟨s.f.j6 i sz el,(i,is)::s.h.gZ i sz el,s.nx⟩:=by
 intro M N nt a w u;obtain⟨M',h1,x,h4⟩:=pE u.1 hi a0;have D: ∀j o,AH.get ((i,is)::s.h.gZ i sz el) j=io o-> ∃p,AH.get ((i,is)::s.h) j=io p∧s.h.get j=io p∧o=p.gZ i sz el:=by
  intro j o y;obtain⟨g1,g2⟩:=bn j o y;rw[AH.pF,Xa]at g2;obtain⟨p,g3,g4⟩:=g2;exact⟨p,by rw[AH.ay,be g1];exact g3,g3,g4.symm⟩
 have hE:Ext M N (· <s.nx) s.h w M' N (· <s.nx) ((i,is)::s.h.gZ i sz el) w:=⟨h1.os,h1.tape,h1.output,h1.size,h1.gK,h1.oJ,h1.iM,h1.nm,h1.ule,fun j o y A=>by
  obtain⟨p,g1,_,rfl⟩:=D j o y;rw[AO.jr]at A
  exact h1.gB j p g1 A⟩
 have hR:Rel M' N (· <s.nx) ((i,is)::s.h.gZ i sz el) w:=by
  refine⟨x.dK,fun j o y=>?_,fun j o y A=>?_,fun j o y=>?_,fun j k o p y hk ho I=>?_⟩
  .obtain⟨p,g1,_,rfl⟩:=D j o y;exact x.used j p g1
  .obtain⟨p,g1,_,rfl⟩:=D j o y;rw[AO.jr]at A;exact x.dS j p g1 A
  .obtain⟨p,g1,g2,rfl⟩:=D j o y;cases p with
   |cells cs T0=>
    obtain⟨c,T,q1,q2,q3,q4,q5⟩:=u.1.obj j _ g2;have hok:=AH.mq hh j _ g2;refine⟨c,T,q1,q2,by simpa[eL]using q3,fun k q hq=>?_,q5⟩;rw[eL,W9,Xa]at hq;obtain⟨q0,Y,rfl⟩:=hq;exact h4 _ _ (q4 k q0 Y) (fo hok k q0 Y)
   |row s2 es2=>
    have hok:=AH.mq hh j _ g2;rcases u.1.obj j _ g2 with rfl|⟨q0,c,T,q1,q2,q3,q4,q5⟩
    .exact .inl Z
    .refine .inr ⟨q0,c,T,q1,q2,by simpa using q3,fun k e G=>?_,fun k e j2 p G I=>?_⟩
     .rw[W9,Xa]at G;obtain⟨e0,B,rfl⟩:=G;rw[eL,Xw];exact q4 k e0 B
     .rw[W9,Xa]at G;obtain⟨e0,B,rfl⟩:=G;rw[eL,W9,Xa]at I;obtain⟨p0,J,rfl⟩:=I;exact h4 _ _ (q5 k e0 j2 p0 B J) (fo (hok e0 (XE B)) j2 p0 J)
   |bz=>exact x.obj j _ g1
   |fE=>exact x.obj j _ g1
   |map=>exact x.obj j _ g1
   |bY=>exact x.obj j _ g1
   |eG=>exact x.obj j _ g1
   |iA=>exact x.obj j _ g1
   |eJ=>exact x.obj j _ g1
   |oK=>exact x.obj j _ g1
  .obtain⟨o',g1,_,rfl⟩:=D j o y;obtain⟨p',g2,_,rfl⟩:=D k p hk;rw[AO.jr]at ho I;exact x.inj j k o' p' g1 g2 ho I
 have b0:Fits M' N ⟨s.f.j6 i sz el,(i,is)::s.h.gZ i sz el,s.nx⟩ nt a w:=⟨hR,fun d=>by
  rw[AF.jQ];exact h4 _ _ (u.2.1 d) (AF.lC hf d),u.2.2⟩
 exact⟨M',N,hE,b0⟩
section
variable {P:Program} {nt:NT} {Q:AQ} {k:List KI} {s t:AS}
theorem SF{all rest:List Oper}(ht:To s t)(h:GO P nt (.ops all rest::k) Q t):GO P nt (.ops all rest::k) Q s:=by
 intro M N a w hf;obtain⟨u,x,y,j⟩:=ht M N nt a w hf;exact fT (fun e a2 A ⟨M2,N2,s2,hx2,hf2,hr2⟩=>⟨M2,N2,s2,y.trans hx2,hf2,hr2⟩) _ _ _ (h u x a w j)
end
section
variable {P:Program} {ty:Ty} {nt:NT} {s:AS} {Q:AQ} {k:List KI}
theorem wj(B:bq P ty)(j:List (List PV)){all rest:List Oper}{o:Oper}{t:TypeId}{a x:Operand}(hg:o.guard=is)(ho:o.op= .store t a x)(hd:o.dst=is){i sz q off:Nat}{e:bC}(he:ty t=io e){es:List (List PV)}{row xs:List PV}
  (ha:ev s.f a= .cV i sz q off) (hi:s.h.get i=io (.row sz es)) (I:es[q]? =io row) (G:(ev s.f x).cells=io xs) (D:xs.length=e.size) (y:off+e.size<=sz) (A:dB xs=jp) (hes:es.set q (setCells row off xs)=j)
  (h:GO P nt (.ops all rest::k) Q ⟨s.f,(i,io (.row sz j))::s.h,s.nx⟩):GO P nt (.ops all (o::rest)::k) Q s:=
 bB hg (mY B ho hd he ha hi I G D y A) fun u hu=>by subst hu;rw[hes];exact h
end
abbrev dd(l:List UInt8):List (List PV):=l.map fun c=>(aH c).map .iv
theorem Ku(a b:List UInt8):dd (a++b)=dd a++dd b:=Xg
section
variable {P:Program} {ty:Ty} {nt:NT} {s:AS} {Q:AQ} {k:List KI}
theorem MO{M:Mem}{N:Nm}{U:Nat->Prop}{w:World}{i:Nat}{l:List UInt8}:OR M N U w i (.row 1 (dd l))↔(l=[]∨ ∃c T,w.heap[N.aA i]? =io (.cells c T (0,0))∧c.size=N.ext i∧l.length<=c.size∧ ∀(j:Nat) (x:UInt8),l[j]? =io x->c.getD j undef= .int .u8 (x.toNat:Int)):=by
 constructor
 .rintro(h|⟨_,c,T,h1,h2,h3,h4,h5⟩)
  .exact .inl (by simpa using h)
  .refine .inr ⟨c,T,h1,h2,by simpa using h3,fun j x B=>?_⟩;have:=h5 j _ 0 _ (by rw[W9,B];rfl) Z;rw[Zu,YC]at this;generalize c.getD j undef=y at this;cases this with
   |iv _ _ h=>cases h;rfl
 .rintro(h|⟨c,T,h1,h2,h3,h4⟩)
  .exact .inl (by simp[h])
  .refine .inr ⟨by decide,c,T,h1,h2,by simpa using h3,fun k e u=>?_,fun k e j p u A=>?_⟩
   .rw[W9,Xa]at u;obtain⟨x,_,rfl⟩:=u;rfl
   .rw[W9,Xa]at u;obtain⟨x,B,rfl⟩:=u
    match j,A with
    |0,A=>
     cases A;rw[Zu,YC,h4 k x B];exact .iv _ _ (.v _)
theorem pr{i:Nat}{l m:List UInt8}{M j:Mem}{N u:Nm}{a:Act}{w x:World}(hf:Fits M N s nt a w)(y:Ext M N (· <s.nx) s.h w j u (· <s.nx+1) ((s.nx,io (.row 1 (dd (l++m))))::(i,is)::s.h) x)
  (hr:Rel j u (· <s.nx+1) ((s.nx,io (.row 1 (dd (l++m))))::(i,is)::s.h) x):
  Ext M N (· <s.nx) s.h w j u (· <(iN s i 1 (dd l) (dd m)).nx) (iN s i 1 (dd l) (dd m)).h x∧Fits j u (iN s i 1 (dd l) (dd m)) nt a x:=by
 rw[Ku]at y hr;exact⟨y,hr,hf.2.1.ext y,hf.2.2⟩
theorem Mw(z0:bq P ty){o:Oper}{x y:Operand}{t tu u:TypeId}(ho:o.op= .call ⟨.builtin .append, #[x,y], #[t,tu]⟩){e et eu:bC}(ht:ty t=io e)(hk:e.k= .aP (.slice u))(v1:ty tu=io et)(o1:et.k= .aP .string)(hu:ty u=io eu)
  {i len:Nat} {l:List UInt8} {b:ByteArray} (hx:ev s.f x= .sl i 0 len 1) (hi:s.h.get i=io (.row 1 (dd l))) (D:l.length=len) (t1:eu.size=1) (m1:eu.bytes=1) (hz:eu.zero= .int .u8 0)
  (r1:ev s.f y= .iv (.v (.string b))) (b2:len+b.size<=140737488355328)
  {s':AS} (hp:putDst nt o (.sl s.nx 0 (len+b.size) 1) (iN s i 1 (dd l) (dd b.data.toList))=io s'):OT P nt o s (fun t=>t=s'):=by
 refine OT.value hp fun M N a w hf=>?_;obtain⟨⟨ii,i0,s0,r0,t0⟩,_⟩:=z0 u _ hu;rw[t1]at s0;rw[m1]at r0;rw[hz]at t0
 have m0:P.underlying t=io (.slice u):=by
  have:=(z0 t _ ht).2.1;rw[hk]at this;exact this.1
 have k0:P.underlying tu=io .string:=by
  have:=(z0 tu _ v1).2.1;rw[o1]at this;exact this.1
 have a1:=aO hf.2.1 x;rw[hx]at a1;have b1:=aO hf.2.1 y;rw[r1]at b1;have z1:a.eval y= .string b:=by
  generalize a.eval y=v at b1;cases b1 with
  |iv _ _ h=>cases h;rfl
 have A: ∀v w',(Builtin.append_ #[t,tu] o.type #[a.eval x,a.eval y]).run P w= .ok v w'->(execOp a.eval o).run P w= .ok (.value v) w':=by
  intro v w' h;simp only[execOp,ho,resolve];simp[invoke,builtin,h]
 rw[z1]at A;have c2:i<s.nx:=hf.1.used i _ hi;have n0:s.nx≠i:=by omega
 have p1:=MO.1 (hf.1.obj i _ hi);have g0:b.data.toList.length=b.size:=by simp
 have f0: ∀(j:Nat) (x:UInt8),b.data.toList[j]? =io x->(Lib.strCells b).getD j undef= .int .u8 (x.toNat:Int):=by
  intro j x hx;simp only[Lib.strCells,W2,W9,hx,Ya,X9]
 have c0: ∀z:Array Value,(∀(j:Nat) (x:UInt8),l[j]? =io x->z.getD j undef= .int .u8 (x.toNat:Int))->(∀j,j<b.size->z.getD (len+j) undef=(Lib.strCells b).getD j undef)->
   ∀(j:Nat) (x:UInt8),(l++b.data.toList)[j]? =io x->z.getD j undef= .int .u8 (x.toNat:Int):=by
  intro z h1 h2 j x G;rcases XZ j l.length with hk|hk
  .rw[Xn hk]at G;exact h1 j x G
  .rw[Xl hk]at G;have v0:j-l.length<b.size:=by rw[<-g0];exact(W4.1 G).1
   have:=h2 _ v0;rw[f0 _ _ G,show len+(j-l.length)=j by omega]at this;exact this
 have b0: ∀(I:List Value) (a0:Nat),I.length=len->(∀(j:Nat) (x:UInt8),l[j]? =io x->I.getD j undef= .int .u8 (x.toNat:Int))->len+b.size<=a0->a0<=maxLen->0<len+b.size->
   ∀z:Array Value,z=I.toArray++(Lib.strCells b).toArray++Builtin.zeroCells (Value.int .u8 0).cells (a0-(len+b.size))->
   ∃M' Y,Ext M N (· <s.nx) s.h w M' Y (· <(iN s i 1 (dd l) (dd b.data.toList)).nx) (iN s i 1 (dd l) (dd b.data.toList)).h (w.drew.alloc (.cells z u))∧Fits M' Y (iN s i 1 (dd l) (dd b.data.toList)) nt a (w.drew.alloc (.cells z u))∧
    VR M' Y (· <(iN s i 1 (dd l) (dd b.data.toList)).nx) (.sl s.nx 0 (len+b.size) 1) (.slice (io ⟨w.heap.size,0,is⟩) (len+b.size) a0):=by
  intro I a0 i1 w1 p0 n1 w0 z d1;have a2:(Value.int IntKind.u8 0).cells.size=1:=rfl;have J:z.size=a0:=by
   rw[d1,YE,YE,size_zeroCells,a2];simp only[Zg,i1,Lib.strCells_length];omega
  obtain⟨Y,h1,h2,h3,h4,h5⟩:=hf.1.drew.alloc (.cells z u) (.row 1 (dd (l++b.data.toList))) z.size (fun Y g1 g2 g3=>by
   refine MO.2 (.inr ⟨z,u,by rw[g1];exact heap_alloc_new _ _,g2.symm,by rw[J,W1,D,g0];omega,c0 z (fun j x G=>?_) (fun j G=>?_)⟩)
   .have d2:=(W4.1 G).1;have e1:z.getD j undef=I.getD j undef:=by
     rw[d1,WZ,ZH,XF (by simp;omega),W2];simp
    rw[e1];exact w1 j x G
   .rw[d1,WZ,XF (by simp[Lib.strCells_length];omega),YV (by simp;omega),W2]
    simp[i1])
  have s1:=(h5.del i).swap (Ne.symm n0);have x1:=(((Ext.drew (M:=M) (N:=N) (U:=(· <s.nx)) (h:=s.h) (w:=w)).trans h4).del i).swap (Ne.symm n0);obtain⟨g1,g2⟩:=pr (l:=l) (m:=b.data.toList) hf x1 s1;refine⟨M,Y,g1,g2,?_⟩;have:=VR.sl (M:=M) (N:=Y) (U:=(· <s.nx+1)) s.nx 0 (len+b.size) 1 a0 (by omega) w0 p0 n1 (by rw[h2,J];simp);rw[h1,YD]at this;exact this
 generalize a.eval x=vx at a1 A;cases a1 with
 |lx _ _ hU=>
  have he:l=[]:=XL D;subst he;by_cases hm:b.size=0
  .have o0:b.data.toList=[]:=XL (by rw[g0];exact hm);have B:=gy (P:=P) w t tu o.type u ii m0 k0 i0 is 0 0 (W8 _) b hm (.inl Z);obtain⟨h1,h2⟩:=hf.1.C7 1;obtain⟨g1,g2⟩:=pr (i:=i) (l:=[]) (m:=[]) hf ((h1.del i).swap (Ne.symm n0)) ((h2.del i).swap (Ne.symm n0));rw[o0,hm];exact⟨_,w,M,N,A _ _ B,g1,g2,.lx _ _ (by simp only[iN];omega)⟩
  .have B:=run_append_nil_string (P:=P) w t tu o.type u ii (.int .u8 0) m0 k0 i0 t0 b (by omega) (by omega) (by rw[r0];omega);have e1:(b.data.map fun b=>Value.int .u8 b.toNat)=(Lib.strCells b).toArray:=by
    apply Array.ext';simp[Lib.strCells]
   rw[e1]at B;obtain⟨M',Y,g1,g2,g3⟩:=b0 [] (grownCap w b.size 0 u) Z (by simp) (by simpa using grownCap_ge w b.size 0 u) (grownCap_le_maxLen w _ _ _ (by simp only[maxLen];omega)) (by omega) _ Z;simp only[Xo,Xq,aau] at*
   exact⟨_,_,M',Y,A _ _ B,by simpa using g1,by simpa using g2,by simpa using g3⟩
 |sl _ _ _ _ a0 hU h0 hl hc hext=>
  rcases p1 with rfl|⟨cur,CT,q1,q2,q3,q4⟩
  .simp at D;omega
  have d0:(AO.row 1 (dd l)).real=jp:=by cases l with
   |nil=>simp at D;omega
   |cons=>rfl
  rw[YD]at A;have q0:cur.size=a0:=by rw[q2,<-hext];omega
  by_cases hm:b.size=0
  .have o0:b.data.toList=[]:=XL (by rw[g0];exact hm);have B:=gy (P:=P) w t tu o.type u ii m0 k0 i0 (io ⟨N.aA i,0,is⟩) len a0 hl b hm (.inr ⟨_,_,rfl⟩)
   obtain⟨h1,h2⟩:=hf.1.move hi d0 w (.row 1 (dd (l++ []))) Z Z Z Z (fun _ _=>rfl) (by
    rw[XM]
    exact MO.2 (.inr ⟨cur,CT,by simpa using q1,by simpa using q2,q3,q4⟩))
   obtain⟨g1,g2⟩:=pr (l:=l) (m:=[]) (i:=i) hf h1 h2;rw[o0,hm];refine⟨_,w,M,_,A _ _ B,g1,g2,?_⟩;have:=VR.sl (M:=M) (N:=N.with s.nx (N.aA i) (N.ext i)) (U:=(· <s.nx+1)) s.nx 0 len 1 a0 (by omega) h0 hl hc (by simpa using hext);simpa[iN]using this
  .by_cases e0:len+b.size<=a0
   .have B:=mf (P:=P) w t tu o.type u ii m0 k0 i0 s0 CT (N.aA i) len a0 cur q1 b e0 (by omega);generalize hL:(cur.toList.take len++Lib.strCells b++cur.toList.drop (len+b.size)).toArray=L at B;have f1:L.size=cur.size:=by rw[<-hL];simp[Lib.strCells_length];omega
    have x0:=setRow_heap w (N.aA i) cur L CT (0,0) q1;have k1: ∀j,j<len->L.getD j undef=cur.getD j undef:=by
     intro j G;rw[<-hL,WZ,WZ];simp only[XP];rw[Xf,Xn (by simp;omega),XK,am G,Xz]
    have j1: ∀j,j<b.size->L.getD (len+j) undef=(Lib.strCells b).getD j undef:=by
     intro j G;rw[<-hL,WZ,W2];simp only[XP];rw[Xn (by simp[Lib.strCells_length];omega),Xl (by simp;omega)];congr 2;simp;omega
    obtain⟨h1,h2⟩:=hf.1.move hi d0 (w.setRow (N.aA i) L) (.row 1 (dd (l++b.data.toList))) Z Z Z (by simp) (fun b hb=>by
      simp only[World.setRow,XB]
      rw[be (fun e=>hb e.symm)]) (by
     refine MO.2 (.inr ⟨L,CT,by simpa using x0,by rw[f1];simpa using q2,by rw[f1,q0,W1,D,g0];omega,c0 L (fun j x G=>?_) j1⟩);rw[k1 j (by rw[<-D];exact(W4.1 G).1)]
     exact q4 j x G)
    obtain⟨g1,g2⟩:=pr (l:=l) (m:=b.data.toList) (i:=i) hf h1 h2;refine⟨_,_,M,_,A _ _ B,g1,g2,?_⟩;have:=VR.sl (M:=M) (N:=N.with s.nx (N.aA i) (N.ext i)) (U:=(· <s.nx+1)) s.nx 0 (len+b.size) 1 a0 (by omega) (by omega) e0 hc (by simpa using hext);simpa[iN]using this
   .have j0: ∀(j:Nat) (v:Value),(cur.toList.take len)[j]? =io v->w.cell? ((⟨N.aA i,0,is⟩:Addr).add j)=io v:=by
     intro j v hv;rw[XK]at hv;split at hv
     .rw[c9,Xo];simp only[World.cell?,q1];simpa using hv
     .cases hv
    have B:=Lib.run_append_grow_string (P:=P) w t tu o.type u ii (.int .u8 0) m0 k0 i0 t0 ⟨N.aA i,0,is⟩ len a0 (cur.toList.take len) (by rw[s0];simp;omega) j0 b (by omega) (by omega)
     (by rw[r0];exact growslice_fits (by omega) (by omega))
    obtain⟨M',Y,g1,g2,g3⟩:=b0 (cur.toList.take len) (grownCap w (len+b.size) a0 u) (by simp;omega) (fun j x G=>by
      have:=q4 j x G;have v0:j<len:=by rw[<-D];exact(W4.1 G).1
      rw[W2,XK,am v0,Xz]
      rw[WZ]at this;exact this) (grownCap_ge w _ _ _) (grownCap_le_maxLen w _ _ _ (by simp only[maxLen];omega)) (by omega) _ Z
    exact⟨_,_,M',Y,A _ _ B,g1,g2,g3⟩
end
section
variable {P:Program} {ty:Ty} {nt:NT} {s:AS}
theorem mO(B:bq P ty)(l:List UInt8){o:Oper}{x:Operand}{t y u:TypeId}{el:Nat->List IV}{et I eu:bC}(ho:o.op= .convert t y x)(ht:ty t=io et)(hk:et.k= .aP (.slice u))(f0:ty y=io I)(c0:I.k= .aP .string)(hu:ty u=io eu)(d0:eu.k= .aP (.int .u8))
  {n:Nat} (hx:ev s.f x= .iv (.bI 1 n el)) (hn:n=l.length) (b0: ∀j,j<l.length->el j=aH (l.getD j 0)): ∀M N a w,Fits M N s nt a w-> ∃x,(execOp a.eval o).run P w= .ok (.value x) w∧VR M N (· <s.nx) (.iv (.v (.string ⟨l.toArray⟩))) x:=by
 intro M N a w hf;have hs:P.underlying y=io .string:=by have:=(B y _ f0).2.1;rw[c0]at this;exact this.1
 have A:P.underlying t=io (.slice u):=by have:=(B t _ ht).2.1;rw[hk]at this;exact this.1
 have D:P.underlying u=io (.int .u8):=by have:=(B u _ hu).2.1;rw[d0]at this;exact this.1
 subst hn;have G:=aO hf.2.1 x;rw[hx]at G;have Y:(convert t y (a.eval x)).run P w= .ok (.string ⟨l.toArray⟩) w:=by
  generalize a.eval x=v at G;cases G with
  |iv _ _ hir=>
   generalize J:l.length=n at hir;cases hir with
   |fS _ _ a0 cap=>
    have e0:l=[]:=XL J;subst e0;cases a0 with
    |none=>exact run_convert_bytes_nil (P:=P) w t u A D 0 cap y hs
    |some a1=>
     have h0:=run_convert_bytes_back (P:=P) w t y u a1 cap [] A D hs (fun j hj=>absurd hj (by simp));exact h0
   |bI _ _ _ b off cap hn hc hl hm hr=>
    rw[<-J];refine run_convert_bytes_back (P:=P) w t y u ⟨b,off,is⟩ cap l A D hs fun j hj=>?_;have h1:=hr j 0 (.v (.int .u8 ((l.getD j 0).toNat:Int))) (by omega) (by rw[b0 j hj];rfl);have h2:=hm j 0 (by omega) (by omega);rw[Zu,YC]at h1 h2;have hg:l.getD j 0=l[j]:=by rw[W2,W5 hj];rfl
    rw[hg]at h1;cases hcl:M.cell b (off+j) with
    |none=>rw[hcl]at h2;cases h2
    |some v=>
     rw[hcl]at h1;cases h1 with
     |v=>
      rw[c9];exact hf.1.I8 hcl
 exact⟨_,by simp only[execOp,ho];exact a8 Y,.iv _ _ (.v _)⟩
theorem N6{o:Oper}{t:TypeId}{x:Operand}{k:IntKind}{a:Int}(ho:o.op= .unOp .xor t x)(y:ev s.f x= .iv (.v (.int k a))):
  ∀M N c w,Fits M N s nt c w-> ∃x,(execOp c.eval o).run P w= .ok (.value x) w∧VR M N (· <s.nx) (.iv (.v (.int k (k.wrap ((BitVec.ofInt k.bits (if k.signed then-1 else k.max) ^^^ BitVec.ofInt k.bits a).toNat:Int))))) x:=by
 intro M N c w hf;have j:=aO hf.2.1 x;rw[y]at j;generalize u:c.eval x=vx at j;cases j with
 |iv _ _ h1=>cases h1 with
  |v=>
   refine⟨_,?_,.iv _ _ (.v _)⟩;simp only[execOp,ho,u];refine a8 ?_;rfl
end
section
variable {P:Program} {ty:Ty} {nt:NT} {s:AS}
theorem OA(z1:bq P ty){o:Oper}{x y:Operand}{t u:TypeId}(ho:o.op= .call ⟨.builtin .append, #[x,y], #[t,t]⟩){e eu:bC}(ht:ty t=io e)(hk:e.k= .aP (.slice u))(hu:ty u=io eu)
  {i len sz:Nat} {es news:List (List PV)} {py:PV} (s2: ∀(M:Mem) (N:Nm) (a:Act) (w:World),Fits M N s nt a w->VR M N (· <s.nx) (.sl i 0 len sz) (a.eval x)) (hi:s.h.get i=io (.row sz es)) (G:es.length=len) (n2:eu.size=sz) (hz:eu.zero.cells.size=sz) (m2:0<sz)
  (k2:ev s.f y=py) (hy:Src s.h sz py news) (o1: ∀e∈news,dB e=jp) (hb:(len+news.length)*eu.bytes<=140737488355328) (v2:len+news.length<=140737488355328)
  {s':AS} (hp:putDst nt o (.sl s.nx 0 (len+news.length) sz) (iN s i sz es news)=io s'):OT P nt o s (fun t=>t=s'):=by
 refine OT.value hp fun M N a w hf=>?_;subst n2;obtain⟨⟨ii,s0,z0,f2,w1⟩,_⟩:=z1 u _ hu
 have v0:P.underlying t=io (.slice u):=by
  have:=(z1 t _ ht).2.1;rw[hk]at this;exact this.1
 have a2:=s2 M N a w hf;have b2:=aO hf.2.1 y;rw[k2]at b2;obtain⟨Y,ao,c,t2,e0⟩:=hy.ok hf b2;have B: ∀v w',(Builtin.append_ #[t,t] o.type #[a.eval x,a.eval y]).run P w= .ok v w'->(execOp a.eval o).run P w= .ok (.value v) w':=by
  intro v w' h;simp only[execOp,ho,resolve];simp[invoke,builtin,h]
 rw[t2]at B;have w2:i<s.nx:=hf.1.used i _ hi;have a1:s.nx≠i:=by omega
 have j2:=hf.1.obj i _ hi;have c0:(len+news.length)*ii.bytes<=140737488355328:=by rw[f2];exact hb
 have j0: ∀(I vs:List Value) (a0:Nat),I.length=es.length*eu.size->vs.length=news.length*eu.size->(∀(k:Nat) (e:List PV) (j:Nat) (p:PV),es[k]? =io e->e[j]? =io p->VR M N (· <s.nx) p (I.getD (k*eu.size+j) undef))->
   (∀(k:Nat) (e:List PV),es[k]? =io e->e.length=eu.size)->(∀(j:Nat) (p:PV),news.flatten[j]? =io p->VR M N (· <s.nx) p (vs.getD j undef))->len+news.length<=a0->a0<=maxLen->0<len+news.length->
   ∀z:Array Value,z=I.toArray++vs.toArray++Builtin.zeroCells eu.zero.cells (a0-(len+news.length))->
   ∃M' N',Ext M N (· <s.nx) s.h w M' N' (· <(iN s i eu.size es news).nx) (iN s i eu.size es news).h (w.drew.alloc (.cells z u))∧Fits M' N' (iN s i eu.size es news) nt a (w.drew.alloc (.cells z u))∧
    VR M' N' (· <(iN s i eu.size es news).nx) (.sl s.nx 0 (len+news.length) eu.size) (.slice (io ⟨w.heap.size,0,is⟩) (len+news.length) a0):=by
  intro I vs a0 n1 i0 p2 v1 o2 n0 e2 p1 z s1;have g0:z.size=a0*eu.size:=by
   rw[s1,YE,YE,size_zeroCells,hz];simp only[Zg,n1,i0,G];rw[<-XT,<-XT,Nat.add_sub_cancel' n0]
  obtain⟨N',h1,h2,h3,h4,h5⟩:=hf.1.drew.alloc (.cells z u) (.row eu.size (es++news)) z.size (fun N' g1 g2 g3=>by
   refine .inr ⟨m2,z,u,by rw[g1];exact heap_alloc_new _ _,g2.symm,?_,fun k e A=>?_,fun k e j p A J=>?_⟩
   .rw[g0,W1,G];exact Xt _ n0
   .rcases XZ k es.length with hk|hk
    .rw[Xn hk]at A;exact v1 k e A
    .rw[Xl hk]at A;exact Y _ e A
   .rcases XZ k es.length with hk|hk
    .rw[Xn hk]at A;have k1:j<eu.size:=by rw[<-v1 k e A];exact(W4.1 J).1
     have r0:k*eu.size+j<I.length:=by
      rw[n1];have:(k+1)*eu.size<=es.length*eu.size:=Xt _ hk;rw[XT]at this;omega
     have:=p2 k e j p A J;have e1:z.getD (k*eu.size+j) undef=I.getD (k*eu.size+j) undef:=by
      rw[s1,WZ,ZH,XF (by simpa using r0),W2];simp
     rw[e1];exact this.mono (.refl _) g3 (fun i hi=>by omega)
    .rw[Xl hk]at A;have k1:j<eu.size:=by rw[<-Y _ e A];exact(W4.1 J).1
     have m1:k-es.length<news.length:=(W4.1 A).1;have j1:=jR Y _ e j p A J;have r0:(k-es.length)*eu.size+j<vs.length:=by
      rw[i0];have:(k-es.length+1)*eu.size<=news.length*eu.size:=Xt _ m1;rw[XT]at this;omega
     have f0:k*eu.size+j=I.length+((k-es.length)*eu.size+j):=by
      rw[n1,aal];have:es.length*eu.size<=k*eu.size:=Xt _ hk;omega
     have:=o2 _ p j1;have e1:z.getD (k*eu.size+j) undef=vs.getD ((k-es.length)*eu.size+j) undef:=by
      rw[s1,WZ,f0,XF (by simp;omega),YV (by simp),W2];simp
     rw[e1];exact this.mono (.refl _) g3 (fun i hi=>by omega))
  have l2:=(h5.del i).swap (Ne.symm a1);have r2:=(((Ext.drew (M:=M) (N:=N) (U:=(· <s.nx)) (h:=s.h) (w:=w)).trans h4).del i).swap (Ne.symm a1);obtain⟨g1,g2⟩:=jf hf r2 l2;refine⟨M,N',g1,g2,?_⟩;rw[ig];have:=VR.sl (M:=M) (N:=N') (U:=(· <s.nx+1)) s.nx 0 (len+news.length) eu.size a0 (by omega) p1 n0 e2 (by rw[h2,g0];simp);rw[h1,YD]at this;exact this
 have p0: ∀vs:List Value,vs.length=news.flatten.length->vs.length=news.length*ii.size:=fun vs h=>by rw[h,fF Y,z0]
 generalize a.eval x=vx at a2 B;cases a2 with
 |lx _ _ hU=>
  have A:es=[]:=by simpa using G
  subst A;by_cases hm:news=[]
  .subst hm;have D:=fC (P:=P) (w:=w) t o.type u ii v0 s0 is 0 0 (W8 _) ao c (.inl Z);obtain⟨h1,h2⟩:=hf.1.C7 eu.size;obtain⟨g1,g2⟩:=jf (es:=[]) (news:=[]) (i:=i) hf ((h1.del i).swap (Ne.symm a1)) ((h2.del i).swap (Ne.symm a1));exact⟨_,w,M,N,B _ _ D,g1,g2,.lx _ _ (by rw[ig];omega)⟩
  .obtain⟨b,d1,f1,b0⟩:=e0 hm;subst f1;obtain⟨vs,i0,b1,x0⟩:=lu (s:=s) b0;have x1:0<news.length:=Yi.2 hm;have D:=run_append_nil (P:=P) w t o.type u ii eu.zero v0 s0 w1 ⟨b,d1,is⟩ news.length c vs (p0 vs i0) b1 x1 (by omega) (by simp only[Yg,Xo]at c0;omega);obtain⟨M',N',g1,g2,g3⟩:=j0 [] vs (grownCap w news.length 0 u) (by simp) (by rw[i0,fF Y]) (by simp) (by simp) x0 (by simpa using grownCap_ge w news.length 0 u) (grownCap_le_maxLen w _ _ _ (by simp only[maxLen];omega)) (by omega) _ Z;simp only[Xo,Xq] at*
   exact⟨_,_,M',N',B _ _ D,by simpa using g1,by simpa using g2,by simpa using g3⟩
 |sl _ _ _ _ a0 hU h0 hl hc hext=>
  rcases j2 with rfl|⟨hsz0,cur,T,q1,q2,q3,q4,q5⟩
  .simp at G;omega
  have m0:(AO.row eu.size es).real=jp:=by cases es with
   |nil=>simp at G;omega
   |cons=>rfl
  rw[YD]at B;have o0:cur.size=a0*eu.size:=by rw[q2,<-hext,Xo]
  by_cases hm:news=[]
  .subst hm;have D:=fC (P:=P) (w:=w) t o.type u ii v0 s0 (io ⟨N.aA i,0,is⟩) len a0 hl ao c (.inr ⟨_,_,rfl⟩)
   obtain⟨h1,h2⟩:=hf.1.move hi m0 w (.row eu.size (es++ [])) Z Z Z Z (fun _ _=>rfl) (by
    rw[XM]
    exact .inr ⟨hsz0,cur,T,by simpa using q1,by simpa using q2,q3,q4,fun k e j p A J=>(q5 k e j p A J).mono (.refl _) (N.dx _ _ _) (fun i hi=>by omega)⟩)
   obtain⟨g1,g2⟩:=jf (es:=es) (news:=[]) (i:=i) hf h1 h2;refine⟨_,w,M,_,B _ _ D,g1,g2,?_⟩;have:=VR.sl (M:=M) (N:=N.with s.nx (N.aA i) (N.ext i)) (U:=(· <s.nx+1)) s.nx 0 len eu.size a0 (by omega) h0 hl hc (by simpa using hext);rw[ig];simpa using this
  .obtain⟨b,d1,f1,b0⟩:=e0 hm;subst f1;obtain⟨vs,i0,b1,x0⟩:=lu (s:=s) b0;have x1:0<news.length:=Yi.2 hm;have q0:vs.length=news.length*eu.size:=by rw[i0,fF Y]
   have t0: ∀(j:Nat) (v:Value),(cur.toList.take (len*eu.size))[j]? =io v->w.cell? ((⟨N.aA i,0,is⟩:Addr).add j)=io v:=by
    intro j v hv;rw[XK]at hv;split at hv
    .rw[c9,Xo];simp only[World.cell?,q1];simpa using hv
    .cases hv
   have x2:len*eu.size<=cur.size:=by rw[o0];exact Xt _ hl
   have k0: ∀(k:Nat) (e:List PV) (j:Nat) (p:PV),es[k]? =io e->e[j]? =io p->k*eu.size+j<len*eu.size:=by
    intro k e j p A J;have hk:k<len:=by rw[<-G];exact(W4.1 A).1
    have k1:j<eu.size:=by rw[<-q4 k e A];exact(W4.1 J).1
    have:(k+1)*eu.size<=len*eu.size:=Xt _ hk;rw[XT]at this;omega
   by_cases d0:len+news.length<=a0
   .have i1:len*eu.size+vs.length<=cur.size:=by rw[q0,<-XT,o0];exact Xt _ d0
    have w0: ∀v∈vs,v.oneCell'=jp:=by
     intro v hv;obtain⟨j,J⟩:=XU hv;have i2:j<news.flatten.length:=by rw[<-i0];exact(W4.1 J).1
     have hp:=W5 i2;obtain⟨k,e,i',h1,h2,_⟩:=jS Y j _ hp;have:=(x0 j _ hp).one (gE (o1 e (XE h1)) i' _ h2);rw[W2,J]at this;exact this
    have D:=jl (P:=P) (w:=w) t o.type u ii v0 s0 T (N.aA i) len a0 cur q1 ⟨b,d1,is⟩ news.length c vs (p0 vs i0) b1 w0 d0 (by rw[z0];exact i1);rw[z0]at D;generalize hL:(cur.toList.take (len*eu.size)++vs++cur.toList.drop (len*eu.size+vs.length)).toArray=L at D;have t1:L.size=cur.size:=by rw[<-hL];simp;omega
    have r1:=setRow_heap w (N.aA i) cur L T (0,0) q1;have d2: ∀j,j<len*eu.size->L.getD j undef=cur.getD j undef:=by
     intro j J;rw[<-hL,WZ,WZ];simp only[XP];rw[Xf,Xn (by simp;omega),XK,am J,Xz]
    have c2: ∀j,j<vs.length->L.getD (len*eu.size+j) undef=vs.getD j undef:=by
     intro j J;rw[<-hL,WZ,W2];simp only[XP];rw[Xn (by simp;omega),Xl (by simp;omega)];congr 2;simp;omega
    obtain⟨h1,h2⟩:=hf.1.move hi m0 (w.setRow (N.aA i) L) (.row eu.size (es++news)) Z Z Z (by simp) (fun b hb=>by
      simp only[World.setRow,XB]
      rw[be (fun e=>hb e.symm)]) (by
     refine .inr ⟨hsz0,L,T,by simpa using r1,by rw[t1];simpa using q2,?_,fun k e A=>?_,fun k e j p A J=>?_⟩
     .rw[t1,o0,W1,G];exact Xt _ d0
     .rcases XZ k es.length with hk|hk
      .rw[Xn hk]at A;exact q4 k e A
      .rw[Xl hk]at A;exact Y _ e A
     .rcases XZ k es.length with hk|hk
      .rw[Xn hk]at A;rw[d2 _ (k0 k e j p A J)];exact(q5 k e j p A J).mono (.refl _) (N.dx _ _ _) (fun i hi=>by omega)
      .rw[Xl hk]at A;have k1:j<eu.size:=by rw[<-Y _ e A];exact(W4.1 J).1
       have m1:k-es.length<news.length:=(W4.1 A).1;have j1:=jR Y _ e j p A J;have r0:(k-es.length)*eu.size+j<vs.length:=by
        rw[q0];have:(k-es.length+1)*eu.size<=news.length*eu.size:=Xt _ m1;rw[XT]at this;omega
       have f0:k*eu.size+j=len*eu.size+((k-es.length)*eu.size+j):=by
        rw[<-G,aal];have:es.length*eu.size<=k*eu.size:=Xt _ hk;omega
       rw[f0,c2 _ r0]
       exact(x0 _ p j1).mono (.refl _) (N.dx _ _ _) (fun i hi=>by omega))
    obtain⟨g1,g2⟩:=jf (es:=es) (news:=news) (i:=i) hf h1 h2;refine⟨_,_,M,_,B _ _ D,g1,g2,?_⟩;have:=VR.sl (M:=M) (N:=N.with s.nx (N.aA i) (N.ext i)) (U:=(· <s.nx+1)) s.nx 0 (len+news.length) eu.size a0 (by omega) (by omega) d0 hc (by simpa using hext);rw[ig];simpa using this
   .have D:=run_append_grow (P:=P) w t o.type u ii eu.zero v0 s0 w1 ⟨N.aA i,0,is⟩ len a0 (cur.toList.take (len*eu.size)) (by rw[z0];simp;omega) t0 ⟨b,d1,is⟩ news.length c vs (p0 vs i0) b1 (by omega) (by omega)
     (growslice_fits (by omega) c0)
    obtain⟨M',N',g1,g2,g3⟩:=j0 (cur.toList.take (len*eu.size)) vs (grownCap w (len+news.length) a0 u) (by rw[G];simp;omega) q0 (fun k e j p A J=>by
      have:=q5 k e j p A J;have r0:=k0 k e j p A J;rw[W2,XK,am r0,Xz]
      rw[WZ]at this;exact this) q4 x0 (grownCap_ge w _ _ _) (grownCap_le_maxLen w _ _ _ (by simp only[maxLen];omega)) (by omega) _ Z
    exact⟨_,_,M',N',B _ _ D,g1,g2,g3⟩
theorem u1(Y:bq P ty){o:Oper}{x y:Operand}{t u:TypeId}(ho:o.op= .call ⟨.builtin .append, #[x,y], #[t,t]⟩){e eu:bC}(ht:ty t=io e)(hk:e.k= .aP (.slice u))(hu:ty u=io eu)
  {sz:Nat} {news:List (List PV)} (hx:ev s.f x= .iv (.v (.slice is 0 0))) (J:eu.size=sz) (hz:eu.zero.cells.size=sz) (I:0<sz)
  (a0:xp ((s.nx,io (.row sz []))::s.h) sz (ev s.f y)=io news) (j: ∀e∈news,dB e=jp) (hb:news.length*eu.bytes<=140737488355328) (A:news.length<=140737488355328)
  {s':AS} (hp:putDst nt o (.sl (s.nx+1) 0 news.length sz) ⟨s.f,(s.nx+1,io (.row sz news))::(s.nx,is)::(s.nx,io (.row sz []))::s.h,s.nx+2⟩=io s'):OT P nt o s (fun t=>t=s'):=by
 intro M N a w hf K Z G;obtain⟨h1,h2⟩:=hf.1.C7 sz;have D:Fits M N ⟨s.f,(s.nx,io (.row sz []))::s.h,s.nx+1⟩ nt a w:=⟨h2,hf.2.1.ext h1,hf.2.2⟩
 refine OA (s:=⟨s.f,(s.nx,io (.row sz []))::s.h,s.nx+1⟩) Y ho ht hk hu (i:=s.nx) (len:=0) (sz:=sz) (es:=[]) (news:=news) (py:=ev s.f y) (fun M N a w hf=>?_) (by rw[AH.ay,am rfl]) rfl J hz I rfl (ib a0) j (by rw[Xo];exact hb) (by rw[Xo];exact A) (s':=s') ?_ M N a w D K Z fun M' N' t a' w' hx B ht=>G M' N' t a' w' (h1.trans hx) B ht
 .have hv:=aO hf.2.1 x;rw[hx]at hv;generalize a.eval x=v at hv;cases hv with
  |iv _ _ h=>cases h with
   |v=>exact .lx _ _ (YM _)
 .rw[Xo];exact hp
end
def Ni(o:Oper):Bool:=match o.op with| .defer _=>kw|_=>jp
section conv
variable {P:Program} {ro:Option Nat} {n:Nat}
end conv
section
variable {P:Program}
variable {nt:NT} {s:AS} {R:AS->Prop}
end
end
end Go.Al
namespace Go
section
variable {P:Program}
end
end Go
namespace Go.Al
section
section
variable {P:Program} {s:AS} {n:Nat}
end
def N5:List Code->Code->Code
 | [],t=>t
 |c::r,t=> .seq c (N5 r t)
theorem Cb{P:Program}{nt:NT}{Q:AQ}{e:Exit}{s:AS}(he:e≠ .normal): ∀j:List Code,kp P nt (j.map .code) Q e s->Q e s
 | [],h=>h
 |c::r,h=>by
  rw[W7]at h;unfold kp at h;cases e<;>first|exact absurd Z he|exact Cb he r h
theorem Cp{P:Program}{nt:NT}{Q:AQ}{T:Code}{Z:Exit->Act->World->Prop}: ∀(cs:List Code) {s:AS} {M:Mem} {N:Nm} {a:Act} {w:World},GO P nt (cs.map .code) Q s->Fits M N s nt a w->
  (∀y j u x s',Ext M N (· <s.nx) s.h w u x (· <s'.nx) s'.h j->Fits u x s' nt y j->Q .normal s'->T.wp P Z y j)->
  (∀e y j u x s',e≠ .normal->Ext M N (· <s.nx) s.h w u x (· <s'.nx) s'.h j->Fits u x s' nt y j->Q e s'->Z e y j)->(N5 cs T).wp P Z a w
 | [],s,M,N,a,w,h,hf,hz,_=>hz a w M N s (.refl _ _ _ _ _) hf h
 |c::r,s,M,N,a,w,h,hf,hz,hq=>by
  refine wp_seq (AW.then (R:=kp P nt (r.map .code) Q) h hf fun e y j u x s' hx I hk=>?_);by_cases G:e= .normal
  .subst G;exact Cp r hk I (fun a2 w2 J Y s2 D A B=>hz a2 w2 J Y s2 (hx.trans D) A B) fun e a2 w2 J Y s2 G D A B=>hq e a2 w2 J Y s2 G (hx.trans D) A B
  .have h1:=hq e y j u x s' G hx I (Cb G r hk);cases e<;>first|exact absurd rfl G|exact h1
section
variable {P:Program}
end
section
variable {P:Program} {ty:Ty} {nt:NT} {s:AS}
theorem N4(d0:bq P ty){o:Oper}{x:Operand}{t u:TypeId}{et eu:bC}(ho:o.op= .convert t t x)(ht:ty t=io et)(hk:et.k= .aP (.slice u))(hu:ty u=io eu)(f0:eu.k= .aP (.int .u8))
  {i n:Nat} {es:List (List PV)} (el:Nat->List IV) (hx:ev s.f x= .sl i 0 n 1) (hi:s.h.get i=io (.row 1 es)) (e0: ∀k e,es[k]? =io e->e=(el k).map .iv) (hn:n=es.length) (q0:0<n)
  {s':AS} (hp:putDst nt o (.iv (.bI 1 n fun k=>el (0+k))) ⟨s.f,(i,is)::s.h,s.nx⟩=io s'):OT P nt o s (fun t=>t=s'):=by
 refine OT.value hp fun M N a w hf=>?_;have j0:P.underlying t=io (.slice u):=by have:=(d0 t _ ht).2.1;rw[hk]at this;exact this.1
 have m0:P.underlying u=io (.int .u8):=by have:=(d0 u _ hu).2.1;rw[f0]at this;exact this.1
 obtain⟨M',G,I,v1⟩:=pE hf.1 hi e0;have D:=aO hf.2.1 x;rw[hx]at D;have hv:=v1 _ _ D (by simp[PV.aZ,hn]);have a0:=hf.1.obj i _ hi;have y:(AO.row 1 es).real=jp:=by
  cases es with
  |nil=>simp at hn;omega
  |cons=>rfl
 rcases a0 with h0|⟨_,c,T,hc,o0,_⟩
 .rw[h0]at y;cases y
 generalize n0:a.eval x=vx at D hv;cases D with
 |lx=>omega
 |sl _ _ _ _ cap hU h0 hl hcp hext=>
  have i0:w.shape? (N.aA i)=io (T,c.size):=by unfold World.shape?;rw[hc]
  obtain⟨J,A⟩: ∃J,J=w.freeze ⟨N.aA i,c.size,is⟩ 1:=⟨_,rfl⟩
  have p0:N.aA i<w.heap.size:=(Yh.1 hc).1;have hnew:J.heap[N.aA i]? =io (.cells c T (c.size,c.size+1)):=by
   rw[A];unfold World.freeze;rw[be (by decide)];simp only[XB,if_true,hc,Ya];rfl
  have B: ∀b,b≠N.aA i->J.heap[b]? =w.heap[b]? :=fun b hb=>by
   rw[A];unfold World.freeze;rw[be (by decide)];simp only[XB,be (Ne.symm hb)]
  have k0:J.heap.size=w.heap.size:=by
   rw[A];unfold World.freeze;rw[be (by decide)];simp
  have b0:(convert t t (.slice (io ⟨N.aA i,0*1,is⟩) n cap)).run P w= .ok (.slice (io ⟨N.aA i,0*1,is⟩) n cap) J:=by
   rw[A];simp[convert,run_underlying j0,run_underlying m0,markStringish,i0]
  refine⟨.slice (io ⟨N.aA i,0*1,is⟩) n cap,J,M',N,?_,?_,?_,?_⟩
  .simp only[execOp,ho,n0];rw[Sem.run_bind,b0];rfl
  .refine⟨by rw[A];exact G.os,by rw[A];exact G.tape,by rw[A];exact⟨rfl,W8 _⟩,by rw[k0];exact W8 _,fun b hb g0=>B b fun e=>g0 i _ hi y e.symm,G.oJ,G.iM,G.nm,G.ule,G.gB⟩
  .refine⟨⟨fun b d hb=>?_,I.used,I.dS,fun j p hj=>?_,I.inj⟩,fun d=>(hf.2.1 d).mono G.oJ (.refl _ _) (fun _ h=>h),hf.2.2⟩
   .by_cases c0:b=N.aA i
    .subst c0;have h1:=I.dK _ d hb;cases d with
     |cells c'=>
      obtain⟨T',fr,Y⟩:=h1;rw[hc]at Y;cases Y;exact⟨_,_,hnew⟩
     |map es2 cl=>have Y:w.heap[N.aA i]? =io (.map es2 cl):=h1;rw[hc]at Y;cases Y
    .exact(I.dK b d hb).mono (B b c0)
   .obtain⟨g1,g2⟩:=bn j p hj;have h1:=I.obj j p hj;cases hre:p.real with
    |true=>exact h1.mono (.refl _) (.refl _ _) (fun _ h=>h) (I.used j p hj) (B _ fun e=>g1 (hf.1.inj j i p _ g2 hi hre y e))
    |false=>
     cases p with
     |row sz es=>
      cases es with
      |nil=>exact .inl Z
      |cons=>cases hre
     |bz l T=>
      cases l with
      |nil=>exact .inl Z
      |cons=>cases hre
     |_=>cases hre
  .have e:PV.dK i 1 el (.sl i 0 n 1)= .iv (.bI 1 n fun k=>el (0+k)):=by
    simp only[PV.dK];rw[show Xv i i=jp from aaw i];rfl
   rw[e]at hv;exact hv
end
theorem lJ{s:AS}{i sz:Nat}{es:List (List PV)}{args asv:List PV}(el:Nat->List IV)(hi:s.h.get i=io (.row sz es))(D: ∀k e,es[k]? =io e->e=(el k).map .iv)(G:aY i sz es.length asv)(I:ia (oh i sz el asv) args): ∀M N w,Rel M N (· <s.nx) s.h w->
  ∃B:Mem,M.le B∧Rel B N (· <s.nx) [] w∧ ∀(j:Nat) (p:PV) (x:Value),args[j]? =io p->(∀q,asv[j]? =io q->VR M N (· <s.nx) q x)->VR B N (· <s.nx) p x:=by
 intro M N w hr;obtain⟨J,g1,g2,g3⟩:=pE hr hi D;have u: ∀(i:Nat) (o:AO),AH.get [] i≠io o:=fun i o h=>by cases h
 refine⟨J,g1.oJ,⟨g2.dK,fun i o hi=>absurd hi (u i o),fun i o hi=>absurd hi (u i o),fun i o hi=>absurd hi (u i o),fun i j o p hi=>absurd hi (u i o)⟩,fun j p x hp hx=>?_⟩;obtain⟨q0,A,y⟩:=I.get j p hp;rw[eL,W9,Xa]at A;obtain⟨q,Y,rfl⟩:=A;exact y J N _ x (g3 q x (hx q Y) (fo G j q Y))
theorem y0: ∀l:List Value,sF (l.map fun v=> .iv (.v v))=jp
 | []=>rfl
 |_::l=>show(jp&&sF _)=jp from y0 l
theorem wX{n sz:Nat}{σ:Nat->Nat}{es:List (List PV)}(he: ∀e∈es,∃l:List Value,e=l.map fun v=> .iv (.v v)): ∀j o,(oe σ [(n,io (.row sz es))]).get j=io o->CU o:=by
 intro j o h;have hr:oe σ [(n,io (.row sz es))]=[(σ n,io (.row sz es))]:=by
  have:es.map (dh σ)=es:=by
   refine(Yj fun e h=>?_).trans (List.map_id _);obtain⟨l,rfl⟩:=he e h;rw[bL,Yb];exact Yj fun _ _=>rfl
  simp only[oe,AO.b5,this]
 rw[hr,AH.ay]at h;split at h
 .cases h;intro e h;obtain⟨l,rfl⟩:=he e h;exact y0 l
 .cases h
section
variable {P:Program} {ty:Ty} {nt:NT} {Q:AQ} {k:List KI} {s:AS}
theorem r9(I:bq P ty){all:List Oper}{todo pend:List (Nat×Oper)}{J:Nat}{CA Y:Prop}{o:Oper}{c:Call}{g:FuncId}{asv args:List PV}{r:PV}{A:AH}{n':Nat}{s':AS}(hc:bh P g args [] r A n')
  (hrd:dz todo=[(J,o)]) (ho:o.op= .call c) (ha:bP s.f c=io (g,asv)) (u:args.length=asv.length) (hlow:bu 0 args=jp)
  (G: ∀M N w,Rel M N (· <s.nx) s.h w-> ∃y:Mem,M.le y∧Rel y N (· <s.nx) [] w∧ ∀(j:Nat) (p:PV) (x:Value),args[j]? =io p->(∀q,asv[j]? =io q->VR M N (· <s.nx) q x)->VR y N (· <s.nx) p x)
  (D:yZ (r.b5 (sig [] s.nx))=jp) (B: ∀j o,(oe (sig [] s.nx) A).get j=io o->CU o) (hp:putDst nt o (r.b5 (sig [] s.nx)) (aC s [] A n')=io s')
  (hg:bR nt all s.f o=io jp) (hpb:gY all pend o=jp) (hE:nR todo [J]=jp)
  (hag:l3 ty nt all s todo pend=io CA) (hCA:CA) (hag2:c8 ty nt all s' (ba pend o)=io Y) (hC2:Y)
  (h:GO P nt (.bS all (todo.filter fun x=>!Xv x.1 J) (ba pend o)::k) Q s'):GO P nt (.bS all todo pend::k) Q s:=
 ja I hrd hg hpb hE hag hCA (CQ ho ha hc u hlow G D B hp) hag2 hC2 h
end
section
variable {P:Program} {ty:Ty} {nt:NT} {s:AS}
theorem Kf(q0:bq P ty){o:Oper}{x y:Operand}{t t' u:TypeId}(ho:o.op= .call ⟨.builtin .copy, #[x,y], #[t,t']⟩){e eu:bC}(ht:ty t=io e)(hk:e.k= .aP (.slice u))(hu:ty u=io eu)
  {i n:Nat} {es news:List (List PV)} {py:PV} (hx:ev s.f x= .sl i 0 n eu.size) (hi:s.h.get i=io (.row eu.size es)) (D:es.length=n) (x0:ev s.f y=py) (hy:Src s.h eu.size py news) (e0: ∀e∈news,dB e=jp)
  (hn:news.length=n) (h0:0<n) {s':AS} (hp:putDst nt o (.iv (.v (.int .i64 news.length))) ⟨s.f,(i,io (.row eu.size news))::s.h,s.nx⟩=io s'):OT P nt o s (fun t=>t=s'):=by
 refine OT.value hp fun M N a w hf=>?_
 have a1:P.underlying t=io (.slice u):=by
  have:=(q0 t _ ht).2.1;rw[hk]at this;exact this.1
 have j0:=aO hf.2.1 x;rw[hx]at j0;have r0:=aO hf.2.1 y;rw[x0]at r0;obtain⟨A,ao,c,d1,B⟩:=hy.ok hf r0;have s0:=fF A;have I:es≠ []:=by intro h;rw[h]at D;simp at D;omega
 rcases hf.1.obj i _ hi with g0|⟨z0,G,CT,g1,g2,g3,g4,g5⟩
 .exact absurd g0 I
 obtain⟨b0,b1⟩: ∃b0,a.eval x= .slice (io ⟨N.aA i,0,is⟩) n b0:=by
  generalize a.eval x=z at j0;cases j0 with
  |sl _ _ _ _ b0 hu h1 h2 h3 h4=>exact⟨b0,by rw[YD]⟩
  |lx=>exact absurd h0 (ZC _)
 have Y: ∀v w',(Builtin.copy_ #[t,t'] o.type #[a.eval x,a.eval y]).run P w= .ok v w'->(execOp a.eval o).run P w= .ok (.value v) w':=by
  intro v w' h;simp only[execOp,ho,resolve];simp[invoke,builtin,h]
 have c0:Nat.min news.length n=news.length:=Y9 (aac hn);have w0:news≠ []:=by intro h;rw[h]at hn;simp at hn;omega
 obtain⟨b,k0,rfl,J⟩:=B w0;obtain⟨vs,v1,v2,v3⟩:=lu (s:=s) J;have i0:vs.length=news.length*eu.size:=by rw[v1,s0]
 have a0: ∀z∈vs,z.oneCell'=jp:=by
  intro z hz;obtain⟨j,hj⟩:=XU hz;have m0:j<news.flatten.length:=by rw[<-v1];exact(W4.1 hj).1
  obtain⟨k,e,i2,h1,h2,_⟩:=jS A j _ (W5 m0);have h3:=v3 j _ (W5 m0);have h4:=h3.one (gE (e0 e (XE h1)) i2 _ h2);rw[W2,hj]at h4;exact h4
 have n0:vs.length<=G.size:=by rw[i0,hn,<-D];exact g3
 have hl:=run_firstCells_some (P:=P) w eu.size news.length ⟨b,k0,is⟩ news.length c vs i0 v2;have o0:=run_storeCells_at P (N.aA i) 0 CT vs 0 G w g1 (by omega) a0;simp only[YC,Xo,Zm,Xq]at o0;have f0:=setRow_heap w (N.aA i) G (vs++G.toList.drop vs.length).toArray CT (0,0) g1;have d0: ∀b,b≠N.aA i->(w.setRow (N.aA i) (vs++G.toList.drop vs.length).toArray).heap[b]? =w.heap[b]? :=by
  intro b hb;simp only[World.setRow,XB];rw[be (fun e=>hb e.symm)]
 have p0:(vs++G.toList.drop vs.length).toArray.size=G.size:=by simp;omega
 obtain⟨q1,q2⟩:=hf.1.write hi (by cases es with|nil=>exact absurd Z I|cons=>rfl) (w.setRow (N.aA i) (vs++G.toList.drop vs.length).toArray) (.row eu.size news) Z Z Z (by simp) d0
  (.inr ⟨z0,_,CT,f0,by rw[p0];exact g2,by rw[p0,hn,<-D];exact g3,A,fun k e j p he hj=>by
   have e1:j<eu.size:=by rw[<-A _ e he];exact(W4.1 hj).1
   have t0:k<news.length:=(W4.1 he).1;have v0:k*eu.size+j<vs.length:=by
    rw[i0];have:(k+1)*eu.size<=news.length*eu.size:=Xt _ t0;rw[XT]at this;omega
   have h7:=v3 _ p (jR A _ e j p he hj);rw[WZ,XP,Xn v0,<-W2]
   exact h7⟩)
 refine⟨.int .i64 news.length,_,M,N,Y _ _ ?_,q1,⟨q2,hf.2⟩,.iv _ _ (.v _)⟩;rw[b1,d1];simp[Builtin.copy_,run_underlying a1,Builtin.lenOf,aQ (q0 u _ hu),c0,hl,o0,goInt]
end
end
end Go.Al
namespace Go.Al
open Go
section
section
variable {P:Program} {ty:Ty} {nt:NT} {s:AS} {α:Type} [Inhabited α]
theorem HV{l:List α}{f:α->List IV}{m sz:Nat}(hm:m<=l.length):jW (.bI sz m fun k=>f (l.getD k co)) (aT sz (l.take m) f):=
 .bI (by rw[XA];omega) fun k hk=>by simp[Z8,XK,hk]
theorem Cy{l:List α}{f:α->List IV}{m n sz:Nat}(hn:n=l.length-m):jW (.bI sz n fun k=>f (l.getD (m+k) co)) (aT sz (l.drop m) f):=
 .bI (by rw[X7];exact hn) fun k _=>by simp[Z8,XW]
theorem pH(y:bq P ty){o:Oper}{t u:TypeId}{x hi:Operand}(ho:o.op= .slice t x is (io hi) is){e eu:bC}(ht:ty t=io e)(hk:e.k= .aP (.slice u))(hu:ty u=io eu)
  {l:List α} {f:α->List IV} {m sz:Nat} {kc:IntKind} {A:Int} (B:ev s.f x= .iv (aT sz l f)) (hh:ev s.f hi= .iv (.v (.int kc A))) (j:A=(m:Int)) (hm:m<=l.length):
  ∀M N a w,Fits M N s nt a w-> ∃x,(execOp a.eval o).run P w= .ok (.value x) w∧VR M N (· <s.nx) (.iv (aT sz (l.take m) f)) x:=by
 intro M N a w hf;obtain⟨x,g1,g2⟩:=Kd y ho ht hk hu B hh j hm M N a w hf;exact⟨x,g1,ae.iv (HV hm) M N _ x g2⟩
end
section
variable {P:Program} {ty:Ty} {nt:NT} {Q:AQ} {k:List KI} {s:AS}
theorem JB(G:bq P ty){all:List Oper}{todo pend:List (Nat×Oper)}{j:Nat}{o:Oper}{c:Call}{g:FuncId}{asv args:List PV}{os:List AO}{R:PV->AH->Nat->Prop}{CA:Prop}(L:List Nat)(hc:Fn P g args os R)
  (hrd:dz todo=[(j,o)]) (ho:o.op= .call c) (ha:bP s.f c=io (g,asv)) (hn:cI L=jp) (hl:L.all (fun j=>Xx j s.nx)=jp) (Y:L.map s.h.get=os.map fun o=>io (o.b5 (sig L s.nx))) (u:asv=dh (sig L s.nx) args)
  (hg:bR nt all s.f o=io jp) (hpb:gY all pend o=jp) (hE:nR todo [j]=jp) (hag:l3 ty nt all s todo pend=io CA) (hCA:CA)
  (h: ∀r h' n',R r h' n'-> ∃s',putDst nt o (r.b5 (sig L s.nx)) (aC s L h' n')=io s'∧ ∃A,c8 ty nt all s' (ba pend o)=io A∧A∧GO P nt (.bS all (todo.filter fun x=>!Xv x.1 j) (ba pend o)::k) Q s'):
  GO P nt (.bS all todo pend::k) Q s:=by
 have D:(j,o)∈dz todo:=by rw[hrd];simp
 obtain⟨h3,I⟩:=XG.1 D;simp only[Ye,YS,XX]at I;have B: ∀y∈todo,aV y.2=jp-> ∀y∈pend,fm P nt all s y.2:=by
  intro y hy a0;unfold l3 at hag;split at hag
  .exact cC G hag hCA
  .rename_i h2;have:=XX.1 h2 y hy;rw[a0]at this;exact absurd Z this
 refine pD hE ⟨_,h3,I.1⟩ B fun j' o' J _ hu=>?_;simp only[Xd]at J;subst J;have:=hu o h3;subst this;refine⟨I.1,fun y hy _=>by simpa using I.2 y hy,hpb,hg,_,lM (S:=fun t=> ∃A,c8 ty nt all t (ba pend o)=io A∧A∧GO P nt (.bS all (todo.filter fun x=>!Xv x.1 j') (ba pend o)::k) Q t) ho ha hc (eV hn) (fun j J=>WY (XO.1 hl j J)) Y u h,fun t ⟨A,h5,h6,h7⟩=>⟨cC G h5 h6,h7⟩⟩
end
end
end Go.Al
