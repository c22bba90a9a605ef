/-
  What the proofs of the claims need: part 2 of 5.
-/
import Derived.Test.YtlmhfgbkchnfbaaGreatDoorPart1
import Derived.Deep.Slices
import Derived.ReadAgain
import Derived.ChangeStays
import Derived.ChangeSame
import Derived.WideShapes
import Derived.RowKit
import Derived.Lib.AppendStr
import Derived.Laws.IdiomStrings
import Derived.Laws.BytesArg
import Derived.Laws.MakeOwn
import Derived.Laws.Slices
import Derived.Lib.SliceRun
import Derived.Shelf.GgSortFunc.RowK
import Derived.StillTail
import Derived.RangeFuncRecord
import Derived.RangeFuncCalls
import Derived.TacticsIn
import Derived.Lib.SlBytesConst
open Array renaming append_assoc→Zs,empty_append→aag,eq_empty_of_size_eq_zero→Yb,extract_size→aah,getD_eq_getD_getElem?→WM,getElem?_append_left→Xt,getElem?_append_right→YJ,getElem?_eq_getElem→Xx,getElem?_eq_none→Zc,getElem?_eq_some_iff→X4,getElem?_map→Zr,getElem?_modify→Xp,getElem?_push→Y4,getElem?_setIfInBounds→Xr,getElem?_toList→Xo,length_toList→YW,mem_filter→ZE,range→ZP,size_append→Yr
open Bool renaming and_eq_true→XE,false_eq_true→YE,not_eq_true'→X0,not_true→Zd,or_eq_false_iff→YG,or_eq_true→YY
open Classical renaming choose→Zj,choose_spec→YN
open Int renaming toNat_natCast→WV
open List.Nodup renaming length_le_of_subset→Yc
open List.Pairwise renaming filter→Y3
open List renaming all_eq_true→XC,any_eq_false→XL,any_eq_true→Yf,append_assoc→W6,append_nil→XA,cons_append→Xe,eq_nil_of_length_eq_zero→Xz,ext_getElem→Zk,ext_getElem?→Y2,filter_congr→YS,filter_cons→YH,filter_eq_self→Zn,getD→ZU,getD_cons_succ→Yj,getD_cons_zero→YL,getD_eq_getElem?_getD→WQ,getElem?_append_left→Xb,getElem?_append_right→Xc,getElem?_drop→XK,getElem?_eq_getElem→WU,getElem?_eq_some_iff→WT,getElem?_map→WX,getElem?_of_mem→XH,getElem?_range→Zm,getElem?_set→YD,getElem?_take→Xy,getElem?_toArray→XD,getElem_map→YB,getElem_mem→XF,length_append→WO,length_cons→Xn,length_drop→XT,length_eq_zero_iff→Yl,length_map→Xk,length_nil→X8,length_pos_iff→X5,length_singleton→Xl,length_take→Xv,map_append→W4,map_congr_left→X6,map_cons→WW,map_map→XX,mem_append→Xf,mem_append_left→XJ,mem_append_right→Yo,mem_cons→Xa,mem_cons_of_mem→W5,mem_cons_self→W8,mem_filter→Xu,mem_map→Xw,mem_of_getElem?→Xs,mem_range→Yn,mem_singleton→W1,nil_append→Xg,nodup_append→Yt,nodup_cons→XB,nodup_nil→XM,pairwise_cons→XZ,pairwise_iff_getElem→X9,perm_ext_iff_of_nodup→Yw,range→Xq,replicate→Zh,size_toArray→Y1,take_append_drop→Zf,take_of_length_le→W9,take_succ_eq_append_getElem→Zx,take_zero→Zz
open Nat renaming add_assoc→X3,add_mul→XG,add_zero→Yp,beq→Xj,beq_refl→aai,ble→YR,ble_eq_true_of_le→XN,blt→Xm,eq_of_beq_eq_true→Xh,le_add_right→Zl,le_of_ble_eq_true→WL,le_of_eq→ZY,le_of_not_lt→Yz,le_refl→WY,le_succ→Yh,le_trans→XR,lt_irrefl→ZH,lt_of_le_of_lt→aaf,lt_of_lt_of_le→Yu,lt_or_ge→XO,lt_succ_of_lt→Ys,lt_succ_self→YA,lt_trichotomy→YZ,mod_eq_of_lt→Y6,mul_comm→Zy,mul_le_mul_right→Xi,mul_one→Zg,ne_of_lt→ZX,sub_mul→Z7,sub_zero→Zw,succ_mul→Yy,zero_add→Xd,zero_le→W2,zero_mul→Yq
open Option renaming getD_some→XV,map_eq_some_iff→WZ,map_none→YU,map_some→XW
open Option.some renaming inj→XP,injEq→WR
open Prod.mk renaming injEq→W3
set_option maxRecDepth 100000
open Bool renaming false→kw,true→jp
open Decidable renaming decide→lc
open Inhabited renaming default→co
open Option renaming none→is,some→io
namespace Go.Al
section
def BG:Op->Bool
  | .binOp .add _ _ _ _=>jp
  | .binOp .sub _ _ _ _=>jp
  | .binOp .mul _ _ _ _=>jp
  | .binOp .rem _ _ _ _=>jp
  | .binOp .quo _ _ _ _=>jp
  | .indexAddr ..=>jp
  | .index ..=>jp
  | .slice ..=>jp
  |_=>kw
theorem zu{ty:Ty}{s:AS}{o:Op}{p:PV}{C:Prop}(h:jf ty s o=io (p,C))(ho:BG o=kw):C:=by
  cases o with
  | binOp op t x y t'=>
    simp only[jf]at h;split at h
    · unfold FH at h
      split at h
      · split at h<;>first|(cases h;done)|(simp only[WR,W3]at h;rw[<-h.2];trivial)
      · split at h<;>first|(cases h;done)|(simp only[WR,W3]at h;rw[<-h.2];trivial)
      · cases h
    unfold Ao at h;split at h
    · split at h
      · unfold DJ at h
        split at h
        · unfold tC at h
          split at h<;>first
            |(cases h;done)
            |(split at h<;>first|(cases h;done)|(simp only[WR,W3]at h;rw[<-h.2];trivial))
        · unfold tC at h
          split at h<;>first
            |(cases h;done)
            |(split at h<;>first|(cases h;done)|(simp only[WR,W3]at h;rw[<-h.2];trivial))
        unfold E6 at h;split at h<;>first|(cases h;done)|(simp[BG]at ho;done)|(simp only[WR,W3]at h;rw[<-h.2];trivial)
      · unfold tC at h
        split at h<;>first
          |(cases h;done)
          |(split at h<;>first|(cases h;done)|(simp only[WR,W3]at h;rw[<-h.2];trivial))
    · unfold El at h
      split at h<;>first|(cases h;done)|(simp[BG]at ho;done)|(simp only[WR,W3]at h;rw[<-h.2];trivial)
    · split at h
      all_goals first
        |(cases h;done)
        | (unfold oY at h
           split at h
           · split at h<;>first|(cases h;done)|(simp only[WR,W3]at h;rw[<-h.2];trivial)
           · cases h)
    · split at h
      all_goals first
        |(cases h;done)
        | (unfold oY at h
           split at h
           · split at h<;>first|(cases h;done)|(simp only[WR,W3]at h;rw[<-h.2];trivial)
           · cases h)
    all_goals first
      |(cases h;done)
      | (unfold vN at h
         split at h
         · split at h<;>first|(cases h;done)|(simp only[WR,W3]at h;rw[<-h.2];trivial)
         · cases h)
  |indexAddr t x i=>simp[BG]at ho
  |index t x i=>simp[BG]at ho
  |slice t x lo hi mx=>simp[BG]at ho
  | call c=>
    obtain⟨callee,args,j⟩:=c;cases callee with
    | builtin b=>
      cases b with
      | len=>
        simp only[jf]at h;split at h
        · split at h
          · split at h<;>first|(cases h;done)|(simp only[xm,WR,W3]at h;rw[<-h.2];trivial)
          · split at h<;>first|(cases h;done)|(simp only[xm,WR,W3]at h;rw[<-h.2];trivial)
          · split at h
            · simp only[WR,W3]at h;rw[<-h.2];trivial
            · split at h<;>first|(cases h;done)|(simp only[WR,W3]at h;rw[<-h.2];trivial)
            · cases h
          · cases h
        · cases h
      | max=>
        simp only[jf]at h;split at h
        · split at h<;>first|(cases h;done)|(simp only[WR,W3]at h;rw[<-h.2];trivial)
        · cases h
      | min=>
        simp only[jf]at h;split at h
        · split at h<;>first|(cases h;done)|(simp only[WR,W3]at h;rw[<-h.2];trivial)
        · cases h
      |_=>simp[jf]at h
    |_=>simp[jf]at h
  | unOp op t x=>
    cases op with
    |not=>simp only[jf]at h;split at h<;>first|(cases h;done)|(simp only[WR,W3]at h;rw[<-h.2];trivial)
    |_=>simp[jf]at h
  | lookup t x i ok=>
    have key: ∀{kc:KC} {V:Type} {e:V->IV} {z:V} {u:Value} {m:List (kc.K×V)},vU ty t ok kc e z u m (ev s.f i)=io (p,C)->C:=by
      intro kc V e z u m h;unfold vU at h;split at h
      · split at h
        · split at h
          · split at h<;>(simp only[WR,W3]at h;rw[<-h.2];trivial)
          · cases h
        · cases h
      · cases h
    simp only[jf]at h;split at h
    · exact key h
    · split at h
      · exact key h
      · cases h
    · cases h
  | _=>
    simp only[jf]at h
    repeat' (first|(cases h;done)|(simp only[force_eq,WR,W3]at h;rw[<-h.2];trivial)|split at h)
inductive KF where
  |read (i:Nat) (o:Oper) (p:PV) (C:Prop)
  |skip (i:Nat) (o:Oper)
  |split (d:Nat) (t:Bool)
def mb(ty:Ty)(nt:NT)(s:AS)(all:List Oper)(todo pend:List (Nat×Oper)):List (Nat×Oper)->Option KF
  | []=>is
  | (i,o)::r=>match todo.any (fun y=>waits o y.1)||aS o with
    |true=>mb ty nt s all todo pend r
    | false=>match bQ nt all s.f o with
      | some jp=>match jf ty s o.op with
        | some (p,C)=>match xx all pend o with
          |true=>io (.read i o p C)
          |false=>mb ty nt s all todo pend r
        |none=>mb ty nt s all todo pend r
      | some kw=>match xx all pend o with
        |true=>io (.skip i o)
        |false=>mb ty nt s all todo pend r
      | none=>match o.guard with
        | some (g,_)=>match guardOf all s.f g with
          |some (d,.iv (.v (.bool t)))=>io (.split d t)
          |_=>mb ty nt s all todo pend r
        |none=>mb ty nt s all todo pend r
def c6(ty:Ty)(nt:NT)(all:List Oper)(s:AS):List (Nat×Oper)->Option Prop
  | []=>io True
  | (_,o)::r=>match c6 ty nt all s r with
    |none=>is
    | some R=>match bQ nt all s.f o with
      | some jp=>match jf ty s o.op with
        | some (p,C)=>match o.dst with
          |some d=>bif Xm d nt then io ((ae p (s.f.get d)∧C)∧R) else is
          |none=>io (C∧R)
        |none=>is
      | some kw=>match o.dst with
        |some d=>io (s.f.get d= .iv (.v (.tuple #[]))∧R)
        |none=>io R
      |none=>is
def dw(todo:List (Nat×Oper)):List (Nat×Oper):=todo.filter fun x=>!(aS x.2||todo.any fun y=>waits x.2 y.1)
def lX(ty:Ty)(nt:NT)(all:List Oper)(s:AS)(todo pend:List (Nat×Oper)):Option Prop:=
  match todo.any fun y=>aS y.2 with
  |true=>c6 ty nt all s pend
  |false=>io True
def oZ(all:List Oper)(i:Nat)(o:Oper):Nat->List Oper->Bool
  |_,[]=>jp
  |k,q::r=>(Xj k i||((waits q i||!looks all q o)&&(match o.dst,q.dst with|some d,io e=>!Xj d e|_,_=>jp)))&&oZ all i o (k+1) r
def kW(ty:Ty)(nt:NT)(all:List Oper):Nat->List Oper->Bool
  |_,[]=>jp
  | i,o::r=>(match o.op with
    | .alloc t=>match o.guard,o.dst,ty t with
      |none,io d,io _=>Xm d nt&&((o.after.toList.all fun e=>!Region.binds .any e)&&oZ all i o 0 all)
      |_,_,_=>kw
    |_=>jp)&&kW ty nt all (i+1) r
def BD(todo:List (Nat×Oper)):List (Nat×Oper)->Option (Nat×Oper)
  | []=>is
  | (i,o)::r=>match aS o,Av todo i with
    |true,jp=>io (i,o)
    |_,_=>BD todo r
inductive Stop where
  |fin (e:Exit) (s:AS)
  |cond (c:Operand) (t:Bool) (x y:Code) (k:List KI) (s:AS)
  |guard (all rest:List Oper) (o:Oper) (d:Nat) (want t:Bool) (k:List KI) (s:AS)
  |op (all rest:List Oper) (o:Oper) (k:List KI) (s:AS)
  |loop (b:Code) (k:List KI) (s:AS)
  |draw (id:Nat) (ops:Array Oper) (k:List KI) (s:AS)
  |again (R:AS->Prop) (s:AS)
  |Ry (all rest:List Oper) (o:Oper) (d:Nat) (want t:Bool) (k:List KI) (s:AS)
  |JV (all:List Oper) (todo pend:List (Nat×Oper)) (d:Nat) (t:Bool) (k:List KI) (s:AS)
  |JY (all:List Oper) (todo pend:List (Nat×Oper)) (k:List KI) (s:AS)
  |bad (why:Nat) (k:List KI) (s:AS)
  |out (k:List KI) (s:AS)
def ox(id:Nat):List KI->Option (List KI)
  | []=>is
  | .aA j::k=>bif Xj id j then io k else ox id k
  | .code _::k=>ox id k
  | .ops _ _::k=>ox id k
  | .lp _::k=>ox id k
  | .uk _ _::k=>ox id k
  | .bR _ _ _::k=>ox id k
  | .FO _ _::k=>ox id k
  | .Hj::k=>ox id k
  | .NL ..::_=>is
  | .NN ..::_=>is
def gI:List KI->Option (List KI)
  | []=>is
  | .aA _::k=>gI k
  | .code _::k=>gI k
  | .ops _ _::k=>gI k
  | .lp _::k=>gI k
  | .uk _ _::k=>gI k
  | .bR _ _ _::k=>gI k
  | .FO _ _::k=>gI k
  | .Hj::k=>gI k
  |k=>io k
structure WK where
  nt:Nat
  res:List ResultVar
  body:Code
abbrev VG:=Nat->Option WK
def KD(P:Program)(j:VG):Prop:= ∀g e,j g=io e-> ∃fn,P.funcs[g]? =io fn∧fn.body=io e.body∧(fn.name== "runtime.NumGoroutine")=kw∧fn.ntmps=e.nt∧fn.results.toList=e.res
def CN{α:Type _}:Nat->List PV->(AF->α)->α
  |_,[],k=>k []
  |n,p::r,k=>wi p fun j=>CN (n+1) r fun f=>k ((n,j)::f)
theorem wT{α:Type _}: ∀(l:List PV) (n:Nat) (k:AF->α),CN n l k=k (mN n l)
  | [],_,_=>rfl
  |p::r,n,k=>by simp only[CN,dG,wT r,mN]
def callee(j:VG)(s:AS):Op->Option (WK×List PV)
  | .call c=>match bN s.f c with
    | some (g,asv)=>match j g with
      | some e=>match YR asv.length e.nt with
        |true=>io (e,asv)
        |false=>is
      |none=>is
    |none=>is
  |_=>is
structure Way where
  fns:VG
  un:Nat
  cl:Bool
def bG(ty:Ty)(y:Way):Nat->NT->List KI->AS->Prop->Option (Prop×NT×Stop)
  |0,nt,k,s,C=>io (C,nt,.out k s)
  |_+1,nt,[],s,C=>io (C,nt,.fin .normal s)
  |n+1,nt,.aA _::k,s,C=>bG ty y n nt k s C
  |_+1,nt,.lp R::_,s,C=>io (C,nt,.again R s)
  |n+1,nt,.Hj::k,s,C=>bG ty y n nt k s C
  |n+1,nt,.code (.scope b)::k,s,C=>bG ty y n nt (.code b:: .Hj::k) s C
  | n+1,nt,.FO b m::k,s,C=>match m with
    |0=>io (C,nt,.bad 2 k s)
    |m+1=>bG ty y n nt (.code b:: .FO b m::k) s C
  | n+1,_,.NL nt f res o all rest::k,s,C=>match res s with
    |none=>io (C,nt,.bad 3 k s)
    | some r=>match putDst nt o r ⟨f,s.h,s.nx⟩ with
      |none=>io (C,nt,.bad 4 k s)
      |some s'=>bG ty y n nt (.ops all rest::k) s' C
  | n+1,_,.NN nt f res j o all todo pend::k,s,C=>match res s with
    |none=>io (C,nt,.bad 5 k s)
    | some r=>match putDst nt o r ⟨f,s.h,s.nx⟩ with
      |none=>io (C,nt,.bad 6 k s)
      | some s'=>match c6 ty nt all s' (a7 pend o) with
        |none=>io (C,nt,.bad 7 k s)
        |some C''=>bG ty y n nt (.bR all (todo.filter fun x=>!Xj x.1 j) (a7 pend o)::k) s' (C∧C'')
  |n+1,nt,.code .skip::k,s,C=>bG ty y n nt k s C
  |n+1,nt,.code (.label _)::k,s,C=>bG ty y n nt k s C
  |n+1,nt,.code (.seq a b)::k,s,C=>bG ty y n nt (.code a:: .code b::k) s C
  |n+1,nt,.code (.block id b)::k,s,C=>bG ty y n nt (.code b:: .aA id::k) s C
  | n+1,nt,.code (.region id ops d)::k,s,C=>match d with
    |false=>bG ty y n nt (.ops ops.toList ops.toList::k) s C
    | true=>match vM ops.toList,ja 0 ops.toList,kW ty nt ops.toList 0 ops.toList with
      |true,jp,jp=>bG ty y n nt (.bR ops.toList (jD 0 ops.toList) []::k) s C
      |_,_,_=>io (C,nt,.draw id ops k s)
  |n+1,nt,.bR _ [] _::k,s,C=>bG ty y n nt k s C
  | n+1,nt,.bR all (x::todo) pend::k,s,C=>match mb ty nt s all (x::todo) pend (x::todo) with
    | some (.read i o p C')=>match putDst nt o p s with
      |none=>io (C,nt,.bad 8 k s)
      | some s'=>match BG o.op with
        |true=>bG ty y n nt (.bR all ((x::todo).filter fun x=>!Xj x.1 i) ((i,o)::pend)::k) s' (C∧C')
        |false=>bG ty y n nt (.bR all ((x::todo).filter fun x=>!Xj x.1 i) ((i,o)::pend)::k) s' C
    |some (.skip i o)=>bG ty y n nt (.bR all ((x::todo).filter fun x=>!Xj x.1 i) ((i,o)::pend)::k) (ig o s) C
    | some (.split d _)=>match s.f.get d with
      | .iv (.v (.bool t'))=>match y.cl with
        |false=>io (C,nt,.JV all (x::todo) pend d t' k s)
        | true=>match t' with
          |true=>bG ty y n nt (.bR all (x::todo) pend::k) (setBool s (.tmp d) jp) C
          |false=>bG ty y n nt (.bR all (x::todo) pend::k) (setBool s (.tmp d) kw) C
      |_=>io (C,nt,.bad 9 k s)
    | none=>match dw (x::todo) with
      | [(j,o)]=>match bQ nt all s.f o,gX all pend o,nI (x::todo) [j] with
        | some jp,jp,jp=>match lX ty nt all s (x::todo) pend with
          |none=>io (C,nt,.bad 101 k s)
          | some CA=>match jf ty s o.op with
            | some (p,C')=>match putDst nt o p s with
              |none=>io (C,nt,.bad 102 k s)
              | some s'=>match c6 ty nt all s' (a7 pend o) with
                |none=>io (C,nt,.bad 103 k s)
                |some C''=>bG ty y n nt (.bR all ((x::todo).filter fun x=>!Xj x.1 j) (a7 pend o)::k) s' (C∧(CA∧C'∧C''))
            | none=>match IZ ty s o.op with
              | none=>match callee y.fns s o.op with
                | none=>match Vx ty s o.op with
                  |none=>io (C,nt,.JY all (x::todo) pend k s)
                  | some (C',p,s1)=>match putDst nt o p s1 with
                    |none=>io (C,nt,.bad 109 k s)
                    | some s'=>match c6 ty nt all s' (a7 pend o) with
                      |none=>io (C,nt,.bad 110 k s)
                      |some C''=>bG ty y n nt (.bR all ((x::todo).filter fun x=>!Xj x.1 j) (a7 pend o)::k) s' (C∧(CA∧C'∧C''))
                |some (e,asv)=>CN 0 asv fun f=>bG ty y n e.nt (.code e.body:: .NN nt s.f (je ty · e.res) j o all (x::todo) pend::k) ⟨f,s.h,s.nx⟩ (C∧CA)
              | some (p,s1)=>match putDst nt o p s1 with
                |none=>io (C,nt,.bad 104 k s)
                | some s'=>match c6 ty nt all s' (a7 pend o) with
                  |none=>io (C,nt,.bad 105 k s)
                  |some C''=>bG ty y n nt (.bR all ((x::todo).filter fun x=>!Xj x.1 j) (a7 pend o)::k) s' (C∧(CA∧C''))
        |_,_,_=>io (C,nt,.JY all (x::todo) pend k s)
      | []=>match BD (x::todo) (x::todo) with
        |none=>io (C,nt,.JY all (x::todo) pend k s)
        | some (i,o)=>match o.op,o.dst with
          | .alloc t,io d=>match ty t with
            |none=>io (C,nt,.bad 106 k s)
            | some e=>force (b6 e.zero) fun A=>match c6 ty nt all s pend,c6 ty nt all (kX s d A) pend with
              |some C1,io C2=>bG ty y n nt (.bR all ((x::todo).filter fun x=>!Xj x.1 i) pend::k) (kX s d A) (C∧(C1∧C2))
              |_,_=>io (C,nt,.bad 107 k s)
          |_,_=>io (C,nt,.bad 108 k s)
      |_=>io (C,nt,.JY all (x::todo) pend k s)
  | n+1,nt,.code (.cond c u v)::k,s,C=>match ev s.f c with
    | .iv (.v (.bool t))=>match y.cl with
      |false=>io (C,nt,.cond c t u v k s)
      | true=>match t with
        |true=>bG ty y n nt (.code u::k) s C
        |false=>bG ty y n nt (.code v::k) s C
    | .kb jp=>bG ty y n nt (.code u::k) s C
    | .kb kw=>bG ty y n nt (.code v::k) s C
    |_=>io (C,nt,.bad 14 k s)
  | n+1,nt,.code .ret::k,s,C=>match gI k with
    |some k'=>bG ty y n nt k' s C
    |none=>io (C,nt,.fin .ret s)
  | n+1,nt,.code (.exit id)::k,s,C=>match ox id k with
    |some k'=>bG ty y n nt k' s C
    |none=>io (C,nt,.bad 15 k s)
  | n+1,nt,.code (.loop b)::k,s,C=>match y.un with
    |0=>io (C,nt,.loop b k s)
    |u+1=>bG ty y n nt (.code b:: .FO b u::k) s C
  |_+1,nt,.code _::k,s,C=>io (C,nt,.bad 16 k s)
  |_+1,nt,.uk _ _::k,s,C=>io (C,nt,.bad 17 k s)
  |n+1,nt,.ops _ []::k,s,C=>bG ty y n nt k s C
  | n+1,nt,.ops all (o::r)::k,s,C=>match o.guard with
    | some (j,want)=>match guardOf all s.f j with
      | some (d,.iv (.v (.bool t)))=>bif Xm d nt then(match y.cl with
        |false=>io (C,nt,.guard all r o d want t k s)
        | true=>match t with
          |true=>bG ty y n nt (.ops all (o::r)::k) (setBool s (.tmp d) jp) C
          |false=>bG ty y n nt (.ops all (o::r)::k) (setBool s (.tmp d) kw) C) else io (C,nt,.bad 18 k s)
      | some (d,.kb t)=>bif Xm d nt then(match t,want,o with
        |true,jp,⟨a1,a2,a3,a4,a5,_⟩=>bG ty y n nt (.ops all (⟨a1,a2,a3,a4,a5,is⟩::r)::k) s C
        |false,kw,⟨a1,a2,a3,a4,a5,_⟩=>bG ty y n nt (.ops all (⟨a1,a2,a3,a4,a5,is⟩::r)::k) s C
        |_,_,o=>bG ty y n nt (.ops all r::k) (ig o s) C) else io (C,nt,.bad 19 k s)
      |some (_,.iv (.v (.tuple _)))=>bG ty y n nt (.ops all r::k) (ig o s) C
      |_=>io (C,nt,.bad 20 k s)
    | none=>match jf ty s o.op with
      | none=>match IZ ty s o.op with
        | none=>match callee y.fns s o.op with
          | none=>match Vx ty s o.op with
            |none=>io (C,nt,.op all r o k s)
            | some (C',p,s1)=>match putDst nt o p s1 with
              |none=>io (C,nt,.bad 111 k s)
              |some s'=>bG ty y n nt (.ops all r::k) s' (C∧C')
          |some (e,asv)=>CN 0 asv fun f=>bG ty y n e.nt (.code e.body:: .NL nt s.f (je ty · e.res) o all r::k) ⟨f,s.h,s.nx⟩ C
        | some (p,s1)=>match putDst nt o p s1 with
          |none=>io (C,nt,.bad 21 k s)
          |some s'=>bG ty y n nt (.ops all r::k) s' C
      | some (p,C')=>match putDst nt o p s with
        |none=>io (C,nt,.bad 22 k s)
        | some s'=>match BG o.op with
          |true=>bG ty y n nt (.ops all r::k) s' (C∧C')
          |false=>bG ty y n nt (.ops all r::k) s' C
def fx(P:Program)(nt:NT)(Q:AQ):Stop->Prop
  | .fin e s=>Q e s
  | .cond c t x y k s=>(t=jp->GO P nt (.code x::k) Q (setBool s c jp))∧(t=kw->GO P nt (.code y::k) Q (setBool s c kw))
  | .guard all r o d want t k s=>(t=want->GO P nt (.ops all ({o with guard:=is}::r)::k) Q (setBool s (.tmp d) want))∧(t=!want->GO P nt (.ops all r::k) Q (ig o (setBool s (.tmp d) (!want))))
  | .op all r o k s=>GO P nt (.ops all (o::r)::k) Q s
  | .loop b k s=>GO P nt (.code (.loop b)::k) Q s
  | .draw id ops k s=>GO P nt (.code (.region id ops jp)::k) Q s
  | .again R s=>R s
  | .Ry all r o d want t k s=>(t=want->GO P nt (.uk all ({o with guard:=is}::r)::k) Q (setBool s (.tmp d) want))∧(t=!want->GO P nt (.uk all r::k) Q (ig o (setBool s (.tmp d) (!want))))
  | .JV all todo pend d t k s=>(t=jp->GO P nt (.bR all todo pend::k) Q (setBool s (.tmp d) jp))∧(t=kw->GO P nt (.bR all todo pend::k) Q (setBool s (.tmp d) kw))
  | .JY all todo pend k s=>GO P nt (.bR all todo pend::k) Q s
  | .bad _ _ _=>False
  | .out k s=>GO P nt k Q s
section
variable {P:Program} {ty:Ty} {nt:NT} {Q:AQ}
theorem nv: ∀(k:List KI) {nt:NT} {s:AS},gI k=is->Q .ret s->kp P nt k Q .ret s
  | [],_,_,_,h=>h
  | .code _::k,_,_,g,h=>nv k g h
  | .aA _::k,_,_,g,h=>nv k g h
  | .ops _ _::k,_,_,g,h=>nv k g h
  | .lp _::k,_,_,g,h=>nv k g h
  | .uk _ _::k,_,_,g,h=>nv k g h
  | .bR _ _ _::k,_,_,g,h=>nv k g h
  | .FO _ _::k,_,_,g,h=>nv k g h
  | .Hj::k,_,_,g,h=>nv k g h
  | .NL ..::_,_,_,g,_=>by simp[gI]at g
  | .NN ..::_,_,_,g,_=>by simp[gI]at g
theorem dP: ∀(k:List KI) {nt:NT} {s:AS} {j:List KI},gI k=io j->GO P nt j Q s->kp P nt k Q .ret s
  | [],_,_,_,g,_=>by simp[gI]at g
  | .code _::k,_,_,_,g,h=>dP k g h
  | .aA _::k,_,_,_,g,h=>dP k g h
  | .ops _ _::k,_,_,_,g,h=>dP k g h
  | .lp _::k,_,_,_,g,h=>dP k g h
  | .uk _ _::k,_,_,_,g,h=>dP k g h
  | .bR _ _ _::k,_,_,_,g,h=>dP k g h
  | .FO _ _::k,_,_,_,g,h=>dP k g h
  | .Hj::k,_,_,_,g,h=>dP k g h
  | .NL ..::_,_,_,_,g,h=>by
    simp only[gI,WR]at g;subst g;exact⟨.inr Z,h.2⟩
  | .NN ..::_,_,_,_,g,h=>by
    simp only[gI,WR]at g;subst g;exact⟨.inr Z,h.2⟩
theorem dh{id:Nat}: ∀(k:List KI) {nt:NT} {u:List KI} {s:AS},ox id k=io u->GO P nt u Q s->kp P nt k Q (.exit id) s
  | [],_,_,_,h,_=>by cases h
  | .code _::k,_,_,_,h,g=>dh k h g
  | .ops _ _::k,_,_,_,h,g=>dh k h g
  | .lp _::k,_,_,_,h,g=>dh k h g
  | .uk _ _::k,_,_,_,h,g=>dh k h g
  | .bR _ _ _::k,_,_,_,h,g=>dh k h g
  | .FO _ _::k,_,_,_,h,g=>dh k h g
  | .Hj::k,_,_,_,h,g=>dh k h g
  | .NL ..::_,_,_,_,h,_=>by cases h
  | .NN ..::_,_,_,_,h,_=>by cases h
  | .aA j::k,nt,u,s,h,g=>by
    simp only[ox]at h;show if id=j then _ else _;cases hb:Xj id j with
    | true=>
      simp only[hb,cond_true,WR]at h;subst h;rw[am (Xh hb)];exact g
    | false=>
      simp only[hb,cond_false]at h;rw[be (fun e=>by subst e;simp at hb)];exact dh k h g
theorem vt(j:bp P ty){s s':AS}{o:Oper}{p:PV}{C:Prop}(h:jf ty s o.op=io (p,C))(hC:C)(hp:putDst nt o p s=io s'):OT P nt o s (fun t=>t=s'):=by
  intro M N a w hf K Z hk;obtain⟨x,y,u⟩:=sQ j hf h hC;unfold Oper.wp;rw[y];simp only[Oper.upon];cases hd:o.dst with
  | none=>
    have:=dL hp hd;subst this;exact hk M N s' _ w (.refl _ _ _ _ _) hf rfl
  | some d=>
    obtain⟨h1,rfl⟩:=dK hp hd;exact hk M N {s with f:=(d,p)::s.f} _ w (.refl _ _ _ _ _) (hf.put d p x h1 u) rfl
theorem pn(j:bp P ty){s s':AS}{o:Oper}{p:PV}{C:Prop}(h:jf ty s o.op=io (p,C))(hC:C)(hp:putDst nt o p s=io s'):
    (s'.h=s.h∧s'.nx=s.nx)∧ ∀M N a w,Fits M N s nt a w-> ∃x,(execOp a.eval o).run P w= .ok (.value x) w∧Fits M N s' nt (a.put o.dst x) w:=by
  cases hd:o.dst with
  | none=>
    have:=dL hp hd;subst this;exact⟨⟨rfl,rfl⟩,fun M N a w hf=>let ⟨x,hx,_⟩:=sQ j hf h hC;⟨x,hx,hf⟩⟩
  | some d=>
    obtain⟨h1,rfl⟩:=dK hp hd;exact⟨⟨rfl,rfl⟩,fun M N a w hf=>let ⟨x,hx,hv⟩:=sQ j hf h hC;⟨x,hx,hf.put d p x h1 hv⟩⟩
theorem vC{s:AS}{all:List Oper}{todo pend:List (Nat×Oper)}: ∀{l:List (Nat×Oper)} {i:Nat} {o:Oper},(∀x∈l,x∈todo)->
    ((∀{p C},mb ty nt s all todo pend l=io (.read i o p C)->(i,o)∈todo∧aS o=kw∧(∀x∈todo,waits o x.1=kw)∧bQ nt all s.f o=io jp∧xx all pend o=jp∧jf ty s o.op=io (p,C))∧
     (mb ty nt s all todo pend l=io (.skip i o)->(i,o)∈todo∧aS o=kw∧(∀x∈todo,waits o x.1=kw)∧bQ nt all s.f o=io kw∧xx all pend o=jp))
  | [],i,o,_=>⟨fun h=>by simp[mb]at h,fun h=>by simp[mb]at h⟩
  | (j,q)::r,i,o,hl=>by
    have u:=vC (s:=s) (all:=all) (todo:=todo) (pend:=pend) (l:=r) (i:=i) (o:=o) (fun x I=>hl x (W5 _ I));have A:(todo.any (fun y=>waits q y.1)||aS q)=kw->aS q=kw∧ ∀x∈todo,waits q x.1=kw:=fun h=>by
      simp only[YG,XL]at h;exact⟨h.2,fun x I=>by simpa using h.1 x I⟩
    constructor
    · intro p C h
      simp only[mb]at h;split at h
      · exact u.1 h
      · rename_i B
        split at h
        · rename_i G
          split at h
          · rename_i hr
            split at h
            · rename_i D
              simp only[WR,KF.read.injEq]at h;obtain⟨rfl,rfl,rfl,rfl⟩:=h;exact⟨hl _ (by simp),(A B).1,(A B).2,G,D,hr⟩
            · exact u.1 h
          · exact u.1 h
        · split at h
          · cases h
          · exact u.1 h
        · split at h
          · split at h
            · cases h
            · exact u.1 h
          · exact u.1 h
    · intro h
      simp only[mb]at h;split at h
      · exact u.2 h
      · rename_i B
        split at h
        · split at h
          · split at h
            · cases h
            · exact u.2 h
          · exact u.2 h
        · rename_i G
          split at h
          · rename_i D
            simp only[WR,KF.skip.injEq]at h;obtain⟨rfl,rfl⟩:=h;exact⟨hl _ (by simp),(A B).1,(A B).2,G,D⟩
          · exact u.2 h
        · split at h
          · split at h
            · cases h
            · exact u.2 h
          · exact u.2 h
theorem wY{s s1:AS}{o:Oper}{d:Nat}{p:PV}(hd:o.dst=io d)(hs:s1={s with f:=(d,p)::s.f})(hp:ae p (s.f.get d)){M:Mem}{N:Nm}{a:Act}{w:World}(hf:Fits M N s1 nt a w):Fits M N s nt a w:=by
  subst hs;refine⟨hf.1,fun k=>?_,hf.2.2⟩;have:=hf.2.1 k;rw[AF.ax]at this;split at this
  · rename_i hk;subst hk;exact hp _ _ _ _ this
  · exact this
theorem cy(j:bp P ty){all:List Oper}{s:AS}: ∀{l:List (Nat×Oper)} {C:Prop},c6 ty nt all s l=io C->C-> ∀x∈l,fb P nt all s x.2
  | [],_,_,_,x,hx=>(nomatch hx)
  | (i,o)::r,C,h,hC,x,hx=>by
    simp only[c6]at h;split at h
    · cases h
    · rename_i R hR
      have key:R->(∀M N b w,Fits M N s nt b w-> ∃v,YieldsAt P all.toArray w o v b∧Fits M N s nt (b.put o.dst v) w)->fb P nt all s x.2:=by
        intro hr hh;rcases Xa.1 hx with rfl|hx
        · exact hh
        · exact cy j hR hr x hx
      split at h
      · rename_i u
        split at h
        · rename_i p I hr
          split at h
          · rename_i d hd
            cases hb:Xm d nt with
            |false=>simp[hb]at h
            | true=>
              simp only[hb,cond_true,WR]at h;subst h;obtain⟨⟨h1,D⟩,G⟩:=hC;refine key G fun M N b w hf=>?_;obtain⟨v,B,y⟩:=sQ j hf hr D;refine⟨v,.inl ⟨fZ u hf,.inl B⟩,?_⟩;rw[hd];exact wY hd Z h1 (hf.put d p v (WL hb) y)
          · rename_i hd
            simp only[WR]at h;subst h;refine key hC.2 fun M N b w hf=>?_;obtain⟨v,B,y⟩:=sQ j hf hr hC.1;exact⟨v,.inl ⟨fZ u hf,.inl B⟩,by rw[hd];exact hf⟩
        · cases h
      · rename_i u
        have A: ∀d,o.dst=io d->s.f.get d= .iv (.v (.tuple #[]))-> ∀M N b w,Fits M N s nt b w-> ∃v,YieldsAt P all.toArray w o v b∧Fits M N s nt (b.put o.dst v) w:=fun d hd h1 M N b w hf=>by
          refine⟨undef,.inr ⟨fZ u hf,rfl⟩,?_⟩;have:=hf.skip o;unfold ig at this;rw[hd]at this ⊢;exact wY hd Z (h1▸ae.refl _) this
        split at h
        · rename_i d hd
          simp only[WR]at h;subst h;exact key hC.2 (A d hd hC.1)
        · rename_i hd
          simp only[WR]at h;subst h;exact key hC fun M N b w hf=>⟨undef,.inr ⟨fZ u hf,rfl⟩,by rw[hd];exact hf⟩
      · cases h
theorem Fe{all:List Oper}{o:Oper}{r:List Oper}{d:Nat}{t:Bool}{k:List KI}{s:AS}{c:Bool}(hc:c=t)(u:s.f.get d= .iv (.v (.bool t)))(h:GO P nt (.ops all (o::r)::k) Q (setBool s (.tmp d) c)):GO P nt (.ops all (o::r)::k) Q s:=by
  subst hc;intro M N a w hf;have j:=hf.setBool (c:= .tmp d) u;exact AL.same (s:=s) h (j8 _ _ _) j
theorem wg{c:Operand}{u v:Code}{t:Bool}{k:List KI}{s:AS}(hc:ev s.f c= .iv (.v (.bool t)))(h:GO P nt (.code (bif t then u else v)::k) Q s):GO P nt (.code (.cond c u v)::k) Q s:=by
  intro M N a w hf;refine wp_cond (hf.bool hc) ?_;cases t
  · exact h M N a w hf
  · exact h M N a w hf
theorem tU{all:List Oper}{f:AF}{j d:Nat}{p:PV}(h:guardOf all f j=io (d,p)):f.get d=p:=by
  unfold guardOf at h;split at h
  · split at h
    · simp only[WR,W3]at h;rw[<-h.1];exact h.2
    · cases h
  · cases h
theorem BC{todo:List (Nat×Oper)}: ∀{l:List (Nat×Oper)} {i:Nat} {o:Oper},(∀x∈l,x∈todo)->BD todo l=io (i,o)->(i,o)∈todo∧Av todo i=jp
  | [],_,_,_,h=>by simp[BD]at h
  | (j,q)::r,i,o,hl,h=>by
    simp only[BD]at h;split at h
    · rename_i u
      simp only[WR,W3]at h;obtain⟨rfl,rfl⟩:=h;exact⟨hl _ (by simp),u⟩
    · exact BC (fun x y=>hl x (W5 _ y)) h
theorem uh{all:List Oper}{i:Nat}{o:Oper}: ∀{l:List Oper} {n:Nat},oZ all i o n l=jp-> ∀k q,l[k]? =io q->n+k≠i->(waits q i=jp∨looks all q o=kw)∧ ∀d,o.dst=io d->q.dst≠io d
  | [],_,_,k,q,hk,_=>by simp at hk
  | c::l,n,h,k,q,hk,hne=>by
    simp only[oZ,XE,YY,X0]at h;cases k with
    | zero=>
      simp at hk;subst hk;rcases h.1 with h1|⟨h1,x⟩
      · exact absurd (Xh h1) (by simpa using hne)
      · refine⟨h1,fun d j u=>?_⟩
        rw[j,u]at x;simp at x
    |succ k=>exact uh h.2 k q (by simpa using hk) (by omega)
theorem xw(y:bp P ty){all:List Oper}(h:kW ty nt all 0 all=jp):jS P nt all:=by
  have key: ∀(l:List Oper) (n:Nat),kW ty nt all n l=jp-> ∀k o,l[k]? =io o->aS o=jp->
      o.guard=is∧(∃d,o.dst=io d∧d<nt)∧(∃t v,o.op= .alloc t∧ ∀w,(zeroValue t).run P w= .ok v w)∧(∀k,waits o k=kw)∧oZ all (n+k) o 0 all=jp:=by
    intro l
    induction l with
    |nil=>intro n _ k o hk;simp at hk
    | cons c l ih=>
      intro n h k o hk j;simp only[kW,XE]at h;cases k with
      | zero=>
        simp at hk;subst hk;have h1:=h.1;split at h1
        · rename_i t ht
          split at h1
          · rename_i d e G hd u
            simp only[XE]at h1;refine⟨G,⟨d,hd,WL h1.1⟩,⟨t,_,ht,fun w=>du (y _ _ u)⟩,fun k=>?_,h1.2.2⟩;unfold waits;refine XL.2 fun e u=>?_;have:=XC.1 h1.2.1 e u;simp only[X0]at this;simp[this]
          · cases h1
        · rename_i x
          unfold aS at j;split at j
          · rename_i t ht;exact absurd ht (x t)
          · cases j
      | succ k=>
        have:=ih (n+1) h.2 k o (by simpa using hk) j;rw[show n+(k+1)=n+1+k by omega];exact this
  intro i o J j;obtain⟨h1,B,C,D,A⟩:=key all 0 h i o J j;refine⟨h1,B,C,D,fun k q hk I=>?_⟩;rw[Xd]at A;exact uh A k q hk (by omega)
theorem yN{j:VG}(u:KD P j){s:AS}{o:Op}{e:WK}{asv:List PV}(h:callee j s o=io (e,asv)):
    ∃g c fn,o= .call c∧bN s.f c=io (g,asv)∧asv.length<=e.nt∧P.funcs[g]? =io fn∧fn.body=io e.body∧(fn.name== "runtime.NumGoroutine")=kw∧fn.ntmps=e.nt∧fn.results.toList=e.res:=by
  unfold callee at h;split at h
  · rename_i c
    split at h
    · rename_i g x D
      split at h
      · rename_i I G
        split at h
        · rename_i hb
          simp only[WR,W3]at h;obtain⟨rfl,rfl⟩:=h;obtain⟨fn,h1,y,A,B,C⟩:=u _ _ G;exact⟨g,c,fn,rfl,D,WL hb,h1,y,A,B,C⟩
        · cases h
      · cases h
    · cases h
  · cases h
theorem RW(hm:P.follows .mixedOrders=jp)(B:bp P ty){y:Way}(x0:KD P y.fns): ∀(n:Nat) (nt:NT) (k:List KI) (s:AS) (C0 C:Prop) (J:NT) (st:Stop),bG ty y n nt k s C0=io (C,J,st)->(C->C0)∧(C->fx P J Q st->GO P nt k Q s):=by
  intro n
  induction n with
  | zero=>
    intro nt k s C0 C J st h;simp only[bG,WR,W3]at h;obtain⟨rfl,rfl,rfl⟩:=h;exact⟨fun h=>h,fun _ g=>g⟩
  | succ n ih=>
    intro nt k s C0 C J st h;have A: ∀{Y:NT} {k2:List KI} {s2:AS},bG ty y n Y k2 s2 C0=io (C,J,st)->(GO P Y k2 Q s2->GO P nt k Q s)->(C->C0)∧(C->fx P J Q st->GO P nt k Q s):=
      fun h f=>have:=ih _ _ _ _ _ _ _ h;⟨this.1,fun hC g=>f (this.2 hC g)⟩
    have G: ∀{Y:NT} {k2:List KI} {s2:AS} {C1:Prop},bG ty y n Y k2 s2 (C0∧C1)=io (C,J,st)->(C1->GO P Y k2 Q s2->GO P nt k Q s)->(C->C0)∧(C->fx P J Q st->GO P nt k Q s):=
      fun h f=>have:=ih _ _ _ _ _ _ _ h;⟨fun hC=>(this.1 hC).1,fun hC g=>f (this.1 hC).2 (this.2 hC g)⟩
    have D: ∀{v0:Stop},io (C0,nt,v0)=io (C,J,st)->(fx P nt Q v0->GO P nt k Q s)->(C->C0)∧(C->fx P J Q st->GO P nt k Q s):=by
      intro v0 h f;simp only[WR,W3]at h;obtain⟨rfl,rfl,rfl⟩:=h;exact⟨fun h=>h,fun _ g=>f g⟩
    have a0: ∀{Y:NT} {z0:Nat} {k2:List KI} {s2:AS},io (C0,Y,Stop.bad z0 k2 s2)=io (C,J,st)->(C->C0)∧(C->fx P J Q st->GO P nt k Q s):=by
      intro Y z0 k2 s2 h;simp only[WR,W3]at h;obtain⟨rfl,rfl,rfl⟩:=h;exact⟨fun h=>h,fun _ g=>g.elim⟩
    cases k with
    |nil=>simp only[bG]at h;exact D h fun g=>g
    | cons i k=>
      cases i with
      |lp R=>simp only[bG]at h;exact D h fun g=>g
      |aA id=>simp only[bG]at h;exact A h Sz
      |Hj=>simp only[bG]at h;exact A h fun g=>g
      | FO b m=>
        simp only[bG]at h;split at h
        · exact a0 h
        · exact A h go_round
      | NL Y f res o all rest=>
        simp only[bG]at h;split at h
        · exact a0 h
        · rename_i r hr
          split at h
          · exact a0 h
          · rename_i s' I
            exact A h fun g=>⟨.inl Z,r,s',hr,I,g⟩
      | NN Y f res j o all todo pend=>
        simp only[bG]at h;split at h
        · exact a0 h
        · rename_i r hr
          split at h
          · exact a0 h
          · rename_i s' I
            split at h
            · exact a0 h
            · rename_i n0 d0
              exact G h fun hC g=>⟨.inl Z,r,s',hr,I,cy B d0 hC,g⟩
      | code c=>
        cases c with
        |skip=>simp only[bG]at h;exact A h go_skip
        |scope b=>simp only[bG]at h;exact A h Jo
        |label l=>simp only[bG]at h;exact A h Jr
        |seq a b=>simp only[bG]at h;exact A h Sw
        |block id b=>simp only[bG]at h;exact A h Jx
        | region id ops d=>
          cases d with
          |false=>simp only[bG]at h;exact A h go_region
          | true=>
            simp only[bG]at h;split at h
            · rename_i h1 h2 h3
              exact A h (Jv hm (Gx h1) h2 (xw B h3))
            · exact D h fun g=>g
        | cond c u v=>
          simp only[bG]at h;split at h
          · rename_i t he
            split at h
            · exact D h fun g=>NG he g.1 g.2
            · split at h
              · exact A h (wg he)
              · exact A h (wg he)
          · rename_i he
            exact A h (we he)
          · rename_i he
            exact A h (we he)
          · exact a0 h
        | ret=>
          simp only[bG]at h;split at h
          · rename_i k' I
            exact A h fun g=>go_ret (dP k I g)
          · rename_i I
            exact D h fun g=>go_ret (nv k I g)
        | exit id=>
          simp only[bG]at h;split at h
          · rename_i k' I
            exact A h fun g=>NC (dh k I g)
          · exact a0 h
        | loop b=>
          simp only[bG]at h;split at h
          · exact D h fun g=>g
          · exact A h nC
        |_=>simp only[bG]at h;exact a0 h
      |uk all rest=>simp only[bG]at h;exact a0 h
      | bR all todo pend=>
        cases todo with
        |nil=>simp only[bG]at h;exact A h Ce
        | cons x todo=>
          have g0: ∀{j:Nat} {o:Oper},dw (x::todo)=[(j,o)]->(j,o)∈(x::todo)∧aS o=kw∧ ∀y∈(x::todo),waits o y.1=kw:=by
            intro j o h1;have h2:(j,o)∈dw (x::todo):=by rw[h1];simp
            obtain⟨h3,h4⟩:=Xu.1 h2;simp only[X0,YG,XL]at h4;exact⟨h3,h4.1,fun y hy=>by simpa using h4.2 y hy⟩
          have b0: ∀{CA:Prop},lX ty nt all s (x::todo) pend=io CA->CA-> ∀y∈(x::todo),aS y.2=jp-> ∀y∈pend,fb P nt all s y.2:=by
            intro CA h1 f0 y hy k1;unfold lX at h1;split at h1
            · exact cy B h1 f0
            · rename_i h2
              have:=XL.1 h2 y hy;rw[k1]at this;exact absurd Z this
          have e0: ∀{j:Nat} {o:Oper} {s':AS},dw (x::todo)=[(j,o)]->bQ nt all s.f o=io jp->gX all pend o=jp->nI (x::todo) [j]=jp->(∀y∈(x::todo),aS y.2=jp-> ∀y∈pend,fb P nt all s y.2)->OT P nt o s (fun t=>t=s')->
              (∀y∈a7 pend o,fb P nt all s' y.2)->GO P nt (.bR all ((x::todo).filter fun x=>!Xj x.1 j) (a7 pend o)::k) Q s'->GO P nt (.bR all (x::todo) pend::k) Q s:=by
            intro j o s' h1 h2 h3 h4 ha h5 h6 h7;obtain⟨c0,r0,t0⟩:=g0 h1;refine pr h4 ⟨_,c0,r0⟩ ha fun j' o' hj _ hu=>?_;simp only[W1]at hj;subst hj;have:=hu o c0;subst this;exact⟨r0,fun y hy _=>t0 y hy,h3,h2,_,h5,fun t ht=>by subst ht;exact⟨h6,h7⟩⟩
          simp only[bG]at h;split at h
          · rename_i i o p C' s0
            obtain⟨g1,ga,gb,g2,g3,g4⟩:=(vC (fun _ h=>h)).1 s0;split at h
            · exact a0 h
            · rename_i s' I
              split at h
              · exact G h fun hC g=>wc g1 ga gb g2 g3 (pn B g4 hC I).1 (pn B g4 hC I).2 g
              · rename_i ho
                exact A h fun g=>wc g1 ga gb g2 g3 (pn B g4 (zu g4 ho) I).1 (pn B g4 (zu g4 ho) I).2 g
          · rename_i i o s0
            obtain⟨g1,ga,gb,g2,g3⟩:=(vC (fun _ h=>h)).2 s0;exact A h (Ju g1 ga gb g2 g3)
          · split at h
            · rename_i t' hy
              split at h
              · exact D h fun g=>td hy g.1 g.2
              · split at h
                · exact A h fun g=>td hy (fun _=>g) (fun h=>by cases h)
                · exact A h fun g=>td hy (fun h=>by cases h) (fun _=>g)
            · exact a0 h
          · split at h
            · rename_i j o m0
              split at h
              · rename_i i0 j0 k0
                split at h
                · exact a0 h
                · rename_i CA f0
                  split at h
                  · rename_i p C' hr
                    split at h
                    · exact a0 h
                    · rename_i s' I
                      split at h
                      · exact a0 h
                      · rename_i n0 d0
                        exact G h fun hC g=>e0 m0 i0 j0 k0 (b0 f0 hC.1) (vt B hr hC.2.1 I) (cy B d0 hC.2.2) g
                  · split at h
                    · split at h
                      · split at h
                        · exact D h fun g=>g
                        · rename_i C' p s1 o0
                          split at h
                          · exact a0 h
                          · rename_i s' I
                            split at h
                            · exact a0 h
                            · rename_i n0 d0
                              exact G h fun hC g=>e0 m0 i0 j0 k0 (b0 f0 hC.1) (Hn B o0 hC.2.1 I) (cy B d0 hC.2.2) g
                      · rename_i e b1 p0
                        rw[wT]at h;obtain⟨g,c,fn,ho,ha,he,h1,h2,h3,h4,h5⟩:=yN x0 p0;obtain⟨c0,r0,t0⟩:=g0 m0;exact G h fun hC gg=>NF B c0 k0 t0 (b0 f0 hC) j0 i0 ho ha h1 h2 h3 h4 h5 he gg
                    · rename_i p s1 q0
                      split at h
                      · exact a0 h
                      · rename_i s' I
                        split at h
                        · exact a0 h
                        · rename_i n0 d0
                          exact G h fun hC g=>e0 m0 i0 j0 k0 (b0 f0 hC.1) (Dx B q0 I) (cy B d0 hC.2) g
              · exact D h fun g=>g
            · split at h
              · exact D h fun g=>g
              · rename_i i o j1
                split at h
                · rename_i t d i1 f1
                  split at h
                  · exact a0 h
                  · rename_i e he
                    rw[force_eq]at h;split at h
                    · rename_i C1 C2 d1 e1
                      obtain⟨m1,m2⟩:=BC (fun _ h=>h) j1;exact G h fun hC g=>GY m1 i1 (fun w=>du (B _ _ he)) f1 m2 (cy B d1 hC.1) (cy B e1 hC.2) g
                    · exact a0 h
                · exact a0 h
            · exact D h fun g=>g
      | ops all rest=>
        cases rest with
        |nil=>simp only[bG]at h;exact A h DQ
        | cons o r=>
          simp only[bG]at h;split at h
          · rename_i j w0 hg
            split at h
            · rename_i d t hy
              cases hb:Xm d nt with
              |false=>simp only[hb,cond_false]at h;exact a0 h
              | true=>
                simp only[hb,cond_true]at h;split at h
                · exact D h fun g=>Js hg hy (WL hb) g.1 g.2
                · split at h
                  · exact A h (Fe Z (tU hy))
                  · exact A h (Fe Z (tU hy))
            · rename_i d t hy
              cases hb:Xm d nt with
              |false=>simp only[hb,cond_false]at h;exact a0 h
              | true=>
                simp only[hb,cond_true]at h;obtain⟨a1,a2,a3,a4,a5,a6⟩:=o;cases t<;>cases w0<;>simp only at h
                all_goals exact A h fun g=>Cd hg hy (WL hb) g
            · rename_i d vs hy
              exact A h fun g=>Cc hg hy g
            · exact a0 h
          · rename_i hg
            split at h
            · split at h
              · split at h
                · split at h
                  · exact D h fun g=>g
                  · rename_i C' p s1 o0
                    split at h
                    · exact a0 h
                    · rename_i s' I
                      exact G h fun hC g=>bB hg (Hn B o0 hC I) fun t ht=>by subst ht;exact g
                · rename_i e b1 p0
                  rw[wT]at h;obtain⟨g,c,fn,ho,ha,he,h1,h2,h3,h4,h5⟩:=yN x0 p0;exact A h fun gg=>Sx B hg ho ha h1 h2 h3 h4 h5 he gg
              · rename_i p s1 q0
                split at h
                · exact a0 h
                · rename_i s' I
                  exact A h fun g=>bB hg (Dx B q0 I) fun t ht=>by subst ht;exact g
            · rename_i p C' hr
              split at h
              · exact a0 h
              · rename_i s' I
                split at h
                · exact G h fun hC g=>bB hg (vt B hr hC I) fun t ht=>by subst ht;exact g
                · rename_i ho
                  exact A h fun g=>bB hg (vt B hr (zu hr ho) I) fun t ht=>by subst ht;exact g
theorem Se:KD P (fun _=>is):=fun _ _ h=>nomatch h
theorem DP(hm:P.follows .mixedOrders=jp)(u:bp P ty)(n:Nat){k:List KI}{s:AS}{C:Prop}{j:NT}{st:Stop}(h:bG ty ⟨fun _=>is,0,kw⟩ n nt k s True=io (C,j,st))(hC:C)(hg:fx P j Q st):GO P nt k Q s:=
  (RW hm u Se n nt k s True C j st h).2 hC hg
end
mutual
def PV.low(n:Nat):PV->Bool
 | .iv _=>jp
 | .agg cs=>bq n cs
 | .aY cs=>bq n cs
 | .ptr i _=>Xm i n
 | .cR i _ _ _=>Xm i n
 | .eS _ i=>Xm i n
 | .og i _ _=>Xm i n
 | .sl i _ _ _=>Xm i n
 | .mp i=>Xm i n
 | .cv _ first caps=>match bq n first with
  |true=>bq n caps
  |false=>kw
 | .kb _=>jp
 | .any=>jp
def bq(n:Nat):List PV->Bool
 | []=>jp
 |p::r=>match PV.low n p with
  |true=>bq n r
  |false=>kw
end
theorem gl{n:Nat}: ∀{l:List PV},bq n l=jp-> ∀(j:Nat) (p:PV),l[j]? =io p->p.low n=jp
 | [],_,j,p,h=>by simp at h
 |c::l,hb,j,p,h=>by
  simp only[bq]at hb;split at hb
  .rename_i u;cases j with
   |zero=>simp at h;subst h;exact u
   |succ j=>exact gl hb j p (by simpa using h)
  .cases hb
def AO.low(n:Nat):AO->Prop
 | .cells cs _=>bq n cs=jp
 | .row _ es=> ∀(k:Nat) (e:List PV),es[k]? =io e->bq n e=jp
 | .bw _ _=>True
 | .ft=>True
 | .map ..=>True
 | .bX ..=>True
 | .ey _ _=>True
 | .ix ..=>True
 | .eB q _ _=>q.low n=jp
 | .oD _ _ f=> ∀d,(AF.get f d).low n=jp
section
variable {M:Mem} {N:Nm} {U:Nat->Prop} {n:Nat}
theorem VR.down{p:PV}{x:Value}(h:VR M N U p x):p.low n=jp->VR M N (· <n) p x:=by
 induction h with
 |iv x y h=>exact fun _=> .iv x y h
 |agg cs ys hl hr ih=>exact fun hb=> .agg _ _ hl fun j p u=>ih j p u (gl hb j p u)
 |aY cs ys hl hr ih=>exact fun hb=> .aY _ _ hl fun j p u=>ih j p u (gl hb j p u)
 |ptr i off h=>exact fun hb=> .ptr i off (WL hb)
 |cR i sz k off h=>exact fun hb=> .cR i sz k off (WL hb)
 |eS z i h=>exact fun hb=> .eS z i (WL hb)
 |og i o m h=>exact fun hb=> .og i o m (WL hb)
 |sl i off len sz cap h A hl hc he=>exact fun hb=> .sl i off len sz cap (WL hb) A hl hc he
 |lq i sz h=>exact fun hb=> .lq i sz (WL hb)
 |sle i sz cap h hc he=>exact fun hb=> .sle i sz cap (WL hb) hc he
 |mp i h=>exact fun hb=> .mp i (WL hb)
 |cv fn first caps f' c' h1 h2 hr1 hr2 ih1 ih2=>
  intro hb;simp only[PV.low]at hb;split at hb
  .rename_i A;exact .cv _ _ _ _ _ h1 h2 (fun j p u=>ih1 j p u (gl A j p u)) (fun j p u=>ih2 j p u (gl hb j p u))
  .cases hb
 |kb b=>exact fun _=> .kb b
 |any x=>exact fun _=> .any x
theorem OR.down{w:World}{i:Nat}{o:AO}(h:OR M N U w i o)(hb:o.low n):OR M N (· <n) w i o:=by
 cases o with
 |cells cs T0=>obtain⟨c,T,h1,u,x,y,A⟩:=h;exact⟨c,T,h1,u,x,fun j p D=>(y j p D).down (gl hb j p D),A⟩
 |row sz es=>
  rcases h with h|⟨B,c,T,h1,u,x,y,A⟩
  .exact .inl h
  exact .inr ⟨B,c,T,h1,u,x,y,fun k e j p C G=>(A k e j p C G).down (gl (hb k e C) j p G)⟩
 |bw l T=>exact h
 |ft=>exact h
 |map kc ev z zv dv m=>exact h
 |bX kc ev m l cu=>exact h
 |ey s p=>exact h
 |ix kc ev z zv dv m bs c=>exact h
 |eB q c l=>obtain⟨b,h1,u⟩:=h;exact⟨b,h1.down hb,u⟩
 |oD l c f=>
  obtain⟨B,r,h1,u,x,y,A,I,J,Y⟩:=h;exact⟨B,r,h1,u,x,y,A,I,J,fun d=>(Y d).down (hb d)⟩
end
def OG(n:Nat)(f:AF):AF->Prop
 | []=>True
 |(d,p)::r=>f.get d=p∧p.low n=jp∧OG n f r
def Ed(n:Nat)(h:AH):AH->Prop
 | []=>True
 |(_,is)::r=>Ed n h r
 |(i,io o)::r=>h.get i=io o∧i<n∧o.low n∧Ed n h r
structure Vr (s t:AS):Prop where
 nx:t.nx<=s.nx
 f:OG t.nx s.f t.f
 h:Ed t.nx s.h t.h
theorem sE{n:Nat}{h:AH}: ∀{g:AH},Ed n h g-> ∀i o,g.get i=io o->h.get i=io o∧i<n∧o.low n
 | [],_,i,o,hi=>by simp[AH.get]at hi
 |(k,is)::r,hw,i,o,hi=>by
  rw[AH.ax]at hi;split at hi
  .cases hi
  .exact sE (g:=r) hw i o hi
 |(k,io p)::r,hw,i,o,hi=>by
  obtain⟨h1,j,u,x⟩:=hw;rw[AH.ax]at hi;split at hi
  .rename_i e;subst e;simp only[WR]at hi;subst hi;exact⟨h1,j,u⟩
  .exact sE x i o hi
theorem Vr.ext{s t:AS}(hw:Vr s t){M x:Mem}{N y:Nm}{n:Nat}{h:AH}{w A:World}(j:Ext M N (· <n) h w x y (· <s.nx) s.h A)(hn:n<=t.nx):Ext M N (· <n) h w x y (· <t.nx) t.h A:=
 ⟨j.os,j.tape,j.output,j.size,j.gK,j.oC,j.iK,j.nm,fun _ hi=>Yu hi hn,fun i o hi u=>j.gx i o (sE hw.h i o hi).1 u⟩
theorem da{p:Nat->Prop}(h: ∃n,p n): ∃n,p n∧ ∀m,p m->n<=m:=by
 obtain⟨n,x⟩:=h
 induction n using Nat.strongRecOn with
 |_ n ih=>
  by_cases u: ∃m,m<n∧p m
  .obtain⟨m,h1,j⟩:=u;exact ih m h1 j
  .exact⟨n,x,fun m j=>Yz fun h1=>u ⟨m,h1,j⟩⟩
section
variable {P:Program} {nt:NT} {Q:AQ} {k:List KI} {s:AS}
end
section
variable {P:Program}
def Pure(P:Program)(k:FuncId)(args:List PV)(r:PV):Prop:=Fn P k args [] fun q h n=>q=r∧h=[]∧n=0
end
mutual
theorem PV.ke(σ:Nat->Nat): ∀p:PV,p.low 0=jp->p.b3 σ=p
 | .iv _,_=>rfl
 | .agg cs,h=>by simp only[PV.b3];rw[iP σ cs (by simpa[PV.low]using h)]
 | .aY cs,h=>by simp only[PV.b3];rw[iP σ cs (by simpa[PV.low]using h)]
 | .ptr i o,h=>by simp[PV.low,Xm]at h
 | .cR i _ _ o,h=>by simp[PV.low,Xm]at h
 | .eS _ i,h=>by simp[PV.low,Xm]at h
 | .og i _ _,h=>by simp[PV.low,Xm]at h
 | .sl i _ _ _,h=>by simp[PV.low,Xm]at h
 | .mp i,h=>by simp[PV.low,Xm]at h
 | .cv fn a b,h=>by
  simp only[PV.low]at h;simp only[PV.b3];split at h
  .rename_i j;rw[iP σ a j,iP σ b h]
  .cases h
 | .kb _,_=>rfl
 | .any,_=>rfl
theorem iP(σ:Nat->Nat): ∀l:List PV,bq 0 l=jp->dc σ l=l
 | [],_=>rfl
 |p::r,h=>by
  simp only[bq]at h;split at h
  .rename_i j;simp only[dc];rw[PV.ke σ p j,iP σ r h]
  .cases h
end
section
variable {P:Program} {nt:NT} {Q:AQ} {k:List KI} {s:AS}
theorem aE{all rest:List Oper}{o:Oper}{c:Call}{g:FuncId}{args:List PV}{r:PV}{s':AS}(hc:Pure P g args r)(ho:o.op= .call c)(hg:o.guard=is)(ha:bN s.f c=io (g,args))(hl:bq 0 args=jp)
  (hr:r.low 0=jp) (hp:putDst nt o r s=io s') (h:GO P nt (.ops all rest::k) Q s'):GO P nt (.ops all (o::rest)::k) Q s:=by
 refine bB (R:=fun t=>t=s') hg ?_ (fun t ht=>by subst ht;exact h);refine lJ ho ha hc (L:=[]) (by simp) (by simp) Z (iP _ _ hl).symm ?_;rintro q j u ⟨rfl,rfl,rfl⟩;exact⟨s',by rw[PV.ke _ _ hr];exact hp,rfl⟩
end
def eR(o q:AO):Prop:=(q.real=jp->o.real=jp)∧ ∀(M:Mem) (N:Nm) (U:Nat->Prop) (w:World) (i:Nat),OR M N U w i o->OR M N U w i q
theorem ae.of_eq{p q:PV}(h:p=q):ae p q:=h▸ .refl p
theorem jR.refl(p:IV):jR p p:=fun _ _ h=>h
theorem jR.of_eq{p q:IV}(h:p=q):jR p q:=h▸ .refl p
theorem eR.refl(o:AO):eR o o:=⟨id,fun _ _ _ _ _ h=>h⟩
theorem eR.of_eq{o q:AO}(h:o=q):eR o q:=h▸ .refl o
theorem eR.trans{o q r:AO}(a:eR o q)(b:eR q r):eR o r:=⟨fun h=>a.1 (b.1 h),fun M N U w i h=>b.2 M N U w i (a.2 M N U w i h)⟩
theorem ae.iv{p q:IV}(h:jR p q):ae (.iv p) (.iv q):=fun M N U x j=>by
 cases j with
 |iv _ _ hi=>exact .iv _ _ (h M x hi)
theorem jR.nil(sz:Nat)(el:Nat->List IV):jR (.v (.slice is 0 0)) (.bL sz 0 el):=fun M x h=>by
 cases h;exact .fL _ _ _ _
theorem ae.nil(sz:Nat)(el:Nat->List IV):ae (.iv (.v (.slice is 0 0))) (.iv (.bL sz 0 el)):= .iv (.nil sz el)
theorem ae.kb(b:Bool):ae (.kb b) (.iv (.v (.bool b))):=fun M N U x h=>by
 cases h;exact .iv _ _ (.v _)
theorem jR.bL{sz n y:Nat}{el u:Nat->List IV}(hn:n=y)(h: ∀k,k<n->el k=u k):jR (.bL sz n el) (.bL sz y u):=by
 subst hn;intro M x B;cases B with
 |fL=>exact .fL _ _ _ _
 |bL _ _ _ b off cap hn hc hl hm hr=>
  exact .bL _ _ _ _ _ _ hn hc (fun k hk=>by rw[<-h k hk];exact hl k hk) hm (fun k j p hk A=>hr k j p hk (by rw[h k hk];exact A))
theorem ae.bL{sz n u:Nat}{el j:Nat->List IV}(hn:n=u)(h: ∀k,k<n->el k=j k):ae (.iv (.bL sz n el)) (.iv (.bL sz u j)):= .iv (.bL hn h)
def hQ:List PV->List PV->Prop
 | [],[]=>True
 |p::r,q::s=>ae p q∧hQ r s
 |_,_=>False
theorem hQ.length: ∀{a b:List PV},hQ a b->a.length=b.length
 | [],[],_=>rfl
 |_::_,_::_,h=>congrArg (· +1) (hQ.length h.2)
 | [],_::_,h=>h.elim
 |_::_,[],h=>h.elim
theorem hQ.get: ∀{a b:List PV},hQ a b-> ∀(j:Nat) (q:PV),b[j]? =io q-> ∃p,a[j]? =io p∧ae p q
 | [],[],_,j,q,h=>by simp at h
 |p::r,q0::s,hh,j,q,h=>by
  cases j with
  |zero=>simp at h;subst h;exact⟨p,rfl,hh.1⟩
  |succ j=>simpa using hQ.get hh.2 j q (by simpa using h)
 | [],_::_,hh,_,_,_=>hh.elim
 |_::_,[],hh,_,_,_=>hh.elim
theorem ae.agg{a b:List PV}(h:hQ a b):ae (.agg a) (.agg b):=fun M N U x y=>by
 cases y with
 |agg _ ys hl hr=>exact .agg _ _ (h.length▸hl) fun j q u=>let ⟨p,hp,hle⟩:=h.get j q u;hle M N U _ (hr j p hp)
theorem ae.aY{a b:List PV}(h:hQ a b):ae (.aY a) (.aY b):=fun M N U x y=>by
 cases y with
 |aY _ ys hl hr=>exact .aY _ _ (h.length▸hl) fun j q u=>let ⟨p,hp,hle⟩:=h.get j q u;hle M N U _ (hr j p hp)
theorem eR.cells{a b:List PV}{u:Option TypeId}(h:hQ a b):eR (.cells a u) (.cells b u):=⟨fun h=>h,fun M N U w i ⟨c,T,h1,h2,h3,h4,h5⟩=>
 ⟨c,T,h1,h2,h.length▸h3,fun j q x=>let ⟨p,hp,hle⟩:=h.get j q x;hle M N U _ (h4 j p hp),h5⟩⟩
theorem eR.Tm(a:List PV)(j:Option TypeId):eR (.cells a j) (.cells a):=⟨fun h=>h,fun M N U w i ⟨c,T,h1,h2,h3,h4,_⟩=>⟨c,T,h1,h2,h3,h4,.none _⟩⟩
theorem Fn.le{P:Program}{k:FuncId}{aa args:List PV}{os:List AO}{R:PV->AH->Nat->Prop}(h:Fn P k args os R)(u:hQ aa args):Fn P k aa os R:=
 ⟨h.1,fun M N w vs hr hl y=>h.2 M N w vs hr (by rw[<-u.length];exact hl) fun j q x=>let ⟨p,hp,hpq⟩:=u.get j q x;hpq M N _ _ (y j p hp)⟩
theorem Pure.le{P:Program}{k:FuncId}{aa args:List PV}{r:PV}(h:Pure P k args r)(j:hQ aa args):Pure P k aa r:=Fn.le h j
theorem Fn.mono{P:Program}{k:FuncId}{args:List PV}{os:List AO}{R j:PV->AH->Nat->Prop}(h:Fn P k args os R)(hR: ∀r h n,R r h n->j r h n):Fn P k args os j:=
 ⟨h.1,fun M N w vs hr hl u=>(h.2 M N w vs hr hl u).mono fun _ _ ⟨x,M',N',r,h',n',e,hh,rest⟩=>⟨x,M',N',r,h',n',e,hR _ _ _ hh,rest⟩⟩
def sg(n0:Nat)(L:List Nat)(i:Nat):Nat:=bif Xm i n0 then i else L.getD (i-n0) 0
theorem gG{n0:Nat}{L:List Nat}{i:Nat}(h:i<n0):sg n0 L i=i:=by
 have:Xm i n0=jp:=XN h;simp[sg,this]
def Hq(n:Nat)(σ:Nat->Nat)(f:AF):AF->Prop
 | []=>True
 |(d,p)::r=>ae (f.get d) (p.b3 σ)∧p.low n=jp∧Hq n σ f r
def o6(n:Nat)(σ:Nat->Nat)(h:AH):AH->Prop
 | []=>True
 |(_,is)::r=>o6 n σ h r
 |(i,io o)::r=>(∃j,h.get (σ i)=io j∧eR j (o.b3 σ))∧i<n∧o.low n∧o6 n σ h r
def fq(σ:Nat->Nat):AH->List Nat
 | []=> []
 |(_,is)::r=>fq σ r
 |(i,io _)::r=>σ i::fq σ r
structure Wk (n0:Nat) (L:List Nat) (s t:AS):Prop where
 nx:t.nx=n0+L.length
 ns:n0<=s.nx
 lt: ∀j∈L,j<s.nx
 f:Hq t.nx (sg n0 L) s.f t.f
 h:o6 t.nx (sg n0 L) s.h t.h
 inj:(fq (sg n0 L) t.h).Nodup
theorem Ec{n:Nat}{σ:Nat->Nat}{f:AF}: ∀{g:AF},Hq n σ f g-> ∀d,g.get d= .any∨(ae (f.get d) ((g.get d).b3 σ)∧(g.get d).low n=jp)
 | [],_,_=> .inl Z
 |(k,p)::r,h,d=>by
  obtain⟨h1,j,u⟩:=h;rw[AF.ax];by_cases hd:d=k
  .subst hd;rw[am Z];exact .inr ⟨h1,j⟩
  .rw[be hd];exact Ec u d
theorem jq{n:Nat}{σ:Nat->Nat}{h:AH}: ∀{g:AH},o6 n σ h g-> ∀i o,g.get i=io o->(∃j,h.get (σ i)=io j∧eR j (o.b3 σ))∧i<n∧o.low n
 | [],_,i,o,hi=>by simp[AH.get]at hi
 |(k,is)::r,hw,i,o,hi=>by
  rw[AH.ax]at hi;split at hi
  .cases hi
  .exact jq (g:=r) hw i o hi
 |(k,io p)::r,hw,i,o,hi=>by
  obtain⟨h1,u,x,y⟩:=hw;rw[AH.ax]at hi;split at hi
  .rename_i e;subst e;simp only[WR]at hi;subst hi;exact⟨h1,u,x⟩
  .exact jq y i o hi
theorem kh{σ:Nat->Nat}: ∀{g:AH} {i:Nat} {o:AO},g.get i=io o->σ i∈fq σ g
 | [],i,o,h=>by simp[AH.get]at h
 |(k,is)::r,i,o,h=>by
  rw[AH.ax]at h;split at h
  .cases h
  .exact kh (g:=r) h
 |(k,io p)::r,i,o,h=>by
  rw[AH.ax]at h;split at h
  .rename_i e;subst e;simp[fq]
  .exact W5 _ (kh h)
theorem mV{σ:Nat->Nat}: ∀{g:AH},(fq σ g).Nodup-> ∀i j o p,g.get i=io o->g.get j=io p->σ i=σ j->i=j
 | [],_,i,j,o,p,h,_,_=>by simp[AH.get]at h
 |(k,is)::r,hn,i,j,o,p,hi,hj,he=>by
  rw[AH.ax]at hi hj;split at hi
  .cases hi
  .split at hj
   .cases hj
   .exact mV (g:=r) hn i j o p hi hj he
 |(k,io q)::r,hn,i,j,o,p,hi,hj,he=>by
  rw[AH.ax]at hi hj;simp only[fq,XB]at hn;split at hi
  .rename_i x;split at hj
   .rename_i u;rw[x,u]
   .subst x;exact absurd (he▸kh hj) hn.1
  .split at hj
   .rename_i u;subst u;exact absurd (he▸kh hi) hn.1
   .exact mV hn.2 i j o p hi hj he
section
variable {n0:Nat} {L:List Nat} {s t:AS} {M:Mem} {N:Nm} {w:World}
theorem eR.real{o q:AO}(h:eR o q)(j:q.real=jp):o.real=jp:=h.1 j
theorem Wk.fits(hw:Wk n0 L s t){nt:NT}{a:Act}(hf:Fits M N s nt a w):Fits M (N.comp (sg n0 L)) t nt a w:=by
 refine⟨⟨hf.1.dF,fun i o hi=>(jq hw.h i o hi).2.1,fun i o hi A=>?_,fun i o hi=>?_,fun i j o p hi C G I D=>?_⟩,fun d=>?_,hf.2.2⟩
 .obtain⟨⟨B,h1,u⟩,y,x⟩:=jq hw.h i o hi;exact hf.1.dM _ B h1 (u.real ((AO.cj _ o).trans A))
 .obtain⟨⟨B,h1,u⟩,y,x⟩:=jq hw.h i o hi;exact(OR.rr (u.2 M N _ w _ (hf.1.obj _ _ h1))).down x
 .obtain⟨⟨B,h1,u⟩,_⟩:=jq hw.h i o hi;obtain⟨⟨J,y,x⟩,_⟩:=jq hw.h j p C;have:=hf.1.inj _ _ _ _ h1 y (u.real ((AO.cj _ o).trans G)) (x.real ((AO.cj _ p).trans I)) D;exact mV hw.inj i j o p hi C this
 .rcases Ec hw.f d with h|⟨h1,u⟩
  .rw[h];exact .any _
  .exact((h1 M N _ _ (hf.2.1 d)).rr Z).down u
theorem Wk.ext(hw:Wk n0 L s t){x:Mem}{y:Nm}{h0:AH}{A:World}(j:Ext x y (· <n0) h0 A M N (· <s.nx) s.h w):Ext x y (· <n0) h0 A M (N.comp (sg n0 L)) (· <t.nx) t.h w:=by
 refine⟨j.os,j.tape,j.output,j.size,j.gK,j.oC,j.iK,⟨fun i hi=>?_,fun i hi=>?_⟩,fun i hi=>by have:=hw.nx;omega,fun i o hi u=>?_⟩
 .simp only[Nm.comp,gG hi];exact j.nm.aA i hi
 .simp only[Nm.comp,gG hi];exact j.nm.ext i hi
 .obtain⟨⟨C,h1,B⟩,_⟩:=jq hw.h i o hi;exact j.gx _ C h1 (B.real ((AO.cj _ o).trans u))
end
theorem ny{P:Program}{nt:NT}{Q:AQ}{k:List KI}{s:AS}{c:Code}{R u:AS->Prop}(h: ∀t,R t->u t)(hg:GO P nt (.code c:: .lp R::k) Q s):GO P nt (.code c:: .lp u::k) Q s:=by
 intro M N a w hf;refine AW.then hg hf fun e B C x y s' A j hr=>⟨x,y,s',A,j,?_⟩
 cases e with
 |normal=>exact h _ hr
 |_=>exact hr
section
variable {P:Program} {nt:NT} {Q:AQ} {k:List KI} {s:AS}
theorem cG{L:List Nat}{t:AS}{c:Code}(hw:Wk s.nx L s t)(h:GO P nt (.code c::k) Q t):GO P nt (.code c::k) Q s:=by
 intro M N a w hf;exact AW.then h (hw.fits hf) fun e a2 C y A B x j u=>⟨y,A,B,(hw.ext (.refl _ _ _ _ _)).trans x,j,u⟩
theorem iC{body:Code}{σ:Type}(I:σ->AS)(μ:σ->Nat)(i0:σ)(Y:List Nat)(h0:Wk s.nx Y s (I i0))
  (u: ∀i,GO P nt (.code body:: .lp (fun t=> ∃j L,μ j<μ i∧Wk s.nx L t (I j))::k) Q (I i)):GO P nt (.code (.loop body)::k) Q s:=by
 intro M0 N0 a0 w0 D
 let J:Act->World->Nat->Prop:=fun a w n=> ∃i M N,μ i=n∧Ext M0 N0 (· <s.nx) s.h w0 M N (· <(I i).nx) (I i).h w∧Fits M N (I i) nt a w
 have C:J a0 w0 (μ i0):=⟨i0,M0,N0.comp (sg s.nx Y),rfl,h0.ext (.refl _ _ _ _ _),h0.fits D⟩
 refine wp_loop (fun a w=> ∃n,J a w n) (fun a w=>by classical exact if h: ∃n,J a w n then Zj (da h) else 0) ⟨_,C⟩ fun a w b0=>?_;obtain⟨⟨i,M,N,hi,hx,hf⟩,c0⟩:=YN (da b0);refine AW.then (u i) hf fun e B G M' N' s' y x hr=>?_
 cases e with
 |normal=>
  obtain⟨j,L,hj,hw⟩:=hr;have A:J B G (μ j):=⟨j,M',N'.comp (sg s.nx L),rfl,hw.ext (hx.trans y),hw.fits x⟩
  refine⟨⟨_,A⟩,?_⟩;simp only[dif_pos b0,dif_pos (⟨_,A⟩: ∃n,J B G n)];rw[<-hi];exact aaf ((YN (da (⟨_,A⟩: ∃n,J B G n))).2 _ A) hj
 |_=>exact⟨M',N',s',hx.trans y,x,hr⟩
end
section
variable {P:Program} {nt:NT} {Q:AQ} {k:List KI} {s:AS}
theorem aM{body:Code}(i0 n:Nat)(u:i0<=n)(I:Nat->AS)(J:Nat->Prop)(x:List Nat)(A:J i0)(h0:Wk s.nx x s (I i0))
  (j: ∀i,i<=n->J i->GO P nt (.code body:: .lp (fun t=>i<n∧J (i+1)∧ ∃L,Wk s.nx L t (I (i+1)))::k) Q (I i)):GO P nt (.code (.loop body)::k) Q s:=by
 refine iC (σ:={i:Nat//i<=n∧J i}) (fun i=>I i.1) (fun i=>n-i.1) ⟨i0,u,A⟩ x h0 fun i=>?_;obtain⟨i,h1,y⟩:=i;have:=j i h1 y;refine ny ?_ this
 rintro t ⟨h3,h4,L,h5⟩;exact⟨⟨i+1,h3,h4⟩,L,by show n-(i+1)<n-i;omega,h5⟩
end
theorem ju{P:Program}{nt:NT}{Q:AQ}{k:List KI}{s:AS}{c:Code}(t sz:Nat)(ht:s.f.get t= .iv (.v (.slice is 0 0)))(h:GO P nt (.code c::k) Q (u2 s t sz)):GO P nt (.code c::k) Q s:=by
 intro M N a w hf;obtain⟨I,J,Y⟩:=s;obtain⟨h1,D⟩:=hf.1.CU sz;have j:Fits M N (u2 ⟨I,J,Y⟩ t sz) nt a w:=by
  refine⟨D,fun k=>?_,hf.2.2⟩;simp only[u2];rw[AF.ax];split
  .rename_i x;subst x;have:=hf.2.1 k;simp only at ht this;rw[ht]at this;generalize a.tmps.getD k undef=v at this;cases this with
   |iv _ _ h=>cases h with
    |v=>exact .lq _ _ (YA _)
  .exact(hf.2.1 k).mono (.refl _) (.refl _ _) (fun i hi=>Ys hi)
 exact AW.then h j fun e a2 w2 B C G A u y=>⟨B,C,G,h1.trans A,u,y⟩
mutual
def PV.dF(i sz:Nat)(el:Nat->List IV):PV->PV
 | .iv x=> .iv x
 | .agg cs=> .agg (n9 i sz el cs)
 | .aY cs=> .aY (n9 i sz el cs)
 | .sl j off len sz'=>bif Xj j i then .iv (.bL sz len (fun k=>el (off+k))) else .sl j off len sz'
 | .ptr j o=> .ptr j o
 | .cR j a b c=> .cR j a b c
 | .eS z j=> .eS z j
 | .og j o n=> .og j o n
 | .mp j=> .mp j
 | .cv fn a b=> .cv fn a b
 | .kb b=> .kb b
 | .any=> .any
def n9(i sz:Nat)(el:Nat->List IV):List PV->List PV
 | []=> []
 |p::r=>PV.dF i sz el p::n9 i sz el r
end
theorem eD(i sz:Nat)(el:Nat->List IV): ∀l:List PV,n9 i sz el l=l.map (PV.dF i sz el)
 | []=>rfl
 |p::r=>by simp[n9,eD i sz el r]
mutual
def PV.bb(i sz n:Nat):PV->Prop
 | .agg cs=>a8 i sz n cs
 | .aY cs=>a8 i sz n cs
 | .sl j off len sz'=>if j=i then sz'=sz∧off+len<=n else True
 |_=>True
def a8(i sz n:Nat):List PV->Prop
 | []=>True
 |p::r=>PV.bb i sz n p∧a8 i sz n r
end
theorem fc{i sz n:Nat}: ∀{l:List PV},a8 i sz n l-> ∀(j:Nat) (p:PV),l[j]? =io p->p.bb i sz n
 | [],_,j,p,h=>by simp at h
 |c::l,hh,j,p,h=>by
  cases j with
  |zero=>simp at h;subst h;exact hh.1
  |succ j=>exact fc hh.2 j p (by simpa using h)
theorem pt{M:Mem}{N:Nm}{n:Nat}{h:AH}{w:World}(hr:Rel M N (· <n) h w){i sz:Nat}{es:List (List PV)}(hi:h.get i=io (.row sz es)){el:Nat->List IV}
  (i0: ∀k e,es[k]? =io e->e=(el k).map .iv): ∃A,Ext M N (· <n) h w A N (· <n) ((i,is)::h) w∧Rel A N (· <n) ((i,is)::h) w∧
   ∀p x,VR M N (· <n) p x->p.bb i sz es.length->VR A N (· <n) (p.dF i sz el) x:=by
 have key: ∀A:Mem,M.le A->(∀a0 len b0 b,a0+len<=es.length->0<len->len<=b0->b0<=maxLen->b=N.aA i->IR A (.bL sz len (fun k=>el (a0+k))) (.slice (io ⟨b,a0*sz,is⟩) len b0))->
   ∀p x,VR M N (· <n) p x->p.bb i sz es.length->VR A N (· <n) (p.dF i sz el) x:=by
  intro A hM hs p x hx
  induction hx with
  |iv x y h=>exact fun _=> .iv _ _ (h.mono hM)
  |agg cs ys hl hr ih=>
   intro C;refine .agg _ _ (by simpa[eD]using hl) fun j q hq=>?_;rw[eD,WX,WZ]at hq;obtain⟨q0,G,rfl⟩:=hq
   exact ih j q0 G (fc (by simpa[PV.bb]using C) j q0 G)
  |aY cs ys hl hr ih=>
   intro C;refine .aY _ _ (by simpa[eD]using hl) fun j q hq=>?_;rw[eD,WX,WZ]at hq;obtain⟨q0,G,rfl⟩:=hq
   exact ih j q0 G (fc (by simpa[PV.bb]using C) j q0 G)
  |ptr i a0 h=>exact fun _=> .ptr _ _ h
  |cR i sz k a0 h=>exact fun _=> .cR _ _ _ _ h
  |eS z i h=>exact fun _=> .eS _ _ h
  |og i o n h=>exact fun _=> .og _ _ _ h
  |sl j a0 len sz' b0 h h0 hl hc Y=>
   intro C;simp only[PV.bb]at C;simp only[PV.dF];by_cases u:j=i
   .subst u;rw[am Z]at C;obtain⟨rfl,C⟩:=C;have:Xj j j=jp:=by simp
    rw[this,cond_true];exact .iv _ _ (hs a0 len b0 _ C h0 hl hc Z)
   .have:Xj j i=kw:=Bool.eq_false_iff.2 (fun e=>u (Xh e));rw[this,cond_false];exact .sl _ _ _ _ _ h h0 hl hc Y
  |lq j sz' h=>
   intro C;simp only[PV.dF];cases hb:Xj j i with
   |true=>exact .iv _ _ (.fL _ _ _ _)
   |false=>exact .lq _ _ h
  |sle j sz' b0 h hc Y=>
   intro C;simp only[PV.dF];cases hb:Xj j i with
   |true=>exact .iv _ _ (.fL _ _ _ _)
   |false=>exact .sle _ _ _ h hc Y
  |mp i h=>exact fun _=> .mp _ h
  |cv fn first caps f' c' h1 J hr1 hr2 ih1 ih2=>exact fun _=> .cv _ _ _ _ _ h1 J (fun j p u=>(hr1 j p u).mono hM (.refl _ _) (fun _ h=>h)) (fun j p u=>(hr2 j p u).mono hM (.refl _ _) (fun _ h=>h))
  |kb b=>exact fun _=> .kb _
  |any x=>exact fun _=> .any _
 rcases hr.obj i _ hi with h0|⟨h0,c,T,h1,J,h3,h4,h5⟩
 .subst h0;exact⟨M,(Ext.refl _ _ _ _ _).del i,hr.del i,key M (.refl _) fun a0 len b0 b h1 J=>by simp at h1;omega⟩
 .have d0:es≠ []∨es=[]:=by cases es<;>simp
  rcases d0 with d0|rfl;rotate_left
  .exact⟨M,(Ext.refl _ _ _ _ _).del i,hr.del i,key M (.refl _) fun a0 len b0 b h1 J=>by simp at h1;omega⟩
  have I:(AO.row sz es).real=jp:=by cases es with
   |nil=>exact absurd Z d0
   |cons=>rfl
  have f0:=hr.dM i _ hi I
  let A:Mem:=M.set (N.aA i) (.cells c) f0
  have hM:M.le A:=fun b d hb=>by
   simp only[A,Mem.set];by_cases B:b=N.aA i
   .rw[B,f0]at hb;cases hb
   .rw[be B];exact hb
  have hnew: ∀b d,M b=is->A b=io d->b=N.aA i:=fun b d h1 J=>by
   simp only[A,Mem.set]at J;by_cases B:b=N.aA i
   .exact B
   .rw[be B,h1]at J;cases J
  refine⟨A,?_,?_,key A hM fun a0 len b0 b hb h6 h7 h8 j0=>?_⟩
  .exact⟨rfl,rfl,⟨rfl,WY _⟩,WY _,fun _ _ _=>rfl,hM,fun b d h1 J=> .inr ⟨i,_,hi,I,(hnew b d h1 J).symm⟩,.refl _ _,fun _ h=>h,fun j o u I=> .inr ⟨j,o,(bm j o u).2,I,rfl⟩⟩
  .refine⟨fun b d hb=>?_,fun j o u=>hr.used j o (bm j o u).2,fun j o u c0=>?_,fun j o u=>?_,fun j k o p u hk=>hr.inj j k o p (bm j o u).2 (bm k p hk).2⟩
   .simp only[A,Mem.set]at hb;by_cases B:b=N.aA i
    .rw[am B]at hb;cases hb;exact⟨T,(0,0),by rw[B,h1]⟩
    .rw[be B]at hb;exact hr.dF b d hb
   .obtain⟨g1,g2⟩:=bm j o u;simp only[A,Mem.set];rw[be fun e=>g1 (hr.inj j i o _ g2 hi c0 I e)];exact hr.dM j o g2 c0
   .obtain⟨g1,g2⟩:=bm j o u;exact(hr.obj j o g2).mono hM (.refl _ _) (fun _ h=>h) (hr.used j o g2) Z
  .subst j0;have D: ∀o,A.cell (N.aA i) o=c[o]? :=fun o=>by simp[Mem.cell,A,Mem.set]
   have k0: ∀k j,k<len->j<sz->a0*sz+k*sz+j<c.size:=by
    intro k j hk u;have:(a0+k+1)*sz<=es.length*sz:=Xi _ (by omega);rw[XG,XG]at this;omega
   have g0: ∀k,k<len-> ∃e,es[a0+k]? =io e:=fun k hk=>⟨_,WU (by omega)⟩
   refine .bL _ _ _ _ _ _ h7 h8 (fun k hk=>?_) (fun k j hk u=>?_) (fun k j p hk C=>?_)
   .obtain⟨e,Y⟩:=g0 k hk;have:=h4 _ e Y;rw[i0 _ e Y]at this;simpa using this
   .rw[D];simp[k0 k j hk u]
   .obtain⟨e,Y⟩:=g0 k hk;have h9:=h4 _ e Y;have e0:=i0 _ e Y;have u:j<sz:=by rw[<-h9,e0,Xk];exact(WT.1 C).1
    have:=h5 _ e j (.iv p) Y (by rw[e0,WX,C];rfl);rw[D];have e2:a0*sz+k*sz+j=(a0+k)*sz+j:=by rw[XG]
    rw[e2];rw[WM]at this;cases this with
    |iv _ _ h=>exact h.mono hM
def fH(h:AH)(n:Nat)(r:PV)(K:AH->PV->Prop):Prop:= ∀M N w,Rel M N (· <n) h w-> ∃j u y,Ext M N (· <n) h w j N (· <n) u w∧Rel j N (· <n) u w∧(∀x,VR M N (· <n) r x->VR j N (· <n) y x)∧K u y
theorem fH.done{h:AH}{n:Nat}{r:PV}{K:AH->PV->Prop}(hk:K h r):fH h n r K:=fun M N w hr=>⟨M,h,r,.refl _ _ _ _ _,hr,fun _ h=>h,hk⟩
theorem fH.row{h:AH}{n:Nat}{r:PV}{K:AH->PV->Prop}(i:Nat){sz:Nat}{es:List (List PV)}(el:Nat->List IV)(hi:h.get i=io (.row sz es))(j: ∀k e,es[k]? =io e->e=(el k).map .iv)
  (u:r.bb i sz es.length) (hk:fH ((i,is)::h) n (r.dF i sz el) K):fH h n r K:=by
 intro M N w hr;obtain⟨y,h1,C,D⟩:=pt hr hi j;obtain⟨A,B,I,g1,g2,g3,g4⟩:=hk y N w C;exact⟨A,B,I,h1.trans g1,g2,fun x G=>g3 x (D _ _ G u),g4⟩
def OE(ty:Ty)(l:List ResultVar)(m:Nat)(R:PV->AH->Nat->Prop):AQ:=fun e s=>
 (e= .normal∨e= .ret)∧ ∃x,je ty s l=io x∧fH s.h s.nx x fun y A=> ∃r j u L,R r j u∧Wk m L ⟨[(0,A)],y,s.nx⟩ ⟨[(0,r)],j,u⟩
section
variable {P:Program}
theorem lU {ty:Ty} (a0:bp P ty) {k:FuncId} {fn:Func} {c:Code} (hf:P.funcs[k]? =io fn) (hb:fn.body=io c) (hn:(fn.name== "runtime.NumGoroutine")=kw) {nt:Nat} (Y:fn.ntmps=nt)
  {l:List ResultVar} (hl:fn.results.toList=l) {args:List PV} (J:args.length<=nt) {os:List AO} {R:PV->AH->Nat->Prop}
  (h:GO P nt [.code c] (OE ty l os.length R) ⟨mN 0 args,cK 0 os,os.length⟩):Fn P k args os R:=by
 have key:Fn P k args os (fun r0 h0 n0=>fH h0 n0 r0 fun j r2=> ∃r C D L,R r C D∧Wk os.length L ⟨[(0,r2)],j,n0⟩ ⟨[(0,r)],C,D⟩):=by
  refine DT a0 hf hb hn Y hl J ?_;intro M N a w y;refine wp_mono (h M N a w y) fun e a' w' hp=>?_;obtain⟨G,B,s',h1,j,h3⟩:=hp;refine⟨G,B,s',h1,j,?_⟩;simp only[kp]at h3 ⊢;obtain⟨he,r,g1,g2⟩:=h3;exact⟨he,r,g1,g2⟩
 refine⟨key.1,fun M N w vs hr A hv=>(key.2 M N w vs hr A hv).mono ?_⟩;rintro e w' ⟨x,G,B,r0,h0,n0,rfl,hF,hx,hr',hvr⟩;obtain⟨M2,j,r2,g1,g2,g3,r,C,D,L,hR,hw⟩:=hF G B w' hr'
 have I:Fits M2 B ⟨[(0,r2)],j,n0⟩ ⟨1,[]⟩ ⟨#[x],[]⟩ w':=⟨g2,fun d=>by
  rw[AF.ax];by_cases hd:d=0
  .subst hd;rw[am Z];exact g3 x hvr
  .rw[be hd];exact .any _,rfl,rfl⟩
 have u:=hw.fits I;refine⟨x,M2,_,r,C,D,rfl,hR,hw.ext (hx.trans g1),u.1,?_⟩;have:=u.2.1 0;exact this
def Hh(ty:Ty)(l:List ResultVar)(r:PV):AQ:=fun e s=>
 (e= .normal∨e= .ret)∧ ∃j,je ty s l=io j∧fH s.h s.nx j fun _ u=>ae u r
theorem ah {ty:Ty} (A:bp P ty) {k:FuncId} {fn:Func} {c:Code} (hf:P.funcs[k]? =io fn) (hb:fn.body=io c) (hn:(fn.name== "runtime.NumGoroutine")=kw) {nt:Nat} (y:fn.ntmps=nt)
  {l:List ResultVar} (hl:fn.results.toList=l) {args:List PV} (x:args.length<=nt) {r:PV} (hlow:r.low 0=jp)
  (h:GO P nt [.code c] (Hh ty l r) ⟨mN 0 args,[],0⟩):Pure P k args r:=by
 refine lU A hf hb hn y hl x ?_;intro M N a w j;refine wp_mono (h M N a w j) fun e a' w' J=>?_;obtain⟨C,G,s',h1,u,B⟩:=J;refine⟨C,G,s',h1,u,?_⟩;simp only[kp]at B ⊢;obtain⟨I,r0,g1,g2⟩:=B;refine⟨I,r0,g1,fun M N w hr=>?_⟩;obtain⟨D,u,r2,Y,q2,q3,q4⟩:=g2 M N w hr;refine⟨D,u,r2,Y,q2,q3,r,[],0,[],⟨rfl,rfl,rfl⟩,rfl,W2 _,by simp,⟨?_,hlow,ac⟩,ac,XM⟩;rw[PV.ke _ _ hlow];exact q4
theorem aH{ty:Ty}{l:List ResultVar}{r r0:PV}{e:Exit}{s:AS}(he:e= .normal∨e= .ret)(h:je ty s l=io r0)(j:ae r0 r):Hh ty l r e s:=⟨he,r0,h,.done j⟩
end
section
variable {P:Program}
theorem JH{k:FuncId}{args:List PV}{os:List AO}{R:PV->AH->Nat->Prop}(hc:fz P k){n:Nat}(hn: ∃sz x,PV.iv (.bL sz n x)∈args)(h:n<=maxLen->Fn P k args os R):Fn P k args os R:=by
 refine⟨hc,fun M N w vs hr hl y=>?_⟩;obtain⟨sz,x,hn⟩:=hn;obtain⟨j,A⟩:=XH hn;have:=y j _ A;have u:n<=maxLen:=by
  generalize vs.getD j undef=v at this;cases this with
  |iv _ _ hi=>cases hi with
   |fL=>exact W2 _
   |bL=>omega
 exact(h u).2 M N w vs hr hl y
theorem IB{k:FuncId}{args:List PV}{r:PV}(hc:fz P k){n:Nat}(hn: ∃sz j,PV.iv (.bL sz n j)∈args)(h:n<=maxLen->Pure P k args r):Pure P k args r:=JH hc hn h
end
abbrev iI(n:Int):IV:= .v (.int .i64 n)
abbrev iS(s:ByteArray):IV:= .v (.string s)
abbrev pI(n:Int):PV:= .iv (iI n)
abbrev pS(s:ByteArray):PV:= .iv (iS s)
abbrev pB(b:Bool):PV:= .iv (.v (.bool b))
abbrev ag(l:List IV):PV:= .agg (l.map .iv)
abbrev aW{α:Type}[Inhabited α](sz:Nat)(l:List α)(f:α->List IV):IV:= .bL sz l.length (fun k=>f (l.getD k co))
def aX{α:Type}(sz:Nat)(l:List α)(f:α->List IV):AO:= .row sz (l.map fun x=>(f x).map .iv)
theorem js(σ:Nat->Nat): ∀l:List IV,dc σ (l.map .iv)=l.map .iv
 | []=>rfl
 |x::r=>by simp only[WW,dc,PV.b3,js σ r]
theorem tt(n:Nat): ∀l:List IV,bq n (l.map .iv)=jp
 | []=>rfl
 |x::r=>by simp only[WW,bq,PV.low,tt n r]
section
variable {α:Type} {sz:Nat} {l:List α} {f:α->List IV}
theorem b5(σ:Nat->Nat):(aX sz l f).b3 σ=aX sz l f:=by
 simp only[aX,AO.b3,XX];congr 1;exact X6 fun x _=>js σ _
theorem eJ(n:Nat):(aX sz l f).low n:=by
 intro k e j;rw[WX,WZ]at j;obtain⟨x,_,rfl⟩:=j;exact tt n _
theorem EJ{es:List (List PV)}(σ:Nat->Nat)(h:es=l.map fun x=>(f x).map .iv):eR (.row sz es) ((aX sz l f).b3 σ):=by
 rw[b5];exact .of_eq (by rw[h];rfl)
theorem cU[Inhabited α]{es:List (List PV)}(h:es=l.map fun x=>(f x).map .iv): ∀k e,es[k]? =io e->e=(f (l.getD k co)).map .iv:=by
 subst h;intro k e j;rw[WX,WZ]at j;obtain⟨x,u,rfl⟩:=j;rw[WQ,u];rfl
theorem za[Inhabited α](l:List α)(f:α->List IV):(Xq l.length).map (fun k=>(f (l.getD k co)).map PV.iv)=l.map fun x=>(f x).map .iv:=by
 apply Y2;intro k;rw[WX,WX];rcases XO k l.length with h|h
 .rw[Zm h,WU h];simp[WQ,h]
 .simp[h]
theorem fa(h: ∀x,dy ((f x).map .iv)=jp)(l:List α):allOnes (l.map fun x=>(f x).map .iv)=jp:=by
 induction l with
 |nil=>rfl
 |cons x r ih=>simp only[WW,allOnes,h x,ih]
theorem iJ[Inhabited α](h: ∀x,dy ((f x).map .iv)=jp)(l:List α):allOnes ((Xq l.length).map (fun k=>(f (l.getD k co)).map PV.iv))=jp:=by
 rw[za];exact fa h l
end
def aG(l:List IV):AO:= .cells (l.map .iv)
theorem D2(σ:Nat->Nat)(l:List IV):(aG l).b3 σ=aG l:=by
 simp only[aG,AO.b3,js]
theorem G8{cs:List PV}{j:Option TypeId}{l:List IV}(σ:Nat->Nat)(h:cs=l.map .iv):eR (.cells cs j) ((aG l).b3 σ):=by
 rw[D2];exact .trans (.Tm cs j) (.of_eq (by rw[h];rfl))
def cE:List Nat->Bool
 | []=>jp
 |x::r=>!r.elem x&&cE r
theorem eM: ∀{l:List Nat},cE l=jp->l.Nodup
 | [],_=>XM
 |x::r,h=>by
  simp only[cE,XE,X0,List.elem_eq_mem,decide_eq_false_iff_not]at h;exact XB.2 ⟨h.1,eM h.2⟩
theorem wk{n0:Nat}{L:List Nat}{s t:AS}(h1:Xj t.nx (n0+L.length)=jp)(u:YR n0 s.nx=jp)(x:L.all (fun j=>Xm j s.nx)=jp)(hf:Hq t.nx (sg n0 L) s.f t.f)(hh:o6 t.nx (sg n0 L) s.h t.h)
  (y:cE (fq (sg n0 L) t.h)=jp):Wk n0 L s t:=
 ⟨Xh h1,WL u,fun j A=>WL (XC.1 x j A),hf,hh,eM y⟩
theorem wk0{n0:Nat}{s t:AS}(h1:t.nx=n0)(j:YR n0 s.nx=jp)(hf:Hq t.nx (sg n0 []) s.f t.f)(hh:t.h=[]):Wk n0 [] s t:=
 ⟨by simpa using h1,WL j,by simp,hf,by rw[hh];trivial,by rw[hh];exact XM⟩
section
variable {n i:Nat} {σ:Nat->Nat} {h r:AH}
theorem hC{cs:List PV}{j:Option TypeId}{c:List IV}(ho:h.get (σ i)=io (.cells cs j))(he:cs=c.map .iv)(hi:Xm i n=jp)(hr:o6 n σ h r):o6 n σ h ((i,io (aG c))::r):=
 ⟨⟨_,ho,G8 σ he⟩,WL hi,tt n c,hr⟩
theorem hR{α:Type}{sz:Nat}{es:List (List PV)}{l:List α}{f:α->List IV}(ho:h.get (σ i)=io (.row sz es))(he:es=l.map fun x=>(f x).map .iv)(hi:Xm i n=jp)(hr:o6 n σ h r):o6 n σ h ((i,io (aX sz l f))::r):=
 ⟨⟨_,ho,EJ σ he⟩,WL hi,eJ n,hr⟩
theorem hM{V:Type}{kc:KC}{ev:V->IV}{z:V}{x:Value}{j:PV->V}{m u:List (kc.K×V)}(ho:h.get (σ i)=io (.map kc ev z x j m))(he:m=u)(hi:Xm i n=jp)(hr:o6 n σ h r):o6 n σ h ((i,io (.map kc ev z x j u))::r):=
 ⟨⟨_,ho,.of_eq (by rw[he];rfl)⟩,WL hi,ac,hr⟩
theorem Sr{V:Type}{kc:KC}{ev:V->IV}{z:V}{u:Value}{x:PV->V}(ho:h.get (σ i)=io .ft)(A: ∀M,IR M (ev z) u)(hi:Xm i n=jp)(hr:o6 n σ h r):o6 n σ h ((i,io (.map kc ev z u x []))::r):=
 ⟨⟨_,ho,id,fun M N U w j y=>⟨#[],0,y,⟨rfl,by simp,by simp,by simp,by simp⟩,A M⟩⟩,WL hi,ac,hr⟩
theorem hI{V:Type}{kc:KC}{ev:V->IV}{m:List (kc.K×V)}{vs y:List Nat}{C u:Option (kc.K×V)}(ho:h.get (σ i)=io (.bX kc ev m vs C))(he:vs=y)(hc:u=C∨u=is)(hi:Xm i n=jp)(hr:o6 n σ h r):o6 n σ h ((i,io (.bX kc ev m y u))::r):=by
 refine⟨⟨_,ho,id,fun M N U w j D=>?_⟩,WL hi,ac,hr⟩;subst he;rcases hc with rfl|rfl
 .exact D
 .rcases D with⟨h1,A,_,B⟩|⟨b,ents,clock,x,h1,A,G,B,I,J,Y⟩
  .exact .inl ⟨h1,A,rfl,B⟩
  .exact .inr ⟨b,ents,clock,x,h1,A,G,B,I,J,by simp⟩
end
theorem dA{ty:Ty}{j:List ResultVar}{e:Exit}{s:AS}{α:Type}[Inhabited α]{i n sz:Nat}{es:List (List PV)}{L:List α}{f:α->List IV}(he:e= .normal∨e= .ret)(h:je ty s j=io (.sl i 0 n sz))(hi:s.h.get i=io (.row sz es))
  (hes:es=L.map fun x=>(f x).map .iv) (hn:n=L.length):Hh ty j (.iv (aW sz L f)) e s:=by
 refine⟨he,_,h,.row i (fun k=>f (L.getD k co)) hi (cU hes) ?_ (.done ?_)⟩
 .subst hes;subst hn;simp[PV.bb]
 .have:Xj i i=jp:=by simp
  simp only[PV.dF,this,cond_true,Xd];subst hn;exact .refl _
theorem ae.bk{b c:Bool}(h:b=c):ae (pB b) (.kb c):=fun _ _ _ _ j=>by
 subst h;cases j with
 |iv _ _ h=>cases h;exact .kb _
theorem ae.row{i n m sz:Nat}(h:n=m):ae (.sl i 0 n sz) (.sl i 0 m sz):= .of_eq (by rw[h])
section
variable {α:Type} [Inhabited α] {l:List α} {f:α->Bool} {i:Nat}
theorem c5(h:(l.take i).any f=kw)(hi:i<l.length):((l.take (i+1)).any f=kw↔f (l.getD i co)=kw):=by
 rw[Zx hi,List.any_append,h,WQ,WU hi];simp
theorem FG(hi:i<l.length)(h:f (l.getD i co)=jp):l.any f=jp:=by
 rw[WQ,WU hi]at h;exact Yf.2 ⟨_,XF hi,h⟩
omit [Inhabited α] in
theorem any_none(h:(l.take i).any f=kw)(hi:l.length<=i):l.any f=kw:=by
 rwa[W9 hi]at h
theorem bS(hi:i<l.length):l.take (i+1)=l.take i++ [l.getD i co]:=by
 rw[Zx hi,WQ,WU hi];rfl
theorem iD{β:Type}{g:β->α->β}{b:β}(hi:i<l.length):(l.take (i+1)).foldl g b=g ((l.take i).foldl g b) (l.getD i co):=by
 rw[bS hi,List.foldl_append];rfl
end
theorem gd{P:Program}{nt:NT}{Q:AQ}{k:List KI}{s:AS}{body:Code}{K:Type}(m:List K)(I:List Nat->AS)(J:List Nat->Prop)(C:List Nat)(j0:J [])(h0:Wk s.nx C s (I []))
  (y: ∀vs:List Nat,J vs->GO P nt (.code body:: .lp (fun t=> ∃j x,m[j]? =io x∧j∉vs∧J (j::vs)∧ ∃L,Wk s.nx L t (I (j::vs)))::k) Q (I vs)):GO P nt (.code (.loop body)::k) Q s:=by
 refine iC (σ:={vs:List Nat//vs.Nodup∧(∀j∈vs,j<m.length)∧J vs}) (fun v=>I v.1) (fun v=>m.length-v.1.length) ⟨[],XM,by simp,j0⟩ C h0 fun v=>?_;obtain⟨vs,h1,D,G⟩:=v;refine ny ?_ (y vs G)
 rintro t ⟨j,x,g1,g2,g3,L,g4⟩;have Y:j<m.length:=(WT.1 g1).1;have u: ∀i∈j::vs,i<m.length:=by
  intro i hi;rcases Xa.1 hi with rfl|hi
  .exact Y
  .exact D i hi
 have B:(j::vs).Nodup:=XB.2 ⟨g2,h1⟩;have A:(j::vs).length<=m.length:=by
  have:=Yc B (l₂:=Xq m.length) (fun i hi=>Yn.2 (u i hi));simpa using this
 refine⟨⟨j::vs,B,u,g3⟩,L,?_,g4⟩;show m.length-(j::vs).length<m.length-vs.length;simp only[Xn]at A ⊢;omega
def bf(P:Program)(k:FuncId)(args:List PV)(os:List AO)(r:PV)(h:AH)(n:Nat):Prop:=Fn P k args os fun q j u=>q=r∧j=h∧u=n
def sB:List AO->List AO->Prop
 | [],[]=>True
 |p::r,q::s=>eR p q∧sB r s
 |_,_=>False
theorem sB.length: ∀{a b:List AO},sB a b->a.length=b.length
 | [],[],_=>rfl
 |_::_,_::_,h=>congrArg (· +1) (sB.length h.2)
 | [],_::_,h=>h.elim
 |_::_,[],h=>h.elim
theorem sB.get: ∀{a b:List AO},sB a b-> ∀(j:Nat) (q:AO),b[j]? =io q-> ∃p,a[j]? =io p∧eR p q
 | [],[],_,j,q,h=>by simp at h
 |p::r,q0::s,hh,j,q,h=>by
  cases j with
  |zero=>simp at h;subst h;exact⟨p,rfl,hh.1⟩
  |succ j=>simpa using sB.get hh.2 j q (by simpa using h)
 | [],_::_,hh,_,_,_=>hh.elim
 |_::_,[],hh,_,_,_=>hh.elim
theorem Fn.Qb{P:Program}{k:FuncId}{args:List PV}{os ps:List AO}{R:PV->AH->Nat->Prop}(h:Fn P k args os R)(C:sB ps os):Fn P k args ps R:=by
 have D:=C.length;have u: ∀i o,(cK 0 os).get i=io o-> ∃p,(cK 0 ps).get i=io p∧eR p o:=by
  intro i o hi;rw[tc,am (W2 _)]at hi ⊢;exact C.get _ _ hi
 refine⟨h.1,fun M N w vs hr hl hv=>?_⟩;rw[D]at hr hv ⊢;have J:Rel M N (· <os.length) (cK 0 os) w:=by
  refine⟨hr.dF,fun i o hi=>?_,fun i o hi Y=>?_,fun i o hi=>?_,fun i j o p hi hj G hp he=>?_⟩
  .obtain⟨p,h1,y⟩:=u i o hi;exact hr.used i p h1
  .obtain⟨p,h1,y⟩:=u i o hi;exact hr.dM i p h1 (y.1 Y)
  .obtain⟨p,h1,y⟩:=u i o hi;exact y.2 _ _ _ _ _ (hr.obj i p h1)
  .obtain⟨o',h1,y⟩:=u i o hi;obtain⟨p',A,B⟩:=u j p hj;exact hr.inj i j o' p' h1 A (y.1 G) (B.1 hp) he
 refine(h.2 M N w vs J hl hv).mono ?_;rintro e w' ⟨x,M',N',r,h',n',rfl,hR,hx,hrr,hvr⟩;refine⟨x,M',N',r,h',n',rfl,hR,⟨hx.os,hx.tape,hx.output,hx.size,fun b hb hn=>hx.gK b hb fun i o hi G=>?_,hx.oC,fun b c h1 y=>?_,hx.nm,hx.ule,fun i o hi G=>?_⟩,hrr,hvr⟩
 .obtain⟨p,h1,y⟩:=u i o hi;exact hn i p h1 (y.1 G)
 .rcases hx.iK b c h1 y with A|⟨i,o,A,B,I⟩
  .exact .inl A
  .obtain⟨p,g1,g2⟩:=u i o A;exact .inr ⟨i,p,g1,g2.1 B,I⟩
 .rcases hx.gx i o hi G with A|⟨j,q,A,B,I⟩
  .exact .inl A
  .obtain⟨p,g1,g2⟩:=u j q A;exact .inr ⟨j,p,g1,g2.1 B,I⟩
theorem bf.Qb{P:Program}{k:FuncId}{args:List PV}{os u:List AO}{r:PV}{h:AH}{n:Nat}(hc:bf P k args os r h n)(j:sB u os):bf P k args u r h n:=Fn.Qb hc j
theorem bf.le{P:Program}{k:FuncId}{aa args:List PV}{os:List AO}{r:PV}{h:AH}{n:Nat}(hc:bf P k args os r h n)(j:hQ aa args):bf P k aa os r h n:=Fn.le hc j
theorem Pure.nX{P:Program}{k:FuncId}{args:List PV}{r:PV}(h:Pure P k args r):bf P k args [] r [] 0:=h
section
variable {P:Program} {ty:Ty} {nt:NT} {Q:AQ} {k:List KI} {s:AS}
theorem Aj{o:Oper}{c:Call}{g:FuncId}{asv args:List PV}{os:List AO}{r:PV}{y:AH}{A:Nat}{s':AS}(L:List Nat)(hc:bf P g args os r y A)(ho:o.op= .call c)(ha:bN s.f c=io (g,asv))
  (hn:cE L=jp) (hl:L.all (fun j=>Xm j s.nx)=jp) (x:L.map s.h.get=os.map fun o=>io (o.b3 (sig L s.nx))) (u:asv=dc (sig L s.nx) args) (hp:putDst nt o (r.b3 (sig L s.nx)) (aB s L y A)=io s'):
  OT P nt o s (fun t=>t=s'):=
 lJ ho ha hc (eM hn) (fun j B=>WL (XC.1 hl j B)) x u (by rintro q C n0 ⟨rfl,rfl,rfl⟩;exact⟨s',hp,rfl⟩)
theorem ai{all rest:List Oper}{o:Oper}{c:Call}{g:FuncId}{asv args:List PV}{os:List AO}{r:PV}{y:AH}{A:Nat}{s':AS}(L:List Nat)(hc:bf P g args os r y A)(ho:o.op= .call c)(hg:o.guard=is)(ha:bN s.f c=io (g,asv))
  (hn:cE L=jp) (hl:L.all (fun j=>Xm j s.nx)=jp) (x:L.map s.h.get=os.map fun o=>io (o.b3 (sig L s.nx))) (u:asv=dc (sig L s.nx) args) (hp:putDst nt o (r.b3 (sig L s.nx)) (aB s L y A)=io s')
  (h:GO P nt (.ops all rest::k) Q s'):GO P nt (.ops all (o::rest)::k) Q s:=
 bB hg (Aj L hc ho ha hn hl x u hp) fun t ht=>by subst ht;exact h
theorem iY(B:bp P ty){all:List Oper}{todo pend:List (Nat×Oper)}{j:Nat}{o:Oper}{s':AS}{Y J:Prop}(hrd:dw todo=[(j,o)])(hg:bQ nt all s.f o=io jp)(hpb:gX all pend o=jp)(hE:nI todo [j]=jp)
  (hag:lX ty nt all s todo pend=io Y) (hCA:Y) (D:OT P nt o s (fun t=>t=s')) (hag2:c6 ty nt all s' (a7 pend o)=io J) (hC2:J)
  (h:GO P nt (.bR all (todo.filter fun x=>!Xj x.1 j) (a7 pend o)::k) Q s'):GO P nt (.bR all todo pend::k) Q s:=by
 have A:(j,o)∈dw todo:=by rw[hrd];simp
 obtain⟨h3,C⟩:=Xu.1 A;simp only[X0,YG,XL]at C;have u: ∀y∈todo,aS y.2=jp-> ∀y∈pend,fb P nt all s y.2:=by
  intro y G I;unfold lX at hag;split at hag
  .exact cy B hag hCA
  .rename_i h2;have:=XL.1 h2 y G;rw[I]at this;exact absurd Z this
 refine pr hE ⟨_,h3,C.1⟩ u fun j' o' hj _ hu=>?_;simp only[W1]at hj;subst hj;have:=hu o h3;subst this;exact⟨C.1,fun y G _=>by simpa using C.2 y G,hpb,hg,_,D,fun t ht=>by subst ht;exact⟨cy B hag2 hC2,h⟩⟩
theorem bg(A:bp P ty){all:List Oper}{todo pend:List (Nat×Oper)}{j:Nat}{o:Oper}{c:Call}{g:FuncId}{asv args:List PV}{os:List AO}{r:PV}{D:AH}{G:Nat}{s':AS}{C B:Prop}(L:List Nat)(hc:bf P g args os r D G)
  (hrd:dw todo=[(j,o)]) (ho:o.op= .call c) (ha:bN s.f c=io (g,asv))
  (hn:cE L=jp) (hl:L.all (fun j=>Xm j s.nx)=jp) (y:L.map s.h.get=os.map fun o=>io (o.b3 (sig L s.nx))) (u:asv=dc (sig L s.nx) args) (hp:putDst nt o (r.b3 (sig L s.nx)) (aB s L D G)=io s')
  (hg:bQ nt all s.f o=io jp) (hpb:gX all pend o=jp) (hE:nI todo [j]=jp)
  (hag:lX ty nt all s todo pend=io C) (hCA:C) (hag2:c6 ty nt all s' (a7 pend o)=io B) (hC2:B)
  (h:GO P nt (.bR all (todo.filter fun x=>!Xj x.1 j) (a7 pend o)::k) Q s'):GO P nt (.bR all todo pend::k) Q s:=
 iY A hrd hg hpb hE hag hCA (Aj L hc ho ha hn hl y u hp) hag2 hC2 h
def D7(ty:Ty)(l:List ResultVar)(m:Nat)(r:PV)(h:AH)(n:Nat):AQ:=OE ty l m fun q j u=>q=r∧j=h∧u=n
theorem ak {nt:Nat} (y:bp P ty) {g:FuncId} {fn:Func} {c:Code} (hf:P.funcs[g]? =io fn) (hb:fn.body=io c) (hn:(fn.name== "runtime.NumGoroutine")=kw) (x:fn.ntmps=nt)
  {l:List ResultVar} (hl:fn.results.toList=l) {args:List PV} (u:args.length<=nt) {os:List AO} {r:PV} {h:AH} {n:Nat}
  (j:GO P nt [.code c] (D7 ty l os.length r h n) ⟨mN 0 args,cK 0 os,os.length⟩):bf P g args os r h n:=lU y hf hb hn x hl u j
theorem ar{l:List ResultVar}{m:Nat}{r r0:PV}{h:AH}{n:Nat}{e:Exit}(L:List Nat)(he:e= .normal∨e= .ret)(hr:je ty s l=io r0)(hw:Wk m L ⟨[(0,r0)],s.h,s.nx⟩ ⟨[(0,r)],h,n⟩):D7 ty l m r h n e s:=
 ⟨he,r0,hr,.done ⟨r,h,n,L,⟨rfl,rfl,rfl⟩,hw⟩⟩
end
theorem fH.map{h:AH}{n:Nat}{r:PV}{K:AH->PV->Prop}(i:Nat){kc:KC}{V:Type}{e:V->IV}{z:V}{j:Value}{A:PV->V}{m:List (kc.K×V)}(hi:h.get i=io (.map kc e z j A m))
  (hk:fH ((i,is)::h.gh i (.eO kc e z j m)) n (r.gh i (.eO kc e z j m)) K):fH h n r K:=by
 intro M N w hr;obtain⟨u,h1,C,_,D⟩:=sa hr hi;obtain⟨y,B,I,g1,g2,g3,g4⟩:=hk u N w C;exact⟨y,B,I,h1.trans g1,g2,fun x G=>g3 x (D _ _ G),g4⟩
mutual
def PV.JE(i:Nat)(l:List IV):PV->PV
 | .iv x=> .iv x
 | .agg cs=> .agg (Ck i l cs)
 | .aY cs=> .aY (Ck i l cs)
 | .ptr j o=>bif Xj j i then .iv (.lh (l.drop o)) else .ptr j o
 | .sl j off len sz'=> .sl j off len sz'
 | .cR j a b c=> .cR j a b c
 | .eS z j=> .eS z j
 | .og j o n=> .og j o n
 | .mp j=> .mp j
 | .cv fn a b=> .cv fn a b
 | .kb b=> .kb b
 | .any=> .any
def Ck(i:Nat)(l:List IV):List PV->List PV
 | []=> []
 |p::r=>PV.JE i l p::Ck i l r
end
theorem oK(i:Nat)(x:List IV): ∀l:List PV,Ck i x l=l.map (PV.JE i x)
 | []=>rfl
 |p::r=>by simp[Ck,oK i x r]
theorem G0{M:Mem}{N:Nm}{n:Nat}{h:AH}{w:World}(hr:Rel M N (· <n) h w){i:Nat}{l:List IV}{cs:List PV}{T0:Option TypeId}(hi:h.get i=io (.cells cs T0))(b0:cs=l.map .iv):
  ∃B,Ext M N (· <n) h w B N (· <n) ((i,is)::h) w∧Rel B N (· <n) ((i,is)::h) w∧ ∀p x,VR M N (· <n) p x->VR B N (· <n) (p.JE i l) x:=by
 subst b0;have Y:=hr.dM i _ hi Z;obtain⟨c,T,h1,G,h3,h4,h5⟩:=hr.obj i _ hi
 let B:Mem:=M.set (N.aA i) (.cells c) Y
 have hM:M.le B:=fun b d hb=>by
  simp only[B,Mem.set];by_cases u:b=N.aA i
  .rw[u,Y]at hb;cases hb
  .rw[be u];exact hb
 have hnew: ∀b d,M b=is->B b=io d->b=N.aA i:=fun b d h1 G=>by
  simp only[B,Mem.set]at G;by_cases u:b=N.aA i
  .exact u
  .rw[be u,h1]at G;cases G
 have C: ∀o,B.cell (N.aA i) o=c[o]? :=fun o=>by simp[Mem.cell,B,Mem.set]
 refine⟨B,?_,?_,fun p x hx=>?_⟩
 .exact⟨rfl,rfl,⟨rfl,WY _⟩,WY _,fun _ _ _=>rfl,hM,fun b d h1 G=> .inr ⟨i,_,hi,rfl,(hnew b d h1 G).symm⟩,.refl _ _,fun _ h=>h,fun j o A c0=> .inr ⟨j,o,(bm j o A).2,c0,rfl⟩⟩
 .refine⟨fun b d hb=>?_,fun j o A=>hr.used j o (bm j o A).2,fun j o A I=>?_,fun j o A=>?_,fun j k o p A hk=>hr.inj j k o p (bm j o A).2 (bm k p hk).2⟩
  .simp only[B,Mem.set]at hb;by_cases u:b=N.aA i
   .rw[am u]at hb;cases hb;exact⟨T,(0,0),by rw[u];exact h1⟩
   .rw[be u]at hb;exact hr.dF b d hb
  .obtain⟨g1,g2⟩:=bm j o A;simp only[B,Mem.set];rw[be fun e=>g1 (hr.inj j i o _ g2 hi I Z e)];exact hr.dM j o g2 I
  .obtain⟨g1,g2⟩:=bm j o A;exact(hr.obj j o g2).mono hM (.refl _ _) (fun _ h=>h) (hr.used j o g2) Z
 .induction hx with
  |iv x y h=>exact .iv _ _ (h.mono hM)
  |agg cs ys hl _ ih=>
   refine .agg _ _ (by simpa[oK]using hl) fun j q D=>?_;rw[oK,WX,WZ]at D;obtain⟨q0,J,rfl⟩:=D
   exact ih j q0 J
  |aY cs ys hl _ ih=>
   refine .aY _ _ (by simpa[oK]using hl) fun j q D=>?_;rw[oK,WX,WZ]at D;obtain⟨q0,J,rfl⟩:=D
   exact ih j q0 J
  |ptr j off h=>
   simp only[PV.JE];cases hb:Xj j i with
   |true=>
    have A:=Xh hb;subst A;have a0:l.length=c.size:=by simpa using h3
    refine .iv _ _ (.lh _ _ _ (fun k hk=>?_) fun k q D=>?_)
    .rw[XT]at hk;rw[C];simp[show off+k<c.size by omega]
    .rw[XK]at D;have d0:off+k<c.size:=by rw[<-a0];exact(WT.1 D).1
     have:=h4 (off+k) (.iv q) (by rw[WX,D];rfl);rw[C];rw[WM]at this;cases this with
     |iv _ _ h=>exact h.mono hM
   |false=>exact .ptr _ _ h
  |cR i sz k off h=>exact .cR _ _ _ _ h
  |eS z i h=>exact .eS _ _ h
  |og i o n h=>exact .og _ _ _ h
  |sl j off len sz' cap h h0 hl hc he=>exact .sl _ _ _ _ _ h h0 hl hc he
  |lq j sz' h=>exact .lq _ _ h
  |sle j sz' cap h hc he=>exact .sle _ _ _ h hc he
  |mp j h=>exact .mp _ h
  |cv fn first caps f' c' h1 G hr1 hr2 _ _=>exact .cv _ _ _ _ _ h1 G (fun j p A=>(hr1 j p A).mono hM (.refl _ _) (fun _ h=>h)) (fun j p A=>(hr2 j p A).mono hM (.refl _ _) (fun _ h=>h))
  |kb b=>exact .kb _
  |any x=>exact .any _
theorem fH.cells{h:AH}{n:Nat}{r:PV}{K:AH->PV->Prop}(i:Nat)(l:List IV){cs:List PV}{A:Option TypeId}(hi:h.get i=io (.cells cs A))(j:cs=l.map .iv)(hk:fH ((i,is)::h) n (r.JE i l) K):fH h n r K:=by
 intro M N w hr;obtain⟨u,h1,C,D⟩:=G0 hr hi j;obtain⟨y,B,I,g1,g2,g3,g4⟩:=hk u N w C;exact⟨y,B,I,h1.trans g1,g2,fun x G=>g3 x (D _ _ G),g4⟩
theorem gz{ty:Ty}{l:List ResultVar}{r r0:PV}{e:Exit}{s:AS}(he:e= .normal∨e= .ret)(h:je ty s l=io r0)(hk:fH s.h s.nx r0 fun _ j=>ae j r):Hh ty l r e s:=⟨he,r0,h,hk⟩
section
variable {P:Program} {ty:Ty} {nt:NT} {Q:AQ} {k:List KI} {s:AS}
theorem lD{all rest:List Oper}{o:Oper}{c:Call}{g:FuncId}{asv args:List PV}{os:List AO}{R:PV->AH->Nat->Prop}(L:List Nat)(hc:Fn P g args os R)(ho:o.op= .call c)(hg:o.guard=is)(ha:bN s.f c=io (g,asv))
  (hn:cE L=jp) (hl:L.all (fun j=>Xm j s.nx)=jp) (x:L.map s.h.get=os.map fun o=>io (o.b3 (sig L s.nx))) (u:asv=dc (sig L s.nx) args)
  (h: ∀r y A,R r y A-> ∃s',putDst nt o (r.b3 (sig L s.nx)) (aB s L y A)=io s'∧GO P nt (.ops all rest::k) Q s'):GO P nt (.ops all (o::rest)::k) Q s:=
 bB (R:=fun t=>GO P nt (.ops all rest::k) Q t) hg (lJ ho ha hc (eM hn) (fun j B=>WL (XC.1 hl j B)) x u h) fun t ht=>ht
theorem dz{R:PV->AH->Nat->Prop}{l:List ResultVar}{m:Nat}{r r0:PV}{h:AH}{n:Nat}{e:Exit}(L:List Nat)(he:e= .normal∨e= .ret)(hr:je ty s l=io r0)(hR:R r h n)(hw:Wk m L ⟨[(0,r0)],s.h,s.nx⟩ ⟨[(0,r)],h,n⟩):OE ty l m R e s:=
 ⟨he,r0,hr,.done ⟨r,h,n,L,hR,hw⟩⟩
end
theorem kM{P:Program}{nt:NT}{Q:AQ}{k:List KI}{s:AS}{c:Code}(i j sz:Nat){cs:List PV}{x:Option TypeId}(hi:s.h.get i=io (.cells cs x))(hj:cs[j]? =io (.iv (.v (.slice is 0 0))))
  (h:GO P nt (.code c::k) Q ⟨s.f,(i,io (.cells (cs.set j (.sl s.nx 0 0 sz)) x))::(s.nx,io (.row sz []))::s.h,s.nx+1⟩):GO P nt (.code c::k) Q s:=by
 intro M N a w hf;obtain⟨sf,sh,A⟩:=s;obtain⟨h1,h2⟩:=hf.1.CU sz;have D:i≠A:=fun e=>by have:=hf.1.used i _ hi;simp only at this;omega
 have u:AH.get ((A,io (AO.row sz []))::sh) i=io (.cells cs x):=by
  rw[AH.ax,be D];exact hi
 obtain⟨J,T,e1,e2,e3,Y,e5⟩:=h2.obj i _ u
 obtain⟨g1,g2⟩:=h2.write (i:=i) (o0:= .cells cs x) u Z w (.cells (cs.set j (.sl A 0 0 sz)) x) Z Z Z Z (fun _ _=>rfl) ⟨J,T,e1,e2,by rw[List.length_set];exact e3,fun k p y=>by
  rw[YD]at y;split at y
  .rename_i hk;subst hk;split at y
   .cases y;have:=Y j _ hj;generalize J.getD j undef=v at this ⊢;cases this with
    |iv _ _ h=>cases h with
     |v=>exact .lq _ _ (YA _)
   .cases y
  .exact Y k p y,e5⟩
 have B:Fits M N ⟨sf,(i,io (.cells (cs.set j (.sl A 0 0 sz)) x))::(A,io (.row sz []))::sh,A+1⟩ nt a w:=
  ⟨g2,fun k=>(hf.2.1 k).mono (.refl _) (.refl _ _) (fun i hi=>Ys hi),hf.2.2⟩
 exact AW.then h B fun e a2 w2 M2 N2 s2 I C G=>⟨M2,N2,s2,(h1.trans g1).trans I,C,G⟩
theorem fH.gu{h:AH}{n:Nat}{r:PV}{K:AH->PV->Prop}{α:Type}[Inhabited α](i:Nat){sz:Nat}{es:List (List PV)}(L:List α)(f:α->List IV)(hi:h.get i=io (.row sz es))(hes:es=L.map fun x=>(f x).map .iv)
  (j:r.bb i sz L.length) (hk:fH ((i,is)::h) n (r.dF i sz fun k=>f (L.getD k co)) K):fH h n r K:=
 .row i (fun k=>f (L.getD k co)) hi (cU hes) (by subst hes;simpa using j) hk
def AO.jY(i sz:Nat)(el:Nat->List IV):AO->AO
 | .cells cs T=> .cells (n9 i sz el cs) T
 |o=>o
def AO.mg(i sz n:Nat):AO->Prop
 | .cells cs _=>a8 i sz n cs
 | .row _ es=> ∀(k:Nat) (e:List PV) (j:Nat) (p:PV),es[k]? =io e->e[j]? =io p-> ∃y,p= .iv y
 |_=>True
def AH.jY(i sz:Nat)(el:Nat->List IV):AH->AH
 | []=> []
 |(k,is)::r=>(k,is)::AH.jY i sz el r
 |(k,io o)::r=>(k,io (o.jY i sz el))::AH.jY i sz el r
def AH.mg(i sz n:Nat):AH->Prop
 | []=>True
 |(_,is)::r=>AH.mg i sz n r
 |(_,io o)::r=>o.mg i sz n∧AH.mg i sz n r
def AF.jY(i sz:Nat)(el:Nat->List IV):AF->AF
 | []=> []
 |(d,p)::r=>(d,p.dF i sz el)::AF.jY i sz el r
def AF.mg(i sz n:Nat):AF->Prop
 | []=>True
 |(_,p)::r=>p.bb i sz n∧AF.mg i sz n r
theorem AH.jK(i sz:Nat)(el:Nat->List IV): ∀(h:AH) (j:Nat),(AH.jY i sz el h).get j=(h.get j).map (AO.jY i sz el)
 | [],_=>rfl
 |(k,is)::r,j=>by
  simp only[AH.jY,AH.ax,AH.jK i sz el r j];split<;>rfl
 |(k,io o)::r,j=>by
  simp only[AH.jY,AH.ax,AH.jK i sz el r j];split<;>rfl
theorem AH.lv{i sz n:Nat}: ∀{h:AH} (_:h.mg i sz n) (j:Nat) (o:AO),h.get j=io o->o.mg i sz n
 | [],_,j,o,ho=>nomatch ho
 |(k,is)::r,hh,j,o,ho=>by
  rw[AH.ax]at ho;split at ho
  .cases ho
  .exact AH.lv (h:=r) hh j o ho
 |(k,io q)::r,hh,j,o,ho=>by
  rw[AH.ax]at ho;split at ho
  .cases ho;exact hh.1
  .exact AH.lv (h:=r) hh.2 j o ho
theorem AF.jK(i sz:Nat)(el:Nat->List IV): ∀(f:AF) (d:Nat),(AF.jY i sz el f).get d=(f.get d).dF i sz el
 | [],_=>rfl
 |(k,p)::r,d=>by
  simp only[AF.jY,AF.ax,AF.jK i sz el r d];split<;>rfl
theorem AF.lv{i sz n:Nat}: ∀{f:AF} (_:f.mg i sz n) (d:Nat),(f.get d).bb i sz n
 | [],_,d=>trivial
 |(k,p)::r,h,d=>by
  rw[AF.ax];split
  .exact h.1
  .exact AF.lv (f:=r) h.2 d
theorem AO.th(i sz:Nat)(el:Nat->List IV)(o:AO):(o.jY i sz el).real=o.real:=by
 cases o<;>rfl
theorem km{P:Program}{nt:NT}{Q:AQ}{k:List KI}{s:AS}{c:Code}(i:Nat){sz:Nat}{es:List (List PV)}(el:Nat->List IV)(hi:s.h.get i=io (.row sz es))(G: ∀k e,es[k]? =io e->e=(el k).map .iv)
  (hf:s.f.mg i sz es.length) (hh:s.h.mg i sz es.length) (h:GO P nt (.code c::k) Q ⟨s.f.jY i sz el,(i,is)::s.h.jY i sz el,s.nx⟩):GO P nt (.code c::k) Q s:=by
 intro M N a w u;obtain⟨D,h1,x,h4⟩:=pt u.1 hi G;have hM:M.le D:=h1.oC;have B: ∀j o,AH.get ((i,is)::s.h.jY i sz el) j=io o-> ∃p,AH.get ((i,is)::s.h) j=io p∧s.h.get j=io p∧o=p.jY i sz el:=by
  intro j o y;obtain⟨g1,g2⟩:=bm j o y;rw[AH.jK,WZ]at g2;obtain⟨p,g3,g4⟩:=g2;exact⟨p,by rw[AH.ax,be g1];exact g3,g3,g4.symm⟩
 have hE:Ext M N (· <s.nx) s.h w D N (· <s.nx) ((i,is)::s.h.jY i sz el) w:=⟨h1.os,h1.tape,h1.output,h1.size,h1.gK,h1.oC,h1.iK,h1.nm,h1.ule,fun j o y A=>by
  obtain⟨p,g1,_,rfl⟩:=B j o y;rw[AO.th]at A
  exact h1.gx j p g1 A⟩
 have hR:Rel D N (· <s.nx) ((i,is)::s.h.jY i sz el) w:=by
  refine⟨x.dF,fun j o y=>?_,fun j o y A=>?_,fun j o y=>?_,fun j k o p y hk ho hp=>?_⟩
  .obtain⟨p,g1,_,rfl⟩:=B j o y;exact x.used j p g1
  .obtain⟨p,g1,_,rfl⟩:=B j o y;rw[AO.th]at A;exact x.dM j p g1 A
  .obtain⟨p,g1,g2,rfl⟩:=B j o y;cases p with
   |cells cs T0=>
    obtain⟨c,T,q1,q2,q3,q4,q5⟩:=u.1.obj j _ g2;have hok:=AH.lv hh j _ g2;refine⟨c,T,q1,q2,by simpa[eD]using q3,fun k q hq=>?_,q5⟩;rw[eD,WX,WZ]at hq;obtain⟨q0,C,rfl⟩:=hq;exact h4 _ _ (q4 k q0 C) (fc hok k q0 C)
   |row=>exact x.obj j _ g1
   |bw=>exact x.obj j _ g1
   |ft=>exact x.obj j _ g1
   |map=>exact x.obj j _ g1
   |bX=>exact x.obj j _ g1
   |ey=>exact x.obj j _ g1
   |ix=>exact x.obj j _ g1
   |eB=>exact x.obj j _ g1
   |oD=>exact x.obj j _ g1
  .obtain⟨o',g1,_,rfl⟩:=B j o y;obtain⟨p',g2,_,rfl⟩:=B k p hk;rw[AO.th]at ho hp;exact x.inj j k o' p' g1 g2 ho hp
 have I:Fits D N ⟨s.f.jY i sz el,(i,is)::s.h.jY i sz el,s.nx⟩ nt a w:=⟨hR,fun d=>by
  rw[AF.jK];exact h4 _ _ (u.2.1 d) (AF.lv hf d),u.2.2⟩
 exact AW.then h I fun e a2 w2 M2 N2 s2 a0 J Y=>⟨M2,N2,s2,hE.trans a0,J,Y⟩
def AO.gY(i sz:Nat)(el:Nat->List IV):AO->AO
 | .cells cs T=> .cells (n9 i sz el cs) T
 | .row s es=> .row s (es.map (n9 i sz el))
 |o=>o
def AO.vH(i sz n:Nat):AO->Prop
 | .cells cs _=>a8 i sz n cs
 | .row _ es=> ∀e∈es,a8 i sz n e
 |_=>True
def AH.gY(i sz:Nat)(el:Nat->List IV):AH->AH
 | []=> []
 |(k,is)::r=>(k,is)::AH.gY i sz el r
 |(k,io o)::r=>(k,io (o.gY i sz el))::AH.gY i sz el r
def AH.vH(i sz n:Nat):AH->Prop
 | []=>True
 |(_,is)::r=>AH.vH i sz n r
 |(_,io o)::r=>o.vH i sz n∧AH.vH i sz n r
theorem AH.px(i sz:Nat)(el:Nat->List IV): ∀(h:AH) (j:Nat),(AH.gY i sz el h).get j=(h.get j).map (AO.gY i sz el)
 | [],_=>rfl
 |(k,is)::r,j=>by
  simp only[AH.gY,AH.ax,AH.px i sz el r j];split<;>rfl
 |(k,io o)::r,j=>by
  simp only[AH.gY,AH.ax,AH.px i sz el r j];split<;>rfl
theorem AH.mf{i sz n:Nat}: ∀{h:AH} (_:h.vH i sz n) (j:Nat) (o:AO),h.get j=io o->o.vH i sz n
 | [],_,j,o,ho=>nomatch ho
 |(k,is)::r,hh,j,o,ho=>by
  rw[AH.ax]at ho;split at ho
  .cases ho
  .exact AH.mf (h:=r) hh j o ho
 |(k,io q)::r,hh,j,o,ho=>by
  rw[AH.ax]at ho;split at ho
  .cases ho;exact hh.1
  .exact AH.mf (h:=r) hh.2 j o ho
theorem AO.jl(i sz:Nat)(el:Nat->List IV)(o:AO):(o.gY i sz el).real=o.real:=by
 cases o with
 |row s es=>cases es<;>rfl
 |_=>rfl
def RA:List Code->Code->Code
 | [],r=>r
 |c::l,r=> .seq c (RA l r)
def y6:Nat->Code->List Code
 |n+1,.seq a b=>a::y6 n b
 |_,_=> []
def uQ:Nat->Code->Code
 |n+1,.seq _ b=>uQ n b
 |_,c=>c
theorem E2{P:Program}{nt:NT}{R:AQ}: ∀{l:List Code} {e:Exit} {s:AS},e≠ .normal->kp P nt (l.map KI.code) R e s->R e s
 | [],_,_,_,h=>h
 |c::l,e,s,he,h=>by
  cases e with
  |normal=>exact absurd Z he
  |_=>exact E2 (l:=l) he h
mutual
def yU:PV->Bool
 | .iv (.v _)=>jp
 | .iv _=>kw
 | .agg cs=>sy cs
 | .aY cs=>sy cs
 | .cv _ _ _=>kw
 |_=>jp
def sy:List PV->Bool
 | []=>jp
 |p::r=>yU p&&sy r
end
theorem mL: ∀{l:List PV},sy l=jp-> ∀(j:Nat) (p:PV),l[j]? =io p->yU p=jp
 | [],_,j,p,h=>by simp at h
 |c::l,hh,j,p,h=>by
  simp only[sy,XE]at hh;cases j with
  |zero=>simp at h;subst h;exact hh.1
  |succ j=>exact mL hh.2 j p (by simpa using h)
theorem wP{M A:Mem}{N:Nm}{U:Nat->Prop}{p:PV}{x:Value}(h:VR M N U p x):yU p=jp->VR A N U p x:=by
 induction h with
 |iv x y h=>
  intro hb;cases h with
  |v=>exact .iv _ _ (.v _)
  |_=>cases hb
 |agg cs ys hl hr ih=>exact fun hb=> .agg _ _ hl fun j p u=>ih j p u (mL hb j p u)
 |aY cs ys hl hr ih=>exact fun hb=> .aY _ _ hl fun j p u=>ih j p u (mL hb j p u)
 |ptr i off h=>exact fun _=> .ptr _ _ h
 |cR i sz k off h=>exact fun _=> .cR _ _ _ _ h
 |eS z i h=>exact fun _=> .eS _ _ h
 |og i off n h=>exact fun _=> .og _ _ _ h
 |sl i off len sz cap h h0 hl hc he=>exact fun _=> .sl _ _ _ _ _ h h0 hl hc he
 |lq i sz h=>exact fun _=> .lq _ _ h
 |sle i sz cap h hc he=>exact fun _=> .sle _ _ _ h hc he
 |mp i h=>exact fun _=> .mp _ h
 |cv=>intro hb;cases hb
 |kb b=>exact fun _=> .kb _
 |any=>exact fun _=> .any _
def CJ:AO->Prop
 | .row _ es=> ∀e∈es,sy e=jp
 | .cells cs _=>sy cs=jp
 |_=>False
theorem Kr{M D:Mem}{N:Nm}{U:Nat->Prop}{w:World}{i:Nat}{o:AO}(hb:CJ o)(h:OR M N U w i o):OR D N U w i o:=by
 cases o with
 |row sz es=>
  rcases h with h|⟨G,c,T,h1,x,y,A,B⟩
  .exact .inl h
  .exact .inr ⟨G,c,T,h1,x,y,A,fun k e j p C u=>wP (B k e j p C u) (mL (hb e (Xs C)) j p u)⟩
 |cells cs T0=>
  obtain⟨c,T,h1,x,y,A,B⟩:=h;exact⟨c,T,h1,x,y,fun j p u=>wP (A j p u) (mL hb j p u),B⟩
 |_=>exact hb.elim
section
variable {P:Program} {nt:NT} {Q:AQ} {k:List KI} {s:AS}
theorem CH{o:Oper}{c:Call}{g:FuncId}{asv args:List PV}(ho:o.op= .call c)(ha:bN s.f c=io (g,asv)){r:PV}{h':AH}{n':Nat}(hc:bf P g args [] r h' n')
  (i0:args.length=asv.length) (hlow:bq 0 args=jp)
  (f0: ∀M N w,Rel M N (· <s.nx) s.h w-> ∃M1:Mem,M.le M1∧Rel M1 N (· <s.nx) [] w∧ ∀(j:Nat) (p:PV) (x:Value),args[j]? =io p->(∀q,asv[j]? =io q->VR M N (· <s.nx) q x)->VR M1 N (· <s.nx) p x)
  (e0:yU (r.b3 (sig [] s.nx))=jp) (d0: ∀j o,(n3 (sig [] s.nx) h').get j=io o->CJ o)
  {s':AS} (hp:putDst nt o (r.b3 (sig [] s.nx)) (aB s [] h' n')=io s'):OT P nt o s (fun t=>t=s'):=by
 intro M N a w hf K Z hk;obtain⟨vs,a0,hl,hv⟩:=wv hf ho ha hc.1;unfold Oper.wp;rw[a0];simp only[Oper.upon];obtain⟨M1,m0,j0,k0⟩:=f0 M N w hf.1
 have J:=Fn.calls (s:=⟨s.f,[],s.nx⟩) (L:=[]) hc XM (by simp) rfl (M:=M1) (N:=N) (w:=w) j0 (vs:=vs) (by omega) (fun j p A=>by
  rw[PV.ke _ _ (gl hlow j p A)]
  exact k0 j p _ A fun q hq=>hv j q hq)
 refine J.mono ?_;rintro e Y ⟨x,M',N',r',h2,n2,rfl,⟨rfl,rfl,rfl⟩,hx,hr,hvr⟩;have B:N.agree N' (· <s.nx):=hx.nm;have D: ∀i,i<s.nx->i<s.nx+(n2-0):=fun i hi=>hx.ule i hi;have C: ∀b,b<w.heap.size->Y.heap[b]? =w.heap[b]? :=fun b hb=>hx.gK b hb fun i o hi=>(nomatch hi)
 have g0:(aB ⟨s.f,[],s.nx⟩ [] h2 n2).h=n3 (sig [] s.nx) h2:=by simp[aB,Cs]
 have y: ∀j o,(aB s [] h2 n2).h.get j=io o->(n3 (sig [] s.nx) h2).get j=io o∨s.h.get j=io o:=by
  intro j o A;simp only[aB,Cs,Xg]at A;rw[AH.get_append]at A;split at A
  .exact .inl A
  .exact .inr A
 rw[g0]at hr hx;have hnew: ∀j o,(n3 (sig [] s.nx) h2).get j=io o->o.real=jp->w.heap.size<=N'.aA j:=by
  intro j o A u;rcases hx.gx j o A u with h|⟨i,p,hi,_⟩
  .exact h
  .exact nomatch hi
 have hR:Rel M N' (· <s.nx+(n2-0)) (aB s [] h2 n2).h Y:=by
  refine⟨fun b d hb=>(hf.1.dF b d hb).mono (C b (hf.1.dF b d hb).lt),fun j o A=>?_,fun j o A u=>?_,fun j o A=>?_,fun i j o p hi A G I e=>?_⟩
  .rcases y j o A with h|h
   .exact hr.used j o h
   .exact D j (hf.1.used j o h)
  .rcases y j o A with h|h
   .have:=hnew j o h u;cases hm:M (N'.aA j) with
    |none=>rfl
    |some d=>have:=(hf.1.dF _ d hm).lt;omega
   .rw[B.aA j (hf.1.used j o h)];exact hf.1.dM j o h u
  .rcases y j o A with h|h
   .exact Kr (d0 j o h) (hr.obj j o h)
   .cases u:o.real with
    |true=>exact(hf.1.obj j o h).mono (.refl _) B D (hf.1.used j o h) (C _ ((hf.1.obj j o h).lt u))
    |false=>
     cases o with
     |row sz es=>cases es with
      |nil=>exact .inl rfl
      |cons=>cases u
     |bw l T=>cases l with
      |nil=>exact .inl rfl
      |cons=>cases u
     |_=>cases u
  .rcases y i o hi with h1|h1<;>rcases y j p A with h2'|h2'
   .exact hr.inj i j o p h1 h2' G I e
   .have:=hnew i o h1 G;rw[e,B.aA j (hf.1.used j p h2')]at this;have:=(hf.1.obj j p h2').lt I;omega
   .have:=hnew j p h2' I;rw[<-e,B.aA i (hf.1.used i o h1)]at this;have:=(hf.1.obj i o h1).lt G;omega
   .rw[B.aA i (hf.1.used i o h1),B.aA j (hf.1.used j p h2')]at e;exact hf.1.inj i j o p h1 h2' G I e
 have hX:Ext M N (· <s.nx) s.h w M N' (· <s.nx+(n2-0)) (aB s [] h2 n2).h Y:=
  ⟨hx.os,hx.tape,hx.output,hx.size,fun b hb _=>C b hb,.refl _,fun b d g1 g2=>absurd (g1.symm.trans g2) (by simp),B,D,fun j o A u=>by
   rcases y j o A with h|h
   .exact .inl (hnew j o h u)
   .exact .inr ⟨j,o,h,u,(B.aA j (hf.1.used j o h)).symm⟩⟩
 have c0:Fits M N' (aB s [] h2 n2) nt a Y:=⟨hR,hf.2.1.ext hX,hf.2.2⟩
 have b0:VR M N' (· <(aB s [] h2 n2).nx) (r'.b3 (sig [] s.nx)) x:=wP hvr e0;show K (a.put o.dst x) Y;cases hd:o.dst with
 |none=>
  have:=dL hp hd;subst this;exact hk M N' _ _ Y hX c0 rfl
 |some d=>
  obtain⟨h1,rfl⟩:=dK hp hd;exact hk M N' {aB s [] h2 n2 with f:=(d,r'.b3 (sig [] s.nx))::(aB s [] h2 n2).f} _ Y hX (c0.put d _ x h1 b0) rfl
theorem r9{all rest:List Oper}{o:Oper}{c:Call}{g:FuncId}{asv args:List PV}{r:PV}{A:AH}{G:Nat}{s':AS}(hc:bf P g args [] r A G)(ho:o.op= .call c)(hg:o.guard=is)(ha:bN s.f c=io (g,asv))
  (u:args.length=asv.length) (hlow:bq 0 args=jp)
  (D: ∀M N w,Rel M N (· <s.nx) s.h w-> ∃y:Mem,M.le y∧Rel y N (· <s.nx) [] w∧ ∀(j:Nat) (p:PV) (x:Value),args[j]? =io p->(∀q,asv[j]? =io q->VR M N (· <s.nx) q x)->VR y N (· <s.nx) p x)
  (C:yU (r.b3 (sig [] s.nx))=jp) (B: ∀j o,(n3 (sig [] s.nx) A).get j=io o->CJ o) (hp:putDst nt o (r.b3 (sig [] s.nx)) (aB s [] A G)=io s')
  (h:GO P nt (.ops all rest::k) Q s'):GO P nt (.ops all (o::rest)::k) Q s:=
 bB hg (CH ho ha hc u hlow D C B hp) fun t ht=>by subst ht;exact h
end
end
end Go.Al
namespace Go.Al
open Go.ChangeShapes Go.WideShapes Go.RowKit
section
def yx(W:World)(b:Nat):Option MB:=match W.heap[b]? with
 |some (.cells c _ _)=>io (.cells c)
 |some (.map es cl)=>io (.map es cl)
 |_=>is
def lK(W:World):Prop:= ∀b c,Ss b=io c-> ∃T j,W.heap[b]? =io (.cells c T j)
def Mem.qN(W:World)(h:lK W):Mem:=⟨yx W,fun b c hb=>by obtain⟨T,j,e⟩:=h b c hb;simp[yx,e]⟩
def S6:Nm:=⟨fun _=>0,fun _=>0⟩
theorem MN(W:World)(h:lK W):Rel (Mem.qN W h) S6 (· <0) [] W:=by
 refine⟨fun b c hb=>?_,fun i o hi=>by simp[AH.get]at hi,fun i o hi=>by simp[AH.get]at hi,fun i o hi=>by simp[AH.get]at hi,fun i j o p hi=>by simp[AH.get]at hi⟩;have u:yx W b=io c:=hb;unfold yx at u;split at u
 .rename_i y T x e;obtain rfl:=XP u;exact⟨T,x,e⟩
 .rename_i es cl e;obtain rfl:=XP u;exact e
 .cases u
theorem CF{W:World}{h:lK W}{b o:Nat}{v:Value}(hc:W.cell? ⟨b,o,is⟩=io v):(Mem.qN W h).cell b o=io v:=by
 show(match yx W b with|some (.cells c)=>c[o]? |_=>is)=io v;unfold World.cell? at hc;unfold yx;split at hc
 .rename_i c T j e;simp only at e;rw[e];simpa using hc
 .cases hc
def CR(M:Mem)(l:List IV)(cs:List Value):Prop:=l.length=cs.length∧ ∀j p,l[j]? =io p->IR M p (cs.getD j undef)
theorem CR.nil(M:Mem):CR M [] []:=⟨rfl,fun j p h=>by simp at h⟩
theorem CR.one{M:Mem}{p:IV}{v:Value}(h:IR M p v):CR M [p] [v]:=⟨rfl,fun j q u=>by
 cases j with
 |zero=>simp at u;subst u;simpa using h
 |succ j=>simp at u⟩
theorem CR.append{M:Mem}{l y:List IV}{cs u:List Value}(h:CR M l cs)(k:CR M y u):CR M (l++y) (cs++u):=by
 refine⟨by simp[h.1,k.1],fun j p x=>?_⟩;rcases XO j l.length with hj|hj
 .rw[Xb hj]at x;have:=h.2 j p x;rw[WQ]at this ⊢;rwa[Xb (by rw[<-h.1];exact hj)]
 .rw[Xc hj]at x;have:=k.2 _ p x;rw[WQ]at this ⊢;rw[Xc (by rw[<-h.1];exact hj),<-h.1];exact this
theorem CR.fm{M:Mem}{l r:List IV}{cs:List Value}{o n o':Nat}(h:CR M l ((cs.drop o).take n))(e:o'=o+n)(k:CR M r (cs.drop o')):CR M (l++r) (cs.drop o):=by
 subst e;have:=h.append k;rwa[<-List.drop_drop,Zf]at this
theorem CR.end_{M:Mem}{cs:List Value}{o:Nat}(h:cs.length=o):CR M [] (cs.drop o):=by
 rw[List.drop_eq_nil_of_le (by omega)];exact .nil M
theorem CR.agg{M:Mem}{N:Nm}{U:Nat->Prop}{l:List IV}{ys:Array Value}(h:CR M l ys.toList):VR M N U (ag l) (.agg ys):=by
 refine .agg _ _ (by simpa using h.1) fun j p u=>?_;rw[WX,WZ]at u;obtain⟨q,x,rfl⟩:=u;have:=h.2 j q x;exact .iv _ _ (by simpa[WM,WQ]using this)
theorem CR.le{M:Mem}{l x:List IV}{cs:List Value}(h:CR M l cs)(hl:l.length=x.length)(u: ∀(j:Nat) (p q:IV),l[j]? =io p->x[j]? =io q->jR p q):CR M x cs:=by
 refine⟨hl▸h.1,fun j q A=>?_⟩;have y:j<l.length:=by rw[hl];exact(WT.1 A).1
 exact u j _ q (WU y) A M _ (h.2 j _ (WU y))
theorem CR.DD{M:Mem}{p q:IV}{cs:List Value}(h:CR M [p] cs)(u:jR p q):CR M [q] cs:=
 h.le Z fun j A B x y=>by
  cases j with
  |zero=>simp at x y;subst x;subst y;exact u
  |succ j=>simp at x
section
variable {H:Type} {enc:TypeId×Value->H} {P:Program} {W:World} {hT:lK W} {sp:Nat->Bool} {held:Bool}
def Rd(enc:TypeId×Value->H)(P:Program)(W:World)(hT:lK W)(sp:Nat->Bool)(held:Bool)(t:TypeId){α:Type}(c:α->List IV)(Q:α->DataW H->Prop)(n:Nat):Prop:=
 ∀m,m<=n-> ∀j y,DataW.trod enc P W 0 sp held m t j=io y-> ∃x,CR (Mem.qN W hT) (c x) j∧Q x y.1
theorem Rd.mono{t:TypeId}{α:Type}{c:α->List IV}{Q:α->DataW H->Prop}{n m:Nat}(h:Rd enc P W hT sp held t c Q n)(hm:m<=n):Rd enc P W hT sp held t c Q m:=fun k hk=>h k (XR hk hm)
theorem kD{t:TypeId}{k:IntKind}(ht:P.underlying t=io (.int k))(n:Nat):Rd enc P W hT sp held t (fun z=> [.v (.int k z)]) (fun z d=>d= .lit (.int k z)∧(Lit.int k z).wf=jp) n:=by
 intro m _ u y h;cases m with
 |zero=>simp[DataW.trod]at h
 |succ m=>
  unfold DataW.trod at h;rw[ht]at h;split at h<;>simp_all;obtain⟨⟨rfl,j⟩,rfl⟩:=h;exact⟨_,.one (.v _),rfl,j⟩
theorem jj{t:TypeId}(ht:P.underlying t=io .string)(n:Nat):Rd enc P W hT sp held t (fun s=> [.v (.string s)]) (fun s d=>d= .lit (.string s.data.toList)∧s.size<=maxLen) n:=by
 intro m _ u y h;cases m with
 |zero=>simp[DataW.trod]at h
 |succ m=>
  unfold DataW.trod at h;rw[ht]at h;split at h<;>simp_all;rename_i s;obtain⟨j,rfl⟩:=h;exact⟨s,.one (.v _),rfl,j⟩
def QL{α:Type}(Q:α->DataW H->Prop)(l:List α)(d:DataW H):Prop:=
 ∃j:List (DataW H),(d= .nil∧j=[]∨ ∃sp,d= .slice j sp)∧l.length=j.length∧ ∀(i:Nat) (x:α) (e:DataW H),l[i]? =io x->j[i]? =io e->Q x e
theorem fR{α:Type}[Inhabited α]{t e:TypeId}{sz:Nat}{c:α->List IV}{Q:α->DataW H->Prop}{n:Nat}(ht:P.underlying t=io (.slice e))(hc:P.cellsOf e=sz)(D:0<sz)(hl: ∀x,(c x).length=sz)
  (he:Rd enc P W hT sp held e c Q n):Rd enc P W hT sp held t (fun l:List α=> [aW sz l c]) (QL Q) (n+1):=by
 intro m hm cs y h;rcases DataW.trod_slice ht h with⟨rfl,rfl⟩|⟨a,len,g0,B,rest,k,rfl,rfl,rfl,_,h1,h2,h3,h4,_⟩
 .exact⟨[],.one (.fL ..),[],.inl ⟨rfl,rfl⟩,rfl,fun i x e h=>by simp at h⟩
 have key: ∀i,i<len-> ∃x,(∃A,W.cells? 0 (a.add (i*sz)) sz=io A∧CR (Mem.qN W hT) (c x) A)∧ ∃y,B[i]? =io y∧Q x y.1:=by
  intro i hi;have h5:=h4 i hi;rw[hc,WU (by omega)]at h5;obtain⟨A,h6,h7⟩:=Option.bind_eq_some_iff.1 h5;obtain⟨x,h8,h9⟩:=he k (by omega) _ _ h7;exact⟨x,⟨A,h6,h8⟩,_,WU (by omega),h9⟩
 obtain⟨f,hf⟩:=Deep.choose_lt key;refine⟨(Xq len).map f,.one ?_,B.map (·.1),.inr ⟨_,rfl⟩,by simp[h3],fun i x e hx a0=>?_⟩
 .cases len with
  |zero=>exact .fL ..
  |succ len=>
   have j0: ∀i,i<len+1-> ∀j,j<sz->W.cell? ((a.add (i*sz)).add j)=((c (f i))[j]?).bind fun _=>(W.cell? ((a.add (i*sz)).add j)):=by
    intro i hi j C;rw[WU (by rw[hl];exact C)];rfl
   have u: ∀i,i<len+1-> ∀j,j<sz-> ∃v,W.cell? ⟨a.block,a.off+i*sz+j,is⟩=io v∧(∀p,(c (f i))[j]? =io p->IR (Mem.qN W hT) p v)∧a.spot=is:=by
    intro i hi j C;obtain⟨⟨A,h6,h8⟩,_⟩:=hf i hi;obtain⟨_,h9,G⟩:=World.cells?_some h6;have I:=G j C;rw[WU (by omega)]at I;have hs: ∀j,j<sz->(a.add (i*sz+j)).spot=is:=fun j C=>by
     have J:=G j C;rw[WU (by omega),Deep.add_add]at J;exact World.cell?_spot J
    have Y:a.add (i*sz+j)=⟨a.block,a.off+i*sz+j,is⟩:=by
     have:=hs j C;unfold Addr.add at this ⊢;split
     .rename_i h0;rw[am h0]at this;cases a;simp_all
     .rw[X3]
    refine⟨A[j]'(by omega),?_,fun p hp=>?_,?_⟩
    .rw[<-Y,<-Deep.add_add];exact I
    .have:=h8.2 j p hp;rwa[WQ,WU (by omega)]at this
    .obtain⟨⟨i0,g6,_⟩,_⟩:=hf 0 (by omega);obtain⟨_,g9,e0⟩:=World.cells?_some g6;have d0:=e0 0 D;rw[WU (by omega),Deep.add_add]at d0;have:=World.cell?_spot d0;simpa[Addr.add]using this
   have ha:io a=io (⟨a.block,a.off,is⟩:Addr):=by
    obtain⟨_,_,_,hs⟩:=u 0 (by omega) 0 D;cases a;simp_all
   rw[ha];have c0:((Xq (len+1)).map f).length=len+1:=by simp
   have b0: ∀k,k<len+1->((Xq (len+1)).map f).getD k co=f k:=fun k hk=>by
    simp[WQ,Zm hk]
   unfold aW;rw[c0];refine .bL _ _ _ _ _ _ h1 h2 (fun k _=>hl _) (fun k j hk C=>?_) (fun k j p hk hp=>?_)
   .obtain⟨v,hv,_⟩:=u k hk j C;rw[CF hv];rfl
   .rw[b0 k hk]at hp;have C:j<sz:=by rw[<-hl (f k)];exact(WT.1 hp).1
    obtain⟨v,hv,f0,_⟩:=u k hk j C;rw[CF hv];exact f0 p hp
 .have hi:i<len:=by simpa using(WT.1 hx).1
  obtain⟨_,y,hy,hq⟩:=hf i hi;rw[WX,hy]at a0;rw[WX,Zm hi]at hx;simp at a0 hx;subst a0;subst hx;exact hq
theorem nV{n:Nat}{j:Array Field}{cs:List Value}{xs:List (DataW H×List MemPlace)}(hf: ∀(i:Nat) (f:Field),j[i]? =io f->DataW.trod enc P W 0 sp held n f.type ((cs.drop f.offset).take (P.cellsOf f.type))=xs[i]?)
  (i:Nat) {f:Field} (h1:j[i]? =io f) {t o sz:Nat} (u:f.type=t) (y:f.offset=o) (A:P.cellsOf t=sz) {x:DataW H×List MemPlace} (B:xs[i]? =io x):DataW.trod enc P W 0 sp held n t ((cs.drop o).take sz)=io x:=by
 subst u;subst y;subst A;rw[hf i f h1,B]
end
section
variable {H:Type} {enc:TypeId×Value->H} {P:Program} {W W':World} {T:TypeId->Prop}
theorem F5{W W':World}(hk: ∀b,b<W.heap.size->W'.heap[b]? =W.heap[b]?){p:MemPlace}(hp:p.block<W.heap.size):W.sameAt W' p:=by
 cases p with
 |cell b o=>exact World.cell?_of_block (a:=⟨b,o,is⟩) (hk b hp)
 |map b=>exact hk b hp
theorem pW(K:Kids P T)(A: ∀{t e},T t->P.underlying t=io (.slice e)->0<P.cellsOf e)(hk: ∀b,b<W.heap.size->W'.heap[b]? =W.heap[b]?){sp:Nat->Bool}:
  ∀{ts:List TypeId} {vs:List Value} {y:List (DataW H)} {u:List MemPlace},(∀t∈ts,T t)->DataW.TrodAll enc P W 0 (fun _=>jp) jp ts vs y u->(∀p∈u,p.block<W.heap.size)->(∀p∈u,sp p.block=jp)->
   DataW.TrodAll enc P W' 0 sp jp ts vs y u
 | [],vs,y,u,_,h,_,_=>by
  obtain⟨rfl,rfl,rfl⟩:=trodAll_nil h;exact trodAll_mk0
 |t::ts,vs,y,u,hT,h,hlt,hsp=>by
  obtain⟨v,D,d,B,p,q,rfl,rfl,rfl,⟨n,h1⟩,C⟩:=trodAll_cons h;refine⟨p,q,⟨n,DataW.trod_stays K A (fun h=>by cases h) (hT t (by simp)) h1 (fun x j=>F5 hk (hlt x (XJ _ j))) (fun x j=>hsp x (XJ _ j))⟩,?_,rfl⟩;exact pW K A hk (fun t ht=>hT t (W5 _ ht)) C (fun x j=>hlt x (Yo _ j)) (fun x j=>hsp x (Yo _ j))
theorem Nu{W W':World}(u:W'.os=W.os)(j:W'.output=W.output)(hk: ∀b,b<W.heap.size->W'.heap[b]? =W.heap[b]?)(may:MemPlace->Prop):W.keptBut W' may:=by
 refine World.keptBut_mono (fun p x=>(x:False).elim) (World.keptBut_none_iff.2 ⟨u,j,hk⟩)
theorem zr{f:Func}{s:ChangeSpec}{y I A again:Bool}{args:Array Value}{v:Value}{C gs:List (DataW H)}{u:List MemPlace}
  (K:Kids P T) (hz: ∀{t e},T t->P.underlying t=io (.slice e)->0<P.cellsOf e) (e0: ∀t∈f.params.toList,T t) (B:s.vars=[])
  (hW:DataW.Whole enc P f.params.toList s.vars y W args.toList C gs u) (i0:W'.os=W.os) (a0:W'.output=W.output) (hk: ∀b,b<W.heap.size->W'.heap[b]? =W.heap[b]?)
  (G: ∀(b:Nat) (sp:Nat->Bool) (hd:Bool),DataW.TrodAll enc P W' b sp hd f.resultTypes.toList (v.resultList f.resultTypes.size) (s.fn H (C++gs)).results [])
  (J:(s.fn H (C++gs)).args=C) (k0:(s.fn H (C++gs)).vars=[])
  (hok: ∀(j:Nat) (t:TypeId) (r:Value),f.resultTypes[j]? =io t->(v.resultList f.resultTypes.size)[j]? =io r->Value.okWide P W' .any 0 t r):
  s.post enc P f y I A again W args v W':=by
 have Y: ∀p∈u,p.block<W.heap.size:=fun p hp=>by simpa using hW.lt p hp
 have D: ∀p∈u,(fun b=>lc (b<W.heap.size)) p.block=jp:=fun p hp=>by simpa using hW.lt p hp
 obtain⟨pa,pv,hA,hV,rfl,f0,g0⟩:=id hW;rw[B]at hV;obtain⟨rfl,rfl⟩:gs=[]∧pv=[]:=by
  cases gs with
  |nil=>exact⟨rfl,hV⟩
  |cons _ _=>exact hV.elim
 rw[XA]at Y D;have x: ∀sp:Nat->Bool,(∀p∈pa,sp p.block=jp)->DataW.TrodAll enc P W' 0 sp jp f.params.toList args.toList (s.fn H (C++ [])).args pa:=fun sp j0=>by
  rw[J];exact pW K hz hk e0 hA Y j0
 have c0: ∀sp:Nat->Bool,DataW.TrodVars enc P W' sp s.vars (s.fn H (C++ [])).vars []:=fun sp=>by
  rw[k0,B];rfl
 refine⟨C,[],pa++ [],[],pa,[],hW,G _ _ _,x _ D,c0 _,?_,fun _=>⟨hok,_,_,([]++pa)++ [],⟨[]++pa,[],trodAll_append (x _ (fun _ _=>rfl)) (G _ _ _),c0 _,rfl,?_,?_⟩,?_⟩⟩
 .exact Nu i0 a0 hk _
 .intro b d0 hp;have b0:MemPlace.cell b d0∈pa:=by simpa using hp
  have hb:=Y _ b0;have:=f0 b d0 (by simpa using b0);rw[<-this];simp only[World.frozen?];rw[hk b hb]
 .intro ha;have:=g0 ha;simpa using this
 .intro p hp _;simpa using hp
end
section
variable {P:Program} {ty:Ty} {nt:NT} {s:AS} {Q:AQ} {k:List KI}
def aO(c:UInt8):List IV:=[.v (.int .u8 (c.toNat:Int))]
theorem l9(w:World)(t u G e:TypeId)(i:TypeInfo)(ht:P.underlying t=io (.slice e))(hu:P.underlying u=io .string)(hi:P.info? e=io i)(D:i.size=1)(T:TypeId)
  (g j y:Nat) (x:Array Value) (hg:w.heap[g]? =io (.cells x T (0,0))) (b:ByteArray)
  (A:j+b.size<=y) (B:j+b.size<=x.size):
  (Builtin.append_ #[t,u] G #[.slice (io ⟨g,0,is⟩) j y,.string b]).run P w=
   .ok (.slice (io ⟨g,0,is⟩) (j+b.size) y) (w.setRow g (x.toList.take j++Lib.strCells b++x.toList.drop (j+b.size)).toArray):=by
 have hf:=Lib.run_firstCells_string (P:=P) w 1 b;have C:=run_storeCells_at P g j T (Lib.strCells b) 0 x w hg (by simpa[Lib.strCells_length]using B) (Lib.strCells_oneCell b);simp only[Yp,Lib.strCells_length]at C;simp[Builtin.append_,run_underlying ht,run_underlying hu,sizeOf,typeInfo,hi,D,Builtin.lenOf,A,hf,Addr.add_lit,C]
theorem gr(w:World)(t u B e:TypeId)(i:TypeInfo)(ht:P.underlying t=io (.slice e))(hu:P.underlying u=io .string)(hi:P.info? e=io i)(A:Option Addr)(x j:Nat)(y:x<=j)(b:ByteArray)(hb:b.size=0)(hs:A=is∨ ∃b o,A=io ⟨b,o,is⟩):
  (Builtin.append_ #[t,u] B #[.slice A x j,.string b]).run P w= .ok (.slice A x j) w:=by
 have hf:=Lib.run_firstCells_string (P:=P) w i.size b;have C:Lib.strCells b=[]:=Xz (by rw[Lib.strCells_length];exact hb);rw[hb,C]at hf;rcases hs with rfl|⟨g,o,rfl⟩
 .simp[Builtin.append_,run_underlying ht,run_underlying hu,sizeOf,typeInfo,hi,Builtin.lenOf,hb,y,hf]
 .simp[Builtin.append_,run_underlying ht,run_underlying hu,sizeOf,typeInfo,hi,Builtin.lenOf,hb,y,hf,storeCells]
def um(s:AS)(i:Nat)(l:List UInt8)(u:TypeId):AS:=⟨s.f,(s.nx,io (.bw l u))::(i,is)::s.h,s.nx+1⟩
theorem rB{i:Nat}{l:List UInt8}{u:TypeId}{M j:Mem}{N x:Nm}{a:Act}{w y:World}(hf:Fits M N s nt a w)(A:Ext M N (· <s.nx) s.h w j x (· <s.nx+1) ((s.nx,io (.bw l u))::(i,is)::s.h) y)
  (hr:Rel j x (· <s.nx+1) ((s.nx,io (.bw l u))::(i,is)::s.h) y):
  Ext M N (· <s.nx) s.h w j x (· <(um s i l u).nx) (um s i l u).h y∧Fits j x (um s i l u) nt a y:=
 ⟨A,hr,hf.2.1.ext A,hf.2.2⟩
theorem Rel.OH{M:Mem}{N:Nm}{w:World}{n:Nat}{h:AH}(hr:Rel M N (· <n) h w)(T:TypeId):Ext M N (· <n) h w M N (· <n+1) ((n,io (.bw [] T))::h) w∧Rel M N (· <n+1) ((n,io (.bw [] T))::h) w:=by
 have u: ∀i p,AH.get ((n,io (.bw [] T))::h) i=io p->(i=n∧p= .bw [] T)∨(i<n∧h.get i=io p):=by
  intro i p hi;rw[AH.ax]at hi;split at hi
  .rename_i B;exact .inl ⟨B,by simpa using hi.symm⟩
  .exact .inr ⟨hr.used i p hi,hi⟩
 refine⟨⟨rfl,rfl,⟨rfl,WY _⟩,WY _,fun _ _ _=>rfl,.refl _,fun b c h1 y=>by simp[h1]at y,.refl _ _,fun i hi=>by omega,fun i p hi x=>?_⟩,⟨hr.dF,fun i p hi=>?_,fun i p hi x=>?_,fun i p hi=>?_,fun i j p q hi I C D A=>?_⟩⟩
 .rcases u i p hi with⟨rfl,rfl⟩|⟨h1,y⟩
  .cases x
  .exact .inr ⟨i,p,y,x,rfl⟩
 .rcases u i p hi with⟨rfl,rfl⟩|⟨h1,y⟩<;>omega
 .rcases u i p hi with⟨rfl,rfl⟩|⟨h1,y⟩
  .cases x
  .exact hr.dM i p y x
 .rcases u i p hi with⟨rfl,rfl⟩|⟨h1,y⟩
  .exact .inl Z
  .exact(hr.obj i p y).mono (.refl _) (.refl _ _) (fun i hi=>by omega) h1 Z
 .rcases u i p hi with⟨rfl,rfl⟩|⟨h1,y⟩<;>rcases u j q I with⟨rfl,rfl⟩|⟨J,G⟩
  .rfl
  .cases C
  .cases D
  .exact hr.inj i j p q y G C D A
theorem Mr(x0:bp P ty){o:Oper}{x y:Operand}{t tu u:TypeId}(ho:o.op= .call ⟨.builtin .append, #[x,y], #[t,tu]⟩){e et eu:bD}(ht:ty t=io e)(hk:e.k= .aP (.slice u))(t1:ty tu=io et)(n1:et.k= .aP .string)(hu:ty u=io eu)
  {i len:Nat} {l:List UInt8} {b:ByteArray} (hx:ev s.f x= .sl i 0 len 1) (hi:s.h.get i=io (.bw l u)) (C:l.length=len) (s1:eu.size=1) (k1:eu.bytes=1) (hz:eu.zero= .int .u8 0)
  (p1:ev s.f y= .iv (.v (.string b))) (a2:len+b.size<=140737488355328)
  {s':AS} (hp:putDst nt o (.sl s.nx 0 (len+b.size) 1) (um s i (l++b.data.toList) u)=io s'):OT P nt o s (fun t=>t=s'):=by
 refine OT.value hp fun M N a w hf=>?_;obtain⟨⟨ii,g0,r0,q0,s0⟩,_⟩:=x0 u _ hu;rw[s1]at r0;rw[k1]at q0;rw[hz]at s0
 have k0:P.underlying t=io (.slice u):=by
  have:=(x0 t _ ht).2.1;rw[hk]at this;exact this.1
 have j0:P.underlying tu=io .string:=by
  have:=(x0 tu _ t1).2.1;rw[n1]at this;exact this.1
 have z0:=aN hf.2.1 x;rw[hx]at z0;have a1:=aN hf.2.1 y;rw[p1]at a1;have x1:a.eval y= .string b:=by
  generalize a.eval y=v at a1;cases a1 with
  |iv _ _ h=>cases h;rfl
 have A: ∀v w',(Builtin.append_ #[t,tu] o.type #[a.eval x,a.eval y]).run P w= .ok v w'->(execOp a.eval o).run P w= .ok (.value v) w':=by
  intro v w' h;simp only[execOp,ho,resolve];simp[invoke,builtin,h]
 rw[x1]at A;have b2:i<s.nx:=hf.1.used i _ hi;have m0:s.nx≠i:=by omega
 have o1:=hf.1.obj i _ hi;have f0:b.data.toList.length=b.size:=by simp
 have e0: ∀(j:Nat) (x:UInt8),b.data.toList[j]? =io x->(Lib.strCells b).getD j undef= .int .u8 (x.toNat:Int):=by
  intro j x hx;simp only[Lib.strCells,WQ,WX,hx,XW,XV]
 have b0: ∀z:Array Value,(∀(j:Nat) (x:UInt8),l[j]? =io x->z.getD j undef= .int .u8 (x.toNat:Int))->(∀j,j<b.size->z.getD (len+j) undef=(Lib.strCells b).getD j undef)->
   ∀(j:Nat) (x:UInt8),(l++b.data.toList)[j]? =io x->z.getD j undef= .int .u8 (x.toNat:Int):=by
  intro z h1 h2 j x D;rcases XO j l.length with hk|hk
  .rw[Xb hk]at D;exact h1 j x D
  .rw[Xc hk]at D;have t0:j-l.length<b.size:=by rw[<-f0];exact(WT.1 D).1
   have:=h2 _ t0;rw[e0 _ _ D,show len+(j-l.length)=j by omega]at this;exact this
 have Y: ∀(G:List Value) (a0:Nat),G.length=len->(∀(j:Nat) (x:UInt8),l[j]? =io x->G.getD j undef= .int .u8 (x.toNat:Int))->len+b.size<=a0->a0<=maxLen->0<len+b.size->
   ∀z:Array Value,z=G.toArray++(Lib.strCells b).toArray++Builtin.zeroCells (Value.int .u8 0).cells (a0-(len+b.size))->
   ∃M' J,Ext M N (· <s.nx) s.h w M' J (· <(um s i (l++b.data.toList) u).nx) (um s i (l++b.data.toList) u).h (w.drew.alloc (.cells z u))∧Fits M' J (um s i (l++b.data.toList) u) nt a (w.drew.alloc (.cells z u))∧
    VR M' J (· <(um s i (l++b.data.toList) u).nx) (.sl s.nx 0 (len+b.size) 1) (.slice (io ⟨w.heap.size,0,is⟩) (len+b.size) a0):=by
  intro G a0 f1 v1 o0 m1 v0 z b1;have z1:(Value.int IntKind.u8 0).cells.size=1:=rfl;have I:z.size=a0:=by
   rw[b1,Yr,Yr,size_zeroCells,z1];simp only[Y1,f1,Lib.strCells_length];omega
  obtain⟨J,h1,h2,h3,h4,h5⟩:=hf.1.drew.alloc (.cells z u) (.bw (l++b.data.toList) u) z.size (fun J g1 g2 g3=>by
   refine .inr ⟨z,by rw[g1];exact heap_alloc_new _ _,g2.symm,by rw[I,WO,C,f0];omega,b0 z (fun j x D=>?_) (fun j D=>?_)⟩
   .have c2:=(WT.1 D).1;have e1:z.getD j undef=G.getD j undef:=by
     rw[b1,WM,Zs,Xt (by simp;omega),WQ];simp
    rw[e1];exact v1 j x D
   .rw[b1,WM,Xt (by simp[Lib.strCells_length];omega),YJ (by simp;omega),WQ]
    simp[f1])
  have r1:=(h5.del i).swap (Ne.symm m0);have w1:=(((Ext.drew (M:=M) (N:=N) (U:=(· <s.nx)) (h:=s.h) (w:=w)).trans h4).del i).swap (Ne.symm m0);obtain⟨g1,g2⟩:=rB hf w1 r1;refine⟨M,J,g1,g2,?_⟩;have:=VR.sl (M:=M) (N:=J) (U:=(· <s.nx+1)) s.nx 0 (len+b.size) 1 a0 (by omega) v0 o0 m1 (by rw[h2,I];simp);rw[h1,Yq]at this;exact this
 generalize a.eval x=vx at z0 A;cases z0 with
 |lq _ _ hU=>
  have he:l=[]:=Xz C;subst he;by_cases hm:b.size=0
  .have n0:b.data.toList=[]:=Xz (by rw[f0];exact hm);have B:=gr (P:=P) w t tu o.type u ii k0 j0 g0 is 0 0 (WY _) b hm (.inl Z);obtain⟨h1,h2⟩:=hf.1.OH u;obtain⟨g1,g2⟩:=rB (i:=i) (l:=[]) (u:=u) hf ((h1.del i).swap (Ne.symm m0)) ((h2.del i).swap (Ne.symm m0));rw[n0,hm];exact⟨_,w,M,N,A _ _ B,g1,g2,.lq _ _ (by simp only[um];omega)⟩
  .have B:=run_append_nil_string (P:=P) w t tu o.type u ii (.int .u8 0) k0 j0 g0 s0 b (by omega) (by omega) (by rw[q0];omega);have e1:(b.data.map fun b=>Value.int .u8 b.toNat)=(Lib.strCells b).toArray:=by
    apply Array.ext';simp[Lib.strCells]
   rw[e1]at B;obtain⟨M',J,g1,g2,g3⟩:=Y [] (grownCap w b.size 0 u) Z (by simp) (by simpa using grownCap_ge w b.size 0 u) (grownCap_le_maxLen w _ _ _ (by simp only[maxLen];omega)) (by omega) _ Z;simp only[Xd,Xg,aag] at*
   exact⟨_,_,M',J,A _ _ B,by simpa using g1,by simpa using g2,by simpa using g3⟩
 |sl _ _ _ _ a0 hU h0 hl hc hext=>
  rcases o1 with rfl|⟨cur,q1,q2,q3,q4⟩
  .simp at C;omega
  have c0:(AO.bw l u).real=jp:=by cases l with
   |nil=>simp at C;omega
   |cons=>rfl
  rw[Yq]at A;have p0:cur.size=a0:=by rw[q2,<-hext];omega
  by_cases hm:b.size=0
  .have n0:b.data.toList=[]:=Xz (by rw[f0];exact hm);have B:=gr (P:=P) w t tu o.type u ii k0 j0 g0 (io ⟨N.aA i,0,is⟩) len a0 hl b hm (.inr ⟨_,_,rfl⟩)
   obtain⟨h1,h2⟩:=hf.1.move hi c0 w (.bw (l++ []) u) Z Z Z Z (fun _ _=>rfl) (by
    rw[XA]
    exact .inr ⟨cur,by simpa using q1,by simpa using q2,q3,q4⟩)
   obtain⟨g1,g2⟩:=rB (i:=i) hf h1 h2;rw[n0,hm];refine⟨_,w,M,_,A _ _ B,g1,g2,?_⟩;have:=VR.sl (M:=M) (N:=N.with s.nx (N.aA i) (N.ext i)) (U:=(· <s.nx+1)) s.nx 0 len 1 a0 (by omega) h0 hl hc (by simpa using hext);simpa[um]using this
  .by_cases d0:len+b.size<=a0
   .have B:=l9 (P:=P) w t tu o.type u ii k0 j0 g0 r0 u (N.aA i) len a0 cur q1 b d0 (by omega);generalize hL:(cur.toList.take len++Lib.strCells b++cur.toList.drop (len+b.size)).toArray=L at B;have d1:L.size=cur.size:=by rw[<-hL];simp[Lib.strCells_length];omega
    have w0:=setRow_heap w (N.aA i) cur L u (0,0) q1;have j1: ∀j,j<len->L.getD j undef=cur.getD j undef:=by
     intro j D;rw[<-hL,WM,WM];simp only[XD];rw[W6,Xb (by simp;omega),Xy,am D,Xo]
    have i1: ∀j,j<b.size->L.getD (len+j) undef=(Lib.strCells b).getD j undef:=by
     intro j D;rw[<-hL,WM,WQ];simp only[XD];rw[Xb (by simp[Lib.strCells_length];omega),Xc (by simp;omega)];congr 2;simp;omega
    obtain⟨h1,h2⟩:=hf.1.move hi c0 (w.setRow (N.aA i) L) (.bw (l++b.data.toList) u) Z Z Z (by simp) (fun b hb=>by
      simp only[World.setRow,Xp]
      rw[be (fun e=>hb e.symm)]) (by
     refine .inr ⟨L,by simpa using w0,by rw[d1];simpa using q2,by rw[d1,p0,WO,C,f0];omega,b0 L (fun j x D=>?_) i1⟩;rw[j1 j (by rw[<-C];exact(WT.1 D).1)]
     exact q4 j x D)
    obtain⟨g1,g2⟩:=rB (i:=i) hf h1 h2;refine⟨_,_,M,_,A _ _ B,g1,g2,?_⟩;have:=VR.sl (M:=M) (N:=N.with s.nx (N.aA i) (N.ext i)) (U:=(· <s.nx+1)) s.nx 0 (len+b.size) 1 a0 (by omega) (by omega) d0 hc (by simpa using hext);simpa[um]using this
   .have i0: ∀(j:Nat) (v:Value),(cur.toList.take len)[j]? =io v->w.cell? ((⟨N.aA i,0,is⟩:Addr).add j)=io v:=by
     intro j v hv;rw[Xy]at hv;split at hv
     .rw[c7,Xd];simp only[World.cell?,q1];simpa using hv
     .cases hv
    have B:=Lib.run_append_grow_string (P:=P) w t tu o.type u ii (.int .u8 0) k0 j0 g0 s0 ⟨N.aA i,0,is⟩ len a0 (cur.toList.take len) (by rw[r0];simp;omega) i0 b (by omega) (by omega)
     (by rw[q0];exact growslice_fits (by omega) (by omega))
    obtain⟨M',J,g1,g2,g3⟩:=Y (cur.toList.take len) (grownCap w (len+b.size) a0 u) (by simp;omega) (fun j x D=>by
      have:=q4 j x D;have t0:j<len:=by rw[<-C];exact(WT.1 D).1
      rw[WQ,Xy,am t0,Xo]
      rw[WM]at this;exact this) (grownCap_ge w _ _ _) (grownCap_le_maxLen w _ _ _ (by simp only[maxLen];omega)) (by omega) _ Z
    exact⟨_,_,M',J,A _ _ B,g1,g2,g3⟩
theorem Ny(J:bp P ty){all rest:List Oper}{o:Oper}{x y:Operand}{t tu u d:Nat}{e Y eu:bD}{i len:Nat}{l:List UInt8}{b:ByteArray}(ho:o.op= .call ⟨.builtin .append, #[x,y], #[t,tu]⟩)(hg:o.guard=is)(ht:ty t=io e)(hk:e.k= .aP (.slice u))(I:ty tu=io Y)(C:Y.k= .aP .string)(hu:ty u=io eu)
  (hx:ev s.f x= .sl i 0 len 1) (hi:s.h.get i=io (.bw l u)) (G:eu.size=1) (B:eu.bytes=1) (hz:eu.zero= .int .u8 0)
  (D:ev s.f y= .iv (.v (.string b))) (hd:o.dst=io d) (hlt:Xm d nt=jp) (j:l.length=len) (A:len+b.size<=140737488355328)
  (h:GO P nt (.ops all rest::k) Q ⟨(d,.sl s.nx 0 (l++b.data.toList).length 1)::s.f,(s.nx,io (.bw (l++b.data.toList) u))::(i,is)::s.h,s.nx+1⟩):GO P nt (.ops all (o::rest)::k) Q s:=by
 have e:(l++b.data.toList).length=len+b.size:=by rw[WO,j];simp
 rw[e]at h
 exact bB hg (Mr J ho ht hk I C hu hx hi j G B hz D A (s':=⟨(d,.sl s.nx 0 (len+b.size) 1)::s.f,(s.nx,io (.bw (l++b.data.toList) u))::(i,is)::s.h,s.nx+1⟩) (by
  simp only[putDst,um,hd,hlt,cond_true,dG])) fun t ht=>by subst ht;exact h
theorem HV{o:Oper}{G:Operand}(ho:o.op= .next G jp){i:Nat}(I:ev s.f G= .ptr i 0){b:ByteArray}{a0:Nat}(hi:s.h.get i=io (.ey b a0)){d:Nat}(hd:o.dst=io d)(hlt:Xm d nt=jp):
  OT P nt o s (fun t=>(b.size<=a0∧t=⟨(d,.aY [.kb kw])::s.f,s.h,s.nx⟩)∨
   (a0<b.size∧t=⟨(d,.aY [.kb jp,.iv (.v (.int .i64 (a0:Nat))),.iv (.v (.int .i32 (Utf8.decode b a0).1))])::s.f,(i,io (.ey b (a0+(Utf8.decode b a0).2)))::s.h,s.nx⟩)):=by
 intro M N a w hf K Z hk;have J:=aN hf.2.1 G;rw[I]at J;have A:w.heap[N.aA i]? =io (.stringIter b a0):=hf.1.obj i _ hi;have B:N.aA i<w.heap.size:=(X4.1 A).1;have C:d<nt:=WL hlt;have D:a.eval G= .pointer (io ⟨N.aA i,0,is⟩):=by
  generalize a.eval G=y at J;cases J;rfl
 unfold Oper.wp;by_cases u:a0<b.size
 .have x:(execOp a.eval o).run P w= .ok (.value (.tuple #[.bool jp,.int .i64 (a0:Nat),.int .i32 (Utf8.decode b a0).1])) {w with heap:=w.heap.setIfInBounds (N.aA i) (.stringIter b (a0+(Utf8.decode b a0).2))}:=by
   simp only[execOp,ho,D];simp[Instr.next,getObj,setObj,Sem.run,A,u,Result.andThen,goInt]
  rw[x];simp only[Oper.upon]
  obtain⟨q1,q2⟩:=hf.1.write hi rfl {w with heap:=w.heap.setIfInBounds (N.aA i) (.stringIter b (a0+(Utf8.decode b a0).2))} (.ey b (a0+(Utf8.decode b a0).2)) rfl rfl rfl (by simp) (fun c Y=>by
   show(w.heap.setIfInBounds _ _)[c]? =_
   rw[Xr,be (fun e=>Y e.symm)]) (by
   show(w.heap.setIfInBounds _ _)[_]? =_
   rw[Xr,am rfl,am B])
  refine hk M N _ _ _ q1 ?_ (.inr ⟨u,rfl⟩);rw[hd];refine Fits.put (s:=⟨s.f,(i,io (.ey b (a0+(Utf8.decode b a0).2)))::s.h,s.nx⟩) ⟨q2,hf.2⟩ d _ _ C (.aY _ _ rfl fun q p u=>?_)
  match q with
  |0=>simp at u;subst u;exact .kb _
  |1=>simp at u;subst u;exact .iv _ _ (.v _)
  |2=>simp at u;subst u;exact .iv _ _ (.v _)
  |q+3=>simp at u
 .have x:(execOp a.eval o).run P w= .ok (.value (.tuple #[.bool kw])) w:=by
   simp only[execOp,ho,D];simp[Instr.next,getObj,Sem.run,A,u,Result.andThen]
  rw[x];simp only[Oper.upon];refine hk M N ⟨(d,.aY [.kb kw])::s.f,s.h,s.nx⟩ _ w (.refl _ _ _ _ _) ?_ (.inl ⟨by omega,rfl⟩);rw[hd]
  exact hf.put d _ _ C (.aY _ _ rfl fun j p u=>by
    match j with
    |0=>simp at u;subst u;exact .kb _
    |j+1=>simp at u)
theorem mz{all rest:List Oper}{o:Oper}{u:Operand}{i:Nat}{b:ByteArray}{a0 d:Nat}(ho:o.op= .next u jp)(hg:o.guard=is)(j:ev s.f u= .ptr i 0)(hi:s.h.get i=io (.ey b a0))(hd:o.dst=io d)(hlt:Xm d nt=jp)
  (h1:b.size<=a0->GO P nt (.ops all rest::k) Q ⟨(d,.aY [.kb kw])::s.f,s.h,s.nx⟩)
  (x:a0<b.size->GO P nt (.ops all rest::k) Q ⟨(d,.aY [.kb jp,.iv (.v (.int .i64 (a0:Nat))),.iv (.v (.int .i32 (Utf8.decode b a0).1))])::s.f,(i,io (.ey b (a0+(Utf8.decode b a0).2)))::s.h,s.nx⟩):
  GO P nt (.ops all (o::rest)::k) Q s:=by
 refine bB hg (HV ho j hi hd hlt) fun t ht=>?_;rcases ht with⟨g1,rfl⟩|⟨g1,rfl⟩
 .exact h1 g1
 .exact x g1
theorem yu(y:bp P ty){all rest:List Oper}{o:Oper}{x:Operand}{t d:Nat}{b:ByteArray}{e:bD}(ho:o.op= .range t x)(hg:o.guard=is)(ht:ty t=io e)(hk:e.k= .aP .string)(G:ev s.f x= .iv (.v (.string b)))(hd:o.dst=io d)(hlt:Xm d nt=jp)
  (h:GO P nt (.ops all rest::k) Q ⟨(d,.ptr s.nx 0)::s.f,(s.nx,io (.ey b 0))::s.h,s.nx+1⟩):GO P nt (.ops all (o::rest)::k) Q s:=by
 have A:P.underlying t=io .string:=by
  have:=(y t _ ht).2.1;rw[hk]at this;exact this.1
 refine bB (R:=fun t=>t=⟨(d,.ptr s.nx 0)::s.f,(s.nx,io (.ey b 0))::s.h,s.nx+1⟩) hg (OT.value (s1:=newObj s (.ey b 0)) (p:= .ptr s.nx 0) (by cases s;simp only[putDst,newObj,hd,hlt,cond_true,dG]) fun M N a w hf=>?_) fun t ht=>by subst ht;exact h
 have j:=aN hf.2.1 x;rw[G]at j;have B:a.eval x= .string b:=by
  generalize a.eval x=v at j;cases j with
  |iv _ _ h=>cases h;rfl
 obtain⟨u,h1,I,J,C,D⟩:=hf.1.alloc (.stringIter b 0) (.ey b 0) 0 (fun u g1 g2 g3=>by
  show(w.alloc _).heap[u.aA s.nx]? =_
  rw[g1];exact heap_alloc_new w _)
 refine⟨.pointer (io ⟨w.heap.size,0,is⟩),_,M,u,?_,C,ei hf C D,?_⟩
 .simp only[execOp,ho,B];simp[Instr.range,run_underlying A]
 .have:=VR.ptr (M:=M) (N:=u) (U:=(· <s.nx+1)) s.nx 0 (by omega);rw[h1]at this;exact this
end
section
variable {P:Program} {ty:Ty} {nt:NT} {s:AS} {Q:AQ} {k:List KI}
theorem pq(a0:bp P ty){all rest:List Oper}{o:Oper}{x:Operand}{t t' u d:Nat}{b:ByteArray}{et c0 eu:bD}(ho:o.op= .convert t t' x)(hg:o.guard=is)(ht:ty t=io et)(hk:et.k= .aP .string)(k0:ty t'=io c0)(g0:c0.k= .aP (.slice u))(hu:ty u=io eu)(i0:eu.k= .aP (.int .u8))
  (hx:ev s.f x= .iv (.v (.string b))) (hd:o.dst=io d) (hlt:Xm d nt=jp) (hb:b.size<=1000000000)
  (h:GO P nt (.ops all rest::k) Q ⟨(d,.iv (.bL 1 b.data.toList.length fun k=>aO (b.data.toList.getD k co)))::s.f,s.h,s.nx⟩):GO P nt (.ops all (o::rest)::k) Q s:=by
 have hs:P.underlying t=io .string:=by have:=(a0 t _ ht).2.1;rw[hk]at this;exact this.1
 have j0:P.underlying t'=io (.slice u):=by have:=(a0 t' _ k0).2.1;rw[g0]at this;exact this.1
 have m0:P.underlying u=io (.int .u8):=by have:=(a0 u _ hu).2.1;rw[i0]at this;exact this.1
 refine bB (R:=fun t=>t=⟨(d,.iv (.bL 1 b.data.toList.length fun k=>aO (b.data.toList.getD k co)))::s.f,s.h,s.nx⟩) hg (OT.value (s1:=s) (p:= .iv (.bL 1 b.data.toList.length fun k=>aO (b.data.toList.getD k co))) (by cases s;simp only[putDst,hd,hlt,cond_true,dG]) fun M N a w hf=>?_) fun t ht=>by subst ht;exact h
 have b0:=aN hf.2.1 x;rw[hx]at b0;have n0:a.eval x= .string b:=by
  generalize a.eval x=v at b0;cases b0 with
  |iv _ _ h=>cases h;rfl
 have I:=Go.run_bytes_of_string (P:=P) w t t' u b hs j0 m0;generalize hC:bytesRow b (grownCap w b.size 0 u)=C at I;have B:M w.heap.size=is:=by
  cases hm:M w.heap.size with
  |none=>rfl
  |some c=>exact absurd (hf.1.dF _ _ hm).lt (ZH _)
 have D: ∀c,c<w.heap.size->(w.drew.alloc (.cells C u (C.size,C.size+1))).heap[c]? =w.heap[c]? :=fun c A=>by
  show(w.heap.push _)[c]? =_;rw[Y4,be (by omega)]
 have hnew:(w.drew.alloc (.cells C u (C.size,C.size+1))).heap[w.heap.size]? =io (.cells C u (C.size,C.size+1)):=by
  show(w.heap.push _)[w.heap.size]? =_;simp
 have d0: ∀j,j<b.data.toList.length->C[j]? =io (.int .u8 ((b.data.toList.getD j co).toNat:Int)):=by
  intro j hj;have J:j<b.data.size:=by simpa using hj
  rw[<-hC];simp only[bytesRow];rw[Xt (by simpa using J)];simp[WQ];exact⟨b.data[j],Xx J,by rw[Xx J];rfl⟩
 have G:=grownCap_ge w b.size 0 u;refine⟨.slice (io ⟨w.heap.size,0,is⟩) b.size (grownCap w b.size 0 u),w.drew.alloc (.cells C u (C.size,C.size+1)),M.set w.heap.size (.cells C) B,N,?_,?_,?_,?_⟩
 .simp only[execOp,ho,n0];rw[Sem.run_bind,I];rfl
 .have q1:M.le (M.set w.heap.size (.cells C) B):=fun c e A=>by
   simp only[Mem.set];rw[be fun e2=>by rw[e2,B]at A;cases A];exact A
  have q2: ∀c e,M c=is->(M.set w.heap.size (.cells C) B) c=io e->w.heap.size<=c∨ ∃i o,s.h.get i=io o∧o.real=jp∧N.aA i=c:=fun c e h1 h2=>by
   simp only[Mem.set]at h2;by_cases he:c=w.heap.size
   .exact .inl (by omega)
   .rw[be he,h1]at h2;cases h2
  exact⟨rfl,rfl,⟨rfl,Yh _⟩,(by show w.heap.size<=(w.heap.push _).size;simp),fun c A _=>D c A,q1,q2,.refl _ _,fun _ h=>h,fun i o hi y=> .inr ⟨i,o,hi,y,rfl⟩⟩
 .have e0:M.le (M.set w.heap.size (.cells C) B):=fun c e A=>by
   simp only[Mem.set];rw[be fun e2=>by rw[e2,B]at A;cases A];exact A
  refine⟨⟨fun c e A=>?_,hf.1.used,fun i o hi y=>?_,fun i o hi=>?_,hf.1.inj⟩,fun i=>(hf.2.1 i).mono e0 (.refl _ _) fun _ h=>h,hf.2.2⟩
  .simp only[Mem.set]at A;by_cases he:c=w.heap.size
   .rw[am he]at A;cases A;exact⟨u,(C.size,C.size+1),by rw[he];exact hnew⟩
   .rw[be he]at A;exact(hf.1.dF c e A).mono (D c (hf.1.dF c e A).lt)
  .simp only[Mem.set];have:=hf.1.lt hi y;rw[be (by omega)];exact hf.1.dM i o hi y
  .cases y:o.real with
   |true=>exact(hf.1.obj i o hi).mono e0 (.refl _ _) (fun _ h=>h) (hf.1.used i o hi) (D _ (hf.1.lt hi y))
   |false=>
    cases o with
    |row sz es=>cases es with
     |nil=>exact .inl Z
     |cons=>cases y
    |bw l T=>cases l with
     |nil=>exact .inl Z
     |cons=>cases y
    |_=>cases y
 .have f0:b.data.toList.length=b.size:=by simp
  rw[<-f0]at G ⊢;by_cases h0:b.data.toList.length=0
  .rw[h0];exact .iv _ _ (.fL _ _ _ _)
  .refine .iv _ _ (.bL _ _ _ _ _ _ (by omega) (grownCap_le_maxLen w _ _ _ (by simp only[maxLen];omega)) (fun _ _=>rfl) (fun k j hk hj=>?_) (fun k j p hk hp=>?_))
   .have Y:j=0:=by omega
    subst Y;have:=d0 k hk;simp only[Mem.cell,Mem.set,if_true,Xd,Zg,Yp,this,Option.isSome_some]
   .have Y:j=0:=by
     have:=(WT.1 hp).1;simp[aO]at this;exact this
    subst Y;cases hp;have:=d0 k hk;simp only[Mem.cell,Mem.set,if_true,Xd,Zg,Yp,this,XV];exact .v _
theorem NH(C:bp P ty)(l:List UInt8){all rest:List Oper}{o:Oper}{x:Operand}{t D u d i n:Nat}{es:List (List PV)}{et I eu:bD}(ho:o.op= .convert t D x)(hg:o.guard=is)(ht:ty t=io et)(hk:et.k= .aP (.slice u))(i0:ty D=io I)(e0:I.k= .aP .string)(hu:ty u=io eu)(f0:eu.k= .aP (.int .u8))
  (hx:ev s.f x= .sl i 0 n 1) (hi:s.h.get i=io (.row 1 es)) (hd:o.dst=io d) (hlt:Xm d nt=jp) (hes:es=l.map fun x=>(aO x).map .iv) (hn:n=l.length)
  (h:GO P nt (.ops all rest::k) Q ⟨(d,.iv (.v (.string ⟨l.toArray⟩)))::s.f,s.h,s.nx⟩):GO P nt (.ops all (o::rest)::k) Q s:=by
 have hs:P.underlying D=io .string:=by have:=(C D _ i0).2.1;rw[e0]at this;exact this.1
 have b0:P.underlying t=io (.slice u):=by have:=(C t _ ht).2.1;rw[hk]at this;exact this.1
 have c0:P.underlying u=io (.int .u8):=by have:=(C u _ hu).2.1;rw[f0]at this;exact this.1
 subst hn;subst hes;refine bB (R:=fun t=>t=⟨(d,.iv (.v (.string ⟨l.toArray⟩)))::s.f,s.h,s.nx⟩) hg (OT.value (s1:=s) (p:= .iv (.v (.string ⟨l.toArray⟩))) (by cases s;simp only[putDst,hd,hlt,cond_true,dG]) fun M N a w hf=>?_) fun t ht=>by subst ht;exact h
 have A:=aN hf.2.1 x;rw[hx]at A;have a0:(convert t D (a.eval x)).run P w= .ok (.string ⟨l.toArray⟩) w:=by
  generalize a.eval x=v at A;cases hor:l with
  |nil=>
   rw[hor]at A;generalize G:PV.sl i 0 ([]:List UInt8).length 1=q at A;cases A with
   |sl _ _ _ _ _ _ h0=>cases G;simp at h0
   |lq _ _ _=>
    have:=run_convert_bytes_nil (P:=P) w t u b0 c0 0 0 D hs;exact this
   |_=>cases G
  |cons x0 r0=>
   rw[<-hor];have Y:0<l.length:=by rw[hor];simp
   generalize g0:l.length=n at A Y;generalize G:PV.sl i 0 n 1=q at A;cases A with
   |sl _ _ _ _ cap hU h0 hl hc he=>
    cases G;rcases hf.1.obj i _ hi with B|⟨_,c,T,q1,q2,q3,q4,q5⟩
    .rw[hor]at B;cases B
    rw[Yq,<-g0];refine run_convert_bytes_back (P:=P) w t D u ⟨N.aA i,0,is⟩ cap l b0 c0 hs fun j hj=>?_;rw[c7,Xd];have J:j<c.size:=by rw[Xk]at q3;omega
    have:=q5 j [.iv (.v (.int .u8 (l[j].toNat:Int)))] 0 _ (by rw[WX,WU hj];rfl) Z;rw[Zg,Yp,WM,Xx J,XV]at this;simp only[World.cell?,q1];generalize d0:c[j]=y at this;cases this with
    |iv _ _ h=>cases h;simp[J,d0]
   |lq _ _ _=>cases G;omega
   |_=>cases G
 exact⟨_,w,M,N,by simp only[execOp,ho];exact aZ a0,.refl _ _ _ _ _,hf,.iv _ _ (.v _)⟩
theorem uN(y:bp P ty){all rest:List Oper}{o:Oper}{x:Operand}{t A d:Nat}{q I:IntKind}{n:Int}{G u:bD}(ho:o.op= .convert t A x)(hg:o.guard=is)(ht:ty t=io G)(hk:G.k= .aP (.int q))(C:ty A=io u)(B:u.k= .aP .string)
  (J:ev s.f x= .iv (.v (.int I n))) (hd:o.dst=io d) (hlt:Xm d nt=jp)
  (h:GO P nt (.ops all rest::k) Q ⟨(d,.iv (.v (.string (Utf8.encode n))))::s.f,s.h,s.nx⟩):GO P nt (.ops all (o::rest)::k) Q s:=by
 have hs:P.underlying A=io .string:=by have:=(y A _ C).2.1;rw[B]at this;exact this.1
 have hi:P.underlying t=io (.int q):=by have:=(y t _ ht).2.1;rw[hk]at this;exact this.1
 refine bB (R:=fun t=>t=⟨(d,.iv (.v (.string (Utf8.encode n))))::s.f,s.h,s.nx⟩) hg (OT.value (s1:=s) (p:= .iv (.v (.string (Utf8.encode n)))) (by cases s;simp only[putDst,hd,hlt,cond_true,dG]) fun M N a w hf=>?_) fun t ht=>by subst ht;exact h
 have j:=aN hf.2.1 x;rw[J]at j;have D:a.eval x= .int I n:=by
  generalize a.eval x=v at j;cases j with
  |iv _ _ h=>cases h;rfl
 refine⟨_,w,M,N,?_,.refl _ _ _ _ _,hf,.iv _ _ (.v _)⟩;simp only[execOp,ho,D];refine aZ ?_;simp[convert,run_underlying hi,run_underlying hs,Conv.intToString]
end
def bY{kc:KC}{V:Type}(key:V->kc.K)(m:List (kc.K×V))(S:List V):Prop:= ∃T:List V,T.Perm S∧m=T.map fun v=>(key v,v)
section
variable {kc:KC} {V:Type} {key:V->kc.K}
theorem Jk(T:List V)(f:V)(j: ∀u∈T,key u=key f->u=f):dx kc (T.map fun v=>(key v,v)) (key f)=jp↔f∈T:=by
 induction T with
 |nil=>simp[dx]
 |cons v r ih=>
  simp only[WW,dx];have x:=ih fun u hu=>j u (W5 _ hu);by_cases e:key v=key f
  .have:=j v (W8 ..) e;subst this;simp
  .rw[be e,x,Xa];exact⟨.inr,fun q=>q.resolve_left fun q=>e (by rw[q])⟩
theorem zn(T:List V)(f:V)(hn: ∀u∈T,key u≠key f):cP kc (T.map fun v=>(key v,v)) (key f) f=(T++ [f]).map fun v=>(key v,v):=by
 induction T with
 |nil=>rfl
 |cons v r ih=>
  simp only[WW,cP,Xe];rw[be (hn v (W8 ..)),ih fun u hu=>hn u (W5 _ hu)]
theorem JX[DecidableEq V](T:List V)(f:V)(j: ∀u∈T,key u=key f->u=f):lj kc (T.map fun v=>(key v,v)) (key f)=(T.erase f).map fun v=>(key v,v):=by
 induction T with
 |nil=>rfl
 |cons v r ih=>
  simp only[WW,lj];by_cases e:key v=key f
  .have:=j v (W8 ..) e;subst this;rw[am Z,List.erase_cons_head]
  .have x: ¬v=f:=fun q=>e (by rw[q])
   rw[be e,ih fun u hu=>j u (W5 _ hu),List.erase_cons_tail (by simpa using x),WW]
theorem bY.perm{m:List (kc.K×V)}{S j:List V}(h:bY key m S)(p:S.Perm j):bY key m j:=by
 obtain⟨T,h1,u⟩:=h;exact⟨T,h1.trans p,u⟩
theorem bY.nil:bY key ([]:List (kc.K×V)) []:=⟨[],.nil,rfl⟩
theorem bY.len{m:List (kc.K×V)}{S:List V}(h:bY key m S):m.length=S.length:=by
 obtain⟨T,h1,rfl⟩:=h;rw[Xk,h1.length_eq]
theorem bY.has{m:List (kc.K×V)}{S:List V}(h:bY key m S){f:V}(j: ∀u∈S,key u=key f->u=f):dx kc m (key f)=jp↔f∈S:=by
 obtain⟨T,h1,rfl⟩:=h;rw[Jk T f fun u hu=>j u (h1.mem_iff.1 hu),h1.mem_iff]
theorem bY.put{m:List (kc.K×V)}{S:List V}(h:bY key m S){f:V}(j: ∀u∈S,key u=key f->u=f)(hf:f∉S):bY key (cP kc m (key f) f) (f::S):=by
 obtain⟨T,h1,rfl⟩:=h;refine⟨T++ [f],?_,zn T f fun u hu e=>hf (j u (h1.mem_iff.1 hu) e▸h1.mem_iff.1 hu)⟩;exact(List.perm_append_comm).trans ((List.Perm.cons f h1))
theorem bY.del[DecidableEq V]{m:List (kc.K×V)}{S:List V}(h:bY key m S){f:V}(j: ∀u∈S,key u=key f->u=f):bY key (lj kc m (key f)) (S.erase f):=by
 obtain⟨T,h1,rfl⟩:=h;exact⟨T.erase f,h1.erase f,JX T f fun u hu=>j u (h1.mem_iff.1 hu)⟩
theorem bY.AJ{m:List (kc.K×V)}{S:List V}(h:bY key m S):(m.map (·.2)).Perm S:=by
 obtain⟨T,h1,rfl⟩:=h;rw[XX];show(T.map id).Perm S;rw[List.map_id];exact h1
end
section
variable {P:Program} {ty:Ty} {nt:NT} {Q:AQ} {k:List KI} {s:AS}
theorem NQ{o:Oper}{g:FuncId}{x y:Operand}{ts:Array TypeId}{j u v:Value}(ho:o.op= .call ⟨.value (.func g), #[x,y],ts⟩)(D:ev s.f x= .iv (.v j))(G:ev s.f y= .iv (.v u))
  (hc: ∀w,(callFunc g #[j,u]).run P w= .ok (.value v) w) {s':AS} (hp:putDst nt o (.iv (.v v)) s=io s'):OT P nt o s fun t=>t=s':=by
 refine OT.value hp fun M N a w hf=>⟨v,w,M,N,?_,.refl _ _ _ _ _,hf,.iv _ _ (.v _)⟩
 have h1:=aN hf.2.1 x;have A:=aN hf.2.1 y;rw[D]at h1;rw[G]at A;have B:a.eval x=j:=by
  generalize a.eval x=z at h1;cases h1 with
  |iv _ _ h=>cases h;rfl
 have C:a.eval y=u:=by
  generalize a.eval y=z at A;cases A with
  |iv _ _ h=>cases h;rfl
 simp only[execOp,ho,resolve,Act.eval,Deferred.ofValue,pure_bind,invoke];have: #[]++Array.map a.eval #[x,y]++ #[]= #[j,u]:=by simp[B,C]
 first
  |(rw[this];exact hc w)
  |(simp only[Act.eval] at*;simpa[B,C]using hc w)
theorem NB{all rest:List Oper}{o:Oper}{g:FuncId}{x y:Operand}{ts:Array TypeId}{j u:Value}(v:Value)(ho:o.op= .call ⟨.value (.func g), #[x,y],ts⟩)(hg:o.guard=is)(A:ev s.f x= .iv (.v j))(B:ev s.f y= .iv (.v u))
  (hc: ∀w,(callFunc g #[j,u]).run P w= .ok (.value v) w) {s':AS} (hp:putDst nt o (.iv (.v v)) s=io s') (h:GO P nt (.ops all rest::k) Q s'):GO P nt (.ops all (o::rest)::k) Q s:=
 bB hg (NQ ho A B hc hp) fun t ht=>by subst ht;exact h
end
theorem IM(i sz n:Nat): ∀l:List IV,a8 i sz n (l.map .iv)
 | []=>trivial
 |_::r=>⟨ac,IM i sz n r⟩
theorem EO{α:Type}(i sz n u:Nat)(l:List α)(f:α->List IV):(aX u l f).mg i sz n:=by
 intro k e j p A B;rw[WX,WZ]at A;obtain⟨x,_,rfl⟩:=A;rw[WX,WZ]at B;obtain⟨y,_,rfl⟩:=B;exact⟨y,rfl⟩
section
variable {P:Program} {ty:Ty} {nt:NT} {s:AS}
theorem qT{M:Mem}{N:Nm}{a:Act}{w:World}(hf:Fits M N s nt a w){x:Operand}{k:IntKind}{n:Int}(h:ev s.f x= .iv (.v (.int k n))):a.eval x= .int k n:=by
 have hi:=aN hf.2.1 x;rw[h]at hi;generalize a.eval x=v at hi;cases hi with
 |iv _ _ hi=>cases hi with
  |v=>rfl
theorem UQ(D:bp P ty){o:Oper}{t u:TypeId}{l c:Operand}(ho:o.op= .makeSlice t l c){e eu:bD}(ht:ty t=io e)(hk:e.k= .aP (.slice u))(hu:ty u=io eu)
  {n m sz:Nat} {kl kc:IntKind} {ml nc:Int} (hl:ev s.f l= .iv (.v (.int kl ml))) (hc:ev s.f c= .iv (.v (.int kc nc))) (i0:ml=(m:Int)) (j0:nc=(n:Int)) (hn:0<n) (q0:n<=100000000000) (hb:eu.bytes*n<=281474976710656) (n0:eu.size=sz) (G:eu.zero.cells.size=sz) (m0:0<sz)
  {z:List PV} (hz:z=b6 eu.zero) {p:PV} (C:(m=0∧p= .sl s.nx 1 0 sz)∨(m=n∧p= .sl s.nx 0 n sz))
  {s':AS} (hp:putDst nt o p (newObj s (.row sz (Zh n z)))=io s'):OT P nt o s (fun t=>t=s'):=by
 refine OT.value hp fun M N a w hf=>?_;subst hz n0 i0 j0;obtain⟨⟨ii,b0,c0,a0,d0⟩,_⟩:=D u _ hu
 have o0:P.underlying t=io (.slice u):=by
  have:=(D t _ ht).2.1;rw[hk]at this;exact this.1
 have p0:m<=n:=by rcases C with⟨h,_⟩|⟨h,_⟩<;>omega
 have B:=run_make w t u ii eu.zero o0 b0 d0 kl kc (m:Int) (n:Int) (by omega) (by omega) (by rw[a0];omega) (by omega);rw[WV,WV,c0]at B;have I:(b6 eu.zero).length=eu.size:=by rw[(fC (M:=M) (N:=N) (U:=(· <s.nx)) eu.zero).1,G]
 have A: ∀(k:Nat) (e:List PV),(Zh n (b6 eu.zero))[k]? =io e->k<n∧e=b6 eu.zero:=by
  intro k e x;rw[List.getElem?_replicate]at x;split at x
  .exact⟨by assumption,by simpa using x.symm⟩
  .cases x
 obtain⟨J,h1,h2,h8,h9,Y⟩:=hf.1.alloc (.cells (madeCells eu.zero.cells (n*eu.size)) u) (.row eu.size (Zh n (b6 eu.zero))) (n*eu.size) (fun J g1 g2 g3=>
  .inr ⟨m0,_,u,by rw[g1];exact heap_alloc_new w _,by rw[size_madeCells,g2],by rw[size_madeCells,List.length_replicate];exact WY _,fun k e x=>by rw[(A k e x).2,I],fun k e j p x hj=>by
   obtain⟨f0,rfl⟩:=A k e x;have e0:j<eu.size:=by rw[<-I];exact(WT.1 hj).1
   have g0:k*eu.size+j<n*eu.size:=by
    have:(k+1)*eu.size<=n*eu.size:=Xi _ f0;rw[XG]at this;omega
   have h7:(madeCells eu.zero.cells (n*eu.size)).getD (k*eu.size+j) undef=eu.zero.cells.getD j undef:=by
    have hx:(ZP (n*eu.size))[k*eu.size+j]? =io (k*eu.size+j):=by simp[g0]
    have hm:(k*eu.size+j) % eu.zero.cells.size=j:=by rw[G,Nat.add_comm,Nat.add_mul_mod_self_right,Y6 e0]
    rw[madeCells,WM,Zr,hx];simp only[XW,XV,hm];rw[WM,getElem!_pos eu.zero.cells j (by omega),Xx (by omega)];rfl
   rw[h7];exact(fC eu.zero).2 j p hj⟩)
 refine⟨.slice (io ⟨w.heap.size,0,is⟩) m n,_,M,J,?_,h9,ei hf h9 Y,?_⟩
 .simp only[execOp,ho,qT hf hl,qT hf hc];rw[Sem.run_bind,B];rfl
 .have k0:(newObj s (.row eu.size (Zh n (b6 eu.zero)))).nx=s.nx+1:=by cases s;rfl
  rw[k0];have y:n<=maxLen:=by simp only[maxLen];omega
  rcases C with⟨rfl,rfl⟩|⟨rfl,rfl⟩
  .have:=VR.sle (M:=M) (N:=J) (U:=(· <s.nx+1)) s.nx eu.size n (by omega) y (by rw[h2]);rw[h1]at this;exact this
  .have:=VR.sl (M:=M) (N:=J) (U:=(· <s.nx+1)) s.nx 0 m eu.size m (by omega) hn (WY _) y (by rw[h2,Xd]);rw[h1,Yq]at this;exact this
theorem Sg(x:bp P ty){o:Oper}{t u:TypeId}{l c:Operand}(ho:o.op= .makeSlice t l c){e eu:bD}(ht:ty t=io e)(hk:e.k= .aP (.slice u))(hu:ty u=io eu)
  {sz:Nat} (el:Nat->List IV) {kl kc:IntKind} {ml nc:Int} (hl:ev s.f l= .iv (.v (.int kl ml))) (hc:ev s.f c= .iv (.v (.int kc nc))) (C:ml=0) (D:nc=0)
  {s':AS} (hp:putDst nt o (.iv (.bL sz 0 el)) (newObj s (.row sz []))=io s'):OT P nt o s (fun t=>t=s'):=by
 refine OT.value hp fun M N a w hf=>?_;subst C D;obtain⟨⟨Y,A,b0,a0,B⟩,_⟩:=x u _ hu
 have G:P.underlying t=io (.slice u):=by
  have:=(x t _ ht).2.1;rw[hk]at this;exact this.1
 have j:=run_make w t u Y eu.zero G A B kl kc 0 0 (by omega) (by omega) (by omega) (by omega);obtain⟨I,h1,h2,h8,J,y⟩:=hf.1.alloc (.cells (madeCells eu.zero.cells ((0:Int).toNat*Y.size)) u) (.row sz []) 0 (fun I g1 g2 g3=> .inl Z);refine⟨.slice (io ⟨w.heap.size,0,is⟩) 0 0,_,M,I,?_,J,ei hf J y,.iv _ _ (.fL _ _ _ _)⟩;simp only[execOp,ho,qT hf hl,qT hf hc];rw[Sem.run_bind,j];rfl
theorem SJ(C:bp P ty){o:Oper}{t u:TypeId}{x hi:Operand}(ho:o.op= .slice t x is (io hi) is){e eu:bD}(ht:ty t=io e)(hk:e.k= .aP (.slice u))(hu:ty u=io eu)
  {i n m sz:Nat} {kc:IntKind} {I:Int} (hx:ev s.f x= .sl i 0 n sz) (hh:ev s.f hi= .iv (.v (.int kc I))) (D:I=(m:Int)) (Y:m<=n) (hn:0<n)
  {p:PV} (G:(m=0∧p= .sl i 1 0 sz)∨(0<m∧p= .sl i 0 m sz)) {s':AS} (hp:putDst nt o p s=io s'):OT P nt o s (fun t=>t=s'):=by
 refine OT.value hp fun M N a w hf=>?_;subst D
 have A:P.underlying t=io (.slice u):=by
  have:=(C t _ ht).2.1;rw[hk]at this;exact this.1
 have y:P.elem t=u:=by simp[Program.elem,A]
 have B:=aN hf.2.1 x;rw[hx]at B;generalize hv:a.eval x=vx at B;cases B with
 |lq=>omega
 |sl _ _ _ _ cap hU h0 hl hc hext=>
  have j:=run_slice_h (P:=P) (w:=w) t (io ⟨N.aA i,0*sz,is⟩) n cap (by rw[y];exact A) kc (m:Int) (by omega) (by omega);rw[y,aQ (C u _ hu)]at j;refine⟨sliced (io ⟨N.aA i,0*sz,is⟩) 0 m cap eu.size,w,M,N,?_,.refl _ _ _ _ _,hf,?_⟩
  .simp only[execOp,ho,hv,XW,YU,qT hf hh];refine aZ ?_;rw[run_sliceAt_slice w t _ _ _ _ (by rw[y];exact A),j];rfl
  .rcases G with⟨rfl,rfl⟩|⟨J,rfl⟩
   .have:=VR.sle (M:=M) (N:=N) (U:=(· <s.nx)) i sz cap hU hc (by rw[<-hext,Xd]);simpa[sliced,Addr.add]using this
   .have:=VR.sl (M:=M) (N:=N) (U:=(· <s.nx)) i 0 m sz cap hU J (by omega) hc hext;simpa[sliced,Addr.add]using this
theorem Ow(j0:bp P ty){o:Oper}{x y:Operand}{t u:TypeId}(ho:o.op= .call ⟨.builtin .append, #[x,y], #[t,t]⟩){e eu:bD}(ht:ty t=io e)(hk:e.k= .aP (.slice u))(hu:ty u=io eu)
  {i sz:Nat} {es news:List (List PV)} {py:PV} (hx:ev s.f x= .sl i 1 0 sz) (hi:s.h.get i=io (.row sz es)) (x0:eu.size=sz) (b0:news.length<=es.length) (hm:0<news.length)
  (w0:ev s.f y=py) (hy:Src s.h sz py news) (e0: ∀e∈news,dy e=jp)
  {s':AS} (hp:putDst nt o (.sl s.nx 0 news.length sz) (iM s i sz [] news)=io s'):OT P nt o s (fun t=>t=s'):=by
 refine OT.value hp fun M N a w hf=>?_;subst x0;obtain⟨⟨ii,r0,d0,e1,f1⟩,_⟩:=j0 u _ hu
 have z0:P.underlying t=io (.slice u):=by
  have:=(j0 t _ ht).2.1;rw[hk]at this;exact this.1
 have g0:=aN hf.2.1 x;rw[hx]at g0;have n0:=aN hf.2.1 y;rw[w0]at n0;obtain⟨G,ao,c,b1,Y⟩:=hy.ok hf n0;have B: ∀v w',(Builtin.append_ #[t,t] o.type #[a.eval x,a.eval y]).run P w= .ok v w'->(execOp a.eval o).run P w= .ok (.value v) w':=by
  intro v w' h;simp only[execOp,ho,resolve];simp[invoke,builtin,h]
 rw[b1]at B;have I:(AO.row eu.size es).real=jp:=by cases es with
  |nil=>exact absurd b0 (by simp only[X8];omega)
  |cons=>rfl
 rcases hf.1.obj i _ hi with rfl|⟨hsz0,cur,T,q1,q2,q3,q4,q5⟩
 .cases I
 generalize a.eval x=vx at g0 B;cases g0 with
 |sl _ _ _ _ _ _ h0=>exact absurd h0 (ZH _)
 |sle _ _ cap hU hc hext=>
  have D:cur.size=cap*eu.size:=by rw[q2,<-hext]
  have A:news.length<=cap:=by
   have:es.length*eu.size<=cap*eu.size:=by rw[<-D];exact q3
   have:=Nat.le_of_mul_le_mul_right this hsz0;omega
  obtain⟨b2,d1,p0,a0⟩:=Y (List.ne_nil_of_length_pos hm);subst p0;obtain⟨vs,k0,a1,m0⟩:=ll (s:=s) a0;have J:vs.length=news.length*eu.size:=by rw[k0,fu G]
  have q0:vs.length<=cur.size:=by rw[J,D];exact Xi _ A
  have c0: ∀v∈vs,v.oneCell'=jp:=by
   intro v hv;obtain⟨j,hj⟩:=XH hv;have s0:j<news.flatten.length:=by rw[<-k0];exact(WT.1 hj).1
   have hp:=WU s0;obtain⟨k,e,i',h1,h2,_⟩:=jM G j _ hp;have:=(m0 j _ hp).one (gE (e0 e (Xs h1)) i' _ h2);rw[WQ,hj]at this;exact this
  have C:=ji (P:=P) (w:=w) t o.type u ii z0 r0 T (N.aA i) 0 cap cur q1 ⟨b2,d1,is⟩ news.length c vs (by rw[J,d0]) a1 c0 (by omega) (by rw[d0];omega);rw[d0]at C;generalize hL:(cur.toList.take (0*eu.size)++vs++cur.toList.drop (0*eu.size+vs.length)).toArray=L at C;rw[Xd]at C;have i0:L.size=cur.size:=by rw[<-hL];simp;omega
  have f0:=setRow_heap w (N.aA i) cur L T (0,0) q1;have o0: ∀j,j<vs.length->L.getD j undef=vs.getD j undef:=by
   intro j hj;rw[<-hL,WM,WQ];simp only[XD];rw[Xb (by simp;omega),Xc (by simp)];simp
  obtain⟨h1,h2⟩:=hf.1.move hi I (w.setRow (N.aA i) L) (.row eu.size ([]++news)) Z Z Z (by simp) (fun b hb=>by
    simp only[World.setRow,Xp]
    rw[be (fun e=>hb e.symm)]) (by
   refine .inr ⟨hsz0,L,T,by simpa using f0,by rw[i0];simpa using q2,by rw[i0,D];exact Xi _ A,fun k e he=>G _ e he,fun k e j p he hj=>?_⟩;have i1:j<eu.size:=by rw[<-G _ e he];exact(WT.1 hj).1
   have t0:k<news.length:=(WT.1 he).1;have v0:k*eu.size+j<vs.length:=by
    rw[J];have:(k+1)*eu.size<=news.length*eu.size:=Xi _ t0;rw[XG]at this;omega
   rw[o0 _ v0]
   exact(m0 _ p (jL G _ e j p he hj)).mono (.refl _) (N.dt _ _ _) (fun i hi=>by omega))
  obtain⟨g1,g2⟩:=jc (es:=[]) (news:=news) (i:=i) hf h1 h2;refine⟨_,_,M,_,B _ _ C,g1,g2,?_⟩;have:=VR.sl (M:=M) (N:=N.with s.nx (N.aA i) (N.ext i)) (U:=(· <s.nx+1)) s.nx 0 news.length eu.size cap (by omega) hm A hc (by simpa using hext);rw[ib];simpa using this
section
variable {Q:AQ} {k:List KI} {all rest:List Oper} {o:Oper} {s':AS}
theorem Jq(C:bp P ty){t u:TypeId}{l c:Operand}(n m:Nat)(hg:o.guard=is)(ho:o.op= .makeSlice t l c){e eu:bD}(ht:ty t=io e)(hk:e.k= .aP (.slice u))(hu:ty u=io eu)
  {J kc:IntKind} {G nc:Int} (hl:ev s.f l= .iv (.v (.int J G))) (hc:ev s.f c= .iv (.v (.int kc nc))) (j:G=(m:Int)) (y:nc=(n:Int)) (hn:0<n) (x:n<=100000000000) (hb:eu.bytes*n<=281474976710656) (D:eu.zero.cells.size=eu.size) (B:0<eu.size)
  {z:List PV} (I:z=b6 eu.zero) {p:PV} (A:(m=0∧p= .sl s.nx 1 0 eu.size)∨(m=n∧p= .sl s.nx 0 n eu.size))
  (hp:putDst nt o p (newObj s (.row eu.size (Zh n z)))=io s') (h:GO P nt (.ops all rest::k) Q s'):GO P nt (.ops all (o::rest)::k) Q s:=
 bB hg (UQ C ho ht hk hu hl hc j y hn x hb Z D B I A hp) fun t ht=>by subst ht;exact h
theorem Jp(y:bp P ty){t u:TypeId}{l c:Operand}(sz:Nat)(el:Nat->List IV)(hg:o.guard=is)(ho:o.op= .makeSlice t l c){e eu:bD}(ht:ty t=io e)(hk:e.k= .aP (.slice u))(hu:ty u=io eu)
  {B kc:IntKind} {A nc:Int} (hl:ev s.f l= .iv (.v (.int B A))) (hc:ev s.f c= .iv (.v (.int kc nc))) (j:A=0) (x:nc=0)
  (hp:putDst nt o (.iv (.bL sz 0 el)) (newObj s (.row sz []))=io s') (h:GO P nt (.ops all rest::k) Q s'):GO P nt (.ops all (o::rest)::k) Q s:=
 bB hg (Sg y ho ht hk hu el hl hc j x hp) fun t ht=>by subst ht;exact h
theorem Ad(B:bp P ty){t u:TypeId}{x hi:Operand}{i n sz:Nat}(m:Nat)(hg:o.guard=is)(ho:o.op= .slice t x is (io hi) is){e eu:bD}(ht:ty t=io e)(hk:e.k= .aP (.slice u))(hu:ty u=io eu)
  {kc:IntKind} {C:Int} (D:ev s.f x= .sl i 0 n sz) (hh:ev s.f hi= .iv (.v (.int kc C))) (j:C=(m:Int)) (y:m<=n) (hn:0<n)
  {p:PV} (A:(m=0∧p= .sl i 1 0 sz)∨(0<m∧p= .sl i 0 m sz)) (hp:putDst nt o p s=io s') (h:GO P nt (.ops all rest::k) Q s'):GO P nt (.ops all (o::rest)::k) Q s:=
 bB hg (SJ B ho ht hk hu D hh j y hn A hp) fun t ht=>by subst ht;exact h
theorem Ae(C:bp P ty){x y:Operand}{t u:TypeId}(hg:o.guard=is)(ho:o.op= .call ⟨.builtin .append, #[x,y], #[t,t]⟩){e eu:bD}(ht:ty t=io e)(hk:e.k= .aP (.slice u))(hu:ty u=io eu)
  {i:Nat} {es news:List (List PV)} {py:PV} (D:ev s.f x= .sl i 1 0 eu.size) (hi:s.h.get i=io (.row eu.size es))
  (B:ev s.f y=py) (G:xh s.h eu.size py=io news) (j:news.length<=es.length) (hm:0<news.length) (A: ∀e∈news,dy e=jp)
  (hp:putDst nt o (.sl s.nx 0 news.length eu.size) (iM s i eu.size [] news)=io s') (h:GO P nt (.ops all rest::k) Q s'):GO P nt (.ops all (o::rest)::k) Q s:=
 bB hg (Ow C ho ht hk hu D hi Z j hm B (hZ G) A hp) fun t ht=>by subst ht;exact h
end
section
variable {Q:AQ} {k:List KI} {all rest:List Oper} {o:Oper} {s':AS}
end
end
theorem eR.take{sz n:Nat}{es:List (List PV)}:eR (.row sz es) (.row sz (es.take n)):=by
 refine⟨fun h=>?_,fun M N U w i h=>?_⟩
 .cases es with
  |nil=>rw[List.take_nil]at h;exact h
  |cons=>rfl
 .rcases h with h|⟨x,c,T,h1,y,A,B,C⟩
  .exact .inl (by rw[h,List.take_nil])
  .refine .inr ⟨x,c,T,h1,y,XR (Xi _ (by rw[Xv];omega)) A,fun k e u=>?_,fun k e j p u D=>?_⟩
   .rw[Xy]at u;split at u
    .exact B k e u
    .cases u
   .rw[Xy]at u;split at u
    .exact C k e j p u D
    .cases u
theorem jv{P:Program}{nt:NT}{Q:AQ}{k:List KI}{s:AS}{body:Code}{σ:Type}(i0 n:Nat)(y:i0<=n)(I:Nat->σ->AS)(J:Nat->σ->Prop)(A:σ)(B:List Nat)(D:J i0 A)(h0:Wk s.nx B s (I i0 A))
  (j: ∀i x,i<=n->J i x->GO P nt (.code body:: .lp (fun t=>i<n∧ ∃u L,J (i+1) u∧Wk s.nx L t (I (i+1) u))::k) Q (I i x)):GO P nt (.code (.loop body)::k) Q s:=by
 refine iC (σ:={p:Nat×σ//p.1<=n∧J p.1 p.2}) (fun p=>I p.1.1 p.1.2) (fun p=>n-p.1.1) ⟨(i0,A),y,D⟩ B h0 fun p=>?_;obtain⟨⟨i,x⟩,h1,C⟩:=p;refine ny ?_ (j i x h1 C)
 rintro t ⟨h3,u,L,h4,h5⟩;exact⟨⟨(i+1,u),h3,h4⟩,L,by show n-(i+1)<n-i;omega,h5⟩
theorem Qf{P:Program}{nt:NT}{Q:AQ}{k:List KI}{s:AS}{all rest:List Oper}(d:Nat){p:PV}(j:ae (s.f.get d) p)(h:GO P nt (.ops all rest::k) Q ⟨(d,p)::s.f,s.h,s.nx⟩):GO P nt (.ops all rest::k) Q s:=by
 intro M N a w hf;refine h M N a w ⟨hf.1,fun e=>?_,hf.2.2⟩;rw[AF.ax];split
 .rename_i u;subst u;exact j M N _ _ (hf.2.1 e)
 .exact hf.2.1 e
theorem Nz{P:Program}{ty:Ty}{nt:NT}{Q:AQ}{k:List KI}{s:AS}(y:bp P ty){all rest:List Oper}{o:Oper}{t:TypeId}{x i:Operand}(p:PV)(ho:o.op= .lookup t x i kw)(hg:o.guard=is)
  {kc:KC} {V:Type} {e:V->IV} {z:V} {A:Value} {m:List (kc.K×V)} (C:ev s.f x= .iv (.eO kc e z A m)) {q:PV} (hl:vU ty t kw kc e z A m (ev s.f i)=io (q,True)) (B:q=p)
  {s':AS} (hp:putDst nt o p s=io s') (h:GO P nt (.ops all rest::k) Q s'):GO P nt (.ops all (o::rest)::k) Q s:=by
 have j:jf ty s o.op=io (p,True):=by
  rw[ho,<-B];simp only[jf,C];exact hl
 exact bB hg (vt y j ac hp) fun u hu=>by subst hu;exact h
section
variable {P:Program} {ty:Ty} {nt:NT} {s:AS}
theorem HQ{o:Oper}{p:PV}{s':AS}(hp:putDst nt o p s=io s')(h: ∀M N a w,Fits M N s nt a w-> ∃x,(execOp a.eval o).run P w= .ok (.value x) w∧VR M N (· <s.nx) p x):
  (s'.h=s.h∧s'.nx=s.nx)∧ ∀M N a w,Fits M N s nt a w-> ∃x,(execOp a.eval o).run P w= .ok (.value x) w∧Fits M N s' nt (a.put o.dst x) w:=by
 cases hd:o.dst with
 |none=>
  have:=dL hp hd;subst this;exact⟨⟨rfl,rfl⟩,fun M N a w hf=>let ⟨x,hx,_⟩:=h M N a w hf;⟨x,hx,hf⟩⟩
 |some d=>
  obtain⟨h1,rfl⟩:=dK hp hd;exact⟨⟨rfl,rfl⟩,fun M N a w hf=>let ⟨x,hx,hv⟩:=h M N a w hf;⟨x,hx,hf.put d p x h1 hv⟩⟩
theorem kO{Q:AQ}{k:List KI}{all:List Oper}{todo pend:List (Nat×Oper)}{o:Oper}{s':AS}{p:PV}(i:Nat)(u:todo.find? (fun x=>Xj x.1 i)=io (i,o))(y:aS o=kw)(A:todo.all (fun x=>!waits o x.1)=jp)(hg:bQ nt all s.f o=io jp)(j:xx all pend o=jp)
  (hp:putDst nt o p s=io s') (B: ∀M N a w,Fits M N s nt a w-> ∃x,(execOp a.eval o).run P w= .ok (.value x) w∧VR M N (· <s.nx) p x)
  (h:GO P nt (.bR all (todo.filter fun x=>!Xj x.1 i) ((i,o)::pend)::k) Q s'):GO P nt (.bR all todo pend::k) Q s:=
 have g:=HQ hp B
 wc (List.mem_of_find?_eq_some u) y (fun x C=>by simpa using XC.1 A x C) hg j g.1 g.2 h
end
end
end Go.Al
namespace Go.Al
open Go
section
section
variable {P:Program} {ty:Ty} {nt:NT} {s:AS}
theorem J7(C:bp P ty){o:Oper}{t u:TypeId}{x hi:Operand}(ho:o.op= .slice t x is (io hi) is){e eu:bD}(ht:ty t=io e)(hk:e.k= .aP (.slice u))(hu:ty u=io eu)
  {n m sz:Nat} {el:Nat->List IV} {kc:IntKind} {J:Int} (hx:ev s.f x= .iv (.bL sz n el)) (hh:ev s.f hi= .iv (.v (.int kc J))) (G:J=(m:Int)) (Y:m<=n):
  ∀M N a w,Fits M N s nt a w-> ∃x,(execOp a.eval o).run P w= .ok (.value x) w∧VR M N (· <s.nx) (.iv (.bL sz m el)) x:=by
 intro M N a w hf;subst G;have B:P.underlying t=io (.slice u):=by
  have:=(C t _ ht).2.1;rw[hk]at this;exact this.1
 have A:P.elem t=u:=by simp[Program.elem,B]
 have D:=aN hf.2.1 x;rw[hx]at D;generalize I:a.eval x=vx at D;cases D with
 |iv _ _ hir=>
  cases hir with
  |fL _ _ a0 cap=>
   obtain rfl:m=0:=by omega
   have y:=run_slice_h (P:=P) (w:=w) t a0 0 cap (by rw[A];exact B) kc ((0:Nat):Int) (by omega) (by omega);rw[A,aQ (C u _ hu)]at y;refine⟨sliced a0 0 0 cap eu.size,?_,?_⟩
   .simp only[execOp,ho,I,XW,YU,qT hf hh];refine aZ ?_;rw[run_sliceAt_slice w t _ _ _ _ (by rw[A];exact B),y];rfl
   .exact .iv _ _ (.fL _ _ _ _)
  |bL _ _ _ b off cap hn hc hl hm hr=>
   have y:=run_slice_h (P:=P) (w:=w) t (io ⟨b,off,is⟩) n cap (by rw[A];exact B) kc (m:Int) (by omega) (by omega);rw[A,aQ (C u _ hu)]at y;refine⟨sliced (io ⟨b,off,is⟩) 0 m cap eu.size,?_,?_⟩
   .simp only[execOp,ho,I,XW,YU,qT hf hh];refine aZ ?_;rw[run_sliceAt_slice w t _ _ _ _ (by rw[A];exact B),y];rfl
   .have h:=IR.bL sz m el b off cap (by omega) hc (fun k hk=>hl k (by omega)) (fun k j hk=>hm k j (by omega)) (fun k j p hk=>hr k j p (by omega));exact .iv _ _ (by simpa[sliced,Addr.add]using h)
end
section
variable {P:Program} {nt:NT} {Q:AQ} {k:List KI} {s s':AS}
theorem lL{o:Oper}{p:PV}(j: ∀M N a w,Fits M N s nt a w-> ∃x,(execOp a.eval o).run P w= .ok (.value x) w∧VR M N (· <s.nx) p x)(hp:putDst nt o p s=io s'):OT P nt o s (fun t=>t=s'):=by
 intro M N a w hf K Z hk;obtain⟨x,u,j⟩:=j M N a w hf;unfold Oper.wp;rw[u];simp only[Oper.upon];cases hd:o.dst with
 |none=>
  have:=dL hp hd;subst this;exact hk M N s' _ w (.refl _ _ _ _ _) hf rfl
 |some d=>
  obtain⟨h1,rfl⟩:=dK hp hd;exact hk M N {s with f:=(d,p)::s.f} _ w (.refl _ _ _ _ _) (hf.put d p x h1 j) rfl
theorem go_neg{all rest:List Oper}{o:Oper}{t:TypeId}{x:Operand}{c:Int}(hg:o.guard=is)(ho:o.op= .unOp .neg t x)(A:ev s.f x= .iv (.v (.int .i64 c)))(h1: -9223372036854775807<=c)(B:c<=9223372036854775807)
  (hp:putDst nt o (.iv (.v (.int .i64 (-c)))) s=io s') (h:GO P nt (.ops all rest::k) Q s'):GO P nt (.ops all (o::rest)::k) Q s:=by
 refine bB hg (lL (p:= .iv (.v (.int .i64 (-c)))) (fun M N a w hf=>?_) hp) fun t ht=>by subst ht;exact h
 have j:=aN hf.2.1 x;rw[A]at j;generalize u:a.eval x=v at j;cases j with
 |iv _ _ hi=>cases hi with
  |v=>
   refine⟨.int .i64 (-c),?_,.iv _ _ (.v _)⟩;unfold execOp;rw[ho];simp only[u];have y:IntKind.i64.wrap (0-c)= -c:=by rw[Int.zero_sub];exact IntWalk.i64_in _ (by constructor<;>omega)
   have e:(Op.unary UnOp.neg (.int .i64 c)).run P w= .ok (.int .i64 (IntKind.i64.wrap (0-c))) w:=rfl;rw[<-y];exact aZ e
end
section
variable {P:Program} {ty:Ty} {nt:NT} {Q:AQ} {k:List KI} {s:AS}
theorem jJ{all rest:List Oper}{o:Oper}{t e:TypeId}{x:Operand}{d sz n:Nat}{el:Nat->List IV}(hg:o.guard=is)(ho:o.op= .binOp .eql t x (.const (.slice is 0 0)) t)(hd:o.dst=io d)(A:Xm d nt=jp)(ht:P.underlying t=io (.slice e))(C:ev s.f x= .iv (.bL sz n el))
  (h: ∀b:Bool,(b=jp->n=0)->GO P nt (.ops all rest::k) Q ⟨(d,pB b)::s.f,s.h,s.nx⟩):GO P nt (.ops all (o::rest)::k) Q s:=by
 refine bB (R:=fun u=> ∃b:Bool,(b=jp->n=0)∧u=⟨(d,pB b)::s.f,s.h,s.nx⟩) hg (fun M N a w hf K Z hk=>?_) fun u ⟨b,hb,hu⟩=>by subst hu;exact h b hb
 have y:=aN hf.2.1 x;rw[C]at y;generalize B:a.eval x=v at y;have j: ∀(a0:Option Addr) (l c:Nat),v= .slice a0 l c->(execOp a.eval o).run P w= .ok (.value (.bool a0.isNone)) w:=fun a0 l c y=>by
  unfold execOp;rw[ho];simp only[B,y];exact aZ (Lib.run_eql_slice_nil w t e a0 l c 0 0 ht)
 have b0: ∀(b:Bool),(b=jp->n=0)->(execOp a.eval o).run P w= .ok (.value (.bool b)) w->o.wp P a w K Z:=fun b hb hr=>by
  unfold Oper.wp;rw[hr];simp only[Oper.upon];rw[hd];exact hk M N ⟨(d,pB b)::s.f,s.h,s.nx⟩ _ w (.refl _ _ _ _ _) (hf.put d (pB b) (.bool b) (WL A) (.iv _ _ (.v _))) ⟨b,hb,rfl⟩
 cases y with
 |iv _ _ hi=>cases hi with
  |fL _ _ a0 cap=>exact b0 _ (fun _=>rfl) (j a0 0 cap rfl)
  |bL _ _ _ b off cap hn hc hl hm hr=>exact b0 kw (fun h=>by cases h) (j _ n cap rfl)
theorem lE(j:bp P ty){all rest:List Oper}{o:Oper}{t u:TypeId}{d:Nat}(hg:o.guard=is)(ho:o.op= .buildSlice t 0 #[])(hd:o.dst=io d)(y:Xm d nt=jp){e eu:bD}(ht:ty t=io e)(hk:e.k= .aP (.slice u))(hu:ty u=io eu)
  (h: ∀b:Nat,GO P nt (.ops all rest::k) Q ⟨(d,.iv (.v (.slice (io ⟨b,0,is⟩) 0 0)))::s.f,(s.nx,io (.row 1 []))::s.h,s.nx+1⟩):GO P nt (.ops all (o::rest)::k) Q s:=by
 refine bB (R:=fun v=> ∃b:Nat,v=⟨(d,.iv (.v (.slice (io ⟨b,0,is⟩) 0 0)))::s.f,(s.nx,io (.row 1 []))::s.h,s.nx+1⟩) hg (fun M N a w hf K Z B=>?_) fun v ⟨b,hv⟩=>by subst hv;exact h b
 have D:P.underlying t=io (.slice u):=by
  have:=(j t _ ht).2.1;rw[hk]at this;exact this.1
 obtain⟨G,h1,J,Y,I,x⟩:=hf.1.alloc (.cells #[] u) (.row 1 []) 0 (fun G g1 g2 g3=> .inl rfl);have hr:(execOp a.eval o).run P w= .ok (.value (.slice (io ⟨w.heap.size,0,is⟩) 0 0)) (w.alloc (.cells #[] u)):=by
  have C:=aQ (w:=w) (j u eu hu);simp[execOp,ho,Instr.buildSlice,Sem.run_bind,run_underlying D,Result.andThen_ok,C,newRow,Instr.fill,show ZP 0= #[] from rfl]
 have A:=ei hf I x;unfold Oper.wp;rw[hr];simp only[Oper.upon];rw[hd];exact B M G ⟨(d,.iv (.v (.slice (io ⟨w.heap.size,0,is⟩) 0 0)))::s.f,(s.nx,io (.row 1 []))::s.h,s.nx+1⟩ _ _ I (Fits.put (s:=⟨s.f,(s.nx,io (.row 1 []))::s.h,s.nx+1⟩) A d _ _ (WL y) (.iv _ _ (.v _))) ⟨_,rfl⟩
theorem lF(d0:bp P ty){all rest:List Oper}{o:Oper}{x y:Operand}{t u:TypeId}(hg:o.guard=is)(ho:o.op= .call ⟨.builtin .append, #[x,y], #[t,t]⟩){e eu:bD}(ht:ty t=io e)(hk:e.k= .aP (.slice u))(hu:ty u=io eu)
  {b0 sz:Nat} {news:List (List PV)} {py:PV} (hx:ev s.f x= .iv (.v (.slice (io ⟨b0,0,is⟩) 0 0))) (v0:eu.size=sz) (hz:eu.zero.cells.size=sz) (t0:0<sz)
  (s0:ev s.f y=py) (hy:Src s.h sz py news) (hm:news≠ []) (hb:news.length*eu.bytes<=140737488355328) (d1:news.length<=140737488355328)
  {s':AS} (hp:putDst nt o (.sl s.nx 0 news.length sz) (newObj s (.row sz news))=io s') (h:GO P nt (.ops all rest::k) Q s'):GO P nt (.ops all (o::rest)::k) Q s:=by
 refine bB hg (OT.value hp fun M N a w hf=>?_) fun v hv=>by subst hv;exact h
 subst v0;obtain⟨⟨ii,o0,p0,n0,q0⟩,_⟩:=d0 u _ hu;have w0:P.underlying t=io (.slice u):=by
  have:=(d0 t _ ht).2.1;rw[hk]at this;exact this.1
 have Y:=aN hf.2.1 x;rw[hx]at Y;have f0:=aN hf.2.1 y;rw[s0]at f0;obtain⟨C,ao,c,a1,D⟩:=hy.ok hf f0;have A: ∀v w',(Builtin.append_ #[t,t] o.type #[a.eval x,a.eval y]).run P w= .ok v w'->(execOp a.eval o).run P w= .ok (.value v) w':=by
  intro v w' h;simp only[execOp,ho,resolve];simp[invoke,builtin,h]
 rw[a1]at A;have a0: ∀vs:List Value,vs.length=news.flatten.length->vs.length=news.length*ii.size:=fun vs h=>by rw[h,fu C,p0]
 generalize a.eval x=vx at Y A;cases Y with
 |iv _ _ hi=>cases hi with
  |v=>
   obtain⟨b,b1,j0,G⟩:=D hm;subst j0;obtain⟨vs,e0,x0,z0⟩:=ll (s:=s) G;have j1:0<news.length:=X5.2 hm;have I:=run_append_grow (P:=P) w t o.type u ii eu.zero w0 o0 q0 ⟨b0,0,is⟩ 0 0 [] (by simp) (fun j v hj=>by simp at hj) ⟨b,b1,is⟩ news.length c vs (a0 vs e0) x0 (by omega) (by omega) (growslice_fits (by omega) (by rw[n0,Xd];exact hb));have J:vs.length=news.length*eu.size:=by rw[e0,fu C]
   have c0:=grownCap_ge w (0+news.length) 0 u;have k0:=grownCap_le_maxLen w (0+news.length) 0 u (by simp only[maxLen];omega);generalize grownCap w (0+news.length) 0 u=cap at*
   generalize i0:([]:List Value).toArray++vs.toArray++Builtin.zeroCells eu.zero.cells (cap-(0+news.length))=z at I;have B:z.size=cap*eu.size:=by
    rw[<-i0,Yr,Yr,size_zeroCells,hz];simp only[Y1,J,X8,Xd] at*
    rw[<-XG,Nat.add_sub_cancel' c0]
   obtain⟨N',h1,h2,h3,h4,h5⟩:=hf.1.drew.alloc (.cells z u) (.row eu.size news) z.size (fun N' g1 g2 g3=>by
    refine .inr ⟨t0,z,u,by rw[g1];exact heap_alloc_new _ _,g2.symm,?_,fun k e he=>C _ e he,fun k e j p he hj=>?_⟩
    .rw[B];exact Xi _ (by omega)
    .have f1:j<eu.size:=by rw[<-C _ e he];exact(WT.1 hj).1
     have r0:k<news.length:=(WT.1 he).1;have m0:=jL C _ e j p he hj;have i1:k*eu.size+j<vs.length:=by
      rw[J];have:(k+1)*eu.size<=news.length*eu.size:=Xi _ r0;rw[XG]at this;omega
     have:=z0 _ p m0;have e1:z.getD (k*eu.size+j) undef=vs.getD (k*eu.size+j) undef:=by
      rw[<-i0,WM,Xt (by simp;omega),WQ];simp
     rw[e1];exact this.mono (.refl _) g3 (fun i hi=>by omega))
   have g0:=(Ext.drew (M:=M) (N:=N) (U:=(· <s.nx)) (h:=s.h) (w:=w)).trans h4;refine⟨_,_,M,N',A _ _ I,g0,⟨h5,hf.2.1.ext g0,hf.2.2⟩,?_⟩;have:=VR.sl (M:=M) (N:=N') (U:=(· <s.nx+1)) s.nx 0 (0+news.length) eu.size cap (by omega) (by omega) c0 k0 (by rw[h2,B];simp);rw[h1,Yq,show PV.sl s.nx 0 (0+news.length) eu.size=PV.sl s.nx 0 news.length eu.size by rw[Xd]]at this;exact(show(newObj s (.row eu.size news)).nx=s.nx+1 from rfl)▸this
theorem mA(I:bp P ty){all rest:List Oper}{o:Oper}{x y:Operand}{t u:TypeId}(hg:o.guard=is)(ho:o.op= .call ⟨.builtin .append, #[x,y], #[t,t]⟩){e eu:bD}(ht:ty t=io e)(hk:e.k= .aP (.slice u))(hu:ty u=io eu)
  {b0 sz:Nat} (hx:ev s.f x= .iv (.v (.slice (io ⟨b0,0,is⟩) 0 0))) (d0:eu.size=sz)
  {el:Nat->List IV} (c0:ev s.f y= .iv (.bL sz 0 el)) {el2:Nat->List IV}
  {s':AS} (hp:putDst nt o (.iv (.bL sz 0 el2)) s=io s') (h:GO P nt (.ops all rest::k) Q s'):GO P nt (.ops all (o::rest)::k) Q s:=by
 refine bB hg (OT.value hp fun M N a w hf=>?_) fun v hv=>by subst hv;exact h
 subst d0;obtain⟨⟨ii,a0,g0,f0,i0⟩,_⟩:=I u _ hu;have e0:P.underlying t=io (.slice u):=by
  have:=(I t _ ht).2.1;rw[hk]at this;exact this.1
 have B:=aN hf.2.1 x;rw[hx]at B;have C:=aN hf.2.1 y;rw[c0]at C;have j: ∀v D,(Builtin.append_ #[t,t] o.type #[a.eval x,a.eval y]).run P w= .ok v D->(execOp a.eval o).run P w= .ok (.value v) D:=by
  intro v D h;simp only[execOp,ho,resolve];simp[invoke,builtin,h]
 generalize a.eval x=vx at B j;generalize a.eval y=vy at C j;have A: ∀(G:Option Addr) (c:Nat),vx= .slice (io ⟨b0,0,is⟩) 0 0->vy= .slice G 0 c-> ∃v D J Y,(execOp a.eval o).run P w= .ok (.value v) D∧Ext M N (· <s.nx) s.h w J Y (· <s.nx) s.h D∧Fits J Y s nt a D∧VR J Y (· <s.nx) (.iv (.bL eu.size 0 el2)) v:=fun G c e1 e2=>by
  subst e1 e2;exact⟨_,w,M,N,j _ _ (fp (P:=P) (w:=w) t o.type u ii e0 a0 (io ⟨b0,0,is⟩) 0 0 (WY _) G c (.inr ⟨_,_,rfl⟩)),.refl _ _ _ _ _,hf,.iv _ _ (.fL _ _ _ _)⟩
 cases B with
 |iv _ _ hi=>cases hi with
  |v=>cases C with
   |iv _ _ hi=>cases hi with
    |fL _ _ G c=>exact A G c Z Z
    |bL _ _ _ b off cap=>exact A _ _ Z Z
end
section
variable {P:Program} {ty:Ty} {nt:NT} {Q:AQ} {k:List KI} {s:AS}
theorem vd(r0:bp P ty){o:Oper}{t:TypeId}{a x:Operand}(ho:o.op= .store t a x)(hd:o.dst=is){i sz q:Nat}{e:bD}(he:ty t=io e)(z0:e.size=sz){es:List (List PV)}{xs:List PV}
  (ha:ev s.f a= .cR i sz q 0) (hi:s.h.get i=io (.row sz es)) (hq:q<es.length) (v0:(ev s.f x).cells=io xs) (f0:xs.length=sz) (b0:dy xs=jp):
  OT P nt o s (fun u=>u=⟨s.f,(i,io (.row sz (es.set q xs)))::s.h,s.nx⟩):=by
 have hp:putDst nt o .any ⟨s.f,(i,io (.row sz (es.set q xs)))::s.h,s.nx⟩=io ⟨s.f,(i,io (.row sz (es.set q xs)))::s.h,s.nx⟩:=by simp only[putDst,hd]
 refine OT.skip hp fun M N b w hf=>?_;have hu:=aN hf.2.1 a;have hy:=aN hf.2.1 x;rw[ha]at hu;generalize s0:b.eval a=u at hu;generalize w0:b.eval x=y at hy
 have key: ∃w',(Instr.storeAt t u y).run P w= .ok () w'∧Ext M N (· <s.nx) s.h w M N (· <s.nx) ((i,io (.row sz (es.set q xs)))::s.h) w'∧Fits M N ⟨s.f,(i,io (.row sz (es.set q xs)))::s.h,s.nx⟩ nt b w':=by
  cases hu with
  |cR _ _ _ _ hU=>
   obtain⟨hl,hv⟩:=oV hy v0;have a1:y.cells.size=sz:=by omega
   rcases hf.1.obj i _ hi with h0|⟨h0,c,T,g1,g2,g3,g4,g5⟩
   .rw[h0]at hq;simp at hq
   have a0:(q+1)*sz<=es.length*sz:=Xi _ hq;have x0:q*sz+sz<=c.size:=by rw[Yy]at a0;omega
   have C: ∀z∈y.cells.toList,z.oneCell'=jp:=by
    intro v t0;obtain⟨j,hj⟩:=XH t0;have k0:j<y.cells.toList.length:=(WT.1 hj).1;have e0:xs[j]? =io (xs[j]'(by simp at k0;omega)):=WU _;have:=(hv j _ e0).one (gE b0 j _ e0);rw[WM]at this;have i0:y.cells[j]? =io v:=by simpa using hj
    rw[i0]at this;exact this
   have d0:=run_storeCells_at P (N.aA i) (q*sz) T y.cells.toList 0 c w g1 (by simp;omega) C;refine⟨w.setRow (N.aA i) (c.toList.take (q*sz+0)++y.cells.toList++c.toList.drop (q*sz+0+y.cells.toList.length)).toArray,?_,?_⟩
   .have D:=aQ (w:=w) (r0 t e he);have q0:y.cells.size=e.size:=by omega
    simp only[Instr.storeAt,Instr.sureAddr,pure_bind,storeVar,Sem.run_bind,D,Result.andThen_ok,q0,ne_eq,not_true_eq_false,if_false];exact d0
   .have c0:=setRow_heap w (N.aA i) c (c.toList.take (q*sz+0)++y.cells.toList++c.toList.drop (q*sz+0+y.cells.toList.length)).toArray T (0,0) g1;have o0: ∀b,b≠N.aA i->(w.setRow (N.aA i) (c.toList.take (q*sz+0)++y.cells.toList++c.toList.drop (q*sz+0+y.cells.toList.length)).toArray).heap[b]? =w.heap[b]? :=by
     intro b hb;simp only[World.setRow,Xp];rw[be (fun e=>hb e.symm)]
    have p0:(AO.row sz es).real=jp:=by cases es with
     |nil=>simp at hq
     |cons=>rfl
    have g0: ∀m,(c.toList.take (q*sz+0)++y.cells.toList++c.toList.drop (q*sz+0+y.cells.toList.length)).toArray.getD m undef=if q*sz<=m∧m<q*sz+sz then y.cells.getD (m-q*sz) undef else c.getD m undef:=by
     intro m;rw[WM,WM,WM];have m0:y.cells.toList.length=sz:=by simp;omega
     split
     .rename_i hm;have e1:(c.toList.take (q*sz+0)++y.cells.toList++c.toList.drop (q*sz+0+y.cells.toList.length)).toArray[m]? =y.cells[m-q*sz]? :=by
       simp only[XD];rw[Xb (by simp;omega),Xc (by simp;omega)];simp only[Xv,YW,Xo];congr 1;omega
      rw[e1]
     .rename_i hm;have e1:(c.toList.take (q*sz+0)++y.cells.toList++c.toList.drop (q*sz+0+y.cells.toList.length)).toArray[m]? =c[m]? :=by
       simp only[XD];rcases XO m (q*sz) with k1|k1
       .rw[W6,Xb (by simp;omega),Xy,am (by omega),Xo]
       .rw[Xc (by simp;omega),XK,Xo];congr 1;simp;omega
      rw[e1]
    have:=hf.1.write hi p0 (w.setRow (N.aA i) (c.toList.take (q*sz+0)++y.cells.toList++c.toList.drop (q*sz+0+y.cells.toList.length)).toArray) (.row sz (es.set q xs)) Z Z Z (by simp) o0
     (.inr ⟨h0,_,T,c0,by simp;omega,by simp;omega,fun G Y A=>?_,fun G Y J p2 A I=>?_⟩)
    .exact⟨this.1,this.2,hf.2.1,hf.2.2⟩
    .rw[YD]at A;split at A
     .cases A;exact f0
     .exact g4 G Y A
    .rw[g0];rw[YD]at A;split at A
     .rename_i B;subst B;cases A;have j0:J<sz:=by rw[<-f0];exact(WT.1 I).1
      rw[am (by omega),show q*sz+J-q*sz=J by omega];exact hv J p2 I
     .rename_i B;have j0:J<sz:=by rw[<-g4 G Y A];exact(WT.1 I).1
      rw[be ?_]
      .exact g5 G Y J p2 A I
      .intro⟨e1,Y⟩;rcases YZ q G with n0|heq|hgt
       .have:(q+1)*sz<=G*sz:=Xi _ n0;rw[Yy]at this;omega
       .exact B heq
       .have:(G+1)*sz<=q*sz:=Xi _ hgt;rw[Yy]at this;omega
 obtain⟨w',h1,A,I⟩:=key;refine⟨w',M,N,?_,A,I⟩;simp only[execOp,ho];simp[s0,w0,h1]
end
def S2{σ:Type}(P:Program)(nt:NT)(k:List KI)(Q:AQ)(n0:Nat)(t:σ->AS):AQ:=fun e u=>(e= .normal∧ ∃i L,Wk n0 L u (t i))∨(e≠ .normal∧kp P nt k Q e u)
theorem go_cut{P:Program}{nt:NT}{Q:AQ}{k:List KI}{s:AS}{c:Code}{σ:Type}(n:Nat)(t:σ->AS)(B:c=RA (y6 n c) (uQ n c))
  (h1:GO P nt ((y6 n c).map KI.code) (S2 P nt k Q s.nx t) s) (h2: ∀i,GO P nt (.code (uQ n c)::k) Q (t i)):GO P nt (.code c::k) Q s:=by
 intro M N a w hf;rw[B];have key: ∀(l:List Code) (u:AS) D I Y C,Ext M N (· <s.nx) s.h w D I (· <u.nx) u.h C->Fits D I u nt Y C->
   kp P nt (l.map KI.code) (S2 P nt k Q s.nx t) .normal u->(RA l (uQ n c)).wp P (nY nt M N s w (kp P nt k Q)) Y C:=by
  intro l
  induction l with
  |nil=>
   intro u D I Y C hx A hk;rcases hk with⟨_,i,L,hw⟩|⟨he,_⟩
   .exact AW.then (h2 i) (hw.fits A) fun e a2 w2 G J s2 y j x=>⟨G,J,s2,(hw.ext hx).trans y,j,x⟩
   .exact absurd Z he
  |cons c l ih=>
   intro u D I Y C hx A hk;refine wp_seq (AW.then hk A fun e a2 w2 G J s2 y j x=>?_);cases e with
   |normal=>exact ih s2 G J a2 w2 (hx.trans y) j x
   |_=>
    rcases E2 (l:=l) (by simp) x with⟨he,_⟩|⟨_,hq⟩
    .cases he
    .exact⟨G,J,s2,hx.trans y,j,hq⟩
 exact key _ s M N a w (.refl _ _ _ _ _) hf h1
theorem oQ{P:Program}{nt:NT}{k:List KI}{Q:AQ}{n0:Nat}{σ:Type}{t:σ->AS}{u:AS}(i:σ)(L:List Nat)(h:Wk n0 L u (t i)):S2 P nt k Q n0 t .normal u:= .inl ⟨rfl,i,L,h⟩
section
variable {P:Program} {ty:Ty} {nt:NT} {Q:AQ} {k:List KI} {s:AS}
theorem kN(x:bp P ty){all rest:List Oper}{o:Oper}{t:TypeId}{a:Operand}(ho:o.op= .load t a)(hg:o.guard=is){e:bD}(he:ty t=io e){i sz q off:Nat}{es:List (List PV)}{row:List PV}{v:PV}
  (ha:ev s.f a= .cR i sz q off) (hi:s.h.get i=io (.row sz es)) (y:es[q]? =io row) (hr:il e (row.drop off)=io v)
  {s':AS} (hp:putDst nt o v s=io s') (h:GO P nt (.ops all rest::k) Q s'):GO P nt (.ops all (o::rest)::k) Q s:=by
 have hb:behind s.h (.cR i sz q off)=io (row.drop off):=by
  simp only[behind,hi,y,aai]
 have j:jf ty s o.op=io (v,True):=by
  rw[ho];simp only[jf,he,ha,hb,hr]
 exact bB hg (vt x j ac hp) fun u hu=>by subst hu;exact h
end
section
variable {P:Program} {ty:Ty} {nt:NT} {Q:AQ} {k:List KI} {s:AS}
theorem mS(t0:bp P ty){o:Oper}{t:TypeId}{a x:Operand}(ho:o.op= .store t a x)(hd:o.dst=is){i sz q off:Nat}{e:bD}(he:ty t=io e){es:List (List PV)}{row xs:List PV}
  (ha:ev s.f a= .cR i sz q off) (hi:s.h.get i=io (.row sz es)) (Y:es[q]? =io row) (x0:(ev s.f x).cells=io xs) (d1:xs.length=e.size) (g0:off+e.size<=sz) (b0:dy xs=jp):
  OT P nt o s (fun u=>u=⟨s.f,(i,io (.row sz (es.set q (setCells row off xs))))::s.h,s.nx⟩):=by
 have hp:putDst nt o .any ⟨s.f,(i,io (.row sz (es.set q (setCells row off xs))))::s.h,s.nx⟩=io ⟨s.f,(i,io (.row sz (es.set q (setCells row off xs))))::s.h,s.nx⟩:=by simp only[putDst,hd]
 refine OT.skip hp fun M N b w hf=>?_;have hu:=aN hf.2.1 a;have hy:=aN hf.2.1 x;rw[ha]at hu;generalize v0:b.eval a=u at hu;generalize z0:b.eval x=y at hy
 have key: ∃w',(Instr.storeAt t u y).run P w= .ok () w'∧Ext M N (· <s.nx) s.h w M N (· <s.nx) ((i,io (.row sz (es.set q (setCells row off xs))))::s.h) w'∧Fits M N ⟨s.f,(i,io (.row sz (es.set q (setCells row off xs))))::s.h,s.nx⟩ nt b w':=by
  cases hu with
  |cR _ _ _ _ hU=>
   obtain⟨hl,hv⟩:=oV hy x0;have f1:y.cells.size=e.size:=by omega
   have q0:q<es.length:=(WT.1 Y).1;rcases hf.1.obj i _ hi with h0|⟨h0,c,T,g1,g2,g3,g4,g5⟩
   .rw[h0]at Y;simp at Y
   have f0:row.length=sz:=g4 q row Y;have a0:(q+1)*sz<=es.length*sz:=Xi _ q0;have b1:q*sz+off+e.size<=c.size:=by rw[Yy]at a0;omega
   have D: ∀z∈y.cells.toList,z.oneCell'=jp:=by
    intro v w0;obtain⟨j,hj⟩:=XH w0;have m0:j<y.cells.toList.length:=(WT.1 hj).1;have e0:xs[j]? =io (xs[j]'(by simp at m0;omega)):=WU _;have:=(hv j _ e0).one (gE b0 j _ e0);rw[WM]at this;have j0:y.cells[j]? =io v:=by simpa using hj
    rw[j0]at this;exact this
   have d0:=run_storeCells_at P (N.aA i) (q*sz+off) T y.cells.toList 0 c w g1 (by simp;omega) D;refine⟨w.setRow (N.aA i) (c.toList.take ((q*sz+off)+0)++y.cells.toList++c.toList.drop ((q*sz+off)+0+y.cells.toList.length)).toArray,?_,?_⟩
   .have G:=aQ (w:=w) (t0 t e he);have s0:y.cells.size=e.size:=by omega
    simp only[Instr.storeAt,Instr.sureAddr,pure_bind,storeVar,Sem.run_bind,G,Result.andThen_ok,s0,ne_eq,not_true_eq_false,if_false];exact d0
   .have c0:=setRow_heap w (N.aA i) c (c.toList.take ((q*sz+off)+0)++y.cells.toList++c.toList.drop ((q*sz+off)+0+y.cells.toList.length)).toArray T (0,0) g1;have p0: ∀b,b≠N.aA i->(w.setRow (N.aA i) (c.toList.take ((q*sz+off)+0)++y.cells.toList++c.toList.drop ((q*sz+off)+0+y.cells.toList.length)).toArray).heap[b]? =w.heap[b]? :=by
     intro b hb;simp only[World.setRow,Xp];rw[be (fun e=>hb e.symm)]
    have r0:(AO.row sz es).real=jp:=by cases es with
     |nil=>simp at Y
     |cons=>rfl
    have i0: ∀m,(c.toList.take ((q*sz+off)+0)++y.cells.toList++c.toList.drop ((q*sz+off)+0+y.cells.toList.length)).toArray.getD m undef=if q*sz+off<=m∧m<q*sz+off+e.size then y.cells.getD (m-(q*sz+off)) undef else c.getD m undef:=by
     intro m;rw[WM,WM,WM];have n0:y.cells.toList.length=e.size:=by simp;omega
     split
     .rename_i hm;have e1:(c.toList.take ((q*sz+off)+0)++y.cells.toList++c.toList.drop ((q*sz+off)+0+y.cells.toList.length)).toArray[m]? =y.cells[m-(q*sz+off)]? :=by
       simp only[XD];rw[Xb (by simp;omega),Xc (by simp;omega)];simp only[Xv,YW,Xo];congr 1;omega
      rw[e1]
     .rename_i hm;have e1:(c.toList.take ((q*sz+off)+0)++y.cells.toList++c.toList.drop ((q*sz+off)+0+y.cells.toList.length)).toArray[m]? =c[m]? :=by
       simp only[XD];rcases XO m (q*sz+off) with k1|k1
       .rw[W6,Xb (by simp;omega),Xy,am (by omega),Xo]
       .rw[Xc (by simp;omega),XK,Xo];congr 1;simp;omega
      rw[e1]
    have:=hf.1.write hi r0 (w.setRow (N.aA i) (c.toList.take ((q*sz+off)+0)++y.cells.toList++c.toList.drop ((q*sz+off)+0+y.cells.toList.length)).toArray) (.row sz (es.set q (setCells row off xs))) Z Z Z (by simp) p0
     (.inr ⟨h0,_,T,c0,by simp;omega,by simp;omega,fun I e2 A=>?_,fun I e2 B p2 A J=>?_⟩)
    .exact⟨this.1,this.2,hf.2.1,hf.2.2⟩
    .rw[YD]at A;split at A
     .cases A;rw[c8];exact f0
     .exact g4 I e2 A
    .rw[i0];rw[YD]at A;split at A
     .rename_i C;subst C;cases A;have k0:B<sz:=by rw[<-f0,<-c8 row off xs];exact(WT.1 J).1
      rcases iO row off xs B p2 J with⟨k1,k3⟩|⟨k1,k3⟩
      .have a1:B-off<xs.length:=(WT.1 k3).1;rw[am (by omega),show q*sz+B-(q*sz+off)=B-off by omega];exact hv _ p2 k3
      .rw[be (by omega)];exact g5 q row B p2 Y k3
     .rename_i C;have k0:B<sz:=by rw[<-g4 I e2 A];exact(WT.1 J).1
      rw[be ?_]
      .exact g5 I e2 B p2 A J
      .intro⟨e1,e3⟩;rcases YZ q I with o0|heq|hgt
       .have:(q+1)*sz<=I*sz:=Xi _ o0;rw[Yy]at this;omega
       .exact C heq
       .have:(I+1)*sz<=q*sz:=Xi _ hgt;rw[Yy]at this;omega
 obtain⟨w',h1,A,J⟩:=key;refine⟨w',M,N,?_,A,J⟩;simp only[execOp,ho];simp[v0,z0,h1]
theorem x9{es:List (List PV)}{q off:Nat}{row xs:List PV}(j:es[q]? =io row)(h:setCells row off xs=row):es.set q (setCells row off xs)=es:=by
 rw[h];refine Y2 fun i=>?_;rw[YD];split
 .rename_i e;subst e;split
  .exact j.symm
  .rename_i g;rw[List.getElem?_eq_none (by omega)]
 .rfl
theorem nD(B:bp P ty){all rest:List Oper}{o:Oper}{t:TypeId}{a x:Operand}(ho:o.op= .store t a x)(hd:o.dst=is)(hg:o.guard=is){i sz q off:Nat}{e:bD}(he:ty t=io e){es:List (List PV)}{row xs:List PV}
  (ha:ev s.f a= .cR i sz q off) (hi:s.h.get i=io (.row sz es)) (G:es[q]? =io row) (D:(ev s.f x).cells=io xs) (C:xs.length=e.size) (y:off+e.size<=sz) (A:dy xs=jp) (j:setCells row off xs=row)
  (h:GO P nt (.ops all rest::k) Q ⟨s.f,(i,io (.row sz es))::s.h,s.nx⟩):GO P nt (.ops all (o::rest)::k) Q s:=
 bB hg (mS B ho hd he ha hi G D C y A) fun u hu=>by subst hu;rw[x9 G j];exact h
theorem gp(B:bp P ty){o:Oper}{t:TypeId}{a x:Operand}(ho:o.op= .store t a x)(hd:o.dst=is){i sz q off:Nat}{e:bD}(he:ty t=io e){es:List (List PV)}{row xs:List PV}
  (ha:ev s.f a= .cR i sz q off) (hi:s.h.get i=io (.row sz es)) (G:es[q]? =io row) (D:(ev s.f x).cells=io xs) (C:xs.length=e.size) (y:off+e.size<=sz) (A:dy xs=jp) (j:setCells row off xs=row):
  OT P nt o s fun u=>u=⟨s.f,(i,io (.row sz es))::s.h,s.nx⟩:=by
 have:=mS (P:=P) (nt:=nt) B ho hd he ha hi G D C y A;rwa[x9 G j]at this
theorem dm(u:bp P ty){o:Oper}{t:TypeId}{a:Operand}(ho:o.op= .load t a){e:bD}(he:ty t=io e){i sz q off:Nat}{es:List (List PV)}{row:List PV}{v:PV}
  (ha:ev s.f a= .cR i sz q off) (hi:s.h.get i=io (.row sz es)) (y:es[q]? =io row) (hr:il e (row.drop off)=io v):
  ∀M N b w,Fits M N s nt b w-> ∃x,(execOp b.eval o).run P w= .ok (.value x) w∧VR M N (· <s.nx) v x:=by
 have hb:behind s.h (.cR i sz q off)=io (row.drop off):=by
  simp only[behind,hi,y,aai]
 have j:jf ty s o.op=io (v,True):=by
  rw[ho];simp only[jf,he,ha,hb,hr]
 intro M N b w hf;exact sQ u hf j ac
def HL(P:Program)(nt:NT)(all:List Oper)(s:AS):List (Nat×Oper)->Prop
 | []=>True
 |x::r=>fb P nt all s x.2∧HL P nt all s r
theorem HL.mem{all:List Oper}{l:List (Nat×Oper)}(h:HL P nt all s l): ∀x∈l,fb P nt all s x.2:=by
 induction l with
 |nil=>intro x j;cases j
 |cons y r ih=>
  intro x j;rcases Xa.1 j with e|m
  .rw[e];exact h.1
  .exact ih h.2 x m
theorem mO(u:bp P ty){all:List Oper}{o:Oper}{t:TypeId}{a:Operand}(ho:o.op= .load t a)(hg:bQ nt all s.f o=io jp){d:Nat}(hd:o.dst=io d)(j:Xm d nt=jp){e:bD}(he:ty t=io e){i sz q off:Nat}{es:List (List PV)}{row:List PV}{v:PV}
  (ha:ev s.f a= .cR i sz q off) (hi:s.h.get i=io (.row sz es)) (y:es[q]? =io row) (hr:il e (row.drop off)=io v) (hs:ae v (s.f.get d)):fb P nt all s o:=fun M N b w hf=>by
 obtain⟨x,B,A⟩:=dm u ho he ha hi y hr M N b w hf;refine⟨x,.inl ⟨fZ hg hf,.inl B⟩,?_⟩;rw[hd];exact wY hd Z hs (hf.put d v x (WL j) A)
theorem ND(B:bp P ty)(H:List Nat){all:List Oper}{todo pend:List (Nat×Oper)}{j:Nat}{o:Oper}{s':AS}{Y J:Prop}(hrd:dw todo=[(j,o)])(hg:bQ nt all s.f o=io jp)(hpb:gX all pend o=jp)(hE:nI todo [j]=jp)
  (hag:lX ty nt all s todo pend=io Y) (hCA:Y) (D:OT P nt o s (fun t=>t=s')) (hag2:c6 ty nt all s' ((a7 pend o).filter fun x=>!H.any (Xj x.1))=io J) (hC2:J) (hH:HL P nt all s' ((a7 pend o).filter fun x=>H.any (Xj x.1)))
  (h:GO P nt (.bR all (todo.filter fun x=>!Xj x.1 j) (a7 pend o)::k) Q s'):GO P nt (.bR all todo pend::k) Q s:=by
 have A:(j,o)∈dw todo:=by rw[hrd];simp
 obtain⟨h3,C⟩:=Xu.1 A;simp only[X0,YG,XL]at C;have u: ∀y∈todo,aS y.2=jp-> ∀y∈pend,fb P nt all s y.2:=by
  intro y G I;unfold lX at hag;split at hag
  .exact cy B hag hCA
  .rename_i h2;have:=XL.1 h2 y G;rw[I]at this;exact absurd Z this
 refine pr hE ⟨_,h3,C.1⟩ u fun j' o' hj _ hu=>?_;simp only[W1]at hj;subst hj;have:=hu o h3;subst this
 refine⟨C.1,fun y G _=>by simpa using C.2 y G,hpb,hg,_,D,fun t ht=>by
  subst ht;refine⟨fun x hx=>?_,h⟩;cases hb:H.any (Xj x.1) with
  |true=>exact hH.mem x (Xu.2 ⟨hx,hb⟩)
  |false=>exact cy B hag2 hC2 x (Xu.2 ⟨hx,by simp only[hb];rfl⟩)⟩
theorem r8(A:bp P ty)(H:List Nat){all:List Oper}{todo pend:List (Nat×Oper)}{j:Nat}{o:Oper}{c:Call}{g:FuncId}{asv args:List PV}{os:List AO}{r:PV}{D:AH}{G:Nat}{s':AS}{C B:Prop}(L:List Nat)(hc:bf P g args os r D G)
  (hrd:dw todo=[(j,o)]) (ho:o.op= .call c) (ha:bN s.f c=io (g,asv))
  (hn:cE L=jp) (hl:L.all (fun j=>Xm j s.nx)=jp) (y:L.map s.h.get=os.map fun o=>io (o.b3 (sig L s.nx))) (u:asv=dc (sig L s.nx) args) (hp:putDst nt o (r.b3 (sig L s.nx)) (aB s L D G)=io s')
  (hg:bQ nt all s.f o=io jp) (hpb:gX all pend o=jp) (hE:nI todo [j]=jp)
  (hag:lX ty nt all s todo pend=io C) (hCA:C) (hag2:c6 ty nt all s' ((a7 pend o).filter fun x=>!H.any (Xj x.1))=io B) (hC2:B) (hH:HL P nt all s' ((a7 pend o).filter fun x=>H.any (Xj x.1)))
  (h:GO P nt (.bR all (todo.filter fun x=>!Xj x.1 j) (a7 pend o)::k) Q s'):GO P nt (.bR all todo pend::k) Q s:=
 ND A H hrd hg hpb hE hag hCA (Aj L hc ho ha hn hl y u hp) hag2 hC2 hH h
end
theorem eR.UF{sz:Nat}{es x:List (List PV)}(hl:es.length=x.length)(h: ∀(k:Nat) (e A:List PV),es[k]? =io e->x[k]? =io A->hQ e A):eR (.row sz es) (.row sz x):=by
 have y:x=[]↔es=[]:=by rw[<-Yl,<-Yl,hl]
 refine⟨fun hr=>?_,fun M N U w i D=>?_⟩
 .cases es with
  |nil=>rw[y.2 Z]at hr;cases hr
  |cons=>rfl
 .rcases D with B|⟨B,c,T,g1,g2,g3,g4,g5⟩
  .exact .inl (y.2 B)
  .refine .inr ⟨B,c,T,g1,g2,by rw[<-hl];exact g3,fun k A u=>?_,fun k A j p u G=>?_⟩
   .have hk:k<es.length:=by rw[hl];exact(WT.1 u).1
    have:=h k _ A (WU hk) u;rw[<-this.length];exact g4 k _ (WU hk)
   .have hk:k<es.length:=by rw[hl];exact(WT.1 u).1
    obtain⟨q,I,C⟩:=(h k _ A (WU hk) u).get j p G;exact C _ _ _ _ (g5 k _ j q (WU hk) I)
def dC:List (List PV)->List (List PV)->Prop
 | [],[]=>True
 |p::r,q::s=>hQ p q∧dC r s
 |_,_=>False
theorem dC.length: ∀{a b:List (List PV)},dC a b->a.length=b.length
 | [],[],_=>rfl
 |_::_,_::_,h=>congrArg (· +1) (dC.length h.2)
 | [],_::_,h=>h.elim
 |_::_,[],h=>h.elim
theorem dC.get: ∀{a b:List (List PV)},dC a b-> ∀(k:Nat) (e j:List PV),a[k]? =io e->b[k]? =io j->hQ e j
 | [],[],_,_,_,_,h,_=>by simp at h
 |p::r,q::s,hh,k,e,j,h,g=>by
  cases k with
  |zero=>simp at h g;subst h;subst g;exact hh.1
  |succ k=>exact dC.get hh.2 k e j (by simpa using h) (by simpa using g)
 | [],_::_,hh,_,_,_,_,_=>hh.elim
 |_::_,[],hh,_,_,_,_,_=>hh.elim
theorem hQ.refl: ∀a:List PV,hQ a a
 | []=>trivial
 |p::r=>⟨.refl p,hQ.refl r⟩
theorem dC.refl: ∀a:List (List PV),dC a a
 | []=>trivial
 |p::r=>⟨hQ.refl p,dC.refl r⟩
theorem dC.app: ∀{a b c d:List (List PV)},dC a b->dC c d->dC (a++c) (b++d)
 | [],[],_,_,_,h=>h
 |_::_,_::_,_,_,h,g=>⟨h.1,dC.app h.2 g⟩
 | [],_::_,_,_,h,_=>h.elim
 |_::_,[],_,_,h,_=>h.elim
theorem Ta{n i:Nat}{σ:Nat->Nat}{h r:AH}{α:Type}{sz:Nat}{es:List (List PV)}{l:List α}{f:α->List IV}(ho:h.get (σ i)=io (.row sz es))(he:dC es (l.map fun x=>(f x).map .iv))(hi:Xm i n=jp)(hr:o6 n σ h r):o6 n σ h ((i,io (aX sz l f))::r):=
 ⟨⟨_,ho,(eR.UF he.length he.get).trans (EJ σ Z)⟩,WL hi,eJ n,hr⟩
section
variable {P:Program} {ty:Ty} {nt:NT} {s:AS}
theorem Oq(A:bp P ty){o:Oper}{u v:TypeId}{x:Operand}(ho:o.op= .slice u x is is is){D G:bD}(hu:ty u=io D){n:Nat}(B:D.k= .arr n v)(J:ty v=io G)
  {i off:Nat} (Y:ev s.f x= .ptr i off): ∀M N a w,Fits M N s nt a w-> ∃x,(execOp a.eval o).run P w= .ok (.value x) w∧VR M N (· <s.nx) (.og i off n) x:=by
 intro M N a w hf;have C:P.underlying u=io (.array n v):=by
  have:=(A u _ hu).2.1;rw[B]at this;exact this
 have j:=aN hf.2.1 x;rw[Y]at j;generalize hy:a.eval x=y at j;cases j with
 |ptr _ _ hU=>
  refine⟨.slice (io ⟨N.aA i,off,is⟩) n n,?_,.og _ _ _ hU⟩;simp only[execOp,ho,hy,YU];refine aZ ?_;have I:(⟨N.aA i,off,is⟩:Addr).add 0=⟨N.aA i,off,is⟩:=by rw[c7,Yp]
  simp[Instr.sliceAt,run_underlying C,Instr.sliceBounds,aQ (A v _ J),Instr.sureAddr,I]
theorem Ka(Y:bp P ty){o:Oper}{x y:Operand}{t t' u:TypeId}(ho:o.op= .call ⟨.builtin .copy, #[x,y], #[t,t']⟩){e eu:bD}(ht:ty t=io e)(hk:e.k= .aP (.slice u))(hu:ty u=io eu)
  {i off n:Nat} {cs:List PV} {T:Option TypeId} {news:List (List PV)} {py:PV} (hx:ev s.f x= .og i off n) (hi:s.h.get i=io (.cells cs T)) (w0:ev s.f y=py) (hy:Src s.h eu.size py news) (c0: ∀e∈news,dy e=jp)
  (hn:news.length<=n) (t0:off+news.length*eu.size<=cs.length)
  {s':AS} (hp:putDst nt o (.iv (.v (.int .i64 news.length))) ⟨s.f,(i,io (.cells (cs.take off++news.flatten++cs.drop (off+news.length*eu.size)) T))::s.h,s.nx⟩=io s'):OT P nt o s (fun t=>t=s'):=by
 refine OT.value hp fun M N a w hf=>?_
 have n0:P.underlying t=io (.slice u):=by
  have:=(Y t _ ht).2.1;rw[hk]at this;exact this.1
 have f0:=aN hf.2.1 x;rw[hx]at f0;have p0:=aN hf.2.1 y;rw[w0]at p0;obtain⟨k0,ao,c,r0,D⟩:=hy.ok hf p0;have G:=fu k0;obtain⟨B,CT,g1,g2,g3,g4,g5⟩:=hf.1.obj i _ hi;have q0:a.eval x= .slice (io ⟨N.aA i,off,is⟩) n n:=by
  generalize a.eval x=z at f0;cases f0;rfl
 have C: ∀v w',(Builtin.copy_ #[t,t'] o.type #[a.eval x,a.eval y]).run P w= .ok v w'->(execOp a.eval o).run P w= .ok (.value v) w':=by
  intro v w' h;simp only[execOp,ho,resolve];simp[invoke,builtin,h]
 have a0:Nat.min news.length n=news.length:=Nat.min_eq_left hn;by_cases j0:news=[]
 .subst j0;have s0:cs.take off++([]:List (List PV)).flatten++cs.drop (off+([]:List (List PV)).length*eu.size)=cs:=by simp
  rw[s0];obtain⟨q1,q2⟩:=hf.1.write hi Z w (.cells cs T) Z Z Z Z (fun _ _=>rfl) ⟨B,CT,g1,g2,g3,g4,g5⟩;refine⟨.int .i64 0,w,M,N,C _ _ ?_,q1,⟨q2,hf.2⟩,.iv _ _ (.v _)⟩;rw[q0,r0];have hl:(Builtin.firstCells eu.size 0 (.slice ao 0 c)).run P w= .ok #[] w:=by
   cases ao with
   |none=>simp[Builtin.firstCells]
   |some a=>simp[Builtin.firstCells,loadCells,loadCellsFrom]
  simp[Builtin.copy_,run_underlying n0,Builtin.lenOf,aQ (Y u _ hu),hl,storeCells,goInt]
 .obtain⟨b,g0,rfl,I⟩:=D j0;obtain⟨vs,v1,v2,v3⟩:=ll (s:=s) I;have o0:vs.length=news.length*eu.size:=by rw[v1,G]
  have J: ∀z∈vs,z.oneCell'=jp:=by
   intro z hz;obtain⟨j,A⟩:=XH hz;have i0:j<news.flatten.length:=by rw[<-v1];exact(WT.1 A).1
   obtain⟨k,e,i2,h1,h2,_⟩:=jM k0 j _ (WU i0);have h3:=v3 j _ (WU i0);have h4:=h3.one (gE (c0 e (Xs h1)) i2 _ h2);rw[WQ,A]at h4;exact h4
  have hl:=run_firstCells_some (P:=P) w eu.size news.length ⟨b,g0,is⟩ news.length c vs o0 v2;have m0:=run_storeCells_at P (N.aA i) off CT vs 0 B w g1 (by omega) J;simp only[Yp]at m0;have d0:=setRow_heap w (N.aA i) B (B.toList.take off++vs++B.toList.drop (off+vs.length)).toArray CT (0,0) g1;have b0: ∀b,b≠N.aA i->(w.setRow (N.aA i) (B.toList.take off++vs++B.toList.drop (off+vs.length)).toArray).heap[b]? =w.heap[b]? :=by
   intro b hb;simp only[World.setRow,Xp];rw[be (fun e=>hb e.symm)]
  have v0: ∀(j:Nat) (p:PV),(cs.take off++news.flatten++cs.drop (off+news.length*eu.size))[j]? =io p->VR M N (· <s.nx) p ((B.toList.take off++vs++B.toList.drop (off+vs.length)).toArray.getD j undef):=by
   intro j p A;rw[WM,XD];have x0:(cs.take off).length=off:=by rw[Xv];omega
   have e0:(B.toList.take off).length=off:=by rw[Xv,YW];omega
   rw[W6]at A ⊢;rcases XO j off with h1|h1
   .rw[Xb (by omega)]at A ⊢;rw[Xy,am h1]at A ⊢;rw[Xo,<-WM];exact g4 j p A
   .rw[Xc (by omega),x0]at A;rw[Xc (by omega),e0];rcases XO (j-off) news.flatten.length with h2|h2
    .rw[Xb h2]at A;rw[Xb (by rw[v1];exact h2),<-WQ];exact v3 _ p A
    .rw[Xc h2,XK,G]at A;rw[Xc (by rw[v1];exact h2),XK,o0,Xo,<-WM];rw[G]at h2;have e1:off+news.length*eu.size+(j-off-news.length*eu.size)=j:=by omega
     rw[e1]at A;rw[e1];exact g4 j p A
  obtain⟨q1,q2⟩:=hf.1.write hi Z (w.setRow (N.aA i) (B.toList.take off++vs++B.toList.drop (off+vs.length)).toArray) (.cells (cs.take off++news.flatten++cs.drop (off+news.length*eu.size)) T) Z Z Z (by simp) b0
   ⟨_,CT,d0,by simp;omega,by simp[G];omega,v0,g5⟩
  refine⟨.int .i64 news.length,_,M,N,C _ _ ?_,q1,⟨q2,hf.2⟩,.iv _ _ (.v _)⟩;rw[q0,r0];simp[Builtin.copy_,run_underlying n0,Builtin.lenOf,aQ (Y u _ hu),a0,hl,m0,goInt]
end
end
end Go.Al
namespace Go.Al
open Go.Sort Go.RowKit
def D6(P:Program)(G k:Nat):Prop:=
 (∀{α:Type} [Inhabited α] (enc:α->List Value) (_: ∀x,(enc x).length=k) (_: ∀x,∀v∈enc x,v.oneCell'=jp) (A:α->α->Int) (_:SWO fun x y=>lc (A x y<0)) (g:Nat) (D:Array Value) (j a0 b0:Nat) (d:Array α) (w:World)
  (_: ∀args w,(callFunc g args).run P w= .ok (.enter g args) w)
  (_: ∀(m:Nat) (os:Array Obj) (dk:Array α),dk.size=d.size-> ∀x y:α,
   Calls P g (#[.agg (enc x).toArray,.agg (enc y).toArray]++D) (grow (putRowK enc k (Sort.ahead w m) j a0 dk) os) fun e u=>e= .returned (.int .i64 (A x y))∧ ∃q C,u=grow ((grow (putRowK enc k (Sort.ahead w m) j a0 dk) os).drewN q) C)
  (_:HoldsK enc k w j a0 d) (_:j<w.heap.size) (_:d.size<4611686018427387904),
  Calls P G #[.slice (io ⟨j,a0,is⟩) d.size b0,.func (.func g) #[] D] w fun e u=>
   e= .returned (.tuple #[])∧ ∃B n os,PermIn 0 d.size d B∧SortedIn (fun x y=>lc (A x y<0)) 0 d.size B∧u=grow (putRowK enc k (Sort.ahead w n) j a0 B) os)∧
 ∀(p:Option Addr) (b0:Nat) (I:Value) (w:World),Calls P G #[.slice p 0 b0,I] w fun e u=>e= .returned (.tuple #[])∧u=w
def IV.flat:IV->Bool
 | .agg _=>kw
 | .v x=>x.oneCell'
 |_=>jp
theorem IR.one{M:Mem}{c:IV}{v:Value}(h:IR M c v)(hf:c.flat=jp):v.oneCell'=jp:=by
 cases h with
 |v=>exact hf
 |agg=>cases hf
 |_=>rfl
theorem x8{β:Type}{R:β->β->Prop}: ∀{a b:List β},a.Perm b->a.Pairwise R->b.Pairwise R->(∀x∈a,∀y∈a,R x y->R y x->x=y)->a=b
 | [],b,h,_,_,_=>h.nil_eq
 |x::a,[],h,_,_,_=>absurd h.length_eq (by simp)
 |x::a,y::b,h,h1,h2,h3=>by
  rw[XZ]at h1 h2;have e:x=y:=by
   have hx:x∈y::b:=h.mem_iff.1 (W8 ..);have j:y∈x::a:=h.mem_iff.2 (W8 ..);rcases Xa.1 hx with hx|hx
   .exact hx
   .rcases Xa.1 j with hy'|hy'
    .exact hy'.symm
    .exact h3 x (W8 ..) y j (h1.1 y hy') (h2.1 x hx)
  subst e;rw[x8 (h.cons_inv) h1.2 h2.2 fun u hu v A=>h3 u (W5 _ hu) v (W5 _ A)]
theorem Nx{M x:Mem}{N y:Nm}{A:Nat->Prop}{G:AH}{U:Nat->Prop}{w j:World}(u:Ext M N U [] w x y A G j): ∃q os,j=grow (w.drewN q) os:=by
 refine⟨j.drawn-w.drawn,j.heap.extract w.heap.size j.heap.size,?_⟩;have hh:j.heap=w.heap++j.heap.extract w.heap.size j.heap.size:=by
  refine Array.ext_getElem? fun b=>?_;by_cases hb:b<w.heap.size
  .rw[Xt hb];exact u.gK b hb fun i o hi=>nomatch hi
  .rw[YJ (by omega),Array.getElem?_extract];have:=u.size;split
   .congr 1;omega
   .rw[Zc];omega
 have hd:=u.output.drawn;have B:=u.os;have C:=u.tape;have D:=u.output.out;cases j;cases w;simp only[grow,World.drewN] at*
 subst B C D;simp only[World.mk.injEq,and_true,true_and];exact⟨hh,by omega⟩
def CP{β:Type}(M:Mem)(ev:β->List IV)(ok:β->Prop)(k:Nat):Type:=
 {p:β×List Value//ok p.1∧p.2.length=k∧(∀v∈p.2,v.oneCell'=jp)∧ ∀j c,(ev p.1)[j]? =io c->IR M c (p.2.getD j undef)}
theorem xR{β:Type}{l:List β}{f:β->List IV}{i:Nat}{e:List PV}(h:(l.map fun x=>(f x).map PV.iv)[i]? =io e): ∃s,l[i]? =io s∧e=(f s).map PV.iv:=by
 rw[WX,WZ]at h;obtain⟨s,h1,rfl⟩:=h;exact⟨s,h1,rfl⟩
set_option maxHeartbeats 1000000 in
theorem xK{P:Program}{fs g k:Nat}{β:Type}(hS:D6 P fs k)(k1:fz P fs)(j1:fz P g)(r0:0<k)(ev:β->List IV)(a0:β->β->Int)(ok:β->Prop)
  (m1: ∀x y,ok x->ok y->Pure P g [ag (ev x),ag (ev y)] (pI (a0 x y))) (e0: ∀x,(ev x).length=k) (o1: ∀x,∀c∈ev x,c.flat=jp)
  (Sp: ∀x,ok x-> ¬a0 x x<0) (tr: ∀x y z,ok x->ok y->ok z->a0 x y<0->a0 y z<0->a0 x z<0) (VA: ∀x y z,ok x->ok y->ok z-> ¬a0 x y<0-> ¬a0 y z<0-> ¬a0 x z<0)
  (l l':List β) (hl: ∀x∈l,ok x) (S3: ∀x∈l,∀y∈l,¬a0 x y<0-> ¬a0 y x<0->x=y) (hp:l.Perm l') (hs:l'.Pairwise fun x y=> ¬a0 y x<0) (s1:l.length<=1000000000000)
  (pv:PV) (z1: ∀M N U v,VR M N U pv v->v= .func (.func g) #[] #[]):
  bf P fs [.sl 0 0 l.length k,pv] [aX k l ev] (.aY []) [(0,io (aX k l' ev))] 1:=by
 refine⟨k1,fun M N w vs hr g0 hv=>?_⟩;obtain⟨v,v1,rfl⟩: ∃v v1,vs=[v,v1]:=by
  match vs,g0 with
  | [v,v1],_=>exact⟨v,v1,rfl⟩
 have I:=hv 0 _ Z;have g1:=z1 _ _ _ _ (hv 1 _ Z);simp only[YL]at I;simp only[Yj,YL]at g1;subst g1;have x1:=hr.obj 0 _ Z;cases l with
 |nil=>
  have r1:l'=[]:=(hp.nil_eq).symm;subst r1;obtain⟨p,b0,rfl⟩: ∃p b0,v= .slice p 0 b0:=by
   generalize A:PV.sl 0 0 ([]:List β).length k=q at I;cases I with
   |sl i off len sz b0 h h0 h1 hc he=>cases A;simp at h0
   |lq i sz h=>exact⟨_,_,rfl⟩
   |sle i sz b0 h hc he=>cases A
   |_=>cases A
  refine(hS.2 p b0 _ w).mono ?_;rintro e w' ⟨rfl,rfl⟩;exact⟨_,M,N,.aY [],_,1,rfl,⟨rfl,rfl,rfl⟩,.refl _ _ _ _ _,hr,.aY [] #[] Z (by simp)⟩
 |cons s0 r=>
  generalize hL:s0::r=L at*
  have k0:0<L.length:=by rw[<-hL];simp
  obtain⟨b0,a2⟩: ∃b0,v= .slice (io ⟨N.aA 0,0,is⟩) L.length b0:=by
   generalize hn:L.length=n at I k0;generalize A:PV.sl 0 0 n k=q at I;cases I with
   |sl i off len sz b0 h h0 h1 hc he=>cases A;exact⟨b0,by simp⟩
   |lq i sz h=>cases A;omega
   |_=>cases A
  subst a2;rcases x1 with h0|⟨_,c,T,h1,h2,h3,h4,h5⟩
  .rw[<-hL]at h0;cases h0
  rw[Xk]at h3;have t0:(aX k L ev).real=jp:=by rw[<-hL];rfl
  have t1:=hr.lt (i:=0) Z t0;have m0: ∀(i:Nat) (x:β),L[i]? =io x-> ∀j q,(ev x)[j]? =io q->IR M q (c.getD (i*k+j) undef):=fun i x hi j q A=>by
   have:=h5 i ((ev x).map .iv) j (.iv q) (by rw[WX,hi];rfl) (by rw[WX,A];rfl);cases this with
   |iv _ _ h=>exact h
  let x0:(i:Nat)->(h:i<L.length)->CP M ev ok k:=fun i h=>⟨(L[i],(Xq k).map fun j=>c.getD (i*k+j) undef),by
   have hg: ∀j,j<k-> ∃q,(ev L[i])[j]? =io q:=fun j u=>⟨_,WU (by rw[e0];exact u)⟩
   refine⟨hl _ (XF h),by simp,fun v hv=>?_,fun j q A=>?_⟩
   .rw[Xw]at hv;obtain⟨j,u,rfl⟩:=hv;obtain⟨q,A⟩:=hg j (Yn.1 u);exact(m0 i _ (WU h) j q A).one (o1 _ q (Xs A))
   .have u:j<k:=by rw[<-e0 L[i]];exact(WT.1 A).1
    have:=m0 i _ (WU h) j q A;rw[WQ,WX,Zm u]
    exact this⟩
  haveI:Inhabited (CP M ev ok k):=⟨x0 0 k0⟩
  let d:Array (CP M ev ok k):=Array.ofFn (n:=L.length) fun i=>x0 i.1 i.2
  have C:d.size=L.length:=by simp[d]
  let enc:CP M ev ok k->List Value:=fun x=>x.1.2
  have G: ∀x,(enc x).length=k:=fun x=>x.2.2.1
  have z0: ∀i (h:i<L.length),d[i]! =x0 i h:=fun i h=>by
   rw[getElem!_pos d i (by rw[C];exact h)];simp[d]
  have hH:HoldsK enc k w (N.aA 0) 0 d:=by
   intro t ht;rw[size_flatK,C]at ht;have A:t/k<L.length:=Nat.div_lt_of_lt_mul (by rw[Zy];exact ht);have hm:t % k<k:=Nat.mod_lt _ r0;have hb:t/k*k+t % k=t:=Nat.div_add_mod' t k;have f1:t<c.size:=by omega
   constructor
   .simp only[World.cell?,h1,Xd,Option.isSome_none,YE,if_false];rw[get_flatK _ _ _ _ (by rw[C];exact ht),z0 _ A];show c[t]? =io (((Xq k).map fun j=>c.getD (t/k*k+j) undef)[t % k]!);rw[getElem!_pos _ _ (by simpa using hm)];simp only[YB,List.getElem_range,hb];rw[Xx f1,WM,Xx f1];rfl
   .simp[World.frozen?,h1]
  have hO:SWO fun x y:CP M ev ok k=>lc (a0 x.1.1 y.1.1<0):=
   ⟨fun x=>decide_eq_false (Sp _ x.2.1),fun x y z a b=>decide_eq_true (tr _ _ _ x.2.1 y.2.1 z.2.1 (of_decide_eq_true a) (of_decide_eq_true b)),
    fun x y z a b=>decide_eq_false (VA _ _ _ x.2.1 y.2.1 z.2.1 (of_decide_eq_false a) (of_decide_eq_false b))⟩
  have J: ∀x:CP M ev ok k,VR M N (· <0) (ag (ev x.1.1)) (.agg (enc x).toArray):=fun x=>by
   refine .agg _ _ (by simp[G,e0]) fun j p u=>?_;rw[WX,WZ]at u;obtain⟨q,A,rfl⟩:=u;refine .iv _ _ ?_;have:=x.2.2.2.2 j q A;rw[WM,XD,<-WQ];exact this
  have p0: ∀(m:Nat) (os:Array Obj) (dk:Array (CP M ev ok k)),dk.size=d.size-> ∀x y:CP M ev ok k,
    Calls P g (#[.agg (enc x).toArray,.agg (enc y).toArray]++ #[]) (grow (putRowK enc k (Sort.ahead w m) (N.aA 0) 0 dk) os) fun e w'=>
     e= .returned (.int .i64 (a0 x.1.1 y.1.1))∧ ∃q b2,w'=grow ((grow (putRowK enc k (Sort.ahead w m) (N.aA 0) 0 dk) os).drewN q) b2:=by
   intro m os dk _ x y;generalize hW:grow (putRowK enc k (Sort.ahead w m) (N.aA 0) 0 dk) os=W;have f0: ∀b,b<w.heap.size->b≠N.aA 0->W.heap[b]? =w.heap[b]? :=fun b hb hn=>by
    rw[<-hW];show((w.heap.modify (N.aA 0) _)++os)[b]? =_;rw[Xt (by simpa using hb),Xp,be fun e=>hn e.symm]
   have v0:Rel M N (· <([]:List AO).length) (cK 0 []) W:=
    ⟨fun b c hb=>(hr.dF b c hb).mono (f0 b (hr.dF b c hb).lt fun e=>by
      have:=hr.dM 0 _ Z t0
      rw[e]at hb;rw[hb]at this;cases this),
     fun i o hi=>(nomatch hi),fun i o hi=>(nomatch hi),fun i o hi=>(nomatch hi),fun i j o p hi=>(nomatch hi)⟩
   refine((m1 x.1.1 y.1.1 x.2.1 y.2.1).2 M N W [.agg (enc x).toArray,.agg (enc y).toArray] v0 Z fun j p u=>?_).mono ?_
   .match j with
    |0=>cases u;exact J x
    |1=>cases u;exact J y
    |j+2=>simp at u
   .rintro e w' ⟨v,M',N',r,h',n',rfl,⟨rfl,rfl,rfl⟩,hx,_,hv⟩;cases hv with
    |iv _ _ h=>cases h;exact⟨rfl,Nx hx⟩
  have Y:=hS.1 enc G (fun x=>x.2.2.2.1) (fun x y=>a0 x.1.1 y.1.1) hO g #[] (N.aA 0) 0 b0 d w j1 p0 hH t1 (by omega);rw[C]at Y;refine Y.mono ?_;rintro e w' ⟨rfl,d',n,os,hpm,hst,rfl⟩;have c0:d'.size=L.length:=hpm.1.trans C;have i1:(d'.toList.map fun x=>x.1.1)=l':=by
   have a1:(d.toList.map fun x=>x.1.1)=L:=by
    refine Zk (by simpa using C) fun i h1 h2=>?_;have h3:i<L.length:=h2;have:=z0 i h3;rw[getElem!_pos d i (by omega)]at this;rw[YB,Array.getElem_toList,this]
   have j0:d'.toList.Perm d.toList:=by
    have:=hpm.2.2;rw[show d'.extract 0 L.length=d' by rw[<-c0,aah],show d.extract 0 L.length=d by rw[<-C,aah]]at this;exact this
   refine x8 ((j0.map _).trans (by rw[a1];exact hp)) ?_ hs fun x hx y hy a b=>?_
   .rw[X9];intro i j hi u q1;simp only[Xk,YW]at hi u;have:=of_decide_eq_false (hst i j (W2 _) q1 (by omega));rw[getElem!_pos d' i hi,getElem!_pos d' j u]at this;simpa using this
   .have hm: ∀z,z∈(d'.toList.map fun x=>x.1.1)->z∈L:=fun z hz=>by
     rw[<-a1];exact((j0.map _).mem_iff).1 hz
    exact S3 x (hm x hx) y (hm y hy) b a
  subst i1;generalize hW:putRowK enc k (Sort.ahead w n) (N.aA 0) 0 d'=w1;have q0:w1.heap=w.heap.modify (N.aA 0) (onCells (putCells id 0 (flatK enc k d'))):=by rw[<-hW];rfl
  have d1:w1.heap.size=w.heap.size:=by rw[q0];simp
  have w0:OR M N (· <1) w1 0 (aX k (d'.toList.map fun x=>x.1.1) ev):=by
   refine .inr ⟨r0,putCells id 0 (flatK enc k d') c,T,?_,?_,?_,?_,?_⟩
   .rw[q0,Xp,am Z,h1];rfl
   .simp[putCells,h2]
   .simp only[Xk,YW,c0,putCells,Array.size_mapIdx];omega
   .intro i e he;obtain⟨s,_,rfl⟩:=xR he;simp[e0]
   .intro i e j p he u;obtain⟨s,b1,rfl⟩:=xR he;rw[WX,WZ]at u;obtain⟨q,A,rfl⟩:=u;rw[WX,WZ]at b1;obtain⟨y,hy,rfl⟩:=b1;have hi:i<d'.size:=by
     have:=(WT.1 hy).1;simpa using this
    have u:j<k:=by rw[<-e0 y.1.1];exact(WT.1 A).1
    have i0:=Xi k (show i+1<=d'.size from hi);rw[XG,Nat.one_mul]at i0;have n1:d'[i]! =y:=by
     rw[getElem!_pos d' i hi];rw[Xo,Xx hi]at hy;exact XP hy
    have d0:(putCells id 0 (flatK enc k d') c).getD (i*k+j) undef=(enc y).getD j undef:=by
     have p1:i*k+j<c.size:=by rw[c0]at i0;omega
     rw[WM];simp only[putCells,Array.getElem?_mapIdx];rw[Xx p1,XW,XV,am ⟨W2 _,by rw[size_flatK];omega⟩,Zw,id,get_flatK _ _ _ _ (by omega)];have e1:(i*k+j)/k=i:=by rw[Zy,Nat.mul_add_div r0,Nat.div_eq_of_lt u];rfl
     have e2:(i*k+j) % k=j:=by rw[Zy,Nat.mul_add_mod,Y6 u]
     rw[e1,e2,n1,getElem!_pos _ j (by rw[G];exact u),WQ,WU (by rw[G];exact u)];rfl
    rw[d0];exact .iv _ _ (y.2.2.2.2 j q A)
  have D:=hr.write (i:=0) (o0:=aX k L ev) Z t0 w1 (aX k (d'.toList.map fun x=>x.1.1) ev) (by rw[<-hW];rfl) (by rw[<-hW];rfl) (by rw[<-hW];rfl) d1 (fun b hb=>by
   rw[q0,Xp,be fun e=>hb e.symm]) w0 (by rw[<-hW];exact Zl _ _)
  have n0:Rel M N (· <1) ((0,io (aX k (d'.toList.map fun x=>x.1.1) ev))::cK 0 [aX k L ev]) (grow w1 os):=D.2.more fun b hb=>by
   show(w1.heap++os)[b]? =_;rw[Xt hb]
  have B: ∀i o,AH.get [(0,io (aX k (d'.toList.map fun x=>x.1.1) ev))] i=io o->AH.get ((0,io (aX k (d'.toList.map fun x=>x.1.1) ev))::cK 0 [aX k L ev]) i=io o:=by
   intro i o h;rw[AH.ax]at h ⊢;split at h
   .rename_i h6;rw[am h6];exact h
   .simp[AH.get]at h
  refine⟨_,M,N,.aY [],_,1,rfl,⟨rfl,rfl,rfl⟩,⟨D.1.os,D.1.tape,⟨D.1.output.out,D.1.output.drawn⟩,?_,?_,.refl _,fun b c h1 h2=>(nomatch (h1.symm.trans h2)),.refl _ _,fun _ h=>h,fun i o hi=>D.1.gx i o (B i o hi)⟩,?_,.aY [] #[] Z (by simp)⟩
  .show w.heap.size<=(grow w1 os).heap.size;rw[size_grow,d1];omega
  .intro b hb hn;have h7:=D.1.gK b hb hn;show(w1.heap++os)[b]? =_;rw[Xt (by omega)];exact h7
  .exact⟨n0.dF,fun i o hi=>n0.used i o (B i o hi),fun i o hi=>n0.dM i o (B i o hi),fun i o hi=>n0.obj i o (B i o hi),fun i j o p hi u=>n0.inj i j o p (B i o hi) (B j p u)⟩
def KG(P:Program)(f:Nat):Prop:=
 ∀(b:Nat) (es:Array MapEntry) (clock:Nat) (w:World),w.heap[b]? =io (.map es clock)->Calls P f #[.map (io b)] w fun e j=>e= .returned (.map (io w.heap.size))∧j=w.alloc (.map es clock)
def AO.isMap:AO->Bool
 | .ft=>jp
 | .map ..=>jp
 | .ix ..=>jp
 |_=>kw
theorem OR.isMap{M:Mem}{N:Nm}{U:Nat->Prop}{w:World}{i:Nat}{o:AO}(h:OR M N U w i o)(ho:o.isMap=jp): ∃es clock,w.heap[N.aA i]? =io (.map es clock):=by
 cases o with
 |ft=>exact⟨_,_,h⟩
 |map=>obtain⟨es,clock,h1,_⟩:=h;exact⟨_,_,h1⟩
 |ix=>obtain⟨es,h1,_⟩:=h;exact⟨_,_,h1⟩
 |_=>cases ho
theorem OR.Vp{M:Mem}{N x:Nm}{U A:Nat->Prop}{w y:World}{i j:Nat}{o:AO}(h:OR M N U w i o)(ho:o.isMap=jp)(e:y.heap[x.aA j]? =w.heap[N.aA i]?):OR M x A y j o:=by
 cases o with
 |ft=>exact e.trans h
 |map=>obtain⟨es,clock,h1,u⟩:=h;exact⟨es,clock,e.trans h1,u⟩
 |ix=>obtain⟨es,h1,u⟩:=h;exact⟨es,e.trans h1,u⟩
 |_=>cases ho
theorem Kd{P:Program}{f:Nat}(hS:KG P f)(hc:fz P f){o:AO}(ho:o.isMap=jp):bf P f [.mp 0] [o] (.mp 1) [(1,io o),(0,io o)] 2:=by
 refine⟨hc,fun M N w vs hr j A=>?_⟩;obtain⟨v,rfl⟩: ∃v,vs=[v]:=by
  match vs,j with
  | [v],_=>exact⟨v,rfl⟩
 have x:=A 0 _ Z;simp only[YL]at x;obtain rfl:v= .map (io (N.aA 0)):=by cases x;rfl
 have u:=hr.obj 0 _ Z;obtain⟨es,clock,h1⟩:=u.isMap ho;refine(hS (N.aA 0) es clock w h1).mono ?_;rintro e J ⟨rfl,rfl⟩;obtain⟨y,B,G,I,C,D⟩:=hr.alloc (n:=1) (.map es clock) o 0 fun y g1 g2 g3=>u.Vp ho (by rw[g1,h1];exact heap_alloc_new w _);refine⟨_,M,y,.mp 1,_,2,rfl,⟨rfl,rfl,rfl⟩,C,D,?_⟩;have:=VR.mp (M:=M) (N:=y) (U:=(· <2)) 1 (by decide);rw[B]at this;exact this
end Go.Al
namespace Go.Al
open Go.MapKept
section
section
variable {P:Program} {ty:Ty} {nt:NT} {s:AS} {Q:AQ} {k:List KI}
theorem xU(Y:bp P ty){o:Oper}{t:TypeId}{x:Operand}(ho:o.op= .range t x){i:Nat}{kc:KC}{V:Type}{e:V->IV}{z:V}{G:Value}{D:PV->V}{m:List (kc.K×V)}(hx:ev s.f x= .mp i)(hi:s.h.get i=io (.map kc e z G D m))
  {te:bD} (ht:ty t=io te) {kt et:TypeId} (J:te.k= .aP (.map kt et)) {d:Nat} (hd:o.dst=io d) (hlt:d<nt):
  OT P nt o s fun u=> ∃bs clock,bs.length=m.length∧bs.Nodup∧(∀b∈bs,b<clock)∧u=⟨(d,.ptr s.nx 0)::s.f,(s.nx,io (.eB (.mp i) clock []))::(i,io (.ix kc e z G D m bs clock))::s.h,s.nx+1⟩:=by
 have hu:P.underlying t=io (.map kt et):=by
  have:=(Y _ _ ht).2.1;rw[J]at this;exact this.1
 intro M N a w hf K Z hk;have A:=aN hf.2.1 x;rw[hx]at A;have I:a.eval x= .map (io (N.aA i)):=by
  generalize a.eval x=y at A;cases A;rfl
 obtain⟨ents,clock,g1,g2,g3⟩:=hf.1.obj i _ hi;obtain⟨q1,q2⟩:=hf.1.write hi rfl w (.ix kc e z G D m (ents.toList.map MapEntry.born) clock) rfl rfl rfl rfl (fun _ _=>rfl) ⟨ents,g1,g2,g3,rfl⟩
 obtain⟨C,r1,r2,r3,r4,r5⟩:=q2.alloc (.mapIter (io (N.aA i)) clock #[] clock) (.eB (.mp i) clock []) 0 (fun C h1 h2 h3=>
  ⟨N.aA i,by have:=VR.mp (M:=M) (N:=C) (U:=(· <s.nx+1)) i (Ys (hf.1.used i _ hi));rwa[h3.aA i (hf.1.used i _ hi)]at this,by rw[h1];exact heap_alloc_new w _⟩)
 have B:(execOp a.eval o).run P w= .ok (.value (.pointer (io ⟨w.heap.size,0,is⟩))) (w.alloc (.mapIter (io (N.aA i)) clock #[] clock)):=by
  simp only[execOp,ho,I];simp[Instr.range,run_underlying hu,getObj,Sem.run,g1,Result.andThen]
 unfold Oper.wp;rw[B];simp only[Oper.upon];refine hk M C _ _ _ (q1.trans r4) ?_ ⟨_,clock,by simp[g2.size],?_,fun b hb=>?_,rfl⟩
 .rw[hd];refine Fits.put (s:=⟨s.f,(s.nx,io (.eB (.mp i) clock []))::(i,io (.ix kc e z G D m (ents.toList.map MapEntry.born) clock))::s.h,s.nx+1⟩) ⟨r5,fun d=>(hf.2.1 d).mono (.refl _) r3 (fun i hi=>Ys hi),hf.2.2⟩ d _ _ hlt ?_;have:=VR.ptr (M:=M) (N:=C) (U:=(· <s.nx+1)) s.nx 0 (by omega);rw[r1]at this;exact this
 .rw[List.Nodup,List.pairwise_map,X9];intro p q hp hq b0 he;have:=g2.inj p q _ _ (by rw[<-Xo,WU hp]) (by rw[<-Xo,WU hq]) he;omega
 .obtain⟨x,a0,rfl⟩:=Xw.1 hb;obtain⟨j,hj⟩:=XH a0;exact g2.lt j x (by simpa using hj)
theorem BQ{o:Oper}{it:Operand}(ho:o.op= .next it kw){i j:Nat}(o0:ev s.f it= .ptr i 0){kc:KC}{V:Type}{e:V->IV}{z:V}{zv:Value}{dv:PV->V}{m:List (kc.K×V)}{bs A:List Nat}{clock:Nat}
  (hi:s.h.get i=io (.eB (.mp j) clock A)) (hj:s.h.get j=io (.ix kc e z zv dv m bs clock)) {d:Nat} (hd:o.dst=io d) (hlt:d<nt):
  OT P nt o s fun u=>((∀(q b:Nat),bs[q]? =io b->b∈A)∧u=⟨(d,.aY [.kb kw])::s.f,s.h,s.nx⟩)∨
   ∃(q:Nat) (x:kc.K×V) (b:Nat),m[q]? =io x∧bs[q]? =io b∧b∉A∧u=⟨(d,.aY [.kb jp,kc.pk x.1,(e x.2).pv])::s.f,(i,io (.eB (.mp j) clock (A++ [b])))::s.h,s.nx⟩:=by
 intro M N a w hf K Z hk;have hx:=aN hf.2.1 it;rw[o0]at hx;have i0:=hf.1.obj i _ hi;have a0:N.aA i<w.heap.size:=OR.lt i0 rfl;have g0:a.eval it= .pointer (io ⟨N.aA i,0,is⟩):=by
  generalize a.eval it=y at hx;cases hx;rfl
 obtain⟨b0,e0,h1⟩:=i0;have n0:b0=N.aA j:=by cases e0;rfl
 subst n0;obtain⟨ents,hb,h3,h4,h5⟩:=hf.1.obj j _ hj;have d0: ∀x∈ents.toList,x.born<clock:=by
  intro x hx;obtain⟨j,hj⟩:=XH hx;exact h3.lt j x (by simpa using hj)
 have f0: ∀q (G:q<ents.size),bs[q]? =io ents[q].born:=fun q G=>by
  rw[<-h5,WX,Xo,Xx G];rfl
 unfold Oper.wp;rcases run_next_at (P:=P) w o.type (N.aA i) (N.aA j) clock clock A.toArray ents clock h1 hb d0 (WY _) with⟨g1,g2⟩|⟨x,m0,I,k0,g2⟩
 .have D:(execOp a.eval o).run P w= .ok (.value (.tuple #[.bool kw])) w:=by
   simp only[execOp,ho,g0];exact aZ g2
  rw[D];simp only[Oper.upon]
  refine hk M N ⟨(d,.aY [.kb kw])::s.f,s.h,s.nx⟩ _ w (.refl _ _ _ _ _) (by
   rw[hd]
   exact hf.put d _ _ hlt (.aY _ _ rfl fun j p C=>by
    match j with
    |0=>simp at C;subst C;exact .kb _
    |j+1=>simp at C)) (.inl ⟨fun q b G=>?_,rfl⟩)
  have q0:q<ents.size:=by
   have:=(WT.1 G).1;rw[<-h5]at this;simpa using this
  rw[f0 q q0]at G;cases G;refine Decidable.byContradiction fun hn=>?_
  have:ents[q]∈leftOf ents A.toArray:=by
   simp only[leftOf,ZE];exact⟨by simp,by simpa using hn⟩
  rw[Yb g1]at this;simp at this
 .have D:(execOp a.eval o).run P w= .ok (.value (.tuple #[.bool jp,x.key,x.val])) (ou I (N.aA i) (.mapIter (io (N.aA j)) clock (A.toArray.push x.born) clock)):=by
   simp only[execOp,ho,g0];rw[Sem.run_bind,g2];rfl
  rw[D];simp only[Oper.upon];simp only[leftOf,Array.mem_toList_iff,ZE]at m0;obtain⟨s0,t0⟩:=m0;obtain⟨q,G,j0⟩:=Array.getElem_of_mem s0;have r0:q<m.length:=by rw[<-h3.size];exact G
  have c0:m[q]? =io m[q]:=WU r0;have B:I.heap=w.heap∧I.os=w.os∧I.tape=w.tape∧I.output=w.output:=by
   rcases k0 with rfl|rfl<;>exact⟨rfl,rfl,rfl,rfl⟩
  have p0:OR M N (· <s.nx) (ou I (N.aA i) (.mapIter (io (N.aA j)) clock (A.toArray.push x.born) clock)) i (.eB (.mp j) clock (A++ [x.born])):=by
   refine⟨N.aA j,e0,?_⟩;show(I.heap.setIfInBounds _ _)[_]? =_;rw[Xr,am rfl,B.1,am a0];simp
  obtain⟨q1,q2⟩:=hf.1.write hi rfl (ou I (N.aA i) (.mapIter (io (N.aA j)) clock (A.toArray.push x.born) clock)) _ B.2.1 B.2.2.1 B.2.2.2 (by simp[ou,B.1]) (fun c hc=>by
   show(I.heap.setIfInBounds _ _)[c]? =_
   rw[Xr,be (fun e=>hc e.symm),B.1]) p0 (k0.elim (fun e=>e▸WY _) fun e=>e▸Yh _)
  have J:=h3.key q _ c0;have Y:=h3.val q _ c0;rw[h3.DR G,j0]at J Y
  refine hk M N ⟨(d,.aY [.kb jp,kc.pk m[q].1,(e m[q].2).pv])::s.f,(i,io (.eB (.mp j) clock (A++ [x.born])))::s.h,s.nx⟩ _ _ q1 (by
   rw[hd];refine Fits.put (s:=⟨s.f,(i,io (.eB (.mp j) clock (A++ [x.born])))::s.h,s.nx⟩) ⟨q2,hf.2⟩ d _ _ hlt (.aY _ _ rfl fun q p C=>?_)
   match q with
   |0=>simp at C;subst C;exact .kb _
   |1=>simp at C;subst C;simp only[WM];simp;rw[J];exact x7 kc _
   |2=>simp at C;subst C;exact xV Y
   |q+3=>simp at C) (.inr ⟨q,m[q],x.born,c0,by rw[f0 q G,j0],by simpa using t0,rfl⟩)
theorem yD{o:Oper}{Y:Operand}(ho:o.op= .entry Y){i j:Nat}(e0:ev s.f Y= .ptr i 0){kc:KC}{V:Type}{e:V->IV}{z:V}{zv:Value}{dv:PV->V}{m:List (kc.K×V)}{bs A:List Nat}{clock:Nat}
  (hi:s.h.get i=io (.eB (.mp j) clock A)) (hj:s.h.get j=io (.ix kc e z zv dv m bs clock)) {q:Nat} {x:kc.K×V} {b:Nat} (hl:A.getLast? =io b) (hq:bs[q]? =io b) (hm:m[q]? =io x) {s':AS}
  (hp:putDst nt o (.aY [kc.pk x.1,(e x.2).pv]) s=io s'):OT P nt o s fun u=>u=s':=by
 refine OT.value hp fun M N a w hf=>?_;have hx:=aN hf.2.1 Y;rw[e0]at hx
 have d0:a.eval Y= .pointer (io ⟨N.aA i,0,is⟩):=by
  generalize a.eval Y=y at hx;cases hx;rfl
 obtain⟨b0,a0,h1⟩:=hf.1.obj i _ hi;have c0:b0=N.aA j:=by cases a0;rfl
 subst c0;obtain⟨ents,hb,h3,h4,h5⟩:=hf.1.obj j _ hj;have I:q<ents.size:=by
  have:=(WT.1 hq).1;rw[<-h5]at this;simpa using this
 have J:ents[q].born=b:=by
  rw[<-h5,WX,Xo,Xx I]at hq;simpa using hq
 have B:=h3.key q _ hm;have C:=h3.val q _ hm;rw[h3.DR I]at B C;have G:ents.find? (fun e=>e.born==b)=io ents[q]:=by
  rw[Array.find?_eq_some_iff_getElem];refine⟨by simp[J],q,I,rfl,fun p f0=>?_⟩;simp only[X0,beq_eq_false_iff_ne];intro he;have:=h3.inj p q ents[p] ents[q] (by simp) (by simp) (he.trans J.symm);omega
 refine⟨.tuple #[ents[q].key,ents[q].val],w,M,N,?_,.refl _ _ _ _ _,hf,?_⟩
 .simp only[execOp,ho,d0];refine aZ ?_;have D:A.toArray.back? =io b:=by simpa using hl
  simp[Instr.entry,getObj,Sem.run,h1,hb,D,G,Result.andThen]
 .refine .aY _ _ Z fun p r hr=>?_
  match p with
  |0=>simp at hr;subst hr;simp only[WM];simp;rw[B];exact x7 kc _
  |1=>simp at hr;subst hr;exact xV C
  |p+2=>simp at hr
theorem DZ(B:bp P ty){o:Oper}{I ko:Operand}{t t':TypeId}(ho:o.op= .call ⟨.builtin .delete, #[I,ko], #[t,t']⟩){j:Nat}(hm:ev s.f I= .mp j){kc:KC}{V:Type}{e:V->IV}{z:V}{zv:Value}{Y:PV->V}{m:List (kc.K×V)}{bs:List Nat}{clock:Nat}
  (hj:s.h.get j=io (.ix kc e z zv Y m bs clock)) {te:bD} (ht:ty t=io te) {kt et:TypeId} (d0:te.k= .aP (.map kt et)) (G:dQ ty kt=io kc) {J:kc.K} (b0:kc.dk (ev s.f ko)=io J) {q:Nat} (C:kS kc m J=io q) {s':AS}
  (hp:putDst nt o .any ⟨s.f,(j,io (.ix kc e z zv Y (m.eraseIdx q) (bs.eraseIdx q) clock))::s.h,s.nx⟩=io s'):OT P nt o s fun u=>u=s':=by
 have hu:P.underlying t=io (.map kt et):=by
  have:=(B _ _ ht).2.1;rw[d0]at this;exact this.1
 refine OT.value hp fun M N a w hf=>?_;have e0:=Fs b0 (aN hf.2.1 ko);have A:=aN hf.2.1 I;rw[hm]at A
 have i0:a.eval I= .map (io (N.aA j)):=by
  generalize a.eval I=y at A;cases A;rfl
 obtain⟨ents,h1,h2,h3,h4⟩:=hf.1.obj j _ hj;have f0:=OR.lt (hf.1.obj j _ hj) Z;have a0:=lC (P:=P) (w:=w) B G J ents.isEmpty 9994;have D:=nF (P:=P) (w:=w) B G J h2.keys;rw[C]at D;have hg:(getObj (N.aA j)).run P w= .ok (.map ents clock) w:=by simp[getObj,Sem.run,h1]
 obtain⟨v,g0,_⟩:=mE C;have j0:=(WT.1 g0).1;have c0:=h2.erase j0
 obtain⟨g3,g4⟩:=hf.1.write hj Z (ou w (N.aA j) (.map (ents.eraseIdxIfInBounds q) clock)) (.ix kc e z zv Y (m.eraseIdx q) (bs.eraseIdx q) clock) Z Z Z (by simp[ou]) (fun b hb=>by
  show(w.heap.setIfInBounds _ _)[b]? =_
  rw[Xr,be (fun e=>hb e.symm)]) ⟨ents.eraseIdxIfInBounds q,by
   show(w.heap.setIfInBounds _ _)[_]? =_;rw[Xr,am Z,am f0],c0,h3,by
   rw[<-h4];have key: ∀(l:List MapEntry) (n:Nat),(l.eraseIdx n).map MapEntry.born=(l.map MapEntry.born).eraseIdx n:=by
    intro l
    induction l with
    |nil=>intro n;rfl
    |cons x l ih=>intro n;cases n with
     |zero=>rfl
     |succ n=>simp[List.eraseIdx,ih n]
   simp[key]⟩
 refine⟨.tuple #[],_,M,N,?_,g3,⟨g4,hf.2.1,hf.2.2⟩,.any _⟩;simp only[execOp,ho,resolve];simp[invoke,builtin,i0,e0,Builtin.delete_,run_underlying hu,hg,a0,D,jy (P:=P) _ h1]
theorem Oh{kc:KC}{V:Type}{e:V->IV}{z:V}{u:Value}{j:PV->V}{m:List (kc.K×V)}{bs:List Nat}{clock:Nat}:eR (.ix kc e z u j m bs clock) (.map kc e z u j m):=
 ⟨fun _=>rfl,fun _ _ _ _ _ ⟨ents,h1,h2,h3,_⟩=>⟨ents,clock,h1,h2,h3⟩⟩
end
def lP(bs vs:List Nat):List Nat:=vs.map fun j=>bs.getD j 0
theorem vi{bs vs:List Nat}{q b:Nat}(hb:bs[q]? =io b)(h:b∉lP bs vs):q∉vs:=fun m=>h (Xw.2 ⟨q,m,by rw[WQ,hb];rfl⟩)
theorem HY{bs vs:List Nat}(hn:bs.Nodup)(C: ∀j∈vs,j<bs.length)(h: ∀(q b:Nat),bs[q]? =io b->b∈lP bs vs): ∀q,q<bs.length->q∈vs:=by
 intro q y;obtain⟨j,A,x⟩:=Xw.1 (h q _ (WU y));have u:=C j A;rw[WQ,WU u,XV]at x;have:j=q:=by
  have B:=X9.1 hn;rcases YZ j q with g|g|g
  .exact absurd x (B j q u y g)
  .exact g
  .exact absurd x.symm (B q j y u g)
 exact this▸A
theorem y0{n:Nat}{vs:List Nat}(hn:vs.Nodup)(u: ∀j∈vs,j<n)(h: ∀q,q<n->q∈vs):vs.Perm (Xq n):=
 (Yw hn List.nodup_range).2 fun q=>⟨fun m=>Yn.2 (u q m),fun m=>h q (Yn.1 m)⟩
theorem CQ{n:Nat}{vs:List Nat}(hn:vs.Nodup)(u: ∀j∈vs,j<n):vs.length<=n:=by
 have:=Yc hn (l₂:=Xq n) (fun i hi=>Yn.2 (u i hi));simpa using this
theorem cC{α:Type}(m:List α)(d:α):(Xq m.length).map (fun j=>m.getD j d)=m:=by
 refine Zk (by simp) fun i h1 u=>?_;simp[WU u]
theorem I1{α:Type}{m:List α}{d:α}{bs vs:List Nat}(hl:bs.length=m.length)(hn:bs.Nodup)(h1:vs.Nodup)(x: ∀j∈vs,j<m.length)(h: ∀(q b:Nat),bs[q]? =io b->b∈lP bs vs):(vs.map fun j=>m.getD j d).Perm m:=by
 have:=(y0 h1 (fun j u=>x j u) fun q y=>HY hn (fun j u=>by rw[hl];exact x j u) h q (by rw[hl];exact y)).map fun j=>m.getD j d;rwa[cC]at this
theorem xL{bs vs:List Nat}{b:Nat}:(lP bs vs++ [b]).getLast? =io b:=by simp
theorem sI{bs vs:List Nat}{q b:Nat}(hb:bs[q]? =io b):lP bs (vs++ [q])=lP bs vs++ [b]:=by
 unfold lP;rw[W4,List.map_singleton,WQ,hb];rfl
section
variable {P:Program} {nt:NT} {Q:AQ} {k:List KI} {s:AS}
theorem Fc{body:Code}(n:Nat)(I:List Nat->AS)(J:List Nat->Prop)(B:List Nat)(Y:J [])(h0:Wk s.nx B s (I []))
  (x: ∀vs:List Nat,vs.Nodup->(∀j∈vs,j<n)->J vs->GO P nt (.code body:: .lp (fun t=> ∃j,j<n∧j∉vs∧J (vs++ [j])∧ ∃L,Wk s.nx L t (I (vs++ [j])))::k) Q (I vs)):GO P nt (.code (.loop body)::k) Q s:=by
 refine iC (σ:={vs:List Nat//vs.Nodup∧(∀j∈vs,j<n)∧J vs}) (fun v=>I v.1) (fun v=>n-v.1.length) ⟨[],XM,by simp,Y⟩ B h0 fun v=>?_;obtain⟨vs,h1,C,D⟩:=v;refine ny ?_ (x vs h1 C D)
 rintro t ⟨j,g1,g2,g3,L,g4⟩;have u: ∀i∈vs++ [j],i<n:=by
  intro i hi;rcases Xf.1 hi with hi|hi
  .exact C i hi
  .rw[W1.1 hi];exact g1
 have A:(vs++ [j]).Nodup:=by
  rw[Yt];refine⟨h1,by simp,fun a G b hb=>?_⟩;rw[W1.1 hb];intro e;exact g2 (e▸G)
 have y:(vs++ [j]).length<=n:=by
  have:=Yc A (l₂:=Xq n) (fun i hi=>Yn.2 (u i hi));simpa using this
 refine⟨⟨vs++ [j],A,u,g3⟩,L,?_,g4⟩;show n-(vs++ [j]).length<n-vs.length;simp only[WO,Xl]at y ⊢;omega
end
section
variable {n i:Nat} {σ:Nat->Nat} {h r:AH}
theorem hMb{V:Type}{kc:KC}{ev:V->IV}{z:V}{x:Value}{j:PV->V}{m u:List (kc.K×V)}{bs:List Nat}{clock:Nat}(ho:h.get (σ i)=io (.ix kc ev z x j m bs clock))(he:m=u)(hi:Xm i n=jp)(hr:o6 n σ h r):o6 n σ h ((i,io (.map kc ev z x j u))::r):=
 ⟨⟨_,ho,by subst he;exact Oh⟩,WL hi,ac,hr⟩
end
theorem uu{l:List Nat}(hn:l.Nodup){q j:Nat}(h:l[q]? =io j):l.eraseIdx q=l.filter fun x=>!(x==j):=by
 induction l generalizing q with
 |nil=>simp at h
 |cons y r ih=>
  rw[XB]at hn;cases q with
  |zero=>
   simp at h;subst h;rw[List.eraseIdx_zero,List.tail_cons,YH];simp only[beq_self_eq_true,Zd,YE,if_false]
   symm
   rw[Zn];intro x B;have: ¬x=y:=fun e=>hn.1 (e▸B)
   simpa using this
  |succ q=>
   have u:r[q]? =io j:=by simpa using h
   have A:j∈r:=Xs u;have: ¬y=j:=fun e=>hn.1 (e▸A);rw[List.eraseIdx_cons_succ,ih hn.2 u,YH,am (by simpa using this)]
theorem lW{α β:Type}(f:α->β): ∀(l:List α) (q:Nat),(l.map f).eraseIdx q=(l.eraseIdx q).map f
 | [],_=>rfl
 |_::_,0=>rfl
 |x::r,q+1=>by simp[List.eraseIdx,lW f r q]
def iB(n:Nat)(dl:Nat->Bool)(vs:List Nat):List Nat:=(Xq n).filter fun j=>!(lc (j∈vs)&&dl j)
section
variable {n:Nat} {dl:Nat->Bool} {vs:List Nat}
theorem yn:iB n dl []=Xq n:=by
 unfold iB;rw[Zn];intro j _;simp
theorem B5:(iB n dl vs).Nodup:=Y3 _ List.nodup_range
theorem B6: ∀j∈iB n dl vs,j<n:=fun _ u=>Yn.1 (Xu.1 u).1
theorem DH{j:Nat}(h:dl j=kw):iB n dl (vs++ [j])=iB n dl vs:=by
 unfold iB;refine YS fun i _=>?_;by_cases e:i=j
 .subst e;simp[h]
 .simp[e]
theorem GS{j q:Nat}(h:dl j=jp)(u:(iB n dl vs)[q]? =io j):iB n dl (vs++ [j])=(iB n dl vs).eraseIdx q:=by
 rw[uu B5 u];unfold iB;rw[List.filter_filter];refine YS fun i _=>?_;by_cases e:i=j
 .subst e;simp[h]
 .simp[e]
theorem GU(h: ∀j∈iB n dl vs,j∈vs):iB n dl vs=(Xq n).filter fun j=>!dl j:=by
 unfold iB at*
 refine YS fun i hi=>?_;by_cases e:i∈vs
 .simp[e]
 .have:i∈(Xq n).filter fun j=>!(lc (j∈vs)&&dl j):=Xu.2 ⟨hi,by simp[e]⟩
  exact absurd (h i this) e
end
abbrev oI{α:Type}(m:List α)(d:α)(dl:Nat->Bool)(vs:List Nat):List α:=(iB m.length dl vs).map fun j=>m.getD j d
abbrev p7(n:Nat)(bs:List Nat)(dl:Nat->Bool)(vs:List Nat):List Nat:=(iB n dl vs).map fun j=>bs.getD j 0
section
variable {α:Type} {m:List α} {d:α} {dl:Nat->Bool} {vs:List Nat} {bs:List Nat}
theorem GI:oI m d dl []=m:=by unfold oI;rw[yn,cC]
theorem GH:(oI m d dl vs).Sublist m:=by
 have h:((iB m.length dl vs).map fun j=>m.getD j d).Sublist ((Xq m.length).map fun j=>m.getD j d):=List.Sublist.map _ List.filter_sublist;rwa[cC]at h
theorem GJ(h:bs.length=m.length):p7 m.length bs dl []=bs:=by unfold p7;rw[yn,<-h,cC]
theorem left_at{q b:Nat}{x:α}(hl:bs.length=m.length)(h1:(oI m d dl vs)[q]? =io x)(y:(p7 m.length bs dl vs)[q]? =io b): ∃j,(iB m.length dl vs)[q]? =io j∧m[j]? =io x∧bs[j]? =io b∧j<m.length:=by
 rw[WX,WZ]at h1 y;obtain⟨j,g1,g2⟩:=h1;obtain⟨A,g3,g4⟩:=y;rw[g1]at g3;cases g3;have u:=B6 j (Xs g1);refine⟨j,g1,?_,?_,u⟩
 .rw[<-g2,WQ,WU u];rfl
 .rw[<-g4,WQ,WU (by rw[hl];exact u)];rfl
theorem I7{q j:Nat}(h:dl j=jp)(u:(iB m.length dl vs)[q]? =io j):oI m d dl (vs++ [j])=(oI m d dl vs).eraseIdx q∧p7 m.length bs dl (vs++ [j])=(p7 m.length bs dl vs).eraseIdx q:=by
 unfold oI p7;rw[GS h u,lW,lW];exact⟨rfl,rfl⟩
theorem I8(hl:bs.length=m.length)(hn:bs.Nodup)(I: ∀j∈vs,j<m.length)(D:α->Bool)(A: ∀j,dl j=D (m.getD j d))(h: ∀(q b:Nat),(p7 m.length bs dl vs)[q]? =io b->b∈lP bs vs):oI m d dl vs=m.filter fun e=>!D e:=by
 have key: ∀j∈iB m.length dl vs,j∈vs:=by
  intro j x;obtain⟨q,G⟩:=XH x;have C:=B6 j x;have hb:=h q (bs.getD j 0) (by unfold p7;rw[WX,G];rfl);obtain⟨i,hi,u⟩:=Xw.1 hb;have B:=I i hi;rw[WQ,WQ,WU (by omega:i<bs.length),WU (by omega:j<bs.length),XV,XV]at u;have y:=X9.1 hn;rcases YZ i j with g|g|g
  .exact absurd u (y i j (by omega) (by omega) g)
  .exact g▸hi
  .exact absurd u.symm (y j i (by omega) (by omega) g)
 unfold oI;rw[GU key];have:=congrArg (List.filter fun e=>!D e) (cC m d);rw[<-this,List.filter_map];congr 1;refine YS fun i _=>?_;simp[A]
end
theorem Fk{kc:KC}{V:Type}: ∀{m:List (kc.K×V)} {q:Nat} {x:kc.K×V},(m.map (·.1)).Nodup->m[q]? =io x->kS kc m x.1=io q
 | [],q,x,_,h=>by simp at h
 |(a,b)::r,0,x,_,h=>by
  simp at h;subst h;simp[kS]
 |(a,b)::r,q+1,x,hn,h=>by
  rw[WW,XB]at hn;have j:r[q]? =io x:=by simpa using h
  have: ¬a=x.1:=fun e=>hn.1 (Xw.2 ⟨x,Xs j,e.symm⟩);simp[kS,this,Fk hn.2 j]
theorem Jt{P:Program}{nt:NT}{Q:AQ}{k:List KI}{s:AS}{c:Code}(i:Nat){sz:Nat}{es:List (List PV)}(el:Nat->List IV)(hi:s.h.get i=io (.row sz es))(a0: ∀k e,es[k]? =io e->e=(el k).map .iv)
  (hf:s.f.mg i sz es.length) (hh:s.h.vH i sz es.length) (h:GO P nt (.code c::k) Q ⟨s.f.jY i sz el,(i,is)::s.h.gY i sz el,s.nx⟩):GO P nt (.code c::k) Q s:=by
 intro M N a w u;obtain⟨M',h1,x,h4⟩:=pt u.1 hi a0;have C: ∀j o,AH.get ((i,is)::s.h.gY i sz el) j=io o-> ∃p,AH.get ((i,is)::s.h) j=io p∧s.h.get j=io p∧o=p.gY i sz el:=by
  intro j o y;obtain⟨g1,g2⟩:=bm j o y;rw[AH.px,WZ]at g2;obtain⟨p,g3,g4⟩:=g2;exact⟨p,by rw[AH.ax,be g1];exact g3,g3,g4.symm⟩
 have hE:Ext M N (· <s.nx) s.h w M' N (· <s.nx) ((i,is)::s.h.gY i sz el) w:=⟨h1.os,h1.tape,h1.output,h1.size,h1.gK,h1.oC,h1.iK,h1.nm,h1.ule,fun j o y A=>by
  obtain⟨p,g1,_,rfl⟩:=C j o y;rw[AO.jl]at A
  exact h1.gx j p g1 A⟩
 have hR:Rel M' N (· <s.nx) ((i,is)::s.h.gY i sz el) w:=by
  refine⟨x.dF,fun j o y=>?_,fun j o y A=>?_,fun j o y=>?_,fun j k o p y hk ho G=>?_⟩
  .obtain⟨p,g1,_,rfl⟩:=C j o y;exact x.used j p g1
  .obtain⟨p,g1,_,rfl⟩:=C j o y;rw[AO.jl]at A;exact x.dM j p g1 A
  .obtain⟨p,g1,g2,rfl⟩:=C j o y;cases p with
   |cells cs T0=>
    obtain⟨c,T,q1,q2,q3,q4,q5⟩:=u.1.obj j _ g2;have hok:=AH.mf hh j _ g2;refine⟨c,T,q1,q2,by simpa[eD]using q3,fun k q hq=>?_,q5⟩;rw[eD,WX,WZ]at hq;obtain⟨q0,J,rfl⟩:=hq;exact h4 _ _ (q4 k q0 J) (fc hok k q0 J)
   |row s2 es2=>
    have hok:=AH.mf hh j _ g2;rcases u.1.obj j _ g2 with rfl|⟨q0,c,T,q1,q2,q3,q4,q5⟩
    .exact .inl Z
    .refine .inr ⟨q0,c,T,q1,q2,by simpa using q3,fun k e D=>?_,fun k e j2 p D G=>?_⟩
     .rw[WX,WZ]at D;obtain⟨Y,B,rfl⟩:=D;rw[eD,Xk];exact q4 k Y B
     .rw[WX,WZ]at D;obtain⟨Y,B,rfl⟩:=D;rw[eD,WX,WZ]at G;obtain⟨p0,I,rfl⟩:=G;exact h4 _ _ (q5 k Y j2 p0 B I) (fc (hok Y (Xs B)) j2 p0 I)
   |bw=>exact x.obj j _ g1
   |ft=>exact x.obj j _ g1
   |map=>exact x.obj j _ g1
   |bX=>exact x.obj j _ g1
   |ey=>exact x.obj j _ g1
   |ix=>exact x.obj j _ g1
   |eB=>exact x.obj j _ g1
   |oD=>exact x.obj j _ g1
  .obtain⟨o',g1,_,rfl⟩:=C j o y;obtain⟨p',g2,_,rfl⟩:=C k p hk;rw[AO.jl]at ho G;exact x.inj j k o' p' g1 g2 ho G
 have b0:Fits M' N ⟨s.f.jY i sz el,(i,is)::s.h.gY i sz el,s.nx⟩ nt a w:=⟨hR,fun d=>by
  rw[AF.jK];exact h4 _ _ (u.2.1 d) (AF.lv hf d),u.2.2⟩
 exact AW.then h b0 fun e a2 w2 M2 N2 s2 f0 c0 d0=>⟨M2,N2,s2,hE.trans f0,c0,d0⟩
def Nm.one(b e:Nat):Nm:=⟨fun _=>b,fun _=>e⟩
inductive SB:Type 1 where
 |obj (o:AO) (e:Nat)
 |out (i e:Nat)
abbrev bE:=Nat->Option SB
def bE.nil:bE:=fun _=>is
def bE.put(X:bE)(b:Nat)(x:SB):bE:=fun c=>if c=b then io x else X c
def bE.still(X:bE):Prop:= ∀b i e,X b≠io (.out i e)
theorem bE.fU(X:bE)(b:Nat)(x:SB):X.put b x b=io x:=by simp[bE.put]
theorem bE.jV(X:bE){b c:Nat}(x:SB)(h:c≠b):X.put b x c=X c:=by simp[bE.put,h]
theorem bE.MY(X:bE)(b:Nat)(x y:SB):(X.put b x).put b y=X.put b y:=by
 funext c;simp only[bE.put];split<;>rfl
structure fi (M:Mem) (N:Nm) (n:Nat) (h:AH) (X:bE) (w:World):Prop where
 real: ∀b o e,X b=io (.obj o e)->o.real=jp
 obj: ∀b o e,X b=io (.obj o e)->OR M (Nm.one b e) (fun _=>False) w 0 o
 dF: ∀b o e,X b=io (.obj o e)->M b=is
 apart: ∀b o e,X b=io (.obj o e)-> ∀i p,h.get i=io p->p.real=jp->N.aA i≠b
 out: ∀b i e,X b=io (.out i e)->i<n∧N.aA i=b∧N.ext i=e
def AO.all(G:PV->Prop):AO->Prop
 | .cells cs _=> ∀p∈cs,G p
 | .row _ es=> ∀e∈es,∀p∈e,G p
 | .eB q _ _=>G q
 | .oD _ _ f=> ∀d,G (AF.get f d)
 |_=>True
theorem AO.all_true(o:AO):o.all fun _=>True:=by cases o<;>simp[AO.all]
theorem OR.move{M M':Mem}{N B:Nm}{U U':Nat->Prop}{w w':World}{i I:Nat}{o:AO}{G:PV->Prop}(hM:M.le M')(J:o.all G)(Y: ∀p x,G p->VR M N U p x->VR M' B U' p x)
  (hb:B.aA I=N.aA i) (he:B.ext I=N.ext i) (hw:w'.heap[N.aA i]? =w.heap[N.aA i]?) (h:OR M N U w i o):OR M' B U' w' I o:=by
 cases o with
 |cells cs T0=>
  obtain⟨c,T,h1,u,y,A,C⟩:=h;exact⟨c,T,by rw[hb,hw,h1],by rw[he,u],y,fun j p D=>Y _ _ (J p (Xs D)) (A j p D),C⟩
 |row sz es=>
  rcases h with h|⟨h0,c,T,h1,u,y,A,C⟩
  .exact .inl h
  exact .inr ⟨h0,c,T,by rw[hb,hw,h1],by rw[he,u],y,A,fun k e j p hk D=>Y _ _ (J e (Xs hk) p (Xs D)) (C k e j p hk D)⟩
 |bw l T=>
  rcases h with h|⟨c,h1,u,y,A⟩
  .exact .inl h
  exact .inr ⟨c,by rw[hb,hw,h1],by rw[he,u],y,A⟩
 |ft=>show w'.heap[B.aA I]? =_;rw[hb,hw];exact h
 |map kc ev z zv dv m=>
  obtain⟨e,cl,h1,u,y⟩:=h;exact⟨e,cl,by rw[hb,hw,h1],u.mono hM,y.mono hM⟩
 |bX kc ev m l cu=>
  rcases h with⟨h1,u,y,A⟩|⟨b,e,cl,se,h1,u,y,A⟩
  .exact .inl ⟨h1,u,y,by rw[hb,hw,A]⟩
  .exact .inr ⟨b,e,cl,se,by rw[hb,hw,h1],hM _ _ u,y.mono hM,A⟩
 |ey s p=>show w'.heap[B.aA I]? =_;rw[hb,hw];exact h
 |ix kc ev z zv dv m bs c=>
  obtain⟨e,h1,u,y,A⟩:=h;exact⟨e,by rw[hb,hw,h1],u.mono hM,y.mono hM,A⟩
 |eB q c l=>
  obtain⟨b,h1,u⟩:=h;exact⟨b,Y _ _ J h1,by rw[hb,hw,u]⟩
 |oD l c f=>
  obtain⟨rfl,r,h1,u,y,A,C,h6,h7,h8⟩:=h;exact⟨hb,r,by rw[hw];exact h1,u,y,A,C,h6,h7,fun d=>Y _ _ (J d) (h8 d)⟩
theorem VR.EP{M j:Mem}{N u:Nm}{y:Nat->Prop}(hM:M.le j){p:PV}{x:Value}(h:VR M N (fun _=>False) p x):VR j u y p x:=
 h.mono hM ⟨fun _ h=>h.elim,fun _ h=>h.elim⟩ (fun _ h=>h.elim)
def PV.flat:PV->Prop
 | .iv _=>True
 | .kb _=>True
 | .any=>True
 |_=>False
theorem VR.Me{M:Mem}{N j:Nm}{U u:Nat->Prop}{p:PV}{x:Value}(hp:p.flat)(h:VR M N U p x):VR M j u p x:=by
 cases h with
 |iv x y h=>exact .iv _ _ h
 |kb b=>exact .kb _
 |any x=>exact .any _
 |_=>exact hp.elim
def Own(N:Nm)(h:AH)(X:bE)(b:Nat):Prop:=(∃i o,h.get i=io o∧o.real=jp∧N.aA i=b)∨ ∃o e,X b=io (.obj o e)
structure k9 (M:Mem) (N:Nm) (n:Nat) (h:AH) (X:bE) (w:World) (M':Mem) (N':Nm) (n':Nat) (h':AH) (X':bE) (w':World):Prop where
 os:w'.os=w.os
 tape:w'.tape=w.tape
 output:uj w w'
 size:w.heap.size<=w'.heap.size
 gK: ∀b,b<w.heap.size-> ¬Own N h X b->w'.heap[b]? =w.heap[b]?
 oC:M.le M'
 iK: ∀b c,M b=is->M' b=io c->w.heap.size<=b∨Own N h X b
 nm:N.agree N' (· <n)
 ule:n<=n'
 gx: ∀b,Own N' h' X' b->w.heap.size<=b∨Own N h X b
theorem k9.refl(M:Mem)(N:Nm)(n:Nat)(h:AH)(X:bE)(w:World):k9 M N n h X w M N n h X w:=
 ⟨rfl,rfl,⟨rfl,WY _⟩,WY _,fun _ _ _=>rfl,.refl _,fun b c h1 j=>by simp[h1]at j,.refl _ _,WY _,fun _ h=> .inr h⟩
theorem k9.trans{M j u:Mem}{N x y:Nm}{n G I:Nat}{h h1 C:AH}{X A B:bE}{w J Y:World}
  (a:k9 M N n h X w j x G h1 A J) (b:k9 j x G h1 A J u y I C B Y):k9 M N n h X w u y I C B Y where
 os:=b.os.trans a.os
 tape:=b.tape.trans a.tape
 output:=b.output.trans a.output
 size:=XR a.size b.size
 gK:=fun k hk D=>by
  rw[b.gK k (Yu hk a.size) (fun ho=>?_),a.gK k hk D];rcases a.gx k ho with h3|h3
  .omega
  .exact D h3
 oC:=a.oC.trans b.oC
 iK:=fun k c h3 h4=>by
  cases h5:j k with
  |some c'=>exact a.iK k c' h3 h5
  |none=>
   rcases b.iK k c h5 h4 with h6|h6
   .exact .inl (XR a.size h6)
   .exact a.gx k h6
 nm:=⟨fun i hi=>(b.nm.aA i (Yu hi a.ule)).trans (a.nm.aA i hi),fun i hi=>(b.nm.ext i (Yu hi a.ule)).trans (a.nm.ext i hi)⟩
 ule:=XR a.ule b.ule
 gx:=fun k hk=>by
  rcases b.gx k hk with h3|h3
  .exact .inl (XR a.size h3)
  .exact a.gx k h3
theorem k9.frame{M Y:Mem}{N N':Nm}{n J:Nat}{h h':AH}{X:bE}{w w':World}(x:Ext M N (· <n) h w Y N' (· <J) h' w')(hs:fi M N n h X w):
  k9 M N n h X w Y N' J h' X w'∧fi Y N' J h' X w':=by
 have D: ∀b o e,X b=io (.obj o e)->b<w.heap.size:=fun b o e hb=>(hs.obj b o e hb).lt (hs.real b o e hb);have B:n<=J:=Yz fun hh=>absurd (x.ule J hh) (ZH _);refine⟨⟨x.os,x.tape,x.output,x.size,fun b hb hn=>x.gK b hb fun i o hi I he=>hn (.inl ⟨i,o,hi,I,he⟩),x.oC,fun b c h1 h2=>?_,x.nm,B,fun b hb=>?_⟩,hs.real,fun b o e hb=>?_,fun b o e hb=>?_,fun b o e hb i p hi I a0=>?_,fun b i e hb=>?_⟩
 .rcases x.iK b c h1 h2 with u|⟨i,o,u,C,A⟩
  .exact .inl u
  .exact .inr (.inl ⟨i,o,u,C,A⟩)
 .rcases hb with⟨i,o,u,C,A⟩|hb
  .rcases x.gx i o u C with h6|⟨j,p,h6,h7,h8⟩
   .exact .inl (A▸h6)
   .exact .inr (.inl ⟨j,p,h6,h7,h8.trans A⟩)
  .exact .inr (.inr hb)
 .refine OR.move (G:=fun _=>True) x.oC (AO.all_true o) (fun p y _ hv=>hv.EP x.oC) Z Z ?_ (hs.obj b o e hb);exact x.gK b (D b o e hb) (hs.apart b o e hb)
 .cases hM:Y b with
  |none=>rfl
  |some c=>
   rcases x.iK b c (hs.dF b o e hb) hM with u|⟨i,p,u,C,A⟩
   .have:=D b o e hb;omega
   .exact absurd A (hs.apart b o e hb i p u C)
 .rcases x.gx i p hi I with u|⟨j,q,u,C,A⟩
  .have:=D b o e hb;omega
  .exact hs.apart b o e hb j q u C (A.trans a0)
 .obtain⟨h1,h2,u⟩:=hs.out b i e hb;exact⟨Yu h1 B,(x.nm.aA i h1).trans h2,(x.nm.ext i h1).trans u⟩
theorem k9.Rm{M A:Mem}{N B:Nm}{n D:Nat}{h C:AH}{I:bE}{w G:World}(x:k9 M N n h bE.nil w A B D C I G):Ext M N (· <n) h w A B (· <D) C G:=by
 have j: ∀b,Own N h bE.nil b-> ∃i o,h.get i=io o∧o.real=jp∧N.aA i=b:=fun b hb=>by
  rcases hb with hb|⟨o,e,hb⟩
  .exact hb
  .cases hb
 refine⟨x.os,x.tape,x.output,x.size,fun b hb Y=>x.gK b hb fun ho=>?_,x.oC,fun b c h1 u=>?_,x.nm,fun i hi=>Yu hi x.ule,fun i o hi y=>?_⟩
 .obtain⟨i,o,h1,u,J⟩:=j b ho;exact Y i o h1 u J
 .exact(x.iK b c h1 u).imp id (j b)
 .exact(x.gx _ (.inl ⟨i,o,hi,y,rfl⟩)).imp id (j _)
theorem fi.nil(M:Mem)(N:Nm)(n:Nat)(h:AH)(w:World):fi M N n h bE.nil w:=⟨nofun,nofun,nofun,nofun,nofun⟩
abbrev XQ:=Exit->AS->bE->Prop
def o5(nt:NT)(M:Mem)(N:Nm)(s:AS)(X:bE)(w:World)(R:XQ):Exit->Act->World->Prop:=fun e A y=>
 ∃j u s' x,k9 M N s.nx s.h X w j u s'.nx s'.h x y∧Fits j u s' nt A y∧fi j u s'.nx s'.h x y∧R e s' x
theorem o5.later{nt:NT}{M j:Mem}{N u:Nm}{s s':AS}{X y:bE}{w A:World}{R:XQ}{e:Exit}{a:Act}{B:World}
  (x:k9 M N s.nx s.h X w j u s'.nx s'.h y A) (h:o5 nt j u s' y A R e a B):o5 nt M N s X w R e a B:=by
 obtain⟨C,D,J,G,h1,I⟩:=h;exact⟨C,D,J,G,x.trans h1,I⟩
theorem o5.now{nt:NT}{M:Mem}{N:Nm}{s:AS}{X:bE}{w:World}{R:XQ}{e:Exit}{a:Act}(hf:Fits M N s nt a w)(hs:fi M N s.nx s.h X w)(h:R e s X):o5 nt M N s X w R e a w:=
 ⟨M,N,s,X,.refl _ _ _ _ _ _,hf,hs,h⟩
def AX(P:Program)(nt:NT)(c:Code)(R:XQ)(s:AS)(X:bE):Prop:= ∀M N a w,Fits M N s nt a w->fi M N s.nx s.h X w->c.wp P (o5 nt M N s X w R) a w
def ALX(P:Program)(nt:NT)(all rest:List Oper)(R:XQ)(s:AS)(X:bE):Prop:= ∀M N a w,Fits M N s nt a w->fi M N s.nx s.h X w->wpList P all.toArray (o5 nt M N s X w R) rest a w
def SLX(P:Program)(nt:NT)(all rest:List Oper)(R:XQ)(s:AS)(X:bE):Prop:= ∀M N a w,Fits M N s nt a w->fi M N s.nx s.h X w->
 wpStill P all.toArray w (fun j=>o5 nt M N s X w R .normal j w) rest a
inductive XI where
 |uk (all rest:List Oper)
 |code (c:Code)
 |aA (id:Nat)
 |ops (all rest:List Oper)
 |lp (R:AS->bE->Prop)
 |Hj
def kx(P:Program)(nt:NT):List XI->XQ->XQ
 | [],Q=>Q
 | .code c::k,Q=>fun e s X=>match e with| .normal=>AX P nt c (kx P nt k Q) s X|e=>kx P nt k Q e s X
 | .ops all rest::k,Q=>fun e s X=>match e with| .normal=>ALX P nt all rest (kx P nt k Q) s X|e=>kx P nt k Q e s X
 | .uk all rest::k,Q=>fun e s X=>match e with| .normal=>SLX P nt all rest (kx P nt k Q) s X|e=>kx P nt k Q e s X
 | .lp R::k,Q=>fun e s X=>match e with| .normal=>R s X|e=>kx P nt k Q e s X
 | .aA id::k,Q=>fun e s X=>match e with| .exit j=>if j=id then kx P nt k Q .normal s X else kx P nt k Q (.exit j) s X|e=>kx P nt k Q e s X
 | .Hj::k,Q=>fun e s X=>match e with| .goto _=>False|e=>kx P nt k Q e s X
def GX(P:Program)(nt:NT)(k:List XI)(Q:XQ)(s:AS)(X:bE):Prop:=kx P nt k Q .normal s X
section
variable {P:Program} {nt:NT} {Q:XQ} {k:List XI} {s:AS} {X:bE}
theorem AX.then{c:Code}{R:XQ}(h:AX P nt c R s X){M:Mem}{N:Nm}{a:Act}{w:World}(hf:Fits M N s nt a w)(hs:fi M N s.nx s.h X w){Z:Exit->Act->World->Prop}
  (B: ∀e A j u x s' y,k9 M N s.nx s.h X w u x s'.nx s'.h y j->Fits u x s' nt A j->fi u x s'.nx s'.h y j->R e s' y->Z e A j):c.wp P Z a w:=
 wp_mono (h M N a w hf hs) fun e A j ⟨u,x,s',y,h1,h2,h3,h4⟩=>B e A j u x s' y h1 h2 h3 h4
theorem U3{u:AQ}{k0:List KI}{c:Code}(h:GX P nt [.code c] (fun e t _=>kp P nt k0 u e t) s bE.nil):GO P nt (.code c::k0) u s:=by
 intro M N a w hf;exact AX.then h hf (.nil ..) fun e C D x y s' B A j _ hr=>⟨x,y,s',A.Rm,j,hr⟩
theorem kL{c:Code}(h:GO P nt [.code c] (fun e u=>kx P nt k Q e u X) s):GX P nt (.code c::k) Q s X:=by
 intro M N a w hf hs;refine AW.then h hf fun e C D x y s' B j hr=>?_;obtain⟨h1,A⟩:=k9.frame B hs;exact⟨x,y,s',X,h1,j,A,hr⟩
theorem c9{x y:Code}(h:GX P nt (.code x:: .code y::k) Q s X):GX P nt (.code (.seq x y)::k) Q s X:=by
 intro M N a w hf hs;refine wp_seq (AX.then h hf hs fun e a' w' I Y s' X' G j u hr=>?_);cases e with
 |normal=>exact AX.then hr j u fun e a2 w2 J N2 s2 X2 D A C B=>⟨J,N2,s2,X2,G.trans D,A,C,B⟩
 |_=>exact⟨I,Y,s',X',G,j,u,hr⟩
theorem uJ(h:GX P nt k Q s X):GX P nt (.code .skip::k) Q s X:=fun _ _ _ _ hf hs=>wp_skip (.now hf hs h)
theorem uL{id:Nat}(h:kx P nt k Q (.exit id) s X):GX P nt (.code (.exit id)::k) Q s X:=fun _ _ _ _ hf hs=>wp_exit (.now hf hs h)
theorem Jl{id:Nat}(h:GX P nt k Q s X):GX P nt (.aA id::k) Q s X:=h
theorem jG{id:Nat}{x:Code}(h:GX P nt (.code x:: .aA id::k) Q s X):GX P nt (.code (.block id x)::k) Q s X:=by
 intro M N a w hf hs;refine wp_block (AX.then h hf hs fun e I J A B s' C G u y hr=>?_);cases e with
 |exit j=>
  simp only[kx]at hr;simp only[Exit.inBlock];split
  .rename_i D;rw[am D]at hr;exact⟨A,B,s',C,G,u,y,hr⟩
  .rename_i D;rw[be D]at hr;exact⟨A,B,s',C,G,u,y,hr⟩
 |_=>exact⟨A,B,s',C,G,u,y,hr⟩
theorem yr{id:Nat}{ops:Array Oper}(h:GX P nt (.ops ops.toList ops.toList::k) Q s X):GX P nt (.code (.region id ops kw)::k) Q s X:=by
 intro M N a w hf hs;refine wp_region_list ?_;have:=h M N a w hf hs;simpa using this
theorem v7{all:List Oper}(h:GX P nt k Q s X):GX P nt (.ops all []::k) Q s X:=fun _ _ _ _ hf hs=>wpList_nil (o5.now hf hs h)
theorem uM{c:Operand}{x y:Code}{t:Bool}(hc:ev s.f c= .iv (.v (.bool t)))(h1:t=jp->GX P nt (.code x::k) Q s X)(j:t=kw->GX P nt (.code y::k) Q s X):
  GX P nt (.code (.cond c x y)::k) Q s X:=by
 intro M N a w hf hs;refine wp_cond_split (hf.bool hc) (fun ht=>?_) (fun ht=>?_)
 .exact h1 ht M N a w hf hs
 .exact j ht M N a w hf hs
theorem zx{o:Oper}{a:Act}{w:World}{K K':Act->World->Prop}{Q u:Exit->Act->World->Prop}(h: ∀a w,K a w->K' a w)(y: ∀e a w,e≠ .normal->Q e a w->u e a w)(hh:o.wp P a w K Q):o.wp P a w K' u:=by
 have hl:LetsOut Q->LetsOut u:=fun⟨a,w,x⟩=>⟨a,w,y _ _ _ (by simp) x⟩
 unfold Oper.wp at*
 generalize(execOp a.eval o).run P w=r at*
 cases r with
 |ok n w'=>
  cases n<;>simp only[Oper.upon]at hh ⊢ <;>
   first
    |exact h _ _ hh
    |exact Calls.mono hh (fun e A j=>by cases e<;>first|exact h _ _ j|exact hl j|exact y _ _ _ (by simp) j)
    |exact Rows.mono hh (fun _ _ j=>h _ _ j)
 |halt x w'=>cases x<;>simp only[Oper.upon]at hh ⊢ <;>exact y _ _ _ (by simp) hh
theorem mP{ops:Array Oper}{x y:Exit->Act->World->Prop}(u:List Oper)(A: ∀a w,x .normal a w->wpList P ops y u a w)(j: ∀e a w,e≠ .normal->x e a w->y e a w): ∀(l:List Oper) (a:Act) (w:World),wpList P ops x l a w->wpList P ops y (l++u) a w
 | [],a,w,h=>A _ _ h
 |o::r,a,w,h=>by
  rw[Xe];rw[wpList]at h ⊢;split
  .rename_i B;rw[am B]at h;exact h.imp (zx (mP u A j r) j) (fun⟨h3,a1,w1,h4⟩=>⟨h3,a1,w1,j _ _ _ (by simp) h4⟩)
  .rename_i B;rw[be B]at h;exact mP u A j r _ _ h
theorem GW{all G r2:List Oper}(h:GO P nt [.ops all G] (fun e u=>kx P nt (.ops all r2::k) Q e u X) s):GX P nt (.ops all (G++r2)::k) Q s X:=by
 intro M N a w hf hs;refine mP r2 (fun A I C=>?_) (fun e A I J C=>?_) G a w (h M N a w hf)
 .obtain⟨x,y,s',D,j,hr⟩:=C;obtain⟨h1,B⟩:=k9.frame D hs;have:=hr x y A I j B;exact fM (fun _ _ _=>o5.later h1) r2 A I this
 .obtain⟨x,y,s',D,j,hr⟩:=C;obtain⟨h1,B⟩:=k9.frame D hs;refine⟨x,y,s',X,h1,j,B,?_⟩;cases e with
  |normal=>exact absurd Z J
  |_=>exact hr
theorem uK{all rest:List Oper}(m:Nat)(h:GO P nt [.ops all (rest.take m)] (fun e u=>kx P nt (.ops all (rest.drop m)::k) Q e u X) s):GX P nt (.ops all rest::k) Q s X:=by
 have:=GW h;rwa[Zf]at this
def SX(nt:NT)(s:AS)(X:bE)(T:AS->bE->Prop):Prop:= ∀M N a w,Fits M N s nt a w->fi M N s.nx s.h X w->
 ∃j u t Y,k9 M N s.nx s.h X w j u t.nx t.h Y w∧Fits j u t nt a w∧fi j u t.nx t.h Y w∧T t Y
theorem Qe{c:Code}{T:AS->bE->Prop}(h:SX nt s X T)(hk: ∀t Y,T t Y->GX P nt (.code c::k) Q t Y):GX P nt (.code c::k) Q s X:=by
 intro M N a w hf hs;obtain⟨M',N',t,Y,h1,D,G,I⟩:=h M N a w hf hs;exact AX.then (hk t Y I) D G fun e a2 w2 A B J C y j x u=>⟨A,B,J,C,h1.trans y,j,x,u⟩
theorem z8{all rest:List Oper}{T:AS->bE->Prop}(h:SX nt s X T)(hk: ∀t Y,T t Y->GX P nt (.ops all rest::k) Q t Y):GX P nt (.ops all rest::k) Q s X:=by
 intro M N a w hf hs;obtain⟨j,u,t,Y,h1,x,y,A⟩:=h M N a w hf hs;exact fM (fun _ _ _=>o5.later h1) rest a w (hk t Y A j u a w x y)
theorem U0{body:Code}{σ:Type 1}(I:σ->AS)(J:σ->bE)(μ:σ->Nat)(i0:σ)(L0:List Nat)(h0:Wk s.nx L0 s (I i0))(y:J i0=X)(j0: ∀i,(J i).still)
  (A: ∀i,GX P nt (.code body:: .lp (fun t Y=> ∃j L,μ j<μ i∧Wk s.nx L t (I j)∧Y=J j)::k) Q (I i) (J i)):GX P nt (.code (.loop body)::k) Q s X:=by
 intro G N0 a0 w0 d0 g0
 let K:Act->World->Nat->Prop:=fun a w n=> ∃i M N,μ i=n∧k9 G N0 s.nx s.h X w0 M N (I i).nx (I i).h (J i) w∧Fits M N (I i) nt a w∧fi M N (I i).nx (I i).h (J i) w
 have c0:K a0 w0 (μ i0):=by
  obtain⟨h1,h2⟩:=k9.frame (h0.ext (.refl G N0 (· <s.nx) s.h w0)) g0;exact⟨i0,G,N0.comp (sg s.nx L0),rfl,by rw[y];exact h1,h0.fits d0,by rw[y];exact h2⟩
 refine wp_loop (fun a w=> ∃n,K a w n) (fun a w=>by classical exact if h: ∃n,K a w n then Zj (da h) else 0) ⟨_,c0⟩ fun a w b0=>?_;obtain⟨⟨i,M,N,hi,hx,hf,hs⟩,e0⟩:=YN (da b0);refine AX.then (A i) hf hs fun e a' w' M' N' s' X' C B x hr=>?_
 cases e with
 |normal=>
  obtain⟨j,L,hj,D,hY⟩:=hr
  have y:K a' w' (μ j):=⟨j,M',N'.comp (sg s.nx L),rfl,by
   have u:=hx.trans C;rw[hY]at u x;refine⟨u.os,u.tape,u.output,u.size,u.gK,u.oC,u.iK,⟨fun i hi=>?_,fun i hi=>?_⟩,by have:=D.nx;omega,fun b hb=>u.gx b ?_⟩
   .simp only[Nm.comp,gG hi];exact u.nm.aA i hi
   .simp only[Nm.comp,gG hi];exact u.nm.ext i hi
   .rcases hb with⟨i,o,h3,h4,h5⟩|hb
    .obtain⟨⟨o',g1,g2⟩,_⟩:=jq D.h i o h3;exact .inl ⟨_,o',g1,g2.real ((AO.cj _ o).trans h4),h5⟩
    .exact .inr hb,D.fits B,by
   rw[hY]at x;refine⟨x.real,x.obj,x.dF,fun b o e hb i p hi f0=>?_,fun b i e hb=>?_⟩
   .obtain⟨⟨o',g1,g2⟩,_⟩:=jq D.h i p hi;exact x.apart b o e hb _ o' g1 (g2.real ((AO.cj _ p).trans f0))
   .exact absurd hb (j0 j b i e)⟩
  refine⟨⟨_,y⟩,?_⟩;simp only[dif_pos b0,dif_pos (⟨_,y⟩: ∃n,K a' w' n)];rw[<-hi];exact aaf ((YN (da (⟨_,y⟩: ∃n,K a' w' n))).2 _ y) hj
 |_=>exact⟨M',N',s',X',hx.trans C,B,x,hr⟩
theorem Rr{b e d:Nat}{o:AO}{p:PV}(hX:X b=io (.obj o e))(hp: ∀(M:Mem) (N:Nm) (U:Nat->Prop) (x:Value),U s.nx->N.aA s.nx=b->N.ext s.nx=e->VR M N U (s.f.get d) x->VR M N U p x):
  SX nt s X (fun t Y=>t=⟨(d,p)::s.f,(s.nx,io o)::s.h,s.nx+1⟩∧Y=X.put b (.out s.nx e)):=by
 intro M N a w hf hs;obtain⟨f,h,n⟩:=s
 let N':Nm:=⟨fun j=>if j=n then b else N.aA j,fun j=>if j=n then e else N.ext j⟩
 have A:N.agree N' (· <n):=⟨fun i hi=>be (ZX hi),fun i hi=>be (ZX hi)⟩
 have D:N'.aA n=b:=am Z;have a0:N'.ext n=e:=am Z;have hU: ∀i,i<n->i<n+1:=fun i hi=>Ys hi;have c0:=hs.real b o e hX
 have C: ∀i q,AH.get ((n,io o)::h) i=io q->(i=n∧q=o)∨(i<n∧h.get i=io q):=by
  intro i q hi;rw[AH.ax]at hi;split at hi
  .rename_i b0;exact .inl ⟨b0,by simpa using hi.symm⟩
  .exact .inr ⟨hf.1.used i q hi,hi⟩
 refine⟨M,N',⟨(d,p)::f,(n,io o)::h,n+1⟩,X.put b (.out n e),⟨rfl,rfl,⟨rfl,WY _⟩,WY _,fun _ _ _=>rfl,.refl _,fun c m h1 h2=>by simp[h1]at h2,A,Yh _,fun c B=> .inr ?_⟩,⟨⟨hf.1.dF,fun i q hi=>?_,fun i q hi hr=>?_,fun i q hi=>?_,fun i j q r hi hj hq hr he=>?_⟩,fun k=>?_,hf.2.2⟩,⟨fun c q g B=>?_,fun c q g B=>?_,fun c q g B=>?_,fun c q g B i r hi hr=>?_,fun c i g B=>?_⟩,rfl,rfl⟩
 .rcases B with⟨i,q,h1,h2,h3⟩|⟨q,g,h1⟩
  .rcases C i q h1 with⟨rfl,rfl⟩|⟨I,J⟩
   .rw[D]at h3;subst h3;exact .inr ⟨_,_,hX⟩
   .exact .inl ⟨i,q,J,h2,by rw[<-h3];exact(A.aA i I).symm⟩
  .by_cases u:c=b
   .subst u;rw[bE.fU]at h1;cases h1
   .rw[bE.jV _ _ u]at h1;exact .inr ⟨q,g,h1⟩
 .rcases C i q hi with⟨rfl,rfl⟩|⟨I,_⟩
  .exact YA _
  .exact hU i I
 .rcases C i q hi with⟨rfl,rfl⟩|⟨I,J⟩
  .rw[D];exact hs.dF _ _ _ hX
  .rw[A.aA i I];exact hf.1.dM i q J hr
 .rcases C i q hi with⟨rfl,rfl⟩|⟨I,J⟩
  .exact OR.move (G:=fun _=>True) (.refl _) (AO.all_true _) (fun p y _ hv=>hv.EP (.refl _)) D a0 Z (hs.obj b _ e hX)
  .exact(hf.1.obj i q J).mono (.refl _) A hU I Z
 .rcases C i q hi with⟨rfl,rfl⟩|⟨I,J⟩<;>rcases C j r hj with⟨h6,rfl⟩|⟨h6,h7⟩
  .exact h6.symm
  .rw[D,A.aA j h6]at he;exact absurd he.symm (hs.apart b _ e hX j r h7 hr)
  .subst h6;rw[D,A.aA i I]at he;exact absurd he (hs.apart b _ e hX i q J hq)
  .rw[A.aA i I,A.aA j h6]at he;exact hf.1.inj i j q r J h7 hq hr he
 .rw[AF.ax];split
  .rename_i hk;subst hk;exact hp M N' _ _ (YA _) D a0 ((hf.2.1 k).mono (.refl _) A hU)
  .exact(hf.2.1 k).mono (.refl _) A hU
 all_goals by_cases u:c=b
 .subst u;rw[bE.fU]at B;cases B
 .rw[bE.jV _ _ u]at B;exact hs.real c q g B
 .subst u;rw[bE.fU]at B;cases B
 .rw[bE.jV _ _ u]at B;exact hs.obj c q g B
 .subst u;rw[bE.fU]at B;cases B
 .rw[bE.jV _ _ u]at B;exact hs.dF c q g B
 .subst u;rw[bE.fU]at B;cases B
 .rw[bE.jV _ _ u]at B;rcases C i r hi with⟨rfl,rfl⟩|⟨I,J⟩
  .rw[D];exact fun e=>u e.symm
  .rw[A.aA i I];exact hs.apart c q g B i r J hr
 .subst u;rw[bE.fU]at B;cases B;exact⟨YA _,D,a0⟩
 .rw[bE.jV _ _ u]at B;obtain⟨h1,h2,h3⟩:=hs.out c i g B;exact⟨hU i h1,(A.aA i h1).trans h2,(A.ext i h1).trans h3⟩
theorem FT{b e d:Nat}{o:AO}(u:X b=io (.obj o e))(hd:s.f.get d= .iv (.v (.map (io b)))):
  SX nt s X (fun t Y=>t=⟨(d,.mp s.nx)::s.f,(s.nx,io o)::s.h,s.nx+1⟩∧Y=X.put b (.out s.nx e)):=
 Rr u fun M N U x hu hb hE j=>by
  rw[hd]at j;cases j with
  |iv _ _ hi=>cases hi with
   |v=>
    have:=VR.mp (M:=M) (N:=N) s.nx hu;rw[hb]at this;exact this
theorem Rel.drop{M:Mem}{N:Nm}{n:Nat}{h:AH}{w:World}(hr:Rel M N (· <n) h w)(i:Nat):Rel M N (· <n) ((i,is)::h) w:=
 ⟨hr.dF,fun j o u=>hr.used j o (bm j o u).2,fun j o u x=>hr.dM j o (bm j o u).2 x,fun j o u=>hr.obj j o (bm j o u).2,fun j l o p u hl A B y=>hr.inj j l o p (bm j o u).2 (bm l p hl).2 A B y⟩
theorem Er{M:Mem}{N:Nm}{n:Nat}{h:AH}{w:World}(hr:Rel M N (· <n) h w)(hs:fi M N n h X w){i:Nat}{o:AO}(hi:h.get i=io o)(A:o.real=jp)(D:o.all PV.flat):
  k9 M N n h X w M N n ((i,is)::h) (X.put (N.aA i) (.obj o (N.ext i))) w∧fi M N n ((i,is)::h) (X.put (N.aA i) (.obj o (N.ext i))) w:=by
 refine⟨⟨rfl,rfl,⟨rfl,WY _⟩,WY _,fun _ _ _=>rfl,.refl _,fun b c h1 B=>by simp[h1]at B,.refl _ _,WY _,fun c y=> .inr ?_⟩,fun c q g y=>?_,fun c q g y=>?_,fun c q g y=>?_,fun c q g y j r I C=>?_,fun c j g y=>?_⟩
 .rcases y with⟨j,q,h1,B,J⟩|⟨q,g,h1⟩
  .exact .inl ⟨j,q,(bm j q h1).2,B,J⟩
  .by_cases u:c=N.aA i
   .exact .inl ⟨i,o,hi,A,u.symm⟩
   .rw[bE.jV _ _ u]at h1;exact .inr ⟨q,g,h1⟩
 all_goals by_cases u:c=N.aA i
 .subst u;rw[bE.fU]at y;cases y;exact A
 .rw[bE.jV _ _ u]at y;exact hs.real c q g y
 .subst u;rw[bE.fU]at y;cases y;exact OR.move (G:=PV.flat) (N:=N) (i:=i) (.refl _) D (fun p x Y hv=>hv.Me Y) Z Z Z (hr.obj i o hi)
 .rw[bE.jV _ _ u]at y;exact hs.obj c q g y
 .subst u;exact hr.dM i o hi A
 .rw[bE.jV _ _ u]at y;exact hs.dF c q g y
 .obtain⟨h1,B⟩:=bm j r I;subst u;exact fun e=>h1 (hr.inj j i r o B hi C A e)
 .rw[bE.jV _ _ u]at y;exact hs.apart c q g y j r (bm j r I).2 C
 .subst u;rw[bE.fU]at y;cases y
 .rw[bE.jV _ _ u]at y;exact hs.out c j g y
theorem T7{b e i:Nat}{o:AO}(A:X b=io (.out i e))(hi:s.h.get i=io o)(u:o.real=jp)(j:o.all PV.flat):
  SX nt s X (fun t Y=>t=⟨s.f,(i,is)::s.h,s.nx⟩∧Y=X.put b (.obj o e)):=by
 intro M N a w hf hs;obtain⟨h1,rfl,rfl⟩:=hs.out b i e A;obtain⟨x,y⟩:=Er hf.1 hs hi u j;exact⟨M,N,⟨s.f,(i,is)::s.h,s.nx⟩,_,x,⟨hf.1.drop i,hf.2⟩,y,rfl,rfl⟩
theorem Rt{i d:Nat}{o:AO}{G:Nat->Nat->PV->Prop}(B:X.still)(hi:s.h.get i=io o)(u:o.real=jp)(A:o.all PV.flat)
  (hq: ∀(M:Mem) (N:Nm) (U:Nat->Prop) (x:Value),VR M N U (s.f.get d) x-> ∃q,G (N.aA i) (N.ext i) q∧VR M N U q x):
  SX nt s X (fun t Y=> ∃b e q,X b=is∧G b e q∧t=⟨(d,q)::s.f,(i,is)::s.h,s.nx⟩∧Y=X.put b (.obj o e)):=by
 intro M N a w hf hs;obtain⟨C,D⟩:=Er hf.1 hs hi u A;obtain⟨q,I,J⟩:=hq M N _ _ (hf.2.1 d);refine⟨M,N,⟨(d,q)::s.f,(i,is)::s.h,s.nx⟩,_,C,⟨hf.1.drop i,fun k=>?_,hf.2.2⟩,D,N.aA i,N.ext i,q,?_,I,rfl,rfl⟩
 .rw[AF.ax];split
  .rename_i hk;subst hk;exact J
  .exact hf.2.1 k
 .cases hx:X (N.aA i) with
  |none=>rfl
  |some y=>
   cases y with
   |obj p g=>exact absurd Z (hs.apart _ p g hx i o hi u)
   |out j g=>exact absurd hx (B _ _ _)
theorem FU{i d:Nat}{o:AO}(y:X.still)(hi:s.h.get i=io o)(u:o.real=jp)(j:o.all PV.flat)(hd:s.f.get d= .mp i):
  SX nt s X (fun t Y=> ∃b e,X b=is∧t=⟨(d,.iv (.v (.map (io b))))::s.f,(i,is)::s.h,s.nx⟩∧Y=X.put b (.obj o e)):=by
 intro M N a w hf hs
 obtain⟨B,C,t,Y,h1,D,I,b,e,q,J,rfl,h8,h9⟩:=Rt (G:=fun b e q=>q= .iv (.v (.map (io b)))) (d:=d) y hi u j (fun M N U x A=>by
  rw[hd]at A;cases A with
  |mp _ hu=>exact⟨_,rfl,.iv _ _ (.v _)⟩) M N a w hf hs
 exact⟨B,C,t,Y,h1,D,I,b,e,J,h8,h9⟩
inductive Up (X:bE):Value->IV->Prop
 | row (b len cap sz e:Nat) (es:List (List PV)) (el:Nat->List IV) (hX:X b=io (.obj (.row sz es) e)) (hn:len=es.length) (hl:len<=cap) (hc:cap<=maxLen) (hel: ∀k e,es[k]? =io e->e=(el k).map .iv):
   Up X (.slice (io ⟨b,0,is⟩) len cap) (.bL sz len el)
 |map {V:Type} (b e:Nat) (kc:KC) (ev:V->IV) (z:V) (zv:Value) (dv:PV->V) (m:List (kc.K×V)) (hX:X b=io (.obj (.map kc ev z zv dv m) e)):Up X (.map (io b)) (.eO kc ev z zv m)
 |ft {V:Type} (b e:Nat) (kc:KC) (ev:V->IV) (z:V) (zv:Value) (hX:X b=io (.obj .ft e)) (hz: ∀M,IR M (ev z) zv):Up X (.map (io b)) (.eO kc ev z zv [])
 |UO (y:Value):Up X y (.v y)
 |nil (sz:Nat) (el:Nat->List IV) (a:Option Addr) (cap:Nat):Up X (.slice a 0 cap) (.bL sz 0 el)
theorem HX{M:Mem}{N:Nm}{n:Nat}{h:AH}{w:World}(hr:Rel M N (· <n) h w)(hs:fi M N n h X w):
  ∃x:Mem,M.le x∧k9 M N n h X w x N n h bE.nil w∧Rel x N (· <n) h w∧ ∀y p,Up X y p->IR x p y:=by
 let x:Mem:=⟨fun b=>match X b with
  |some (.obj _ _)=>(match w.heap[b]? with|some (.cells c _ _)=>io (.cells c)|some (.map es cl)=>io (.map es cl)|_=>is)
  |_=>M.fn b,fun b c hb=>by
   have:=M.NI b c hb;cases u:X b with
   |none=>simpa using this
   |some y=>cases y with
    |obj o e=>exact absurd (this.symm.trans (hs.dF b o e u)) (by simp)
    |out i e=>simpa using this⟩
 have A: ∀b,(∀o e,X b≠io (.obj o e))->x b=M b:=fun b hb=>by
  show(match X b with|some (.obj _ _)=>_|_=>M.fn b)=M.fn b;cases u:X b with
  |none=>rfl
  |some y=>cases y with
   |obj o e=>exact absurd u (hb o e)
   |out i e=>rfl
 have D: ∀b o e,X b=io (.obj o e)->x b=(match w.heap[b]? with|some (.cells c _ _)=>io (MB.cells c)|some (.map es cl)=>io (MB.map es cl)|_=>is):=fun b o e hb=>by
  show(match X b with|some (.obj _ _)=>_|_=>M.fn b)=_;rw[hb]
 have B:M.le x:=fun b c hb=>by
  rw[A b fun o e u=>absurd (hb.symm.trans (hs.dF b o e u)) (by simp)];exact hb
 refine⟨x,B,⟨rfl,rfl,⟨rfl,WY _⟩,WY _,fun _ _ _=>rfl,B,fun b c h1 G=>?_,.refl _ _,WY _,fun c I=> .inr ?_⟩,⟨fun b c hb=>?_,hr.used,fun i o hi b0=>?_,fun i o hi=>(hr.obj i o hi).mono B (.refl _ _) (fun _ h=>h) (hr.used i o hi) Z,hr.inj⟩,fun y p hu=>?_⟩
 .cases u:X b with
  |none=>rw[A b (by simp[u]),h1]at G;cases G
  |some y=>cases y with
   |obj o e=>exact .inr (.inr ⟨o,e,u⟩)
   |out i e=>rw[A b (by simp[u]),h1]at G;cases G
 .rcases I with I|⟨o,e,I⟩
  .exact .inl I
  .cases I
 .cases u:X b with
  |none=>rw[A b (by simp[u])]at hb;exact hr.dF b c hb
  |some y=>cases y with
   |out i e=>rw[A b (by simp[u])]at hb;exact hr.dF b c hb
   |obj o e=>
    rw[D b o e u]at hb;split at hb
    .rename_i hh;cases hb;exact⟨_,_,hh⟩
    .rename_i hh;cases hb;exact hh
    .cases hb
 .rw[A _ fun q e u=>hs.apart _ q e u i o hi b0 Z];exact hr.dM i o hi b0
 .cases hu with
  |UO=>exact .v _
  |nil=>exact .fL _ _ _ _
  |ft b e kc ev z zv hX hz=>
   have h1:=hs.obj b _ e hX;have G:x b=io (.map #[] 0):=by rw[D b _ e hX];rw[show w.heap[b]? =io (.map #[] 0) from h1]
   exact .eO _ _ _ _ _ b #[] 0 G Z (by simp) (by simp) (hz x) (by simp) (by simp)
  |map b e kc ev z zv dv m hX=>
   obtain⟨ents,cl,h1,G,h3⟩:=hs.obj b _ e hX;have h4:x b=io (.map ents cl):=by rw[D b _ e hX];rw[show w.heap[b]? =io (.map ents cl) from h1]
   have h5:=G.mono B;exact .eO _ _ _ _ _ b ents cl h4 h5.size h5.key h5.val (h3.mono B) h5.inj h5.lt
  |row b len cap sz e es el hX hn hl I hel=>
   rcases hs.obj b _ e hX with h0|⟨h0,c,T,g1,g2,g3,g4,g5⟩
   .have:=hs.real b _ e hX;rw[h0]at this;cases this
   have h4:x b=io (.cells c):=by rw[D b _ e hX];rw[show w.heap[b]? =io (.cells c T (0,0)) from g1]
   have C: ∀o,x.cell b o=c[o]? :=fun o=>by simp only[Mem.cell,h4]
   have a0: ∀k,k<len-> ∃e,es[k]? =io e:=fun k hk=>⟨_,WU (by omega)⟩
   have c0: ∀k j,k<len->j<sz->k*sz+j<c.size:=fun k j hk hj=>by
    have:(k+1)*sz<=es.length*sz:=Xi _ (by omega);rw[XG]at this;omega
   refine .bL _ _ _ _ _ _ hl I (fun k hk=>?_) (fun k j hk hj=>?_) (fun k j p hk hp=>?_)
   .obtain⟨e,J⟩:=a0 k hk;have:=g4 _ e J;rw[hel _ e J]at this;simpa using this
   .rw[C,Xd];simp[c0 k j hk hj]
   .obtain⟨e,J⟩:=a0 k hk;have h9:=g4 _ e J;have Y:=hel _ e J;have hj:j<sz:=by rw[<-h9,Y,Xk];exact(WT.1 hp).1
    have:=g5 _ e j (.iv p) J (by rw[Y,WX,hp];rfl);rw[C,Xd];rw[WM]at this;cases this with
    |iv _ _ h=>exact h.mono B
def Up1(X:bE)(p j:PV):Prop:=j=p∨ ∃y q,p= .iv (.v y)∧j= .iv q∧Up X y q
inductive Qr (X:bE):AO->AO->Prop
 | row (sz:Nat) (es es':List (List PV)) (hl:es'.length=es.length) (h: ∀(k:Nat) (e':List PV),es'[k]? =io e'-> ∃e,es[k]? =io e∧e'.length=e.length∧ ∀(j:Nat) (p':PV),e'[j]? =io p'-> ∃p,e[j]? =io p∧Up1 X p p'):
   Qr X (.row sz es) (.row sz es')
 | map {V V':Type} (kc:KC) (ev:V->IV) (z:V) (zv:Value) (dv:PV->V) (m:List (kc.K×V)) (ev':V'->IV) (z':V') (dv':PV->V') (m':List (kc.K×V')) (hl:m'.length=m.length)
   (h: ∀(j:Nat) (x':kc.K×V'),m'[j]? =io x'-> ∃x y,m[j]? =io x∧x'.1=x.1∧ev x.2= .v y∧Up X y (ev' x'.2)) (hz: ∀M,IR M (ev' z') zv):Qr X (.map kc ev z zv dv m) (.map kc ev' z' zv dv' m')
theorem Qr.or{M B:Mem}{N:Nm}{U:Nat->Prop}{w:World}{i:Nat}{o o':AO}(Y:M.le B)(hu: ∀y p,Up X y p->IR B p y)(h:Qr X o o')(ho:OR M N U w i o):OR B N U w i o':=by
 have hv: ∀p D x,Up1 X p D->VR M N U p x->VR B N U D x:=by
  rintro p D x (rfl|⟨y,q,rfl,rfl,C⟩) hx
  .exact hx.mono Y (.refl _ _) (fun _ h=>h)
  .cases hx with
   |iv _ _ hi=>cases hi with
    |v=>exact .iv _ _ (hu _ _ C)
 cases h with
 |row sz es es' hl h=>
  rcases ho with rfl|⟨h0,c,T,g1,g2,g3,g4,g5⟩
  .left;exact Yl.1 hl
  .refine .inr ⟨h0,c,T,g1,g2,by rw[hl];exact g3,fun k G u=>?_,fun k G j D u a0=>?_⟩
   .obtain⟨e,h1,I,_⟩:=h k G u;rw[I];exact g4 k e h1
   .obtain⟨e,h1,_,C⟩:=h k G u;obtain⟨p,J,h5⟩:=C j D a0;exact hv _ _ _ h5 (g5 k e j p h1 J)
 |map kc ev z zv dv m ev' z' dv' m' hl h hz=>
  obtain⟨ents,cl,g1,g2,g3⟩:=ho;refine⟨ents,cl,g1,⟨g2.size.trans hl.symm,fun j x' A=>?_,fun j x' A=>?_,g2.inj,g2.lt⟩,hz B⟩
  .obtain⟨x,y,h1,I,_⟩:=h j x' A;rw[I];exact g2.key j x h1
  .obtain⟨x,y,h1,_,C,J⟩:=h j x' A;have:=g2.val j x h1;rw[C]at this;generalize(ents.getD j co).val=v at this ⊢;cases this with
   |v=>exact hu _ _ J
theorem Qr.real{o o':AO}(h:Qr X o o'):o'.real=o.real:=by
 cases h with
 |row sz es es' hl h=>cases es<;>cases es'<;>first|rfl|simp at hl
 |map=>rfl
theorem Rv{i:Nat}{o o':AO}(hi:s.h.get i=io o)(hu:Qr X o o'):SX nt s X (fun t Y=>t=⟨s.f,(i,io o')::s.h,s.nx⟩∧Y=bE.nil):=by
 intro M N a w hf hs;obtain⟨D,h1,A,B,G⟩:=HX hf.1 hs;have u: ∀j q,AH.get ((i,io o')::s.h) j=io q-> ∃y,s.h.get j=io y∧q.real=y.real∧(q=y∨(j=i∧q=o')):=by
  intro j q x;rw[AH.ax]at x;split at x
  .rename_i C;subst C;cases x;exact⟨o,hi,hu.real,.inr ⟨rfl,rfl⟩⟩
  .exact⟨q,x,rfl,.inl Z⟩
 refine⟨D,N,⟨s.f,(i,io o')::s.h,s.nx⟩,bE.nil,?_,⟨⟨B.dF,fun j q x=>?_,fun j q x hr=>?_,fun j q x=>?_,fun j k q r x hk J hr I=>?_⟩,fun k=>(hf.2.1 k).mono h1 (.refl _ _) (fun _ h=>h),hf.2.2⟩,.nil ..,rfl,rfl⟩
 .exact⟨A.os,A.tape,A.output,A.size,A.gK,A.oC,A.iK,A.nm,A.ule,fun b hb=> .inr<|by
   rcases hb with⟨j,q,g1,g2,g3⟩|⟨q,g,g1⟩
   .obtain⟨y,g4,g5,_⟩:=u j q g1;exact .inl ⟨j,y,g4,g5▸g2,g3⟩
   .cases g1⟩
 .obtain⟨y,g4,_⟩:=u j q x;exact hf.1.used j y g4
 .obtain⟨y,g4,g5,_⟩:=u j q x;exact B.dM j y g4 (g5▸hr)
 .obtain⟨y,g4,_,rfl|⟨rfl,rfl⟩⟩:=u j q x
  .exact B.obj j _ g4
  .exact hu.or h1 G (hf.1.obj j o hi)
 .obtain⟨y,g4,g5,_⟩:=u j q x;obtain⟨r',g6,g7,_⟩:=u k r hk;exact hf.1.inj j k y r' g4 g6 (g5▸J) (g7▸hr) I
end
section
variable {P:Program}
section
variable {nt:NT} {Q:XQ} {k0:List XI} {s:AS} {X:bE}
theorem Mi{t:AS}(hh:t.h=s.h)(hn:t.nx=s.nx)(h: ∀M N a w,Fits M N s nt a w->fi M N s.nx s.h X w->FR M N (· <s.nx) t.f a.tmps):SX nt s X (fun j Y=>j=t∧Y=X):=by
 intro M N a w hf hs;obtain⟨f,u,n⟩:=t;simp only at hh hn;subst hh;subst hn;exact⟨M,N,⟨f,s.h,s.nx⟩,X,.refl _ _ _ _ _ _,⟨hf.1,h M N a w hf hs,hf.2.2⟩,hs,rfl,rfl⟩
theorem HM{b j e d:Nat}{p:PV}(A:X b=io (.out j e))(hp: ∀(M:Mem) (N:Nm) (U:Nat->Prop) (x:Value),U j->N.aA j=b->N.ext j=e->VR M N U (s.f.get d) x->VR M N U p x):
  SX nt s X (fun t Y=>t=⟨(d,p)::s.f,s.h,s.nx⟩∧Y=X):=
 Mi Z Z fun M N a w hf hs k=>by
  obtain⟨h1,u,y⟩:=hs.out b j e A;rw[AF.ax];split
  .rename_i hk;subst hk;exact hp M N _ _ h1 u y (hf.2.1 k)
  .exact hf.2.1 k
theorem Dl{M:Mem}{N:Nm}{n:Nat}{h:AH}{w:World}(hr:Rel M N (· <n) h w){i:Nat}{o o':AO}(hi:h.get i=io o)(C:o'.real=jp->o.real=jp)(ho:OR M N (· <n) w i o'):Rel M N (· <n) ((i,io o')::h) w:=by
 have u: ∀j q,AH.get ((i,io o')::h) j=io q->(j=i∧q=o')∨(j≠i∧h.get j=io q):=by
  intro j q y;rw[AH.ax]at y;split at y
  .rename_i B;exact .inl ⟨B,by simpa using y.symm⟩
  .rename_i B;exact .inr ⟨B,y⟩
 refine⟨hr.dF,fun j q y=>?_,fun j q y x=>?_,fun j q y=>?_,fun j k q r y hk I x G=>?_⟩
 .rcases u j q y with⟨rfl,rfl⟩|⟨_,A⟩
  .exact hr.used j o hi
  .exact hr.used j q A
 .rcases u j q y with⟨rfl,rfl⟩|⟨_,A⟩
  .exact hr.dM j o hi (C x)
  .exact hr.dM j q A x
 .rcases u j q y with⟨rfl,rfl⟩|⟨_,A⟩
  .exact ho
  .exact hr.obj j q A
 .rcases u j q y with⟨rfl,rfl⟩|⟨g1,A⟩<;>rcases u k r hk with⟨g2,D⟩|⟨g2,D⟩
  .exact g2.symm
  .exact hr.inj j k o r hi D (C I) x G
  .subst g2;subst D;exact hr.inj j k q o A hi I (C x) G
  .exact hr.inj j k q r A D I x G
theorem Rs{i:Nat}{o o':AO}(hi:s.h.get i=io o)(A:o'.real=jp->o.real=jp)(ho: ∀M N w,fi M N s.nx s.h X w->OR M N (· <s.nx) w i o->OR M N (· <s.nx) w i o'):
  SX nt s X (fun t Y=>t=⟨s.f,(i,io o')::s.h,s.nx⟩∧Y=X):=by
 intro M N a w hf hs;have u: ∀j q,AH.get ((i,io o')::s.h) j=io q->q.real=jp-> ∃y,s.h.get j=io y∧y.real=jp:=by
  intro j q x B;rw[AH.ax]at x;split at x
  .rename_i D;subst D;cases x;exact⟨o,hi,A B⟩
  .exact⟨q,x,B⟩
 refine⟨M,N,⟨s.f,(i,io o')::s.h,s.nx⟩,X,⟨rfl,rfl,⟨rfl,WY _⟩,WY _,fun _ _ _=>rfl,.refl _,fun b c h1 C=>by simp[h1]at C,.refl _ _,WY _,fun b hb=> .inr ?_⟩,
  ⟨Dl hf.1 hi A (ho M N w hs (hf.1.obj i o hi)),hf.2⟩,⟨hs.real,hs.obj,hs.dF,fun b p e hb j q x B=>?_,hs.out⟩,rfl,rfl⟩
 .rcases hb with⟨j,q,h1,C,G⟩|hb
  .obtain⟨y,g1,g2⟩:=u j q h1 C;exact .inl ⟨j,y,g1,g2,G⟩
  .exact .inr hb
 .obtain⟨y,g1,g2⟩:=u j q x B;exact hs.apart b p e hb j y g1 g2
theorem Ru{i:Nat}{o o':AO}(hi:s.h.get i=io o)(j:eR o o'):SX nt s X (fun t Y=>t=⟨s.f,(i,io o')::s.h,s.nx⟩∧Y=X):=
 Rs hi j.1 fun M N w _ h=>j.2 M N _ w i h
end
end
section
variable {P:Program} {nt:NT} {Q:XQ} {k0:List XI} {s:AS} {X:bE} {ty:Ty}
theorem DG{c:Code}{R x:AS->bE->Prop}(h: ∀t Y,R t Y->x t Y)(hg:GX P nt (.code c:: .lp R::k0) Q s X):GX P nt (.code c:: .lp x::k0) Q s X:=by
 intro M N a w hf hs;refine AX.then hg hf hs fun e D G y A s' B C j u hr=>⟨y,A,s',B,C,j,u,?_⟩
 cases e with
 |normal=>exact h _ _ hr
 |_=>exact hr
theorem Aa{body:Code}{σ:Type 1}(i0 n:Nat)(A:i0<=n)(I:Nat->σ->AS)(J:Nat->σ->bE->Prop)(C:σ)(D:List Nat)(j0:J i0 C X)(h0:Wk s.nx D s (I i0 C))(B: ∀i x Y,J i x Y->Y.still)
  (j: ∀i x Y,i<=n->J i x Y->GX P nt (.code body:: .lp (fun t y=>i<n∧ ∃u L,J (i+1) u y∧Wk s.nx L t (I (i+1) u))::k0) Q (I i x) Y):GX P nt (.code (.loop body)::k0) Q s X:=by
 refine U0 (σ:={p:Nat×σ×bE//p.1<=n∧J p.1 p.2.1 p.2.2}) (fun p=>I p.1.1 p.1.2.1) (fun p=>p.1.2.2) (fun p=>n-p.1.1) ⟨(i0,C,X),A,j0⟩ D h0 Z (fun p=>B _ _ _ p.2.2) fun p=>?_;obtain⟨⟨i,x,Y⟩,h1,G⟩:=p;refine DG ?_ (j i x Y h1 G)
 rintro t y ⟨h3,u,L,h4,h5⟩;exact⟨⟨(i+1,u,y),h3,h4⟩,L,by show n-(i+1)<n-i;omega,h5,rfl⟩
end
section
variable {P:Program} {nt:NT} {Q:XQ} {k:List XI} {s:AS} {X:bE}
def GoW(P:Program)(nt:NT)(k:List XI)(Q:XQ)(X:bE)(n0:Nat)(t:AS):AQ:=fun e u=>(e= .normal∧ ∃L,Wk n0 L u t)∨(e≠ .normal∧kx P nt k Q e u X)
theorem yt{n0:Nat}{t u:AS}(L:List Nat)(h:Wk n0 L u t):GoW P nt k Q X n0 t .normal u:= .inl ⟨rfl,L,h⟩
theorem v8{c:Code}(t:AS)(h1:GO P nt [.code c] (GoW P nt k Q X s.nx t) s)(C:GX P nt k Q t X):GX P nt (.code c::k) Q s X:=by
 intro M N a w hf hs;refine AW.then h1 hf fun e D G x B u A j hr=>?_;rcases hr with⟨rfl,L,y⟩|⟨_,hr⟩
 .obtain⟨g1,g2⟩:=k9.frame (y.ext A) hs;exact⟨x,_,t,X,g1,y.fits j,g2,C⟩
 .obtain⟨g1,g2⟩:=k9.frame A hs;exact⟨x,B,u,X,g1,j,g2,hr⟩
end
def To(s t:AS):Prop:= ∀M N (nt:NT) a w,Fits M N s nt a w-> ∃j u,Ext M N (· <s.nx) s.h w j u (· <t.nx) t.h w∧Fits j u t nt a w
theorem To.refl(s:AS):To s s:=fun M N _ _ _ hf=>⟨M,N,.refl _ _ _ _ _,hf⟩
theorem To.trans{s t u:AS}(h:To s t)(g:To t u):To s u:=fun M N nt a w hf=>by
 obtain⟨j,y,B,f1⟩:=h M N nt a w hf;obtain⟨x,A,C,f2⟩:=g j y nt a w f1;exact⟨x,A,B.trans C,f2⟩
theorem To.wk{s t:AS}{L:List Nat}(hw:Wk s.nx L s t):To s t:=fun M N _ _ _ hf=>⟨M,_,hw.ext (.refl _ _ _ _ _),hw.fits hf⟩
theorem To.row{s:AS}(i:Nat){sz:Nat}{es:List (List PV)}(el:Nat->List IV)(hi:s.h.get i=io (.row sz es))(a0: ∀k e,es[k]? =io e->e=(el k).map .iv)
  (hf:s.f.mg i sz es.length) (hh:s.h.vH i sz es.length):To s ⟨s.f.jY i sz el,(i,is)::s.h.gY i sz el,s.nx⟩:=by
 intro M N nt a w u;obtain⟨Y,h1,x,h4⟩:=pt u.1 hi a0;have C: ∀j o,AH.get ((i,is)::s.h.gY i sz el) j=io o-> ∃p,AH.get ((i,is)::s.h) j=io p∧s.h.get j=io p∧o=p.gY i sz el:=by
  intro j o y;obtain⟨g1,g2⟩:=bm j o y;rw[AH.px,WZ]at g2;obtain⟨p,g3,g4⟩:=g2;exact⟨p,by rw[AH.ax,be g1];exact g3,g3,g4.symm⟩
 have hE:Ext M N (· <s.nx) s.h w Y N (· <s.nx) ((i,is)::s.h.gY i sz el) w:=⟨h1.os,h1.tape,h1.output,h1.size,h1.gK,h1.oC,h1.iK,h1.nm,h1.ule,fun j o y A=>by
  obtain⟨p,g1,_,rfl⟩:=C j o y;rw[AO.jl]at A
  exact h1.gx j p g1 A⟩
 have hR:Rel Y N (· <s.nx) ((i,is)::s.h.gY i sz el) w:=by
  refine⟨x.dF,fun j o y=>?_,fun j o y A=>?_,fun j o y=>?_,fun j k o p y hk ho G=>?_⟩
  .obtain⟨p,g1,_,rfl⟩:=C j o y;exact x.used j p g1
  .obtain⟨p,g1,_,rfl⟩:=C j o y;rw[AO.jl]at A;exact x.dM j p g1 A
  .obtain⟨p,g1,g2,rfl⟩:=C j o y;cases p with
   |cells cs T0=>
    obtain⟨c,T,q1,q2,q3,q4,q5⟩:=u.1.obj j _ g2;have hok:=AH.mf hh j _ g2;refine⟨c,T,q1,q2,by simpa[eD]using q3,fun k q hq=>?_,q5⟩;rw[eD,WX,WZ]at hq;obtain⟨q0,J,rfl⟩:=hq;exact h4 _ _ (q4 k q0 J) (fc hok k q0 J)
   |row s2 es2=>
    have hok:=AH.mf hh j _ g2;rcases u.1.obj j _ g2 with rfl|⟨q0,c,T,q1,q2,q3,q4,q5⟩
    .exact .inl Z
    .refine .inr ⟨q0,c,T,q1,q2,by simpa using q3,fun k e D=>?_,fun k e j2 p D G=>?_⟩
     .rw[WX,WZ]at D;obtain⟨e0,B,rfl⟩:=D;rw[eD,Xk];exact q4 k e0 B
     .rw[WX,WZ]at D;obtain⟨e0,B,rfl⟩:=D;rw[eD,WX,WZ]at G;obtain⟨p0,I,rfl⟩:=G;exact h4 _ _ (q5 k e0 j2 p0 B I) (fc (hok e0 (Xs B)) j2 p0 I)
   |bw=>exact x.obj j _ g1
   |ft=>exact x.obj j _ g1
   |map=>exact x.obj j _ g1
   |bX=>exact x.obj j _ g1
   |ey=>exact x.obj j _ g1
   |ix=>exact x.obj j _ g1
   |eB=>exact x.obj j _ g1
   |oD=>exact x.obj j _ g1
  .obtain⟨o',g1,_,rfl⟩:=C j o y;obtain⟨p',g2,_,rfl⟩:=C k p hk;rw[AO.jl]at ho G;exact x.inj j k o' p' g1 g2 ho G
 have b0:Fits Y N ⟨s.f.jY i sz el,(i,is)::s.h.gY i sz el,s.nx⟩ nt a w:=⟨hR,fun d=>by
  rw[AF.jK];exact h4 _ _ (u.2.1 d) (AF.lv hf d),u.2.2⟩
 exact⟨Y,N,hE,b0⟩
section
variable {P:Program} {nt:NT} {Q:AQ} {k:List KI} {s t:AS}
theorem Sv{all rest:List Oper}(ht:To s t)(h:GO P nt (.ops all rest::k) Q t):GO P nt (.ops all rest::k) Q s:=by
 intro M N a w hf;obtain⟨u,x,y,j⟩:=ht M N nt a w hf;exact fM (fun e a2 A ⟨M2,N2,s2,hx2,hf2,hr2⟩=>⟨M2,N2,s2,y.trans hx2,hf2,hr2⟩) _ _ _ (h u x a w j)
end
section
variable {P:Program} {ty:Ty} {nt:NT} {s:AS} {Q:AQ} {k:List KI}
theorem wb(B:bp P ty)(j:List (List PV)){all rest:List Oper}{o:Oper}{t:TypeId}{a x:Operand}(hg:o.guard=is)(ho:o.op= .store t a x)(hd:o.dst=is){i sz q off:Nat}{e:bD}(he:ty t=io e){es:List (List PV)}{row xs:List PV}
  (ha:ev s.f a= .cR i sz q off) (hi:s.h.get i=io (.row sz es)) (G:es[q]? =io row) (D:(ev s.f x).cells=io xs) (C:xs.length=e.size) (y:off+e.size<=sz) (A:dy xs=jp) (hes:es.set q (setCells row off xs)=j)
  (h:GO P nt (.ops all rest::k) Q ⟨s.f,(i,io (.row sz j))::s.h,s.nx⟩):GO P nt (.ops all (o::rest)::k) Q s:=
 bB hg (mS B ho hd he ha hi G D C y A) fun u hu=>by subst hu;rw[hes];exact h
end
abbrev db(l:List UInt8):List (List PV):=l.map fun c=>(aO c).map .iv
theorem Kp(a b:List UInt8):db (a++b)=db a++db b:=W4
section
variable {P:Program} {ty:Ty} {nt:NT} {s:AS} {Q:AQ} {k:List KI}
theorem MK{M:Mem}{N:Nm}{U:Nat->Prop}{w:World}{i:Nat}{l:List UInt8}:OR M N U w i (.row 1 (db l))↔(l=[]∨ ∃c T,w.heap[N.aA i]? =io (.cells c T (0,0))∧c.size=N.ext i∧l.length<=c.size∧ ∀(j:Nat) (x:UInt8),l[j]? =io x->c.getD j undef= .int .u8 (x.toNat:Int)):=by
 constructor
 .rintro(h|⟨_,c,T,h1,h2,h3,h4,h5⟩)
  .exact .inl (by simpa using h)
  .refine .inr ⟨c,T,h1,h2,by simpa using h3,fun j x B=>?_⟩;have:=h5 j _ 0 _ (by rw[WX,B];rfl) Z;rw[Zg,Yp]at this;generalize c.getD j undef=y at this;cases this with
   |iv _ _ h=>cases h;rfl
 .rintro(h|⟨c,T,h1,h2,h3,h4⟩)
  .exact .inl (by simp[h])
  .refine .inr ⟨by decide,c,T,h1,h2,by simpa using h3,fun k e u=>?_,fun k e j p u A=>?_⟩
   .rw[WX,WZ]at u;obtain⟨x,_,rfl⟩:=u;rfl
   .rw[WX,WZ]at u;obtain⟨x,B,rfl⟩:=u
    match j,A with
    |0,A=>
     cases A;rw[Zg,Yp,h4 k x B];exact .iv _ _ (.v _)
theorem ph{i:Nat}{l m:List UInt8}{M j:Mem}{N u:Nm}{a:Act}{w x:World}(hf:Fits M N s nt a w)(y:Ext M N (· <s.nx) s.h w j u (· <s.nx+1) ((s.nx,io (.row 1 (db (l++m))))::(i,is)::s.h) x)
  (hr:Rel j u (· <s.nx+1) ((s.nx,io (.row 1 (db (l++m))))::(i,is)::s.h) x):
  Ext M N (· <s.nx) s.h w j u (· <(iM s i 1 (db l) (db m)).nx) (iM s i 1 (db l) (db m)).h x∧Fits j u (iM s i 1 (db l) (db m)) nt a x:=by
 rw[Kp]at y hr;exact⟨y,hr,hf.2.1.ext y,hf.2.2⟩
theorem Ms(x0:bp P ty){o:Oper}{x y:Operand}{t tu u:TypeId}(ho:o.op= .call ⟨.builtin .append, #[x,y], #[t,tu]⟩){e et eu:bD}(ht:ty t=io e)(hk:e.k= .aP (.slice u))(t1:ty tu=io et)(n1:et.k= .aP .string)(hu:ty u=io eu)
  {i len:Nat} {l:List UInt8} {b:ByteArray} (hx:ev s.f x= .sl i 0 len 1) (hi:s.h.get i=io (.row 1 (db l))) (C:l.length=len) (s1:eu.size=1) (k1:eu.bytes=1) (hz:eu.zero= .int .u8 0)
  (p1:ev s.f y= .iv (.v (.string b))) (a2:len+b.size<=140737488355328)
  {s':AS} (hp:putDst nt o (.sl s.nx 0 (len+b.size) 1) (iM s i 1 (db l) (db b.data.toList))=io s'):OT P nt o s (fun t=>t=s'):=by
 refine OT.value hp fun M N a w hf=>?_;obtain⟨⟨ii,g0,r0,q0,s0⟩,_⟩:=x0 u _ hu;rw[s1]at r0;rw[k1]at q0;rw[hz]at s0
 have k0:P.underlying t=io (.slice u):=by
  have:=(x0 t _ ht).2.1;rw[hk]at this;exact this.1
 have j0:P.underlying tu=io .string:=by
  have:=(x0 tu _ t1).2.1;rw[n1]at this;exact this.1
 have z0:=aN hf.2.1 x;rw[hx]at z0;have a1:=aN hf.2.1 y;rw[p1]at a1;have x1:a.eval y= .string b:=by
  generalize a.eval y=v at a1;cases a1 with
  |iv _ _ h=>cases h;rfl
 have A: ∀v w',(Builtin.append_ #[t,tu] o.type #[a.eval x,a.eval y]).run P w= .ok v w'->(execOp a.eval o).run P w= .ok (.value v) w':=by
  intro v w' h;simp only[execOp,ho,resolve];simp[invoke,builtin,h]
 rw[x1]at A;have b2:i<s.nx:=hf.1.used i _ hi;have m0:s.nx≠i:=by omega
 have o1:=MK.1 (hf.1.obj i _ hi);have f0:b.data.toList.length=b.size:=by simp
 have e0: ∀(j:Nat) (x:UInt8),b.data.toList[j]? =io x->(Lib.strCells b).getD j undef= .int .u8 (x.toNat:Int):=by
  intro j x hx;simp only[Lib.strCells,WQ,WX,hx,XW,XV]
 have b0: ∀z:Array Value,(∀(j:Nat) (x:UInt8),l[j]? =io x->z.getD j undef= .int .u8 (x.toNat:Int))->(∀j,j<b.size->z.getD (len+j) undef=(Lib.strCells b).getD j undef)->
   ∀(j:Nat) (x:UInt8),(l++b.data.toList)[j]? =io x->z.getD j undef= .int .u8 (x.toNat:Int):=by
  intro z h1 h2 j x D;rcases XO j l.length with hk|hk
  .rw[Xb hk]at D;exact h1 j x D
  .rw[Xc hk]at D;have t0:j-l.length<b.size:=by rw[<-f0];exact(WT.1 D).1
   have:=h2 _ t0;rw[e0 _ _ D,show len+(j-l.length)=j by omega]at this;exact this
 have Y: ∀(G:List Value) (a0:Nat),G.length=len->(∀(j:Nat) (x:UInt8),l[j]? =io x->G.getD j undef= .int .u8 (x.toNat:Int))->len+b.size<=a0->a0<=maxLen->0<len+b.size->
   ∀z:Array Value,z=G.toArray++(Lib.strCells b).toArray++Builtin.zeroCells (Value.int .u8 0).cells (a0-(len+b.size))->
   ∃M' J,Ext M N (· <s.nx) s.h w M' J (· <(iM s i 1 (db l) (db b.data.toList)).nx) (iM s i 1 (db l) (db b.data.toList)).h (w.drew.alloc (.cells z u))∧Fits M' J (iM s i 1 (db l) (db b.data.toList)) nt a (w.drew.alloc (.cells z u))∧
    VR M' J (· <(iM s i 1 (db l) (db b.data.toList)).nx) (.sl s.nx 0 (len+b.size) 1) (.slice (io ⟨w.heap.size,0,is⟩) (len+b.size) a0):=by
  intro G a0 f1 v1 o0 m1 v0 z b1;have z1:(Value.int IntKind.u8 0).cells.size=1:=rfl;have I:z.size=a0:=by
   rw[b1,Yr,Yr,size_zeroCells,z1];simp only[Y1,f1,Lib.strCells_length];omega
  obtain⟨J,h1,h2,h3,h4,h5⟩:=hf.1.drew.alloc (.cells z u) (.row 1 (db (l++b.data.toList))) z.size (fun J g1 g2 g3=>by
   refine MK.2 (.inr ⟨z,u,by rw[g1];exact heap_alloc_new _ _,g2.symm,by rw[I,WO,C,f0];omega,b0 z (fun j x D=>?_) (fun j D=>?_)⟩)
   .have c2:=(WT.1 D).1;have e1:z.getD j undef=G.getD j undef:=by
     rw[b1,WM,Zs,Xt (by simp;omega),WQ];simp
    rw[e1];exact v1 j x D
   .rw[b1,WM,Xt (by simp[Lib.strCells_length];omega),YJ (by simp;omega),WQ]
    simp[f1])
  have r1:=(h5.del i).swap (Ne.symm m0);have w1:=(((Ext.drew (M:=M) (N:=N) (U:=(· <s.nx)) (h:=s.h) (w:=w)).trans h4).del i).swap (Ne.symm m0);obtain⟨g1,g2⟩:=ph (l:=l) (m:=b.data.toList) hf w1 r1;refine⟨M,J,g1,g2,?_⟩;have:=VR.sl (M:=M) (N:=J) (U:=(· <s.nx+1)) s.nx 0 (len+b.size) 1 a0 (by omega) v0 o0 m1 (by rw[h2,I];simp);rw[h1,Yq]at this;exact this
 generalize a.eval x=vx at z0 A;cases z0 with
 |lq _ _ hU=>
  have he:l=[]:=Xz C;subst he;by_cases hm:b.size=0
  .have n0:b.data.toList=[]:=Xz (by rw[f0];exact hm);have B:=gr (P:=P) w t tu o.type u ii k0 j0 g0 is 0 0 (WY _) b hm (.inl Z);obtain⟨h1,h2⟩:=hf.1.CU 1;obtain⟨g1,g2⟩:=ph (i:=i) (l:=[]) (m:=[]) hf ((h1.del i).swap (Ne.symm m0)) ((h2.del i).swap (Ne.symm m0));rw[n0,hm];exact⟨_,w,M,N,A _ _ B,g1,g2,.lq _ _ (by simp only[iM];omega)⟩
  .have B:=run_append_nil_string (P:=P) w t tu o.type u ii (.int .u8 0) k0 j0 g0 s0 b (by omega) (by omega) (by rw[q0];omega);have e1:(b.data.map fun b=>Value.int .u8 b.toNat)=(Lib.strCells b).toArray:=by
    apply Array.ext';simp[Lib.strCells]
   rw[e1]at B;obtain⟨M',J,g1,g2,g3⟩:=Y [] (grownCap w b.size 0 u) Z (by simp) (by simpa using grownCap_ge w b.size 0 u) (grownCap_le_maxLen w _ _ _ (by simp only[maxLen];omega)) (by omega) _ Z;simp only[Xd,Xg,aag] at*
   exact⟨_,_,M',J,A _ _ B,by simpa using g1,by simpa using g2,by simpa using g3⟩
 |sl _ _ _ _ a0 hU h0 hl hc hext=>
  rcases o1 with rfl|⟨cur,CT,q1,q2,q3,q4⟩
  .simp at C;omega
  have c0:(AO.row 1 (db l)).real=jp:=by cases l with
   |nil=>simp at C;omega
   |cons=>rfl
  rw[Yq]at A;have p0:cur.size=a0:=by rw[q2,<-hext];omega
  by_cases hm:b.size=0
  .have n0:b.data.toList=[]:=Xz (by rw[f0];exact hm);have B:=gr (P:=P) w t tu o.type u ii k0 j0 g0 (io ⟨N.aA i,0,is⟩) len a0 hl b hm (.inr ⟨_,_,rfl⟩)
   obtain⟨h1,h2⟩:=hf.1.move hi c0 w (.row 1 (db (l++ []))) Z Z Z Z (fun _ _=>rfl) (by
    rw[XA]
    exact MK.2 (.inr ⟨cur,CT,by simpa using q1,by simpa using q2,q3,q4⟩))
   obtain⟨g1,g2⟩:=ph (l:=l) (m:=[]) (i:=i) hf h1 h2;rw[n0,hm];refine⟨_,w,M,_,A _ _ B,g1,g2,?_⟩;have:=VR.sl (M:=M) (N:=N.with s.nx (N.aA i) (N.ext i)) (U:=(· <s.nx+1)) s.nx 0 len 1 a0 (by omega) h0 hl hc (by simpa using hext);simpa[iM]using this
  .by_cases d0:len+b.size<=a0
   .have B:=l9 (P:=P) w t tu o.type u ii k0 j0 g0 r0 CT (N.aA i) len a0 cur q1 b d0 (by omega);generalize hL:(cur.toList.take len++Lib.strCells b++cur.toList.drop (len+b.size)).toArray=L at B;have d1:L.size=cur.size:=by rw[<-hL];simp[Lib.strCells_length];omega
    have w0:=setRow_heap w (N.aA i) cur L CT (0,0) q1;have j1: ∀j,j<len->L.getD j undef=cur.getD j undef:=by
     intro j D;rw[<-hL,WM,WM];simp only[XD];rw[W6,Xb (by simp;omega),Xy,am D,Xo]
    have i1: ∀j,j<b.size->L.getD (len+j) undef=(Lib.strCells b).getD j undef:=by
     intro j D;rw[<-hL,WM,WQ];simp only[XD];rw[Xb (by simp[Lib.strCells_length];omega),Xc (by simp;omega)];congr 2;simp;omega
    obtain⟨h1,h2⟩:=hf.1.move hi c0 (w.setRow (N.aA i) L) (.row 1 (db (l++b.data.toList))) Z Z Z (by simp) (fun b hb=>by
      simp only[World.setRow,Xp]
      rw[be (fun e=>hb e.symm)]) (by
     refine MK.2 (.inr ⟨L,CT,by simpa using w0,by rw[d1];simpa using q2,by rw[d1,p0,WO,C,f0];omega,b0 L (fun j x D=>?_) i1⟩);rw[j1 j (by rw[<-C];exact(WT.1 D).1)]
     exact q4 j x D)
    obtain⟨g1,g2⟩:=ph (l:=l) (m:=b.data.toList) (i:=i) hf h1 h2;refine⟨_,_,M,_,A _ _ B,g1,g2,?_⟩;have:=VR.sl (M:=M) (N:=N.with s.nx (N.aA i) (N.ext i)) (U:=(· <s.nx+1)) s.nx 0 (len+b.size) 1 a0 (by omega) (by omega) d0 hc (by simpa using hext);simpa[iM]using this
   .have i0: ∀(j:Nat) (v:Value),(cur.toList.take len)[j]? =io v->w.cell? ((⟨N.aA i,0,is⟩:Addr).add j)=io v:=by
     intro j v hv;rw[Xy]at hv;split at hv
     .rw[c7,Xd];simp only[World.cell?,q1];simpa using hv
     .cases hv
    have B:=Lib.run_append_grow_string (P:=P) w t tu o.type u ii (.int .u8 0) k0 j0 g0 s0 ⟨N.aA i,0,is⟩ len a0 (cur.toList.take len) (by rw[r0];simp;omega) i0 b (by omega) (by omega)
     (by rw[q0];exact growslice_fits (by omega) (by omega))
    obtain⟨M',J,g1,g2,g3⟩:=Y (cur.toList.take len) (grownCap w (len+b.size) a0 u) (by simp;omega) (fun j x D=>by
      have:=q4 j x D;have t0:j<len:=by rw[<-C];exact(WT.1 D).1
      rw[WQ,Xy,am t0,Xo]
      rw[WM]at this;exact this) (grownCap_ge w _ _ _) (grownCap_le_maxLen w _ _ _ (by simp only[maxLen];omega)) (by omega) _ Z
    exact⟨_,_,M',J,A _ _ B,g1,g2,g3⟩
end
section
variable {P:Program} {ty:Ty} {nt:NT} {s:AS}
theorem mI(B:bp P ty)(l:List UInt8){o:Oper}{x:Operand}{t y u:TypeId}{el:Nat->List IV}{et G eu:bD}(ho:o.op= .convert t y x)(ht:ty t=io et)(hk:et.k= .aP (.slice u))(f0:ty y=io G)(c0:G.k= .aP .string)(hu:ty u=io eu)(d0:eu.k= .aP (.int .u8))
  {n:Nat} (hx:ev s.f x= .iv (.bL 1 n el)) (hn:n=l.length) (b0: ∀j,j<l.length->el j=aO (l.getD j 0)): ∀M N a w,Fits M N s nt a w-> ∃x,(execOp a.eval o).run P w= .ok (.value x) w∧VR M N (· <s.nx) (.iv (.v (.string ⟨l.toArray⟩))) x:=by
 intro M N a w hf;have hs:P.underlying y=io .string:=by have:=(B y _ f0).2.1;rw[c0]at this;exact this.1
 have A:P.underlying t=io (.slice u):=by have:=(B t _ ht).2.1;rw[hk]at this;exact this.1
 have C:P.underlying u=io (.int .u8):=by have:=(B u _ hu).2.1;rw[d0]at this;exact this.1
 subst hn;have D:=aN hf.2.1 x;rw[hx]at D;have J:(convert t y (a.eval x)).run P w= .ok (.string ⟨l.toArray⟩) w:=by
  generalize a.eval x=v at D;cases D with
  |iv _ _ hir=>
   generalize I:l.length=n at hir;cases hir with
   |fL _ _ a0 cap=>
    have e0:l=[]:=Xz I;subst e0;cases a0 with
    |none=>exact run_convert_bytes_nil (P:=P) w t u A C 0 cap y hs
    |some a1=>
     have h0:=run_convert_bytes_back (P:=P) w t y u a1 cap [] A C hs (fun j Y=>absurd Y (by simp));exact h0
   |bL _ _ _ b off cap hn hc hl hm hr=>
    rw[<-I];refine run_convert_bytes_back (P:=P) w t y u ⟨b,off,is⟩ cap l A C hs fun j Y=>?_;have h1:=hr j 0 (.v (.int .u8 ((l.getD j 0).toNat:Int))) (by omega) (by rw[b0 j Y];rfl);have h2:=hm j 0 (by omega) (by omega);rw[Zg,Yp]at h1 h2;have hg:l.getD j 0=l[j]:=by rw[WQ,WU Y];rfl
    rw[hg]at h1;cases hcl:M.cell b (off+j) with
    |none=>rw[hcl]at h2;cases h2
    |some v=>
     rw[hcl]at h1;cases h1 with
     |v=>
      rw[c7];exact hf.1.I3 hcl
 exact⟨_,by simp only[execOp,ho];exact aZ J,.iv _ _ (.v _)⟩
theorem NV{o:Oper}{t:TypeId}{x:Operand}{k:IntKind}{a:Int}(ho:o.op= .unOp .xor t x)(y:ev s.f x= .iv (.v (.int k a))):
  ∀M N c w,Fits M N s nt c w-> ∃x,(execOp c.eval o).run P w= .ok (.value x) w∧VR M N (· <s.nx) (.iv (.v (.int k (k.wrap ((BitVec.ofInt k.bits (if k.signed then-1 else k.max) ^^^ BitVec.ofInt k.bits a).toNat:Int))))) x:=by
 intro M N c w hf;have j:=aN hf.2.1 x;rw[y]at j;generalize u:c.eval x=vx at j;cases j with
 |iv _ _ h1=>cases h1 with
  |v=>
   refine⟨_,?_,.iv _ _ (.v _)⟩;simp only[execOp,ho,u];refine aZ ?_;rfl
end
section
variable {P:Program} {ty:Ty} {nt:NT} {s:AS}
theorem Ou(x1:bp P ty){o:Oper}{x y:Operand}{t u:TypeId}(ho:o.op= .call ⟨.builtin .append, #[x,y], #[t,t]⟩){e eu:bD}(ht:ty t=io e)(hk:e.k= .aP (.slice u))(hu:ty u=io eu)
  {i len sz:Nat} {es news:List (List PV)} {py:PV} (r2: ∀(M:Mem) (N:Nm) (a:Act) (w:World),Fits M N s nt a w->VR M N (· <s.nx) (.sl i 0 len sz) (a.eval x)) (hi:s.h.get i=io (.row sz es)) (D:es.length=len) (m2:eu.size=sz) (hz:eu.zero.cells.size=sz) (l2:0<sz)
  (j2:ev s.f y=py) (hy:Src s.h sz py news) (n1: ∀e∈news,dy e=jp) (hb:(len+news.length)*eu.bytes<=140737488355328) (t2:len+news.length<=140737488355328)
  {s':AS} (hp:putDst nt o (.sl s.nx 0 (len+news.length) sz) (iM s i sz es news)=io s'):OT P nt o s (fun t=>t=s'):=by
 refine OT.value hp fun M N a w hf=>?_;subst m2;obtain⟨⟨ii,r0,x0,e2,v1⟩,_⟩:=x1 u _ hu
 have t0:P.underlying t=io (.slice u):=by
  have:=(x1 t _ ht).2.1;rw[hk]at this;exact this.1
 have z1:=r2 M N a w hf;have a2:=aN hf.2.1 y;rw[j2]at a2;obtain⟨J,ao,c,s2,e0⟩:=hy.ok hf a2;have B: ∀v w',(Builtin.append_ #[t,t] o.type #[a.eval x,a.eval y]).run P w= .ok v w'->(execOp a.eval o).run P w= .ok (.value v) w':=by
  intro v w' h;simp only[execOp,ho,resolve];simp[invoke,builtin,h]
 rw[s2]at B;have v2:i<s.nx:=hf.1.used i _ hi;have z0:s.nx≠i:=by omega
 have i2:=hf.1.obj i _ hi;have c0:(len+news.length)*ii.bytes<=140737488355328:=by rw[e2];exact hb
 have i0: ∀(G vs:List Value) (a0:Nat),G.length=es.length*eu.size->vs.length=news.length*eu.size->(∀(k:Nat) (e:List PV) (j:Nat) (p:PV),es[k]? =io e->e[j]? =io p->VR M N (· <s.nx) p (G.getD (k*eu.size+j) undef))->
   (∀(k:Nat) (e:List PV),es[k]? =io e->e.length=eu.size)->(∀(j:Nat) (p:PV),news.flatten[j]? =io p->VR M N (· <s.nx) p (vs.getD j undef))->len+news.length<=a0->a0<=maxLen->0<len+news.length->
   ∀z:Array Value,z=G.toArray++vs.toArray++Builtin.zeroCells eu.zero.cells (a0-(len+news.length))->
   ∃M' N',Ext M N (· <s.nx) s.h w M' N' (· <(iM s i eu.size es news).nx) (iM s i eu.size es news).h (w.drew.alloc (.cells z u))∧Fits M' N' (iM s i eu.size es news) nt a (w.drew.alloc (.cells z u))∧
    VR M' N' (· <(iM s i eu.size es news).nx) (.sl s.nx 0 (len+news.length) eu.size) (.slice (io ⟨w.heap.size,0,is⟩) (len+news.length) a0):=by
  intro G vs a0 m1 Y o2 t1 n2 m0 d2 o1 z r1;have g0:z.size=a0*eu.size:=by
   rw[r1,Yr,Yr,size_zeroCells,hz];simp only[Y1,m1,Y,D];rw[<-XG,<-XG,Nat.add_sub_cancel' m0]
  obtain⟨N',h1,h2,h3,h4,h5⟩:=hf.1.drew.alloc (.cells z u) (.row eu.size (es++news)) z.size (fun N' g1 g2 g3=>by
   refine .inr ⟨l2,z,u,by rw[g1];exact heap_alloc_new _ _,g2.symm,?_,fun k e A=>?_,fun k e j p A I=>?_⟩
   .rw[g0,WO,D];exact Xi _ m0
   .rcases XO k es.length with hk|hk
    .rw[Xb hk]at A;exact t1 k e A
    .rw[Xc hk]at A;exact J _ e A
   .rcases XO k es.length with hk|hk
    .rw[Xb hk]at A;have j1:j<eu.size:=by rw[<-t1 k e A];exact(WT.1 I).1
     have q0:k*eu.size+j<G.length:=by
      rw[m1];have:(k+1)*eu.size<=es.length*eu.size:=Xi _ hk;rw[XG]at this;omega
     have:=o2 k e j p A I;have e1:z.getD (k*eu.size+j) undef=G.getD (k*eu.size+j) undef:=by
      rw[r1,WM,Zs,Xt (by simpa using q0),WQ];simp
     rw[e1];exact this.mono (.refl _) g3 (fun i hi=>by omega)
    .rw[Xc hk]at A;have j1:j<eu.size:=by rw[<-J _ e A];exact(WT.1 I).1
     have k1:k-es.length<news.length:=(WT.1 A).1;have i1:=jL J _ e j p A I;have q0:(k-es.length)*eu.size+j<vs.length:=by
      rw[Y];have:(k-es.length+1)*eu.size<=news.length*eu.size:=Xi _ k1;rw[XG]at this;omega
     have f0:k*eu.size+j=G.length+((k-es.length)*eu.size+j):=by
      rw[m1,Z7];have:es.length*eu.size<=k*eu.size:=Xi _ hk;omega
     have:=n2 _ p i1;have e1:z.getD (k*eu.size+j) undef=vs.getD ((k-es.length)*eu.size+j) undef:=by
      rw[r1,WM,f0,Xt (by simp;omega),YJ (by simp),WQ];simp
     rw[e1];exact this.mono (.refl _) g3 (fun i hi=>by omega))
  have k2:=(h5.del i).swap (Ne.symm z0);have p2:=(((Ext.drew (M:=M) (N:=N) (U:=(· <s.nx)) (h:=s.h) (w:=w)).trans h4).del i).swap (Ne.symm z0);obtain⟨g1,g2⟩:=jc hf p2 k2;refine⟨M,N',g1,g2,?_⟩;rw[ib];have:=VR.sl (M:=M) (N:=N') (U:=(· <s.nx+1)) s.nx 0 (len+news.length) eu.size a0 (by omega) o1 m0 d2 (by rw[h2,g0];simp);rw[h1,Yq]at this;exact this
 have o0: ∀vs:List Value,vs.length=news.flatten.length->vs.length=news.length*ii.size:=fun vs h=>by rw[h,fu J,x0]
 generalize a.eval x=vx at z1 B;cases z1 with
 |lq _ _ hU=>
  have A:es=[]:=by simpa using D
  subst A;by_cases hm:news=[]
  .subst hm;have C:=fp (P:=P) (w:=w) t o.type u ii t0 r0 is 0 0 (WY _) ao c (.inl Z);obtain⟨h1,h2⟩:=hf.1.CU eu.size;obtain⟨g1,g2⟩:=jc (es:=[]) (news:=[]) (i:=i) hf ((h1.del i).swap (Ne.symm z0)) ((h2.del i).swap (Ne.symm z0));exact⟨_,w,M,N,B _ _ C,g1,g2,.lq _ _ (by rw[ib];omega)⟩
  .obtain⟨b,b1,d1,b0⟩:=e0 hm;subst d1;obtain⟨vs,Y,a1,w0⟩:=ll (s:=s) b0;have w1:0<news.length:=X5.2 hm;have C:=run_append_nil (P:=P) w t o.type u ii eu.zero t0 r0 v1 ⟨b,b1,is⟩ news.length c vs (o0 vs Y) a1 w1 (by omega) (by simp only[X8,Xd]at c0;omega);obtain⟨M',N',g1,g2,g3⟩:=i0 [] vs (grownCap w news.length 0 u) (by simp) (by rw[Y,fu J]) (by simp) (by simp) w0 (by simpa using grownCap_ge w news.length 0 u) (grownCap_le_maxLen w _ _ _ (by simp only[maxLen];omega)) (by omega) _ Z;simp only[Xd,Xg] at*
   exact⟨_,_,M',N',B _ _ C,by simpa using g1,by simpa using g2,by simpa using g3⟩
 |sl _ _ _ _ a0 hU h0 hl hc hext=>
  rcases i2 with rfl|⟨hsz0,cur,T,q1,q2,q3,q4,q5⟩
  .simp at D;omega
  have k0:(AO.row eu.size es).real=jp:=by cases es with
   |nil=>simp at D;omega
   |cons=>rfl
  rw[Yq]at B;have n0:cur.size=a0*eu.size:=by rw[q2,<-hext,Xd]
  by_cases hm:news=[]
  .subst hm;have C:=fp (P:=P) (w:=w) t o.type u ii t0 r0 (io ⟨N.aA i,0,is⟩) len a0 hl ao c (.inr ⟨_,_,rfl⟩)
   obtain⟨h1,h2⟩:=hf.1.move hi k0 w (.row eu.size (es++ [])) Z Z Z Z (fun _ _=>rfl) (by
    rw[XA]
    exact .inr ⟨hsz0,cur,T,by simpa using q1,by simpa using q2,q3,q4,fun k e j p A I=>(q5 k e j p A I).mono (.refl _) (N.dt _ _ _) (fun i hi=>by omega)⟩)
   obtain⟨g1,g2⟩:=jc (es:=es) (news:=[]) (i:=i) hf h1 h2;refine⟨_,w,M,_,B _ _ C,g1,g2,?_⟩;have:=VR.sl (M:=M) (N:=N.with s.nx (N.aA i) (N.ext i)) (U:=(· <s.nx+1)) s.nx 0 len eu.size a0 (by omega) h0 hl hc (by simpa using hext);rw[ib];simpa using this
  .obtain⟨b,b1,d1,b0⟩:=e0 hm;subst d1;obtain⟨vs,Y,a1,w0⟩:=ll (s:=s) b0;have w1:0<news.length:=X5.2 hm;have p0:vs.length=news.length*eu.size:=by rw[Y,fu J]
   have s0: ∀(j:Nat) (v:Value),(cur.toList.take (len*eu.size))[j]? =io v->w.cell? ((⟨N.aA i,0,is⟩:Addr).add j)=io v:=by
    intro j v hv;rw[Xy]at hv;split at hv
    .rw[c7,Xd];simp only[World.cell?,q1];simpa using hv
    .cases hv
   have w2:len*eu.size<=cur.size:=by rw[n0];exact Xi _ hl
   have j0: ∀(k:Nat) (e:List PV) (j:Nat) (p:PV),es[k]? =io e->e[j]? =io p->k*eu.size+j<len*eu.size:=by
    intro k e j p A I;have hk:k<len:=by rw[<-D];exact(WT.1 A).1
    have j1:j<eu.size:=by rw[<-q4 k e A];exact(WT.1 I).1
    have:(k+1)*eu.size<=len*eu.size:=Xi _ hk;rw[XG]at this;omega
   by_cases d0:len+news.length<=a0
   .have f1:len*eu.size+vs.length<=cur.size:=by rw[p0,<-XG,n0];exact Xi _ d0
    have v0: ∀v∈vs,v.oneCell'=jp:=by
     intro v hv;obtain⟨j,I⟩:=XH hv;have f2:j<news.flatten.length:=by rw[<-Y];exact(WT.1 I).1
     have hp:=WU f2;obtain⟨k,e,i',h1,h2,_⟩:=jM J j _ hp;have:=(w0 j _ hp).one (gE (n1 e (Xs h1)) i' _ h2);rw[WQ,I]at this;exact this
    have C:=ji (P:=P) (w:=w) t o.type u ii t0 r0 T (N.aA i) len a0 cur q1 ⟨b,b1,is⟩ news.length c vs (o0 vs Y) a1 v0 d0 (by rw[x0];exact f1);rw[x0]at C;generalize hL:(cur.toList.take (len*eu.size)++vs++cur.toList.drop (len*eu.size+vs.length)).toArray=L at C;have s1:L.size=cur.size:=by rw[<-hL];simp;omega
    have p1:=setRow_heap w (N.aA i) cur L T (0,0) q1;have c2: ∀j,j<len*eu.size->L.getD j undef=cur.getD j undef:=by
     intro j I;rw[<-hL,WM,WM];simp only[XD];rw[W6,Xb (by simp;omega),Xy,am I,Xo]
    have b2: ∀j,j<vs.length->L.getD (len*eu.size+j) undef=vs.getD j undef:=by
     intro j I;rw[<-hL,WM,WQ];simp only[XD];rw[Xb (by simp;omega),Xc (by simp;omega)];congr 2;simp;omega
    obtain⟨h1,h2⟩:=hf.1.move hi k0 (w.setRow (N.aA i) L) (.row eu.size (es++news)) Z Z Z (by simp) (fun b hb=>by
      simp only[World.setRow,Xp]
      rw[be (fun e=>hb e.symm)]) (by
     refine .inr ⟨hsz0,L,T,by simpa using p1,by rw[s1];simpa using q2,?_,fun k e A=>?_,fun k e j p A I=>?_⟩
     .rw[s1,n0,WO,D];exact Xi _ d0
     .rcases XO k es.length with hk|hk
      .rw[Xb hk]at A;exact q4 k e A
      .rw[Xc hk]at A;exact J _ e A
     .rcases XO k es.length with hk|hk
      .rw[Xb hk]at A;rw[c2 _ (j0 k e j p A I)];exact(q5 k e j p A I).mono (.refl _) (N.dt _ _ _) (fun i hi=>by omega)
      .rw[Xc hk]at A;have j1:j<eu.size:=by rw[<-J _ e A];exact(WT.1 I).1
       have k1:k-es.length<news.length:=(WT.1 A).1;have i1:=jL J _ e j p A I;have q0:(k-es.length)*eu.size+j<vs.length:=by
        rw[p0];have:(k-es.length+1)*eu.size<=news.length*eu.size:=Xi _ k1;rw[XG]at this;omega
       have f0:k*eu.size+j=len*eu.size+((k-es.length)*eu.size+j):=by
        rw[<-D,Z7];have:es.length*eu.size<=k*eu.size:=Xi _ hk;omega
       rw[f0,b2 _ q0]
       exact(w0 _ p i1).mono (.refl _) (N.dt _ _ _) (fun i hi=>by omega))
    obtain⟨g1,g2⟩:=jc (es:=es) (news:=news) (i:=i) hf h1 h2;refine⟨_,_,M,_,B _ _ C,g1,g2,?_⟩;have:=VR.sl (M:=M) (N:=N.with s.nx (N.aA i) (N.ext i)) (U:=(· <s.nx+1)) s.nx 0 (len+news.length) eu.size a0 (by omega) (by omega) d0 hc (by simpa using hext);rw[ib];simpa using this
   .have C:=run_append_grow (P:=P) w t o.type u ii eu.zero t0 r0 v1 ⟨N.aA i,0,is⟩ len a0 (cur.toList.take (len*eu.size)) (by rw[x0];simp;omega) s0 ⟨b,b1,is⟩ news.length c vs (o0 vs Y) a1 (by omega) (by omega)
     (growslice_fits (by omega) c0)
    obtain⟨M',N',g1,g2,g3⟩:=i0 (cur.toList.take (len*eu.size)) vs (grownCap w (len+news.length) a0 u) (by rw[D];simp;omega) p0 (fun k e j p A I=>by
      have:=q5 k e j p A I;have q0:=j0 k e j p A I;rw[WQ,Xy,am q0,Xo]
      rw[WM]at this;exact this) q4 w0 (grownCap_ge w _ _ _) (grownCap_le_maxLen w _ _ _ (by simp only[maxLen];omega)) (by omega) _ Z
    exact⟨_,_,M',N',B _ _ C,g1,g2,g3⟩
theorem uV(J:bp P ty){o:Oper}{x y:Operand}{t u:TypeId}(ho:o.op= .call ⟨.builtin .append, #[x,y], #[t,t]⟩){e eu:bD}(ht:ty t=io e)(hk:e.k= .aP (.slice u))(hu:ty u=io eu)
  {sz:Nat} {news:List (List PV)} (hx:ev s.f x= .iv (.v (.slice is 0 0))) (I:eu.size=sz) (hz:eu.zero.cells.size=sz) (G:0<sz)
  (a0:xh ((s.nx,io (.row sz []))::s.h) sz (ev s.f y)=io news) (j: ∀e∈news,dy e=jp) (hb:news.length*eu.bytes<=140737488355328) (A:news.length<=140737488355328)
  {s':AS} (hp:putDst nt o (.sl (s.nx+1) 0 news.length sz) ⟨s.f,(s.nx+1,io (.row sz news))::(s.nx,is)::(s.nx,io (.row sz []))::s.h,s.nx+2⟩=io s'):OT P nt o s (fun t=>t=s'):=by
 intro M N a w hf K Z D;obtain⟨h1,h2⟩:=hf.1.CU sz;have C:Fits M N ⟨s.f,(s.nx,io (.row sz []))::s.h,s.nx+1⟩ nt a w:=⟨h2,hf.2.1.ext h1,hf.2.2⟩
 refine Ou (s:=⟨s.f,(s.nx,io (.row sz []))::s.h,s.nx+1⟩) J ho ht hk hu (i:=s.nx) (len:=0) (sz:=sz) (es:=[]) (news:=news) (py:=ev s.f y) (fun M N a w hf=>?_) (by rw[AH.ax,am rfl]) rfl I hz G rfl (hZ a0) j (by rw[Xd];exact hb) (by rw[Xd];exact A) (s':=s') ?_ M N a w C K Z fun M' N' t a' w' hx B ht=>D M' N' t a' w' (h1.trans hx) B ht
 .have Y:=aN hf.2.1 x;rw[hx]at Y;generalize a.eval x=v at Y;cases Y with
  |iv _ _ h=>cases h with
   |v=>exact .lq _ _ (YA _)
 .rw[Xd];exact hp
end
def Nb(o:Oper):Bool:=match o.op with| .defer _=>kw|_=>jp
section conv
variable {P:Program} {ro:Option Nat} {n:Nat}
end conv
section
variable {P:Program}
variable {nt:NT} {s:AS} {R:AS->Prop}
end
end
end Go.Al
namespace Go
section
variable {P:Program}
end
end Go
namespace Go.Al
section
section
variable {P:Program} {s:AS} {n:Nat}
end
def NU:List Code->Code->Code
 | [],t=>t
 |c::r,t=> .seq c (NU r t)
theorem B3{P:Program}{nt:NT}{Q:AQ}{e:Exit}{s:AS}(he:e≠ .normal): ∀j:List Code,kp P nt (j.map .code) Q e s->Q e s
 | [],h=>h
 |c::r,h=>by
  rw[WW]at h;unfold kp at h;cases e<;>first|exact absurd Z he|exact B3 he r h
theorem Cf{P:Program}{nt:NT}{Q:AQ}{T:Code}{Z:Exit->Act->World->Prop}: ∀(cs:List Code) {s:AS} {M:Mem} {N:Nm} {a:Act} {w:World},GO P nt (cs.map .code) Q s->Fits M N s nt a w->
  (∀y j u x s',Ext M N (· <s.nx) s.h w u x (· <s'.nx) s'.h j->Fits u x s' nt y j->Q .normal s'->T.wp P Z y j)->
  (∀e y j u x s',e≠ .normal->Ext M N (· <s.nx) s.h w u x (· <s'.nx) s'.h j->Fits u x s' nt y j->Q e s'->Z e y j)->(NU cs T).wp P Z a w
 | [],s,M,N,a,w,h,hf,hz,_=>hz a w M N s (.refl _ _ _ _ _) hf h
 |c::r,s,M,N,a,w,h,hf,hz,hq=>by
  refine wp_seq (AW.then (R:=kp P nt (r.map .code) Q) h hf fun e y j u x s' Y G hk=>?_);by_cases D:e= .normal
  .subst D;exact Cf r hk G (fun a2 w2 I J s2 C A B=>hz a2 w2 I J s2 (Y.trans C) A B) fun e a2 w2 I J s2 D C A B=>hq e a2 w2 I J s2 D (Y.trans C) A B
  .have h1:=hq e y j u x s' D Y G (B3 D r hk);cases e<;>first|exact absurd rfl D|exact h1
section
variable {P:Program}
end
section
variable {P:Program} {ty:Ty} {nt:NT} {s:AS}
theorem NS(c0:bp P ty){o:Oper}{x:Operand}{t u:TypeId}{et eu:bD}(ho:o.op= .convert t t x)(ht:ty t=io et)(hk:et.k= .aP (.slice u))(hu:ty u=io eu)(e0:eu.k= .aP (.int .u8))
  {i n:Nat} {es:List (List PV)} (el:Nat->List IV) (hx:ev s.f x= .sl i 0 n 1) (hi:s.h.get i=io (.row 1 es)) (d0: ∀k e,es[k]? =io e->e=(el k).map .iv) (hn:n=es.length) (p0:0<n)
  {s':AS} (hp:putDst nt o (.iv (.bL 1 n fun k=>el (0+k))) ⟨s.f,(i,is)::s.h,s.nx⟩=io s'):OT P nt o s (fun t=>t=s'):=by
 refine OT.value hp fun M N a w hf=>?_;have i0:P.underlying t=io (.slice u):=by have:=(c0 t _ ht).2.1;rw[hk]at this;exact this.1
 have k0:P.underlying u=io (.int .u8):=by have:=(c0 u _ hu).2.1;rw[e0]at this;exact this.1
 obtain⟨M',D,G,v1⟩:=pt hf.1 hi d0;have C:=aN hf.2.1 x;rw[hx]at C;have hv:=v1 _ _ C (by simp[PV.bb,hn]);have a0:=hf.1.obj i _ hi;have y:(AO.row 1 es).real=jp:=by
  cases es with
  |nil=>simp at hn;omega
  |cons=>rfl
 rcases a0 with h0|⟨_,c,T,hc,n0,_⟩
 .rw[h0]at y;cases y
 generalize m0:a.eval x=vx at C hv;cases C with
 |lq=>omega
 |sl _ _ _ _ cap hU h0 hl hcp hext=>
  have g0:w.shape? (N.aA i)=io (T,c.size):=by unfold World.shape?;rw[hc]
  obtain⟨I,A⟩: ∃I,I=w.freeze ⟨N.aA i,c.size,is⟩ 1:=⟨_,rfl⟩
  have o0:N.aA i<w.heap.size:=(X4.1 hc).1;have hnew:I.heap[N.aA i]? =io (.cells c T (c.size,c.size+1)):=by
   rw[A];unfold World.freeze;rw[be (by decide)];simp only[Xp,if_true,hc,XW];rfl
  have B: ∀b,b≠N.aA i->I.heap[b]? =w.heap[b]? :=fun b hb=>by
   rw[A];unfold World.freeze;rw[be (by decide)];simp only[Xp,be (Ne.symm hb)]
  have j0:I.heap.size=w.heap.size:=by
   rw[A];unfold World.freeze;rw[be (by decide)];simp
  have b0:(convert t t (.slice (io ⟨N.aA i,0*1,is⟩) n cap)).run P w= .ok (.slice (io ⟨N.aA i,0*1,is⟩) n cap) I:=by
   rw[A];simp[convert,run_underlying i0,run_underlying k0,markStringish,g0]
  refine⟨.slice (io ⟨N.aA i,0*1,is⟩) n cap,I,M',N,?_,?_,?_,?_⟩
  .simp only[execOp,ho,m0];rw[Sem.run_bind,b0];rfl
  .refine⟨by rw[A];exact D.os,by rw[A];exact D.tape,by rw[A];exact⟨rfl,WY _⟩,by rw[j0];exact WY _,fun b hb f0=>B b fun e=>f0 i _ hi y e.symm,D.oC,D.iK,D.nm,D.ule,D.gx⟩
  .refine⟨⟨fun b d hb=>?_,G.used,G.dM,fun j p hj=>?_,G.inj⟩,fun d=>(hf.2.1 d).mono D.oC (.refl _ _) (fun _ h=>h),hf.2.2⟩
   .by_cases Y:b=N.aA i
    .subst Y;have h1:=G.dF _ d hb;cases d with
     |cells c'=>
      obtain⟨T',fr,J⟩:=h1;rw[hc]at J;cases J;exact⟨_,_,hnew⟩
     |map es2 cl=>have J:w.heap[N.aA i]? =io (.map es2 cl):=h1;rw[hc]at J;cases J
    .exact(G.dF b d hb).mono (B b Y)
   .obtain⟨g1,g2⟩:=bm j p hj;have h1:=G.obj j p hj;cases hre:p.real with
    |true=>exact h1.mono (.refl _) (.refl _ _) (fun _ h=>h) (G.used j p hj) (B _ fun e=>g1 (hf.1.inj j i p _ g2 hi hre y e))
    |false=>
     cases p with
     |row sz es=>
      cases es with
      |nil=>exact .inl Z
      |cons=>cases hre
     |bw l T=>
      cases l with
      |nil=>exact .inl Z
      |cons=>cases hre
     |_=>cases hre
  .have e:PV.dF i 1 el (.sl i 0 n 1)= .iv (.bL 1 n fun k=>el (0+k)):=by
    simp only[PV.dF];rw[show Xj i i=jp from aai i];rfl
   rw[e]at hv;exact hv
end
theorem lG{s:AS}{i sz:Nat}{es:List (List PV)}{args asv:List PV}(el:Nat->List IV)(hi:s.h.get i=io (.row sz es))(C: ∀k e,es[k]? =io e->e=(el k).map .iv)(D:a8 i sz es.length asv)(G:hQ (n9 i sz el asv) args): ∀M N w,Rel M N (· <s.nx) s.h w->
  ∃B:Mem,M.le B∧Rel B N (· <s.nx) [] w∧ ∀(j:Nat) (p:PV) (x:Value),args[j]? =io p->(∀q,asv[j]? =io q->VR M N (· <s.nx) q x)->VR B N (· <s.nx) p x:=by
 intro M N w hr;obtain⟨I,g1,g2,g3⟩:=pt hr hi C;have u: ∀(i:Nat) (o:AO),AH.get [] i≠io o:=fun i o h=>by cases h
 refine⟨I,g1.oC,⟨g2.dF,fun i o hi=>absurd hi (u i o),fun i o hi=>absurd hi (u i o),fun i o hi=>absurd hi (u i o),fun i j o p hi=>absurd hi (u i o)⟩,fun j p x Y hx=>?_⟩;obtain⟨q0,A,y⟩:=G.get j p Y;rw[eD,WX,WZ]at A;obtain⟨q,J,rfl⟩:=A;exact y I N _ x (g3 q x (hx q J) (fc D j q J))
theorem yV: ∀l:List Value,sy (l.map fun v=> .iv (.v v))=jp
 | []=>rfl
 |_::l=>show(jp&&sy _)=jp from yV l
theorem wM{n sz:Nat}{σ:Nat->Nat}{es:List (List PV)}(he: ∀e∈es,∃l:List Value,e=l.map fun v=> .iv (.v v)): ∀j o,(n3 σ [(n,io (.row sz es))]).get j=io o->CJ o:=by
 intro j o h;have hr:n3 σ [(n,io (.row sz es))]=[(σ n,io (.row sz es))]:=by
  have:es.map (dc σ)=es:=by
   refine(X6 fun e h=>?_).trans (List.map_id _);obtain⟨l,rfl⟩:=he e h;rw[bI,XX];exact X6 fun _ _=>rfl
  simp only[n3,AO.b3,this]
 rw[hr,AH.ax]at h;split at h
 .cases h;intro e h;obtain⟨l,rfl⟩:=he e h;exact yV l
 .cases h
section
variable {P:Program} {ty:Ty} {nt:NT} {Q:AQ} {k:List KI} {s:AS}
theorem r7(G:bp P ty){all:List Oper}{todo pend:List (Nat×Oper)}{I:Nat}{Y J:Prop}{o:Oper}{c:Call}{g:FuncId}{asv args:List PV}{r:PV}{A:AH}{n':Nat}{s':AS}(hc:bf P g args [] r A n')
  (hrd:dw todo=[(I,o)]) (ho:o.op= .call c) (ha:bN s.f c=io (g,asv)) (u:args.length=asv.length) (hlow:bq 0 args=jp)
  (D: ∀M N w,Rel M N (· <s.nx) s.h w-> ∃y:Mem,M.le y∧Rel y N (· <s.nx) [] w∧ ∀(j:Nat) (p:PV) (x:Value),args[j]? =io p->(∀q,asv[j]? =io q->VR M N (· <s.nx) q x)->VR y N (· <s.nx) p x)
  (C:yU (r.b3 (sig [] s.nx))=jp) (B: ∀j o,(n3 (sig [] s.nx) A).get j=io o->CJ o) (hp:putDst nt o (r.b3 (sig [] s.nx)) (aB s [] A n')=io s')
  (hg:bQ nt all s.f o=io jp) (hpb:gX all pend o=jp) (hE:nI todo [I]=jp)
  (hag:lX ty nt all s todo pend=io Y) (hCA:Y) (hag2:c6 ty nt all s' (a7 pend o)=io J) (hC2:J)
  (h:GO P nt (.bR all (todo.filter fun x=>!Xj x.1 I) (a7 pend o)::k) Q s'):GO P nt (.bR all todo pend::k) Q s:=
 iY G hrd hg hpb hE hag hCA (CH ho ha hc u hlow D C B hp) hag2 hC2 h
end
section
variable {P:Program} {ty:Ty} {nt:NT} {s:AS}
theorem J9(p0:bp P ty){o:Oper}{x y:Operand}{t t' u:TypeId}(ho:o.op= .call ⟨.builtin .copy, #[x,y], #[t,t']⟩){e eu:bD}(ht:ty t=io e)(hk:e.k= .aP (.slice u))(hu:ty u=io eu)
  {i n:Nat} {es news:List (List PV)} {py:PV} (hx:ev s.f x= .sl i 0 n eu.size) (hi:s.h.get i=io (.row eu.size es)) (C:es.length=n) (w0:ev s.f y=py) (hy:Src s.h eu.size py news) (d0: ∀e∈news,dy e=jp)
  (hn:news.length=n) (h0:0<n) {s':AS} (hp:putDst nt o (.iv (.v (.int .i64 news.length))) ⟨s.f,(i,io (.row eu.size news))::s.h,s.nx⟩=io s'):OT P nt o s (fun t=>t=s'):=by
 refine OT.value hp fun M N a w hf=>?_
 have z0:P.underlying t=io (.slice u):=by
  have:=(p0 t _ ht).2.1;rw[hk]at this;exact this.1
 have i0:=aN hf.2.1 x;rw[hx]at i0;have q0:=aN hf.2.1 y;rw[w0]at q0;obtain⟨A,ao,c,b1,B⟩:=hy.ok hf q0;have r0:=fu A;have G:es≠ []:=by intro h;rw[h]at C;simp at C;omega
 rcases hf.1.obj i _ hi with g0|⟨x0,D,CT,g1,g2,g3,g4,g5⟩
 .exact absurd g0 G
 obtain⟨a0,a1⟩: ∃a0,a.eval x= .slice (io ⟨N.aA i,0,is⟩) n a0:=by
  generalize a.eval x=z at i0;cases i0 with
  |sl _ _ _ _ a0 hu h1 h2 h3 h4=>exact⟨a0,by rw[Yq]⟩
  |lq=>exact absurd h0 (ZH _)
 have J: ∀v w',(Builtin.copy_ #[t,t'] o.type #[a.eval x,a.eval y]).run P w= .ok v w'->(execOp a.eval o).run P w= .ok (.value v) w':=by
  intro v w' h;simp only[execOp,ho,resolve];simp[invoke,builtin,h]
 have b0:Nat.min news.length n=news.length:=Nat.min_eq_left (ZY hn);have v0:news≠ []:=by intro h;rw[h]at hn;simp at hn;omega
 obtain⟨b,j0,rfl,I⟩:=B v0;obtain⟨vs,v1,v2,v3⟩:=ll (s:=s) I;have f0:vs.length=news.length*eu.size:=by rw[v1,r0]
 have Y: ∀z∈vs,z.oneCell'=jp:=by
  intro z hz;obtain⟨j,hj⟩:=XH hz;have k0:j<news.flatten.length:=by rw[<-v1];exact(WT.1 hj).1
  obtain⟨k,e,i2,h1,h2,_⟩:=jM A j _ (WU k0);have h3:=v3 j _ (WU k0);have h4:=h3.one (gE (d0 e (Xs h1)) i2 _ h2);rw[WQ,hj]at h4;exact h4
 have m0:vs.length<=D.size:=by rw[f0,hn,<-C];exact g3
 have hl:=run_firstCells_some (P:=P) w eu.size news.length ⟨b,j0,is⟩ news.length c vs f0 v2;have n0:=run_storeCells_at P (N.aA i) 0 CT vs 0 D w g1 (by omega) Y;simp only[Yp,Xd,Zz,Xg]at n0;have e0:=setRow_heap w (N.aA i) D (vs++D.toList.drop vs.length).toArray CT (0,0) g1;have c0: ∀b,b≠N.aA i->(w.setRow (N.aA i) (vs++D.toList.drop vs.length).toArray).heap[b]? =w.heap[b]? :=by
  intro b hb;simp only[World.setRow,Xp];rw[be (fun e=>hb e.symm)]
 have o0:(vs++D.toList.drop vs.length).toArray.size=D.size:=by simp;omega
 obtain⟨q1,q2⟩:=hf.1.write hi (by cases es with|nil=>exact absurd Z G|cons=>rfl) (w.setRow (N.aA i) (vs++D.toList.drop vs.length).toArray) (.row eu.size news) Z Z Z (by simp) c0
  (.inr ⟨x0,_,CT,e0,by rw[o0];exact g2,by rw[o0,hn,<-C];exact g3,A,fun k e j p he hj=>by
   have d1:j<eu.size:=by rw[<-A _ e he];exact(WT.1 hj).1
   have s0:k<news.length:=(WT.1 he).1;have t0:k*eu.size+j<vs.length:=by
    rw[f0];have:(k+1)*eu.size<=news.length*eu.size:=Xi _ s0;rw[XG]at this;omega
   have h7:=v3 _ p (jL A _ e j p he hj);rw[WM,XD,Xb t0,<-WQ]
   exact h7⟩)
 refine⟨.int .i64 news.length,_,M,N,J _ _ ?_,q1,⟨q2,hf.2⟩,.iv _ _ (.v _)⟩;rw[a1,b1];simp[Builtin.copy_,run_underlying z0,Builtin.lenOf,aQ (p0 u _ hu),b0,hl,n0,goInt]
end
end
end Go.Al
namespace Go.Al
open Go
section
section
variable {P:Program} {ty:Ty} {nt:NT} {s:AS} {α:Type} [Inhabited α]
theorem HJ{l:List α}{f:α->List IV}{m sz:Nat}(hm:m<=l.length):jR (.bL sz m fun k=>f (l.getD k co)) (aW sz (l.take m) f):=
 .bL (by rw[Xv];omega) fun k hk=>by simp[ZU,Xy,hk]
theorem Cq{l:List α}{f:α->List IV}{m n sz:Nat}(hn:n=l.length-m):jR (.bL sz n fun k=>f (l.getD (m+k) co)) (aW sz (l.drop m) f):=
 .bL (by rw[XT];exact hn) fun k _=>by simp[ZU,XK]
theorem tk(y:bp P ty){o:Oper}{t u:TypeId}{x hi:Operand}(ho:o.op= .slice t x is (io hi) is){e eu:bD}(ht:ty t=io e)(hk:e.k= .aP (.slice u))(hu:ty u=io eu)
  {l:List α} {f:α->List IV} {m sz:Nat} {kc:IntKind} {A:Int} (B:ev s.f x= .iv (aW sz l f)) (hh:ev s.f hi= .iv (.v (.int kc A))) (j:A=(m:Int)) (hm:m<=l.length):
  ∀M N a w,Fits M N s nt a w-> ∃x,(execOp a.eval o).run P w= .ok (.value x) w∧VR M N (· <s.nx) (.iv (aW sz (l.take m) f)) x:=by
 intro M N a w hf;obtain⟨x,g1,g2⟩:=J7 y ho ht hk hu B hh j hm M N a w hf;exact⟨x,g1,ae.iv (HJ hm) M N _ x g2⟩
end
section
variable {P:Program} {ty:Ty} {nt:NT} {Q:AQ} {k:List KI} {s:AS}
theorem Jw(D:bp P ty){all:List Oper}{todo pend:List (Nat×Oper)}{j:Nat}{o:Oper}{c:Call}{g:FuncId}{asv args:List PV}{os:List AO}{R:PV->AH->Nat->Prop}{CA:Prop}(L:List Nat)(hc:Fn P g args os R)
  (hrd:dw todo=[(j,o)]) (ho:o.op= .call c) (ha:bN s.f c=io (g,asv)) (hn:cE L=jp) (hl:L.all (fun j=>Xm j s.nx)=jp) (J:L.map s.h.get=os.map fun o=>io (o.b3 (sig L s.nx))) (u:asv=dc (sig L s.nx) args)
  (hg:bQ nt all s.f o=io jp) (hpb:gX all pend o=jp) (hE:nI todo [j]=jp) (hag:lX ty nt all s todo pend=io CA) (hCA:CA)
  (h: ∀r h' n',R r h' n'-> ∃s',putDst nt o (r.b3 (sig L s.nx)) (aB s L h' n')=io s'∧ ∃A,c6 ty nt all s' (a7 pend o)=io A∧A∧GO P nt (.bR all (todo.filter fun x=>!Xj x.1 j) (a7 pend o)::k) Q s'):
  GO P nt (.bR all todo pend::k) Q s:=by
 have C:(j,o)∈dw todo:=by rw[hrd];simp
 obtain⟨h3,G⟩:=Xu.1 C;simp only[X0,YG,XL]at G;have B: ∀y∈todo,aS y.2=jp-> ∀y∈pend,fb P nt all s y.2:=by
  intro y Y a0;unfold lX at hag;split at hag
  .exact cy D hag hCA
  .rename_i h2;have:=XL.1 h2 y Y;rw[a0]at this;exact absurd Z this
 refine pr hE ⟨_,h3,G.1⟩ B fun j' o' I _ hu=>?_;simp only[W1]at I;subst I;have:=hu o h3;subst this;refine⟨G.1,fun y Y _=>by simpa using G.2 y Y,hpb,hg,_,lJ (S:=fun t=> ∃A,c6 ty nt all t (a7 pend o)=io A∧A∧GO P nt (.bR all (todo.filter fun x=>!Xj x.1 j') (a7 pend o)::k) Q t) ho ha hc (eM hn) (fun j I=>WL (XC.1 hl j I)) J u h,fun t ⟨A,h5,h6,h7⟩=>⟨cy D h5 h6,h7⟩⟩
end
end
end Go.Al
