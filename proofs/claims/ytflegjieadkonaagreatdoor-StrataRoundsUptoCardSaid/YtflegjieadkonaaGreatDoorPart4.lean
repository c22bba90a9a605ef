/-
  What the proofs of the claims need: part 4 of 6.
-/
import Derived.Test.YtflegjieadkonaaGreatDoorPart3
import Derived.Laws.MakeOwn
import Derived.Laws.Slices
import Derived.StillTail
open And renaming intro→XA
open Array renaming getD_eq_getD_getElem?→WT,getElem?_eq_getElem→XS,getElem?_map→Zk,getElem?_modify→XR,getElem?_toList→X4,range→aaa,replicate→YL,toArray_toList→Yr
open Bool renaming and_eq_false_iff→YJ,and_eq_true→Xg,and_false→Yz,eq_false_iff→X7,eq_iff_iff→Xy,false_and→Yi,false_eq_true→Yn,not_eq_false'→YA,not_eq_true→Yv,not_eq_true'→XF,not_false→Zi,or_eq_false_iff→XL,or_eq_true→XJ,or_false→YR,true_and→XV
open ByteArray renaming empty→W4
open Classical renaming byContradiction→Yb,choose→Zp,choose_spec→YW,em→aao
open Int renaming le_refl→YU,toNat_natCast→Xp
open List.Nodup renaming length_le_of_subset→X0
open List.Pairwise renaming imp→aah,nil→YG
open List renaming all_append→Zz,all_cons→ZT,all_eq_false→Y4,all_eq_true→Xm,any_eq_false→XO,any_eq_true→XM,append_assoc→Xa,append_eq_nil_iff→ZD,append_nil→XE,concat_eq_append→Z5,cons_append→Ym,countP_cons→ZH,countP_eq_length→Z6,countP_le_length→Z7,countP_mono_left→ZF,countP_pos_iff→aae,filter_cons→YD,find?_append→ZE,find?_cons→Yq,find?_cons_of_neg→Z2,find?_eq_none→Yg,find?_eq_some_iff_getElem→YZ,find?_some→ZK,flatMap_append→YT,flatMap_cons→XZ,foldl_append→YI,foldl_cons→Xq,getD_eq_getElem?_getD→WU,getElem?_append_left→Xf,getElem?_append_right→Xj,getElem?_cons_succ→Y3,getElem?_cons_zero→ZA,getElem?_drop→Yc,getElem?_eq_getElem→WY,getElem?_eq_some_iff→WX,getElem?_map→W1,getElem?_of_mem→XP,getElem?_replicate→Zj,getElem?_set→XK,getElem?_take→XY,getElem?_toArray→Yf,getElem?_zipWith→Z8,getElem_inj→Zt,getElem_map→ZG,getElem_mem→XD,length→Zn,length_append→WW,length_cons→Xx,length_eq_zero_iff→YO,length_filter_le→X6,length_map→Xr,length_nil→YB,length_range→Zm,length_singleton→XC,length_take→XH,map_append→WZ,map_congr_left→Yx,map_cons→Xe,map_map→Y0,map_nil→XN,map_set→YN,map_take→aaf,mem_append→W7,mem_append_left→Xv,mem_append_right→Yp,mem_cons→Xb,mem_cons_of_mem→W8,mem_cons_self→Xd,mem_filter→Xs,mem_flatMap→Yw,mem_iff_getElem→Ye,mem_map→Xt,mem_map_of_mem→X9,mem_of_find?_eq_some→YV,mem_of_getElem?→Xo,mem_of_mem_take→ZI,mem_or_eq_of_mem_set→Zw,mem_range→Xu,mem_singleton→W5,mem_singleton_self→YP,mem_take_iff_getElem→Zf,nil_append→Y5,nodup_append→Yy,nodup_cons→X5,nodup_nil→XT,pairwise_append→Y2,pairwise_cons→Yo,pairwise_iff_getElem→Zu,range→Xc,replicate→Zb,sum_cons→YK,take_append_drop→Zd,take_length→YE,take_of_length_le→W2,take_succ_cons→Yh,zipWith→Z0,zipWith_cons_cons→Z1
open Nat renaming add_le_add_right→ZJ,add_mul→Yj,beq→Xn,ble→YQ,ble_eq_true_of_le→XB,blt→Xi,eq_of_beq_eq_true→Xh,le_antisymm→ZL,le_of_ble_eq_true→WR,le_of_eq→aai,le_of_not_lt→YY,le_refl→W0,le_succ→Zo,le_trans→Xz,lt_irrefl→ZU,lt_of_lt_of_le→YX,lt_or_ge→X3,lt_succ_iff_lt_or_eq→Y1,lt_succ_of_lt→YS,lt_succ_self→YC,max_eq_right→aal,mul_le_mul_right→Xw,ne_of_lt→ZY,not_lt_zero→Y6,succ_mul→Y7,zero_add→Xk,zero_le→W3,zero_mul→Za
open Option renaming getD_some→Yl,map_eq_none_iff→Y9,map_eq_some_iff→W6,map_none→Z3,map_some→XW
open Option.some renaming inj→XX,injEq→WV
open Prod renaming fst→Xl
open Prod.mk renaming injEq→W9
open Array renaming getElem?_append_left→X8
set_option maxRecDepth 100000
namespace Go.Proofs.YtflegjieadkonaaGreatDoor
open Go Go.Al Go.Proofs.Tryz Go.ChangeShapes Go.WideShapes Go.RowKit
theorem B8{α:Type}(f:α->Nat): ∀l:List α,(l.map fun x=>f x+1).sum=(l.map f).sum+l.length
 | []=>rfl
 |x::r=>by simp only[Xe,YK,Xx,B8 f r];omega
section
variable {H:Type} {enc:TypeId×Value->H} {W:World} {hT:qD W} {sp:Nat->Bool} {held:Bool}
def QD(x:Decl)(d:DataW H):Prop:=x.types.length+1<=bk d
def QR1(r:aq)(d:DataW H):Prop:=r.size+1<=bk d∧r.head.ts<=400*bk d∧ ∀l∈r.body,l.ts<=400*bk d
def WM(p:Prog)(d:DataW H):Prop:=p.size<=bk d∧p.aB.length<=bk d∧p.rules.length<=bk d∧ ∀r∈p.rules,r.size<=bk d∧r.head.ts<=400*bk d∧ ∀l∈r.body,l.ts<=400*bk d
theorem JQ(n:Nat):Rd enc prog W hT sp held 76 aq.c QR1 n:=by
 intro m _ cs y h;obtain⟨xs,k,rfl,rfl,hl,hx,hf⟩:=DataW.trod_struct underlying76 h
 match xs,hx with
 | [x0,x1,x2],_=>
  obtain⟨a,ca,qa⟩:=Gd (hT:=hT) k k (W0 _) _ _ (qX hf 0 Z Z Z BL Z);obtain⟨b,cb,qb⟩:=N6 (hT:=hT) k k (W0 _) _ _ (qX hf 1 Z Z Z G8 Z);obtain⟨c,cc,qc⟩:=EI (hT:=hT) k k (W0 _) _ _ (qX hf 2 Z Z Z wO Z);refine⟨⟨a,b,c⟩,ca.gW (o':=2) Z (cb.gW (o':=3) Z (cc.gW (o':=5) Z (.end_ (hl.trans G7)))),?_⟩;have h3:=qb.sum (f:=Lit.size) (c:=1) fun _ _ h=>by have:=h.2;omega
  rw[<-Lit.gX]at h3;obtain⟨h4,h5⟩:=qa;simp only[bk]at h3 h4 h5;refine⟨?_,?_,fun l hl=>?_⟩
  ·simp only[aq.size,bk,Xe,XN,Rows.uptoBulk,Rows.uptoBulkAll];omega
  ·simp only[bk,Xe,XN,Rows.uptoBulk,Rows.uptoBulkAll];omega
  ·obtain⟨e,⟨h6,_⟩,h7⟩:=qb.all l hl;simp only[bk]at h6 h7;simp only[bk,Xe,XN,Rows.uptoBulk,Rows.uptoBulkAll];omega
theorem N7(n:Nat):Rd enc prog W hT sp held 3 ba (fun _ _=>True) n:=by
 intro m hm cs y h;obtain⟨z,hz,_⟩:=lV (hT:=hT) underlying3 n m hm cs y h;exact⟨z,hz,ac⟩
theorem N8(n:Nat):Rd enc prog W hT sp held 49 Decl.c QD n:=by
 intro m _ cs y h;obtain⟨xs,k,rfl,rfl,hl,hx,hf⟩:=DataW.trod_struct underlying49 h
 match xs,hx with
 | [x0,x1,x2],_=>
  obtain⟨a,ca,qa,_⟩:=lD (hT:=hT) underlying9 k k (W0 _) _ _ (qX hf 0 Z Z Z vg Z);obtain⟨b,cb,qb⟩:=(lU (hT:=hT) underlying47 mz (by decide) (fun _=>rfl) (N7 k)).mono (Zo k) k (W0 _) _ _ (qX hf 1 Z Z Z O4 Z);obtain⟨c,cc,qc⟩:=EI (hT:=hT) k k (W0 _) _ _ (qX hf 2 Z Z Z wO Z);refine⟨⟨a,b,c⟩,ca.gW (o':=1) Z (cb.gW (o':=2) Z (cc.gW (o':=4) Z (.end_ (hl.trans G9)))),?_⟩;have h3:=qb.len;simp only[bk]at h3;simp only[QD,bk,Xe,XN,Rows.uptoBulk,Rows.uptoBulkAll];omega
theorem N5(n:Nat):Rd enc prog W hT sp held 25 Prog.c WM n:=by
 intro m _ cs y h;obtain⟨xs,k,rfl,rfl,hl,hx,hf⟩:=DataW.trod_struct underlying25 h
 match xs,hx with
 | [x0,x1],_=>
  obtain⟨a,ca,qa⟩:=(lU (hT:=hT) underlying22 G9 (by decide) (fun _=>rfl) (N8 k)).mono (Zo k) k (W0 _) _ _ (qX hf 0 Z Z Z O7 Z);obtain⟨b,cb,qb⟩:=(lU (hT:=hT) underlying23 G7 (by decide) (fun _=>rfl) (JQ k)).mono (Zo k) k (W0 _) _ _ (qX hf 1 Z Z Z O6 Z);refine⟨⟨a,b⟩,ca.gW (o':=1) Z (cb.gW (o':=2) Z (.end_ (hl.trans O5))),?_⟩;have h1:=qa.sum (f:=fun d=>d.types.length+1) (c:=1) fun _ _ h=>by
   simp only[QD]at h;omega
  have h2:=qb.sum (f:=fun r=>r.size+1) (c:=1) fun _ _ h=>by have:=h.1;omega
  rw[B8]at h1 h2;simp only[bk]at h1 h2;refine⟨?_,?_,?_,fun r hr=>?_⟩
  ·simp only[Prog.size,bk,Xe,XN,Rows.uptoBulk,Rows.uptoBulkAll];omega
  ·simp only[bk,Xe,XN,Rows.uptoBulk,Rows.uptoBulkAll];omega
  ·simp only[bk,Xe,XN,Rows.uptoBulk,Rows.uptoBulkAll];omega
  ·obtain⟨e,⟨h3,h4,h5⟩,h6⟩:=qb.all r hr;simp only[bk]at h3 h4 h5 h6;refine⟨?_,?_,fun l hl=>?_⟩
   ·simp only[bk,Xe,XN,Rows.uptoBulk,Rows.uptoBulkAll];omega
   ·simp only[bk,Xe,XN,Rows.uptoBulk,Rows.uptoBulkAll];omega
   ·have:=h5 l hl;simp only[bk,Xe,XN,Rows.uptoBulk,Rows.uptoBulkAll];omega
end
theorem SF{H:Type}{p:Prog}{d:DataW H}(h:WM p d)(hb:bk d<=1048576):p.fit:=by
 obtain⟨h1,h2,h3,h4⟩:=h;refine⟨by omega,by omega,fun r hr=>?_⟩;obtain⟨h5,h6,h7⟩:=h4 r hr;exact⟨by omega,by omega,fun l hl=>by have:=h7 l hl;omega⟩
theorem LL{H:Type}{enc:TypeId×Value->H}{W:World}(hT:qD W){v:Value}{d:DataW H}{p:List MemPlace}(a0: ∃b0,Value.okWide prog W .any b0 25 v)(h:DataW.Trod enc prog W 0 (fun _=>true) true 25 v d p):
  ∃x:Prog,WM x d∧VR (Mem.rf W hT) Ug (· <0) (ag x.c) v:=by
 obtain⟨b0,a0⟩:=a0;obtain⟨cs,rfl,_⟩:=okWide_struct underlying25 a0;obtain⟨n,hn⟩:=h;obtain⟨r,h1,h2⟩:=N5 (hT:=hT) n n (W0 _) _ _ hn;exact⟨r,h2,h1.agg⟩
end Go.Proofs.YtflegjieadkonaaGreatDoor
namespace Go.Proofs.YtflegjieadkonaaGreatDoor
open Go Go.Al Go.Proofs.Tryz Go.ChangeShapes Go.WideShapes Go.RowKit
theorem jv:prog.closure 4=[4,11,47,88,15,17,50,56,97,96,123,154,186,155,156,187,214,242,259,215,124,125,157,188,216,217,243,260,272,218,219,244,261,262,273,285,297,302,303,153,307,308,304,305,309,310,311,312,274,189,220,158,190,221,245,222,246,247,264,263,265,223,248,113,135,136,178,159,191,196,160,162,163,161,192,164,165,166,167,193,224,194,101,130,195,168,197,225,198,200,226,199,201,169,170,202,227,228,126,172,203,229,171,90,53,92,52,91,122,152,121,143,149,185,144,180,145,181,182,146,183,184,213,147,148,150,151,51,57,98,127,128,112,99,129,60,102,14,13,20,18,21,61,103,131,173,204,230,206,231,205,132,133,174,207,232,249,267,275,286,287,298,299,288,276,289,290,300,301,306,266,233,250,268,277,278,279,280,292,291,293,281,282,294,295,234,251,235,236,118,141,111,120,119,77,212,237,87,252,269,283,296,284,253,208,175,209,238,176,210,239,254,255,240,256,257,258,270,271,241,211,54,93,55,94,95,63,62,12,48,49,89,19,58,59,100]:=by kernel_rfl
theorem s9:joinedFacts prog 4 f4 (Rows.OpenSpec.upto Rows.strataRoundsSpec).bare Rows.strataRoundsUptoRow=true:=by
 have h1:prog.inPlace 4=Rows.strataRoundsUptoRow.inPlace:=by unfold Program.inPlace;rw[jv];kernel_rfl
 have h2:prog.unfollowed 4=true:=by unfold Program.unfollowed;rw[jv];kernel_rfl
 have h3:prog.varsNamed 4=Rows.strataRoundsUptoRow.named:=by unfold Program.varsNamed;rw[jv];kernel_rfl
 have h4:prog.recurses 4=true:=by unfold Program.recurses;rw[h2];rfl
 unfold joinedFacts;rw[h1,h2,h3,h4];show(_:Bool)=true
 kernel_rfl
end Go.Proofs.YtflegjieadkonaaGreatDoor
namespace Go.Tj
section
variable {α:Type}
inductive om (succ:α->List α):α->α->Prop
 |refl (a:α):om succ a a
 |step {a b c:α}:om succ a b->c∈succ b->om succ a c
theorem om.trans{succ:α->List α}{a b c:α}(h:om succ a b)(g:om succ b c):om succ a c:=by
 induction g with
 |refl=>exact h
 |step _ he ih=>exact .step ih he
theorem om.one{succ:α->List α}{a b:α}(h:b∈succ a):om succ a b:= .step (.refl a) h
structure St (α:Type) where
 low:α->Int
 on:α->Int
 ring:α->Int
 n:Nat
 stack:List α
section
variable [DecidableEq α]
def AG(f:α->Int)(a:α)(v:Int):α->Int:=fun x=>if x=a then v else f x
theorem lJ(f:α->Int)(a:α)(v:Int):AG f a v a=v:=am Z
theorem ni{f:α->Int}{a x:α}{v:Int}(h: ¬x=a):AG f a v x=f x:=be h
def push(s:St α)(a:α):St α:=⟨AG s.low a ((s.n:Int)+1),AG s.on a 1,s.ring,s.n+1,s.stack++ [a]⟩
def Bb(a0:Int)(s:St α):St α:=match s.stack.getLast? with
 |some b=>⟨s.low,AG s.on b 2,AG s.ring b a0,s.n,s.stack.dropLast⟩
 |none=>s
def gz(a:α)(a0:Int):Nat->St α->St α
 |0,s=>s
 |k+1,s=>if s.on a=1 then gz a a0 k (Bb a0 s) else s
def fy(a0:α->St α->Int×St α)(q:Int×St α)(b:α):Int×St α:=
 if q.2.low b=0 then(min q.1 (a0 b q.2).1,(a0 b q.2).2) else if q.2.on b=1 then(min q.1 (q.2.low b),q.2) else q
def we(a:α)(a0:Int)(q:Int×St α):Int×St α:=if q.1=a0 then(q.1,gz a a0 q.2.stack.length q.2) else q
def fe(succ:α->List α):Nat->α->St α->Int×St α
 |0,_,s=>(0,s)
 |f+1,a,s=>we a ((s.n:Int)+1) ((succ a).foldl (fy (fe succ f)) ((s.n:Int)+1,push s a))
def iU(succ:α->List α)(f:Nat)(V:List α)(s:St α):St α:=V.foldl (fun s a=>if s.low a=0 then(fe succ f a s).2 else s) s
end
def St.o:St α:=⟨fun _=>0,fun _=>0,fun _=>0,0,[]⟩
structure Inv (succ:α->List α) (path:List α) (s:St α):Prop where
 o5: ∀a,0<=s.low a∧s.low a<=s.n
 inj: ∀a b,s.low a=s.low b->s.low a≠0->a=b
 L5: ∀a,s.on a=0↔s.low a=0
 HS: ∀a,s.on a=0∨s.on a=1∨s.on a=2
 y8: ∀a,s.on a=1↔a∈s.stack
 Ta:s.stack.Pairwise fun x y=>s.low x<s.low y
 OZ: ∀a,s.on a=2-> ∀b∈succ a,s.on b=2
 Se: ∀g∈path,s.on g=1
 up: ∀y,s.on y=1-> ∃g∈path,s.low g<=s.low y∧om succ y g
 dn: ∀g∈path,∀y,s.on y=1->s.low g<=s.low y->om succ g y
 aI: ∀y,s.low y≠0->y∉path-> ∀z∈succ y,s.low z≠0
 T9: ∀a,s.on a=2-> ∃r,s.on r=2∧s.low r=s.ring a∧om succ a r∧om succ r a
 cmp: ∀a b,s.on a=2->s.on b=2->om succ a b->om succ b a->s.ring a=s.ring b
structure Le (s s':St α):Prop where
 low: ∀x,s.low x≠0->s'.low x=s.low x
 OZ: ∀x,s.on x=2->s'.on x=2
 n:s.n<=s'.n
theorem Le.refl(s:St α):Le s s:=⟨fun _ _=>rfl,fun _ h=>h,W0 _⟩
theorem Le.trans{s t u:St α}(h:Le s t)(g:Le t u):Le s u:=
 ⟨fun x hx=>by rw[g.low x (by rw[h.low x hx];exact hx),h.low x hx],fun x hx=>g.OZ x (h.OZ x hx),Xz h.n g.n⟩
structure Eh (succ:α->List α) (path:List α) (a:α) (s:St α) (least:Int) (s':St α) (t:List α):Prop where
 inv:Inv succ path s'
 le:Le s s'
 stack:s'.stack=s.stack++t
 new: ∀y∈t,s.low y=0
 at_:(s.n:Int)<s'.low a
 Sp:least<=s'.low a
 l1: ∀y∈t,∀z∈succ y,s'.on z=1->least<=s'.low z
 l2:(s'.on a=2∧least=s'.low a)∨ ∃z∈s.stack,s'.low z=least∧om succ a z
theorem xr{succ:α->List α}{path:List α}{s:St α}(h:Inv succ path s){x:α}(hx:s.on x=1):s.low x≠0:=fun g=>by
 have:=(h.L5 x).2 g;omega
theorem J3{succ:α->List α}{p:List α}{s s':St α}(h:Inv succ p s)(hl:Le s s'){x:α}(hx:s.low x≠0)(ho:s'.on x=1):s.on x=1:=by
 rcases h.HS x with g|g|g
 ·exact absurd ((h.L5 x).1 g) hx
 ·exact g
 ·have:=hl.OZ x g;omega
section
variable [DecidableEq α]
theorem CG{succ:α->List α}{path:List α}{s:St α}{a:α}(h:Inv succ path s)(ha:s.low a=0)(hp: ∀g∈path,om succ g a):Inv succ (path++ [a]) (push s a):=by
 have f0:s.on a=0:=(h.L5 a).2 ha;have b0:a∉s.stack:=fun g=>by have:=(h.y8 a).2 g;omega
 have lo: ∀x,¬x=a->(push s a).low x=s.low x:=fun x hx=>ni hx;have la:(push s a).low a=(s.n:Int)+1:=lJ _ _ _;have oo: ∀x,¬x=a->(push s a).on x=s.on x:=fun x hx=>ni hx;have oa:(push s a).on a=1:=lJ _ _ _;have hn:((push s a).n:Int)=(s.n:Int)+1:=by show((s.n+1:Nat):Int)=_;omega
 refine⟨fun x=>?_,fun x y a0 hx=>?_,fun x=>?_,fun x=>?_,fun x=>?_,?_,fun x hx b hb=>?_,fun g hg=>?_,fun y hy=>?_,fun g hg y hy c0=>?_,fun y hy d0 z hz=>?_,fun x hx=>?_,fun x y hx hy h1 h2=>?_⟩
 ·have:=h.o5 x;by_cases e:x=a
  ·subst e;rw[la,hn];omega
  ·rw[lo x e,hn];omega
 ·have h1:=h.o5 x;have h2:=h.o5 y;by_cases e:x=a
  ·by_cases e2:y=a
   ·rw[e,e2]
   ·rw[e,la,lo y e2]at a0;omega
  ·by_cases e2:y=a
   ·rw[e2,la,lo x e]at a0;omega
   ·rw[lo x e,lo y e2]at a0;rw[lo x e]at hx;exact h.inj x y a0 hx
 ·by_cases e:x=a
  ·subst e;rw[oa,la];constructor<;>intro g<;>omega
  ·rw[oo x e,lo x e];exact h.L5 x
 ·by_cases e:x=a
  ·subst e;exact .inr (.inl oa)
  ·rw[oo x e];exact h.HS x
 ·show _↔x∈s.stack++ [a];rw[W7,W5];by_cases e:x=a
  ·subst e;simp[oa]
  ·rw[oo x e,h.y8 x];simp[e]
 ·show(s.stack++ [a]).Pairwise _;rw[Y2];refine⟨h.Ta.imp_of_mem ?_,List.pairwise_singleton _ _,fun x hx y hy=>?_⟩
  ·intro x y hx hy a0;rw[lo x (fun e=>b0 (e▸hx)),lo y (fun e=>b0 (e▸hy))];exact a0
  ·rw[W5]at hy;subst hy;rw[la,lo x (fun e=>b0 (e▸hx))];have:=h.o5 x;omega
 ·have e: ¬x=a:=fun e=>by subst e;rw[oa]at hx;omega
  rw[oo x e]at hx;have e0:=h.OZ x hx b hb;have e2: ¬b=a:=fun e=>by subst e;omega
  rw[oo b e2];exact e0
 ·rcases W7.1 hg with g1|g1
  ·have:=h.Se g g1;rw[oo g (fun e=>by subst e;omega)];exact this
  ·rw[W5]at g1;subst g1;exact oa
 ·by_cases e:y=a
  ·subst e;exact⟨y,Yp _ Xd,YU _, .refl _⟩
  ·rw[oo y e]at hy;obtain⟨g,g1,g2,g3⟩:=h.up y hy;have e2: ¬g=a:=fun e=>by have:=h.Se g g1;subst e;omega
   exact⟨g,Xv _ g1,by rw[lo g e2,lo y e];exact g2,g3⟩
 ·rcases W7.1 hg with g1|g1
  ·have e2: ¬g=a:=fun e=>by have:=h.Se g g1;subst e;omega
   by_cases e:y=a
   ·subst e;exact hp g g1
   ·rw[lo g e2,lo y e]at c0;rw[oo y e]at hy;exact h.dn g g1 y hy c0
  ·rw[W5]at g1;subst g1;by_cases e:y=g
   ·subst e;exact .refl _
   ·rw[la,lo y e]at c0;have:=h.o5 y;omega
 ·have e: ¬y=a:=fun e=>d0 (Yp _ (by rw[e];exact Xd))
  rw[lo y e]at hy;have:=h.aI y hy (fun g=>d0 (Xv _ g)) z hz;by_cases e2:z=a
  ·rw[e2,la];omega
  ·rw[lo z e2];exact this
 ·have e: ¬x=a:=fun e=>by subst e;rw[oa]at hx;omega
  rw[oo x e]at hx;obtain⟨r,r1,r2,r3⟩:=h.T9 x hx;have e2: ¬r=a:=fun e=>by subst e;omega
  exact⟨r,by rw[oo r e2];exact r1,by rw[lo r e2];exact r2,r3⟩
 ·have e: ¬x=a:=fun e=>by subst e;rw[oa]at hx;omega
  have e2: ¬y=a:=fun e=>by subst e;rw[oa]at hy;omega
  rw[oo x e]at hx;rw[oo y e2]at hy;exact h.cmp x y hx hy h1 h2
theorem Of{succ:α->List α}{path:List α}{s:St α}{a:α}(h:Inv succ path s)(ha:s.low a=0):Le s (push s a):=by
 have a0:s.on a=0:=(h.L5 a).2 ha;refine⟨fun x hx=>ni fun e=>hx (e▸ha),fun x hx=>?_,by show s.n<=s.n+1;omega⟩;have: ¬x=a:=fun e=>by subst e;omega
 show AG s.on a 1 x=2;rw[ni this];exact hx
def Ba(s:St α)(u c:List α)(a0:Int):St α:=⟨s.low,fun x=>if x∈c then 2 else s.on x,fun x=>if x∈c then a0 else s.ring x,s.n,u⟩
theorem CI{a:α}{a0:Int}{s:St α}(h: ¬s.on a=1): ∀k,gz a a0 k s=s
 |0=>rfl
 |k+1=>be h
theorem zg(a:α)(a0:Int)(u:List α): ∀(k:Nat) (t:List α) (s:St α),t.length<k->s.stack=u++a::t->a∉t->s.on a=1->(gz a a0 k s).low=s.low∧(gz a a0 k s).n=s.n∧(gz a a0 k s).stack=u∧(∀x,(gz a a0 k s).on x=if x∈a::t then 2 else s.on x)∧ ∀x,(gz a a0 k s).ring x=if x∈a::t then a0 else s.ring x
 |0,t,s,h,_,_,_=>absurd h (Y6 _)
 |k+1,t,s,hk,hs,hn,ho=>by
  rw[gz,am ho];rcases t.eq_nil_or_concat with e|⟨t0,b,e⟩
  ·subst e;have hl:s.stack.getLast? =some a:=by rw[hs];simp
   have hd:s.stack.dropLast=u:=by rw[hs];simp
   have hp:Bb a0 s=⟨s.low,AG s.on a 2,AG s.ring a a0,s.n,u⟩:=by unfold Bb;rw[hl,hd]
   rw[hp,CI (by show¬AG s.on a 2 a=1;rw[lJ];decide)];exact⟨rfl,rfl,rfl,fun x=>by simp[AG],fun x=>by simp[AG]⟩
  ·rw[Z5]at e;subst e;have b0:s.stack=(u++a::t0)++ [b]:=by rw[hs];simp
   have hl:s.stack.getLast? =some b:=by rw[b0];exact List.getLast?_concat
   have hd:s.stack.dropLast=u++a::t0:=by rw[b0];exact List.dropLast_concat
   have hp:Bb a0 s=⟨s.low,AG s.on b 2,AG s.ring b a0,s.n,u++a::t0⟩:=by unfold Bb;rw[hl,hd]
   have c0: ¬a=b:=fun e=>hn (by rw[e];simp);have ih:=zg a a0 u k t0 ⟨s.low,AG s.on b 2,AG s.ring b a0,s.n,u++a::t0⟩ (by simp at hk;omega) Z (fun g=>hn (Xv _ g)) (by show AG s.on b 2 a=1;rw[ni c0];exact ho);rw[hp];refine⟨ih.1,ih.2.1,ih.2.2.1,fun x=>?_,fun x=>?_⟩
   ·rw[ih.2.2.2.1 x];by_cases e1:x∈a::t0
    ·rw[am e1,am (by rw[<-Ym];exact Xv _ e1)]
    ·rw[be e1];by_cases e2:x=b
     ·subst e2;rw[am (by simp)];exact lJ _ _ _
     ·rw[be (by rw[<-Ym,W7,W5];exact fun g=>g.elim e1 e2)];exact ni e2
   ·rw[ih.2.2.2.2 x];by_cases e1:x∈a::t0
    ·rw[am e1,am (by rw[<-Ym];exact Xv _ e1)]
    ·rw[be e1];by_cases e2:x=b
     ·subst e2;rw[am (by simp)];exact lJ _ _ _
     ·rw[be (by rw[<-Ym,W7,W5];exact fun g=>g.elim e1 e2)];exact ni e2
theorem St.eq{β:Type}{s t:St β}(h1:s.low=t.low)(h2:s.on=t.on)(h3:s.ring=t.ring)(h4:s.n=t.n)(h5:s.stack=t.stack):s=t:=by
 cases s;cases t;simp_all
theorem uO{a:α}{a0:Int}{u t:List α}{k:Nat}{s:St α}(hk:t.length<k)(hs:s.stack=u++a::t)(hn:a∉t)(ho:s.on a=1):gz a a0 k s=Ba s u (a::t) a0:=by
 obtain⟨h1,h2,h3,h4,h5⟩:=zg a a0 u k t s hk hs hn ho;exact St.eq h1 (funext h4) (funext h5) h2 h3
theorem Ag{β:Type}{succ:β->List β}{path:List β}{s:St β}(h:Inv succ path s){a b:β}(ha:s.on a=2)(hr:om succ a b):s.on b=2:=by
 induction hr with
 |refl=>exact ha
 |step _ he ih=>exact h.OZ _ ih _ he
theorem Og{succ:α->List α}{path:List α}{s:St α}{a:α}{u t:List α}(h:Inv succ (path++ [a]) s)(hs:s.stack=u++a::t)(e0: ∀g∈path,s.low g<s.low a)(k0: ∀z∈succ a,s.low z≠0)
  (q0: ∀y∈a::t,∀z∈succ y,s.on z=1->s.low a<=s.low z):Inv succ path (Ba s u (a::t) (s.low a)):=by
 have c0:=h.Ta;rw[hs,Y2]at c0;obtain⟨hu,hc,f0⟩:=c0;have m0:=(Yo.1 hc).1;have o0:s.on a=1:=(h.y8 a).2 (by rw[hs];simp);have hC: ∀x,x∈a::t↔(s.on x=1∧s.low a<=s.low x):=by
  intro x;constructor
  ·intro hx;refine⟨(h.y8 x).2 (by rw[hs];exact Yp _ hx),?_⟩;rcases Xb.1 hx with e|e
   ·rw[e];exact YU _
   ·have:=m0 x e;omega
  ·rintro⟨h1,h2⟩;have:=(h.y8 x).1 h1;rw[hs]at this;rcases W7.1 this with g|g
   ·have:=f0 x g a Xd;omega
   ·exact g
 have i0:a∈a::t:=Xd;have a0: ∀x,x∈a::t->(Ba s u (a::t) (s.low a)).on x=2:=fun x hx=>am hx;have no: ∀x,x∉a::t->(Ba s u (a::t) (s.low a)).on x=s.on x:=fun x hx=>be hx
 have d0: ∀x,x∈a::t->om succ x a:=by
  intro x hx;obtain⟨h1,h2⟩:=(hC x).1 hx;obtain⟨g,g1,g2,g3⟩:=h.up x h1;refine g3.trans (h.dn g g1 a o0 ?_);rcases W7.1 g1 with e|e
  ·have:=e0 g e;omega
  ·rw[W5]at e;rw[e];exact YU _
 have b0: ∀x,x∈a::t->om succ a x:=by
  intro x hx;obtain⟨h1,h2⟩:=(hC x).1 hx;exact h.dn a (by simp) x h1 h2
 have g0: ∀y,s.low y≠0->y∉path-> ∀z∈succ y,s.low z≠0:=by
  intro y hy j0 z hz;by_cases e:y=a
  ·rw[e]at hz;exact k0 z hz
  ·exact h.aI y hy (by rw[W7,W5];exact fun g=>g.elim j0 e) z hz
 refine⟨h.o5,h.inj,fun x=>?_,fun x=>?_,fun x=>?_,hu,fun x hx b hb=>?_,fun g hg=>?_,fun y hy=>?_,fun g hg y hy p0=>?_,g0,fun x hx=>?_,fun x y hx hy h1 h2=>?_⟩
 ·by_cases e:x∈a::t
  ·rw[a0 x e];have:=xr h ((hC x).1 e).1;exact⟨fun g=>by omega,fun g=>absurd g this⟩
  ·rw[no x e];exact h.L5 x
 ·by_cases e:x∈a::t
  ·exact .inr (.inr (a0 x e))
  ·rw[no x e];exact h.HS x
 ·show _↔x∈u;by_cases e:x∈a::t
  ·rw[a0 x e];refine⟨fun g=>by omega,fun g=>?_⟩;have h1:=f0 x g a i0;have h2:=((hC x).1 e).2;omega
  ·rw[no x e,h.y8 x,hs,W7];exact⟨fun g=>g.elim id fun q=>absurd q e, .inl⟩
 ·by_cases e:x∈a::t
  ·obtain⟨h1,h2⟩:=(hC x).1 e;have n0:s.low b≠0:=g0 x (xr h h1) (fun g=>by have:=e0 x g;omega) b hb;rcases h.HS b with g|g|g
   ·exact absurd ((h.L5 b).1 g) n0
   ·exact a0 b ((hC b).2 ⟨g,q0 x e b hb g⟩)
   ·by_cases e2:b∈a::t
    ·exact a0 b e2
    ·rw[no b e2];exact g
  ·rw[no x e]at hx;have g:=h.OZ x hx b hb;by_cases e2:b∈a::t
   ·exact a0 b e2
   ·rw[no b e2];exact g
 ·have h1:=h.Se g (Xv _ hg);have h2:=e0 g hg;rw[no g (fun e=>by have:=((hC g).1 e).2;omega)];exact h1
 ·by_cases e:y∈a::t
  ·rw[a0 y e]at hy;omega
  ·rw[no y e]at hy;obtain⟨g,g1,g2,g3⟩:=h.up y hy;rcases W7.1 g1 with q|q
   ·exact⟨g,q,g2,g3⟩
   ·rw[W5]at q;rw[q]at g2;exact absurd ((hC y).2 ⟨hy,g2⟩) e
 ·by_cases e:y∈a::t
  ·rw[a0 y e]at hy;omega
  ·rw[no y e]at hy;exact h.dn g (Xv _ hg) y hy p0
 ·by_cases e:x∈a::t
  ·exact⟨a,a0 a i0,(am e).symm,d0 x e,b0 x e⟩
  ·rw[no x e]at hx;obtain⟨r,r1,r2,r3⟩:=h.T9 x hx;have e2:r∉a::t:=fun g=>by have:=((hC r).1 g).1;omega
   refine⟨r,by rw[no r e2];exact r1,?_,r3⟩;show s.low r=if x∈a::t then s.low a else s.ring x;rw[be e];exact r2
 ·show(if x∈a::t then s.low a else s.ring x)=if y∈a::t then s.low a else s.ring y;by_cases e:x∈a::t
  ·by_cases e2:y∈a::t
   ·rw[am e,am e2]
   ·rw[no y e2]at hy;have:=Ag h hy h2;have:=((hC x).1 e).1;omega
  ·rw[no x e]at hx;by_cases e2:y∈a::t
   ·have:=Ag h hx h1;have:=((hC y).1 e2).1;omega
   ·rw[no y e2]at hy;rw[be e,be e2];exact h.cmp x y hx hy h1 h2
theorem Ia{succ:α->List α}{path:List α}{s:St α}{a z:α}(h:Inv succ (path++ [a]) s)(b0: ∀z∈succ a,s.low z≠0)(hz:s.on z=1)(c0:s.low z<s.low a)(hr:om succ a z):Inv succ path s:=by
 refine⟨h.o5,h.inj,h.L5,h.HS,h.y8,h.Ta,h.OZ,fun g hg=>h.Se g (Xv _ hg),fun y hy=>?_,fun g hg=>h.dn g (Xv _ hg),fun y hy a0 w hw=>?_,h.T9,h.cmp⟩
 ·obtain⟨g,g1,g2,g3⟩:=h.up y hy;rcases W7.1 g1 with q|q
  ·exact⟨g,q,g2,g3⟩
  ·rw[W5]at q;subst q;obtain⟨k,k1,k2,k3⟩:=h.up z hz;rcases W7.1 k1 with q|q
   ·exact⟨k,q,by omega,(g3.trans hr).trans k3⟩
   ·rw[W5]at q;subst q;omega
 ·by_cases e:y=a
  ·rw[e]at hw;exact b0 w hw
  ·exact h.aI y hy (by rw[W7,W5];exact fun g=>g.elim a0 e) w hw
def lI(V:List α)(s:St α):Nat:=(V.filter fun x=>decide (s.low x=0)).length
theorem filter_le{β:Type}{p q:β->Bool}: ∀(l:List β),(∀x∈l,p x=true->q x=true)->(l.filter p).length<=(l.filter q).length
 | [],_=>W0 _
 |x::r,h=>by
  have ih:=filter_le r fun y hy=>h y (W8 _ hy);have hx:=h x Xd;rw[YD,YD];split
  ·rename_i g;rw[am (hx g)];simp only[Xx];omega
  ·split
   ·simp only[Xx];omega
   ·exact ih
theorem filter_lt{β:Type}{p q:β->Bool}{a:β}: ∀(l:List β),(∀x∈l,p x=true->q x=true)->a∈l->p a=false->q a=true->(l.filter p).length<(l.filter q).length
 | [],_,h,_,_=>nomatch h
 |x::r,h,ha,h1,h2=>by
  have a0:=filter_le r fun y hy=>h y (W8 _ hy);have hx:=h x Xd;rw[YD,YD];rcases Xb.1 ha with e|e
  ·subst e;rw[h1,h2];simp only[Yn,if_false,if_true,Xx];omega
  ·have ih:=filter_lt r (fun y hy=>h y (W8 _ hy)) e h1 h2;split
   ·rename_i g;rw[am (hx g)];simp only[Xx];omega
   ·split
    ·simp only[Xx];omega
    ·exact ih
theorem yU{β:Type}{V:List β}{s s':St β}(h:Le s s'):lI V s'<=lI V s:=
 filter_le V fun x _ hx=>by
  refine decide_eq_true (Yb fun g=>?_);have:=of_decide_eq_true hx;rw[h.low x g]at this;exact g this
theorem mL{V:List α}{s:St α}{a:α}(hn: ∀x,0<=s.low x∧s.low x<=s.n)(ha:a∈V)(h0:s.low a=0):lI V (push s a)<lI V s:=by
 have la:(push s a).low a=(s.n:Int)+1:=lJ _ _ _;refine filter_lt V (fun x _ hx=>?_) ha (decide_eq_false (by rw[la];omega)) (decide_eq_true h0);have:=of_decide_eq_true hx;by_cases e:x=a
 ·rw[e];exact decide_eq_true h0
 ·refine decide_eq_true ?_;rwa[show(push s a).low x=s.low x from ni e]at this
structure gj (succ:α->List α) (path:List α) (a:α) (s0:St α) (done:List α) (q:Int×St α) (t:List α):Prop where
 inv:Inv succ (path++ [a]) q.2
 le:Le (push s0 a) q.2
 stack:q.2.stack=s0.stack++a::t
 new: ∀y∈t,s0.low y=0
 Sp:q.1<=(s0.n:Int)+1
 l1: ∀y∈t,∀z∈succ y,q.2.on z=1->q.1<=q.2.low z
 Uq: ∀z∈done,q.2.on z=1->q.1<=q.2.low z
 proc: ∀z∈done,q.2.low z≠0
 l2: ∃z,q.2.on z=1∧q.2.low z=q.1∧om succ a z
section
variable {succ:α->List α} {path:List α} {a:α} {s0:St α} {done:List α} {q:Int×St α} {t:List α}
theorem gj.la(h:gj succ path a s0 done q t):q.2.low a=(s0.n:Int)+1:=by
 have e:(push s0 a).low a=(s0.n:Int)+1:=lJ _ _ _;rw[h.le.low a (by rw[e];omega),e]
theorem gj.pa(h:gj succ path a s0 done q t)(h0:Inv succ path s0)(ha:s0.low a=0): ∀g∈path,q.2.low g<q.2.low a:=by
 intro g hg;have h1:=h0.Se g hg;have h2:=xr h0 h1;have e:(push s0 a).low g=s0.low g:=ni fun e=>h2 (by rw[e];exact ha);rw[h.la,h.le.low g (by rw[e];exact h2),e];have:=h0.o5 g;omega
theorem gj.at_(h:gj succ path a s0 done q t):a∉t:=fun g=>by
 have:=h.inv.Ta;rw[h.stack,Y2]at this;have:=(Yo.1 this.2.1).1 a g;omega
theorem gj.step{V:List α}{a0:α->St α->Int×St α}{f:Nat}(hV: ∀a∈V,∀b∈succ a,b∈V)
  (ih: ∀(path:List α) (b:α) (s:St α),Inv succ path s->s.low b=0->b∈V->(∀g∈path,om succ g b)->lI V s<=f-> ∃t,Eh succ path b s (a0 b s).1 (a0 b s).2 t)
  (h:gj succ path a s0 done q t) (h0:Inv succ path s0) (ha:s0.low a=0) (j0:a∈V) {b:α} (hb:b∈succ a) (hw:lI V q.2<=f): ∃t',gj succ path a s0 (done++ [b]) (fy a0 q b) t':=by
 have q0:=h.la;have n0:=h.pa h0 ha;have i0:=h.at_;have m0:q.2.on a=1:=(h.inv.y8 a).2 (by rw[h.stack];simp);unfold fy;by_cases f0:q.2.low b=0
 ·rw[am f0];have d0: ∀g∈path++ [a],om succ g b:=by
   intro g hg;refine .step (h.inv.dn g hg a m0 ?_) hb;rcases W7.1 hg with e|e
   ·have:=n0 g e;omega
   ·rw[W5]at e;rw[e];exact YU _
  obtain⟨tb,hp⟩:=ih (path++ [a]) b q.2 h.inv f0 (hV a j0 b hb) d0 hw;generalize a0 b q.2=w at hp ⊢;obtain⟨lb,s'⟩:=w;have c0: ∀z,q.2.on z=1->s'.on z=1:=fun z hz=>(hp.inv.y8 z).2 (by rw[hp.stack];exact Xv _ ((h.inv.y8 z).1 hz));have r0:=h.le.n;have p0:(push s0 a).n=s0.n+1:=rfl;refine⟨t++tb,hp.inv,h.le.trans hp.le,?_,fun y hy=>?_,?_,fun y hy z hz ho=>?_,fun z hz ho=>?_,fun z hz=>?_,?_⟩
  ·show s'.stack=_;rw[hp.stack,h.stack];simp
  ·rcases W7.1 hy with g|g
   ·exact h.new y g
   ·refine Yb fun hc=>?_
    have e:(push s0 a).low y=s0.low y:=ni fun e=>hc (by rw[e];exact ha);have:=h.le.low y (by rw[e];exact hc);rw[hp.new y g,e]at this;exact hc this.symm
  ·have:=h.Sp;show min q.1 lb<=_;omega
  ·show min q.1 lb<=s'.low z;rcases W7.1 hy with g|g
   ·have k0:q.2.on y=1:=(h.inv.y8 y).2 (by rw[h.stack];simp[g]);have g0:y∉path++ [a]:=by
     rw[W7,W5];rintro(e|e)
     ·have h1:=xr h0 (h0.Se y e);exact h1 (h.new y g)
     ·rw[e]at g;exact i0 g
    have b0:=h.inv.aI y (xr h.inv k0) g0 z hz;have e0:=J3 h.inv hp.le b0 ho;have:=h.l1 y g z hz e0;rw[hp.le.low z b0];omega
   ·have:lb<=s'.low z:=hp.l1 y g z hz ho;omega
  ·show min q.1 lb<=s'.low z;rcases W7.1 hz with g|g
   ·have b0:=h.proc z g;have:=h.Uq z g (J3 h.inv hp.le b0 ho);rw[hp.le.low z b0];omega
   ·rw[W5]at g;subst g;have:lb<=s'.low z:=hp.Sp;omega
  ·show s'.low z≠0;rcases W7.1 hz with g|g
   ·have b0:=h.proc z g;rw[hp.le.low z b0];exact b0
   ·rw[W5]at g;subst g;have:(q.2.n:Int)<s'.low z:=hp.at_;omega
  ·obtain⟨z,z1,z2,z3⟩:=h.l2;by_cases o0:q.1<=lb
   ·exact⟨z,c0 z z1,by show s'.low z=min q.1 lb;rw[hp.le.low z (xr h.inv z1)];omega,z3⟩
   ·rcases hp.l2 with⟨_,g⟩|⟨w,w1,w2,w3⟩
    ·have h1:lb=s'.low b:=g;have h2:(q.2.n:Int)<s'.low b:=hp.at_;have h3:=h.Sp;omega
    ·have w2:s'.low w=lb:=w2;exact⟨w,c0 w ((h.inv.y8 w).2 w1),by show s'.low w=min q.1 lb;omega,(om.one hb).trans w3⟩
 ·rw[be f0];by_cases e0:q.2.on b=1
  ·rw[am e0];refine⟨t,h.inv,h.le,h.stack,h.new,?_,fun y hy z hz ho=>?_,fun z hz ho=>?_,fun z hz=>?_,?_⟩
   ·have:=h.Sp;show min q.1 (q.2.low b)<=_;omega
   ·have:=h.l1 y hy z hz ho;show min q.1 (q.2.low b)<=q.2.low z;omega
   ·show min q.1 (q.2.low b)<=q.2.low z;rcases W7.1 hz with g|g
    ·have:=h.Uq z g ho;omega
    ·rw[W5]at g;subst g;omega
   ·rcases W7.1 hz with g|g
    ·exact h.proc z g
    ·rw[W5]at g;subst g;exact f0
   ·obtain⟨z,z1,z2,z3⟩:=h.l2;by_cases o0:q.1<=q.2.low b
    ·exact⟨z,z1,by show q.2.low z=min q.1 (q.2.low b);omega,z3⟩
    ·exact⟨b,e0,by show q.2.low b=min q.1 (q.2.low b);omega, .one hb⟩
  ·rw[be e0];refine⟨t,h.inv,h.le,h.stack,h.new,h.Sp,h.l1,fun z hz ho=>?_,fun z hz=>?_,h.l2⟩
   ·rcases W7.1 hz with g|g
    ·exact h.Uq z g ho
    ·rw[W5]at g;subst g;exact absurd ho e0
   ·rcases W7.1 hz with g|g
    ·exact h.proc z g
    ·rw[W5]at g;subst g;exact f0
end
theorem uV{succ:α->List α}{path:List α}{a:α}{s0:St α}{V:List α}{a0:α->St α->Int×St α}{f:Nat}(hV: ∀a∈V,∀b∈succ a,b∈V)
  (ih: ∀(path:List α) (b:α) (s:St α),Inv succ path s->s.low b=0->b∈V->(∀g∈path,om succ g b)->lI V s<=f-> ∃t,Eh succ path b s (a0 b s).1 (a0 b s).2 t)
  (h0:Inv succ path s0) (ha:s0.low a=0) (b0:a∈V) (c0:lI V (push s0 a)<=f):
  ∀(l done:List α) (q:Int×St α) (t:List α),gj succ path a s0 done q t->(∀b∈l,b∈succ a)-> ∃t',gj succ path a s0 (done++l) (l.foldl (fy a0) q) t'
 | [],done,q,t,h,_=>⟨t,by rw[XE];exact h⟩
 |b::l,done,q,t,h,hl=>by
  obtain⟨t1,h1⟩:=h.step hV ih h0 ha b0 (hl b Xd) (Xz (yU h.le) c0);obtain⟨t2,h2⟩:=uV hV ih h0 ha b0 c0 l (done++ [b]) _ t1 h1 fun x hx=>hl x (W8 _ hx);exact⟨t2,by rw[Xa]at h2;exact h2⟩
theorem rZ{succ:α->List α}{V:List α}(hV: ∀a∈V,∀b∈succ a,b∈V): ∀(f:Nat) (path:List α) (a:α) (s:St α),Inv succ path s->s.low a=0->a∈V->(∀g∈path,om succ g a)->lI V s<=f-> ∃t,Eh succ path a s (fe succ f a s).1 (fe succ f a s).2 t
 |0,path,a,s,h,ha,haV,_,hw=>by
  have:=mL h.o5 haV ha;omega
 |f+1,path,a,s,h,ha,haV,hp,hw=>by
  have j0:=mL h.o5 haV ha;have hi:=CG h ha hp;have la:(push s a).low a=(s.n:Int)+1:=lJ _ _ _;have oa:(push s a).on a=1:=lJ _ _ _;have i0:gj succ path a s [] ((s.n:Int)+1,push s a) []:=
   ⟨hi, .refl _,rfl,fun y hy=>(nomatch hy),YU _,fun y hy=>(nomatch hy),fun z hz=>(nomatch hz),fun z hz=>(nomatch hz),⟨a,oa,la, .refl _⟩⟩
  obtain⟨t,hL⟩:=uV hV (fun p b s'=>rZ hV f p b s') h ha haV (by omega) (succ a) [] _ [] i0 fun b hb=>hb;rw[Y5]at hL;rw[fe];generalize(succ a).foldl (fy (fe succ f)) ((s.n:Int)+1,push s a)=q at hL ⊢;have d0:=hL.la;have g0:=hL.pa h ha;have e0:=hL.at_;have f0:q.2.on a=1:=(hL.inv.y8 a).2 (by rw[hL.stack];simp);have a0:Le s q.2:=(Of h ha).trans hL.le;unfold we;by_cases hm:q.1=(s.n:Int)+1
  ·rw[am hm,uO (by rw[hL.stack];simp;omega) hL.stack e0 f0,<-d0];refine⟨[],Og hL.inv hL.stack g0 hL.proc fun y hy z hz ho=>?_,⟨a0.low,fun x hx=>?_,a0.n⟩,by rw[XE];rfl,fun y hy=>(nomatch hy),?_,?_,fun y hy=>(nomatch hy), .inl ⟨am Xd,?_⟩⟩
   ·rw[d0,<-hm];rcases Xb.1 hy with e|e
    ·rw[e]at hz;exact hL.Uq z hz ho
    ·exact hL.l1 y e z hz ho
   ·show(if x∈a::t then(2:Int) else q.2.on x)=2;split
    ·rfl
    ·exact a0.OZ x hx
   ·show(s.n:Int)<q.2.low a;omega
   ·show q.1<=q.2.low a;omega
   ·show q.1=q.2.low a;omega
  ·rw[be hm];have hlt:q.1<q.2.low a:=by have:=hL.Sp;omega
   obtain⟨z,z1,z2,z3⟩:=hL.l2;have c0:=hL.inv.Ta;rw[hL.stack,Y2]at c0;refine⟨a::t,Ia hL.inv hL.proc z1 (by omega) z3,a0,hL.stack,fun y hy=>?_,by omega,by omega,fun y hy w b0 ho=>?_, .inr ⟨z,?_,z2,z3⟩⟩
   ·rcases Xb.1 hy with e|e
    ·rw[e];exact ha
    ·exact hL.new y e
   ·rcases Xb.1 hy with e|e
    ·rw[e]at b0;exact hL.Uq w b0 ho
    ·exact hL.l1 y e w b0 ho
   ·have:=(hL.inv.y8 z).1 z1;rw[hL.stack]at this;rcases W7.1 this with g|g
    ·exact g
    ·rcases Xb.1 g with e|e
     ·rw[e]at z2;omega
     ·have:=(Yo.1 c0.2.1).1 z e;omega
theorem QM{β:Type}(succ:β->List β):Inv succ [] (St.o:St β):=
 ⟨fun _=>⟨YU _,YU _⟩,fun _ _ _ h=>absurd Z h,fun _=>Iff.rfl,fun _=> .inl Z,fun _=>⟨fun h=>(nomatch h),fun h=>(nomatch h)⟩, .nil,fun _ h=>(nomatch h),fun _ h=>(nomatch h),fun _ h=>(nomatch h),fun _ h=>(nomatch h),fun _ h=>absurd Z h,fun _ h=>(nomatch h),fun _ _ h=>(nomatch h)⟩
theorem uH{succ:α->List α}{V:List α}(hV: ∀a∈V,∀b∈succ a,b∈V){f:Nat}(hf:V.length<=f): ∀(l:List α) (s:St α),(∀a∈l,a∈V)->Inv succ [] s->Inv succ [] (iU succ f l s)∧(∀x,s.low x≠0->(iU succ f l s).low x≠0)∧ ∀a∈l,(iU succ f l s).low a≠0
 | [],s,_,h=>⟨h,fun _ hx=>hx,fun _ ha=>(nomatch ha)⟩
 |b::l,s,hl,h=>by
  have key: ∃s',(if s.low b=0 then(fe succ f b s).2 else s)=s'∧Inv succ [] s'∧(∀x,s.low x≠0->s'.low x≠0)∧s'.low b≠0:=by
   by_cases e:s.low b=0
   ·obtain⟨t,hp⟩:=rZ hV f [] b s h e (hl b Xd) (fun g hg=>nomatch hg) (Xz (X6 _ _) hf);refine⟨_,am e,hp.inv,fun x hx=>by rw[hp.le.low x hx];exact hx,?_⟩;have:=hp.at_;omega
   ·exact⟨s,be e,h,fun _ hx=>hx,e⟩
  obtain⟨s',e,k1,k2,k3⟩:=key;obtain⟨i1,i2,i3⟩:=uH hV hf l s' (fun a ha=>hl a (W8 _ ha)) k1;have he:iU succ f (b::l) s=iU succ f l s':=by
   show iU succ f l (if s.low b=0 then(fe succ f b s).2 else s)=_;rw[e]
  rw[he];refine⟨i1,fun x hx=>i2 x (k2 x hx),fun a ha=>?_⟩;rcases Xb.1 ha with q|q
  ·rw[q];exact i2 b k3
  ·exact i3 a q
theorem HH{succ:α->List α}{V:List α}(hV: ∀a∈V,∀b∈succ a,b∈V){f:Nat}(hf:V.length<=f){a b:α}(ha:a∈V)(hb:b∈V):
  (iU succ f V St.o).ring a=(iU succ f V St.o).ring b↔om succ a b∧om succ b a:=by
 obtain⟨h,_,h3⟩:=uH hV hf V St.o (fun _ h=>h) (QM succ);generalize iU succ f V St.o=s at h h3 ⊢;have a0: ∀x∈V,s.on x=2:=by
  intro x hx;rcases h.HS x with g|g|g
  ·exact absurd ((h.L5 x).1 g) (h3 x hx)
  ·obtain⟨k,k1,_⟩:=h.up x g;exact nomatch k1
  ·exact g
 constructor
 ·intro e;obtain⟨r,r1,r2,r3,r4⟩:=h.T9 a (a0 a ha);obtain⟨q,q1,q2,q3,q4⟩:=h.T9 b (a0 b hb);have b0:s.low r≠0:=fun g=>by have:=(h.L5 r).2 g;omega
  have:r=q:=h.inj r q (by omega) b0;subst this;exact⟨r3.trans q4,q3.trans r4⟩
 ·rintro⟨h1,h2⟩;exact h.cmp a b (a0 a ha) (a0 b hb) h1 h2
end
end
end Go.Tj
namespace Go.Wa
inductive rq (R:Nat->Nat->Prop):Nat->Nat->Prop
 |refl (a:Nat):rq R a a
 |step {a b c:Nat} (h:R a b) (t:rq R b c):rq R a c
theorem rq.trans{R:Nat->Nat->Prop}{a b c:Nat}(h:rq R a b)(k:rq R b c):rq R a c:=by
 induction h with
 |refl=>exact k
 |step h _ ih=>exact .step h (ih k)
def W(E:Nat->Nat->Bool):Nat->Nat->Nat->Bool
 |0,a,b=>E a b||a==b
 |m+1,a,b=>W E m a b||(W E m a m&&W E m m b)
variable {E:Nat->Nat->Bool}
theorem W.mono(m a b:Nat)(h:W E m a b=true):W E (m+1) a b=true:=by simp[W,h]
theorem W.QN{m k a b:Nat}(hk:m<=k)(h:W E m a b=true):W E k a b=true:=by
 induction hk with
 |refl=>exact h
 |step _ ih=>exact W.mono _ _ _ ih
theorem W.self(m a:Nat):W E m a a=true:=W.QN (W3 m) (by simp[W])
theorem W.trans: ∀(m a k b:Nat),k<m->W E m a k=true->W E m k b=true->W E m a b=true
 |m+1,a,k,b,hk,h1,h2=>by
  simp only[W,XJ,Xg]at h1 h2 ⊢;by_cases b0:k=m
  ·subst b0;have h3:W E k a k=true:=by rcases h1 with h|h;exact h;exact h.1
   have h4:W E k k b=true:=by rcases h2 with h|h;exact h;exact h.2
   exact .inr ⟨h3,h4⟩
  ·have hlt:k<m:=by omega
   rcases h1 with h1|⟨h1,c0⟩<;>rcases h2 with h2|⟨h2,a0⟩
   ·exact .inl (W.trans m a k b hlt h1 h2)
   ·exact .inr ⟨W.trans m a k m hlt h1 h2,a0⟩
   ·exact .inr ⟨h1,W.trans m m k b hlt c0 h2⟩
   ·exact .inr ⟨h1,a0⟩
theorem W.sound: ∀(m a b:Nat),W E m a b=true->rq (fun a b=>E a b=true) a b
 |0,a,b,h=>by
  simp only[W,XJ,beq_iff_eq]at h;rcases h with h|h
  ·exact .step h (.refl _)
  ·subst h;exact .refl _
 |m+1,a,b,h=>by
  simp only[W,XJ,Xg]at h;rcases h with h|⟨h1,h2⟩
  ·exact W.sound m a b h
  ·exact(W.sound m a m h1).trans (W.sound m m b h2)
theorem W.iff{n:Nat}(hE: ∀a b,a<n->E a b=true->b<n){a b:Nat}(ha:a<n):W E n a b=true↔rq (fun a b=>E a b=true) a b:=by
 refine⟨W.sound n a b,fun h=>?_⟩
 induction h with
 |refl a=>exact W.self n a
 |step h _ ih=>
  have hb:=hE _ _ ha h;exact W.trans n _ _ _ hb (W.QN (W3 n) (by simp[W,h])) (ih hb)
def V(E:Nat->Nat->Bool)(m a b x y:Nat):Bool:=if x<a∨x=a∧y<b then W E (m+1) x y else W E m x y
theorem V.G6(m a b x:Nat):V E m a b x m=W E m x m:=by
 unfold V;split
 ·simp only[W];cases W E m x m<;>simp
 ·rfl
theorem V.row(m a b y:Nat):V E m a b m y=W E m m y:=by
 unfold V;split
 ·simp only[W];cases W E m m y<;>simp
 ·rfl
theorem V.here(m a b:Nat):V E m a b a b=W E m a b:=by unfold V;rw[be (by omega)]
theorem V.next(m a b x y:Nat):V E m a (b+1) x y=if x=a∧y=b then(V E m a b x y||(V E m a b a m&&V E m a b m b)) else V E m a b x y:=by
 by_cases h:x=a∧y=b
 ·obtain⟨rfl,rfl⟩:=h;rw[am ⟨rfl,rfl⟩,V.G6,V.row,V.here];unfold V;rw[am (by omega)];rfl
 ·rw[be h];unfold V;by_cases h2:x<a∨x=a∧y<b
  ·rw[am h2,am (by omega)]
  ·rw[be h2,be (by omega)]
theorem V.line(m a n x y:Nat)(hy:y<n):V E m a n x y=V E m (a+1) 0 x y:=by
 unfold V;by_cases h:x<a∨x=a∧y<n
 ·rw[am h,am (by omega)]
 ·rw[be h,be (by omega)]
theorem V.zero(m x y:Nat):V E m 0 0 x y=W E m x y:=by unfold V;rw[be (by omega)]
theorem V.full(m n x y:Nat)(hx:x<n):V E m n 0 x y=W E (m+1) x y:=by unfold V;rw[am (.inl hx)]
end Go.Wa
namespace Go.Co
def fo(n:Nat)(a0:(Nat->Bool)->Nat->Bool)(cls:Nat->Nat->Bool):Nat->(Nat->Bool)->List (List Nat)
 |0,_=> []
 |f+1,done=>match(Xc n).find? (fun a=>!done a&&a0 done a) with
  |none=> []
  |some a=>(Xc n).filter (cls a)::fo n a0 cls f (fun b=>done b||cls a b)
section
variable {n:Nat} {b3:Nat->Nat->Bool} {e:Nat->Nat->Bool}
def jE(n:Nat)(b3:Nat->Nat->Bool)(done:Nat->Bool)(a:Nat):Bool:=(Xc n).all fun b=>!(b3 a b&&!b3 b a)||done b
def kY(n:Nat)(b3 e:Nat->Nat->Bool)(done:Nat->Bool)(a:Nat):Bool:=(Xc n).all fun b=>!(b3 a b&&b3 b a)||(Xc n).all fun c=>!e b c||(b3 c a&&b3 a c)||done c
structure Pu (n:Nat) (e b3:Nat->Nat->Bool):Prop where
 refl: ∀a,a<n->b3 a a=true
 trans: ∀a b c,b3 a b=true->b3 b c=true->b3 a c=true
 wg: ∀a b,a<n->e a b=true->b3 a b=true
 lt: ∀a b,a<n->b3 a b=true->b<n
 Vn: ∀a b,a<n->e a b=true->b<n
 split: ∀a b (p:Nat->Prop),a<n->b3 a b=true->p a-> ¬p b-> ∃x y,x<n∧b3 a x=true∧p x∧e x y=true∧ ¬p y∧b3 y b=true
def closed(n:Nat)(b3:Nat->Nat->Bool)(done:Nat->Bool):Prop:= ∀a b,a<n->done a=true->b3 a b=true->done b=true
theorem BE(hf:Pu n e b3){done:Nat->Bool}(hd:closed n b3 done){a:Nat}(ha:a<n):jE n b3 done a=kY n b3 e done a:=by
 rw[Xy];simp only[jE,kY,Xm,Xu,XJ,XF,YJ,Xg,YA];constructor
 ·intro h b hb;by_cases a0:b3 a b=true∧b3 b a=true
  ·refine .inr fun c hc=>?_
   by_cases b0:e b c=true
   ·have h1:b3 a c=true:=hf.trans _ _ _ a0.1 (hf.wg _ _ hb b0);by_cases h2:b3 c a=true
    ·exact .inl (.inr ⟨h2,h1⟩)
    ·rcases h c hc with(h3|h3)|h3
     ·rw[h1]at h3;cases h3
     ·exact absurd h3 h2
     ·exact .inr h3
   ·exact .inl (.inl (X7.2 b0))
  ·by_cases h1:b3 a b=true
   ·exact .inl (.inr (X7.2 fun h2=>a0 ⟨h1,h2⟩))
   ·exact .inl (.inl (X7.2 h1))
 ·intro h b hb;by_cases a0:b3 a b=true
  ·by_cases c0:b3 b a=true
   ·exact .inl (.inr c0)
   ·refine .inr ?_;obtain⟨x,y,hx,h1,h2,h3,h4,h5⟩:=hf.split a b (fun x=>b3 x a=true) ha a0 (hf.refl a ha) c0;have hy:y<n:=hf.Vn _ _ hx h3;rcases h x hx with(h6|h6)|h6
    ·rw[h1]at h6;cases h6
    ·rw[h2]at h6;cases h6
    ·rcases h6 y hy with(h7|h7)|h7
     ·rw[h3]at h7;cases h7
     ·exact absurd h7.1 h4
     ·exact hd y b hy h7 h5
  ·exact .inl (.inl (X7.2 a0))
def cls(b3:Nat->Nat->Bool)(a b:Nat):Bool:=b3 a b&&b3 b a
theorem qo(hf:Pu n e b3){done:Nat->Bool}(hd:closed n b3 done){a:Nat}(ha:a<n)(a0:jE n b3 done a=true):closed n b3 (fun b=>done b||cls b3 a b):=by
 intro x y hx h1 h2;simp only[cls,XJ,Xg]at h1 ⊢;rcases h1 with h1|⟨h1,h3⟩
 ·exact .inl (hd x y hx h1 h2)
 ·have b0:=hf.trans _ _ _ h1 h2;by_cases c0:b3 y a=true
  ·exact .inr ⟨b0,c0⟩
  ·left;simp only[jE,Xm,Xu,XJ,XF,YJ,YA]at a0;rcases a0 y (hf.lt _ _ ha b0) with(h4|h4)|h4
   ·rw[b0]at h4;cases h4
   ·exact absurd h4 c0
   ·exact h4
theorem find_congr{α:Type}{p q:α->Bool}: ∀{l:List α},(∀x∈l,p x=q x)->l.find? p=l.find? q
 | [],_=>rfl
 |x::l,h=>by
  rw[Yq,Yq,h x (by simp),find_congr fun y hy=>h y (W8 _ hy)]
theorem zV(hf:Pu n e b3): ∀(f:Nat) (done:Nat->Bool),closed n b3 done->fo n (jE n b3) (cls b3) f done=fo n (kY n b3 e) (cls b3) f done
 |0,_,_=>rfl
 |f+1,done,hd=>by
  have h1:(Xc n).find? (fun a=>!done a&&jE n b3 done a)=(Xc n).find? (fun a=>!done a&&kY n b3 e done a):=
   find_congr fun a ha=>by rw[BE hf hd (Xu.1 ha)]
  unfold fo;rw[<-h1];split
  ·rfl
  ·rename_i a ha;have h2:=ZK ha;have h3:=Xu.1 (YV ha);simp only[Xg]at h2;rw[zV hf f _ (qo hf hd h3 h2.2)]
theorem vH(hf:Pu n e b3){done:Nat->Bool}(e0: ∃a,a<n∧done a=false): ∃a,a<n∧done a=false∧jE n b3 done a=true:=by
 have key: ∀(m:Nat) (a:Nat),a<n->done a=false->(Xc n).countP (b3 a)<=m-> ∃a,a<n∧done a=false∧jE n b3 done a=true:=by
  intro m
  induction m with
  |zero=>
   intro a ha _ hc;have:0<(Xc n).countP (b3 a):=aae.2 ⟨a,Xu.2 ha,hf.refl a ha⟩;omega
  |succ m ih=>
   intro a ha a0 hc;by_cases h:jE n b3 done a=true
   ·exact⟨a,ha,a0,h⟩
   ·have h1: ∃b,b<n∧b3 a b=true∧b3 b a=false∧done b=false:=by
     simp only[jE,Yv,Y4,Xu,XJ,XF,YJ,YA,not_or]at h;obtain⟨b,hb,⟨h2,h3⟩,h4⟩:=h;exact⟨b,hb,by simpa using h2,by simpa using h3,by simpa using h4⟩
    obtain⟨b,hb,h2,h3,h4⟩:=h1;refine ih b hb h4 ?_;have hlt:(Xc n).countP (b3 b)<(Xc n).countP (b3 a):=by
     have b0: ∀x∈Xc n,b3 b x=true->b3 a x=true:=fun x _ hx=>hf.trans _ _ _ h2 hx
     have: ∀l:List Nat,(∀x∈l,b3 b x=true->b3 a x=true)->a∈l->l.countP (b3 b)<l.countP (b3 a):=by
      intro l
      induction l with
      |nil=>intro _ h;cases h
      |cons x l ihl=>
       intro hs hm;have f0:l.countP (b3 b)<=l.countP (b3 a):=ZF fun y hy=>hs y (W8 _ hy);rw[ZH,ZH];by_cases c0:a=x
       ·subst c0;rw[h3,hf.refl a ha];simp;omega
       ·have d0:a∈l:=by
         rcases Xb.1 hm with h|h
         ·exact absurd h c0
         ·exact h
        have:=ihl (fun y hy=>hs y (W8 _ hy)) d0;have hx:=hs x (by simp);cases hbx:b3 b x with
        |false=>simp;split<;>omega
        |true=>rw[hx hbx];simp;omega
     exact this _ b0 (Xu.2 ha)
    omega
 obtain⟨a,ha,a0⟩:=e0;exact key _ a ha a0 (W0 _)
theorem Fk{d d':Nat->Bool}(h: ∀j,j<n->d j=d' j)(a:Nat):kY n b3 e d a=kY n b3 e d' a:=by
 unfold kY;rw[Xy];simp only[Xm,Xu];constructor
 ·intro g b hb;have:=g b hb;rw[XJ]at this ⊢;refine this.imp id fun g2=>?_;simp only[Xm,Xu]at g2 ⊢;exact fun c hc=>by rw[<-h c hc];exact g2 c hc
 ·intro g b hb;have:=g b hb;rw[XJ]at this ⊢;refine this.imp id fun g2=>?_;simp only[Xm,Xu]at g2 ⊢;exact fun c hc=>by rw[h c hc];exact g2 c hc
theorem vz{K:Nat->Nat->Bool}: ∀{f:Nat} {d d':Nat->Bool},(∀j,j<n->d j=d' j)->fo n (kY n b3 e) K f d=fo n (kY n b3 e) K f d'
 |0,_,_,_=>rfl
 |f+1,d,d',h=>by
  have h1:(Xc n).find? (fun a=>!d a&&kY n b3 e d a)=(Xc n).find? (fun a=>!d' a&&kY n b3 e d' a):=
   find_congr fun a ha=>by rw[Fk h,h a (Xu.1 ha)]
  unfold fo;rw[h1];split
  ·rfl
  ·rename_i a _;rw[vz fun j hj=>by rw[h j hj]]
end
end Go.Co
namespace Go.Fa
open Go.Wa Go.Co
theorem Hh{R:Nat->Nat->Prop}{a b:Nat}(h:rq R a b)(p:Nat->Prop):p a-> ¬p b-> ∃x y,rq R a x∧p x∧R x y∧ ¬p y∧rq R y b:=by
 induction h with
 |refl a=>exact fun h1 h2=>absurd h1 h2
 | @step a c b h t ih=>
  intro h1 h2;by_cases hc:p c
  ·obtain⟨x,y,g1,g2,g3,g4,g5⟩:=ih hc h2;exact⟨x,y, .step h g1,g2,g3,g4,g5⟩
  ·exact⟨a,c, .refl a,h1,h,hc,t⟩
theorem UD{n:Nat}{E:Nat->Nat->Bool}(hE: ∀a b,E a b=true->a<n∧b<n):Pu n E (W E n):=by
 have a0: ∀a b,a<n->E a b=true->b<n:=fun a b _ h=>(hE a b h).2
 have hw: ∀{a b:Nat},rq (fun a b=>E a b=true) a b->W E n a b=true:=by
  intro a b h;by_cases ha:a<n
  ·exact(W.iff a0 ha).2 h
  ·cases h with
   |refl=>exact W.self n a
   |step h _=>exact absurd (hE _ _ h).1 ha
 have hlt: ∀{a b:Nat},rq (fun a b=>E a b=true) a b->a<n->b<n:=by
  intro a b h
  induction h with
  |refl a=>exact id
  |step h _ ih=>exact fun _=>ih (hE _ _ h).2
 refine⟨fun a _=>W.self n a,fun a b c h1 h2=>hw ((W.sound n a b h1).trans (W.sound n b c h2)),fun a b _ h=>hw (.step h (.refl _)),fun a b ha h=>hlt (W.sound n a b h) ha,a0,fun a b p ha h h1 h2=>?_⟩;obtain⟨x,y,g1,g2,g3,g4,g5⟩:=Hh (W.sound n a b h) p h1 h2;exact⟨x,y,hlt g1 ha,hw g1,g2,g3,g4,hw g5⟩
end Go.Fa
namespace Go.Rg
open Go.Wa Go.Co Go.Tj
section
variable {α:Type} [Inhabited α]
def ed(V:List α)(g:α->α->Bool)(i j:Nat):Bool:=decide (i<V.length)&&decide (j<V.length)&&g (V.getD i default) (V.getD j default)
def b3(V:List α)(g:α->α->Bool):Nat->Nat->Bool:=W (ed V g) V.length
theorem j9{V:List α}{g:α->α->Bool}{i j:Nat}:ed V g i j=true↔i<V.length∧j<V.length∧g (V.getD i default) (V.getD j default)=true:=by
 simp[ed,and_assoc]
theorem p9(V:List α)(g:α->α->Bool):Pu V.length (ed V g) (b3 V g):=Go.Fa.UD fun _ _ h=>⟨(j9.1 h).1,(j9.1 h).2.1⟩
theorem ki{V:List α}{a:α}(h:a∈V): ∃i,i<V.length∧V.getD i default=a:=by
 obtain⟨i,hi,rfl⟩:=Ye.1 h;exact⟨i,hi,by simp[WU,hi]⟩
theorem get_mem{V:List α}{i:Nat}(h:i<V.length):V.getD i default∈V:=by
 rw[WU,WY h];exact XD h
theorem FK{V:List α}(hn:V.Nodup){g:α->α->Bool}{succ:α->List α}(hs: ∀a∈V,∀b,b∈succ a↔b∈V∧g a b=true){i j:Nat}(hi:i<V.length)(hj:j<V.length):
  b3 V g i j=true↔om succ (V.getD i default) (V.getD j default):=by
 have a0: ∀{x y:Nat},x<V.length->y<V.length->V.getD x default=V.getD y default->x=y:=by
  intro x y hx hy h;rw[WU,WU,WY hx,WY hy]at h;exact(Zt hn).1 h
 rw[b3,W.iff (n:=V.length) (fun a b _ h=>(j9.1 h).2.1) hi];constructor
 ·intro h;clear hj;have: ∀{a b:Nat},rq (fun a b=>ed V g a b=true) a b->om succ (V.getD a default) (V.getD b default):=by
   intro a b h
   induction h with
   |refl a=>exact .refl _
   |step h _ ih=>
    obtain⟨h1,h2,h3⟩:=j9.1 h;exact(om.step (.refl _) ((hs _ (get_mem h1) _).2 ⟨get_mem h2,h3⟩)).trans ih
  exact this h
 ·intro h;have key: ∀{a b:α},om succ a b-> ∀x,x<V.length->V.getD x default=a-> ∃y,y<V.length∧V.getD y default=b∧rq (fun a b=>ed V g a b=true) x y:=by
   intro a b h
   induction h with
   |refl=>exact fun x hx he=>⟨x,hx,he, .refl _⟩
   |step _ hc ih=>
    intro x hx he;obtain⟨y,hy,h1,h2⟩:=ih x hx he;subst h1;obtain⟨h3,h4⟩:=(hs _ (get_mem hy) _).1 hc;obtain⟨z,hz,rfl⟩:=ki h3;exact⟨z,hz,rfl,h2.trans (.step (j9.2 ⟨hy,hz,h4⟩) (.refl _))⟩
  obtain⟨y,hy,h1,h2⟩:=key h i hi Z;have:=a0 hy hj h1;subst this;exact h2
def oj(V:List α)(g:α->α->Bool)(ring:α->Int):Prop:= ∀i j,i<V.length->j<V.length->(ring (V.getD i default)=ring (V.getD j default)↔b3 V g i j=true∧b3 V g j i=true)
theorem JM[DecidableEq α]{V:List α}(hn:V.Nodup){g:α->α->Bool}{succ:α->List α}(hs: ∀a∈V,∀b,b∈succ a↔b∈V∧g a b=true){f:Nat}(hf:V.length<=f):oj V g (iU succ f V St.o).ring:=by
 intro i j hi hj;rw[HH (fun a ha b hb=>((hs a ha b).1 hb).1) hf (get_mem hi) (get_mem hj),FK hn hs hi hj,FK hn hs hj hi]
def z8(V:List α)(succ:α->List α)(ring:α->Int)(D:Int->Bool)(a:α):Bool:=(V.filter fun b=>decide (ring b=ring a)).all fun b=>(succ b).all fun c=>decide (ring c=ring a)||D (ring c)
def my(V:List α)(succ:α->List α)(ring:α->Int):Nat->(Int->Bool)->List (List α)
 |0,_=> []
 |f+1,D=>match V.find? (fun a=>!D (ring a)&&z8 V succ ring D a) with
  |none=> []
  |some a=>(V.filter fun b=>decide (ring b=ring a))::my V succ ring f (fun x=>decide (x=ring a)||D x)
theorem zc(V:List α):(Xc V.length).map (fun i=>V.getD i default)=V:=by
 apply List.ext_getElem
 ·simp
 ·intro i h1 h2;simp[WU,h2]
theorem Fo(V:List α)(p:α->Bool):V.filter p=((Xc V.length).filter fun i=>p (V.getD i default)).map fun i=>V.getD i default:=by
 have:=List.filter_map (p:=p) (f:=fun i=>V.getD i default) (l:=Xc V.length);rw[zc]at this;exact this
theorem K8(V:List α)(p:α->Bool):V.find? p=((Xc V.length).find? fun i=>p (V.getD i default)).map fun i=>V.getD i default:=by
 have:=List.find?_map (f:=fun i=>V.getD i default) (p:=p) (l:=Xc V.length);rw[zc]at this;exact this
theorem yN{β:Type}{p q:β->Bool}{l:List β}(h: ∀x∈l,p x=q x):l.filter p=l.filter q:=List.filter_congr h
theorem Lx{V:List α}{g:α->α->Bool}{ring:α->Int}(hr:oj V g ring){i:Nat}(hi:i<V.length):
  (V.filter fun b=>decide (ring b=ring (V.getD i default)))=((Xc V.length).filter (cls (b3 V g) i)).map fun i=>V.getD i default:=by
 rw[Fo];congr 1;refine yN fun j hj=>?_;have:=hr j i (Xu.1 hj) hi;rw[Xy,decide_eq_true_eq,this];simp[cls,and_comm]
theorem va{V:List α}{g:α->α->Bool}{ring:α->Int}(hr:oj V g ring){succ:α->List α}(hs: ∀a∈V,∀b,b∈succ a↔b∈V∧g a b=true){D:Int->Bool}{i:Nat}(hi:i<V.length):
  z8 V succ ring D (V.getD i default)=kY V.length (b3 V g) (ed V g) (fun j=>D (ring (V.getD j default))) i:=by
 rw[Xy];simp only[z8,kY,Xm,Xs,decide_eq_true_eq,Xu,XJ,XF,YJ,Xg];constructor
 ·intro h b hb;by_cases hc:b3 V g i b=true∧b3 V g b i=true
  ·refine .inr fun c a0=>?_
   by_cases he:ed V g b c=true
   ·obtain⟨_,_,h3⟩:=j9.1 he;rcases h (V.getD b default) ⟨get_mem hb,(hr b i hb hi).2 ⟨hc.2,hc.1⟩⟩ (V.getD c default) ((hs _ (get_mem hb) _).2 ⟨get_mem a0,h3⟩) with h4|h4
    ·exact .inl (.inr ((hr c i a0 hi).1 h4))
    ·exact .inr h4
   ·exact .inl (.inl (X7.2 he))
  ·left;by_cases h1:b3 V g i b=true
   ·exact .inr (X7.2 fun h2=>hc ⟨h1,h2⟩)
   ·exact .inl (X7.2 h1)
 ·rintro h b ⟨hb,hrb⟩ c hc;obtain⟨y,hy,rfl⟩:=ki hb;obtain⟨h1,h2⟩:=(hs _ hb _).1 hc;obtain⟨z,hz,rfl⟩:=ki h1;obtain⟨h3,h4⟩:=(hr y i hy hi).1 hrb;rcases h y hy with(h5|h5)|h5
  ·rw[h4]at h5;cases h5
  ·rw[h3]at h5;cases h5
  ·rcases h5 z hz with(h6|h6)|h6
   ·rw[j9.2 ⟨hy,hz,h2⟩]at h6;cases h6
   ·exact .inl ((hr z i hz hi).2 h6)
   ·exact .inr h6
theorem ug{V:List α}{g:α->α->Bool}{ring:α->Int}(hr:oj V g ring){succ:α->List α}(hs: ∀a∈V,∀b,b∈succ a↔b∈V∧g a b=true): ∀(f:Nat) (D:Int->Bool),
  my V succ ring f D=(fo V.length (kY V.length (b3 V g) (ed V g)) (cls (b3 V g)) f (fun j=>D (ring (V.getD j default)))).map fun c=>c.map fun i=>V.getD i default
 |0,_=>rfl
 |f+1,D=>by
  have h1:(Xc V.length).find? (fun i=>!D (ring (V.getD i default))&&z8 V succ ring D (V.getD i default))=
    (Xc V.length).find? (fun i=>!D (ring (V.getD i default))&&kY V.length (b3 V g) (ed V g) (fun j=>D (ring (V.getD j default))) i):=
   find_congr fun i hi=>by rw[va hr hs (Xu.1 hi)]
  unfold my fo;rw[K8,h1];cases hfi:(Xc V.length).find? (fun i=>!D (ring (V.getD i default))&&kY V.length (b3 V g) (ed V g) (fun j=>D (ring (V.getD j default))) i) with
  |none=>rfl
  |some i=>
   have hi:=Xu.1 (YV hfi);simp only[XW,Xe];rw[Lx hr hi,ug hr hs f];have hg:=vz (n:=V.length) (b3:=b3 V g) (e:=ed V g) (K:=cls (b3 V g)) (f:=f) (d:=fun j=>decide (ring (V.getD j default)=ring (V.getD i default))||D (ring (V.getD j default)))
    (d':=fun j=>D (ring (V.getD j default))||cls (b3 V g) i j) fun j hj=>?_
   ·rw[hg]
   have:=hr j i hj hi;rw[Xy];simp only[XJ,decide_eq_true_eq,this,cls,Xg];exact⟨fun h=>h.symm.imp id fun h=>⟨h.2,h.1⟩,fun h=>h.symm.imp (fun h=>⟨h.2,h.1⟩) id⟩
end
end Go.Rg
namespace Go.Lv
variable (e s:Nat->Nat->Bool)
def wt(a b:Nat):Nat:=if s a b then 1 else 0
inductive S1:Nat->Nat->Nat->Prop
 |nil (a:Nat):S1 a 0 0
 |cons {a b k w:Nat} (h:e a b=true) (t:S1 b k w):S1 a (k+1) (w+wt s a b)
def rx(h:Nat->Nat)(a b:Nat):Nat->Nat:=if e a b=true∧h a<h b+wt s a b then fun x=>if x=a then h b+wt s a b else h x else h
def row(h:Nat->Nat)(a:Nat):Nat->(Nat->Nat)
 |0=>h
 |b+1=>rx e s (row h a b) a b
def Ua(n:Nat)(h:Nat->Nat):Nat->(Nat->Nat)
 |0=>h
 |a+1=>row e s (Ua n h a) a n
def high(n:Nat):Nat->(Nat->Nat)
 |0=>fun _=>0
 |t+1=>Ua e s n (high n t) n
theorem QJ(h:Nat->Nat)(a b x:Nat):h x<=rx e s h a b x:=by
 unfold rx;split
 ·rename_i hc;show h x<=if x=a then _ else _;split
  ·rename_i hx;subst hx;omega
  ·exact W0 _
 ·exact W0 _
theorem NP(h:Nat->Nat){a b:Nat}(a0:e a b=true):h b+wt s a b<=rx e s h a b a:=by
 unfold rx;split
 ·show _<=if a=a then _ else _;rw[am Z];exact W0 _
 ·rename_i hc;have: ¬h a<h b+wt s a b:=fun hh=>hc ⟨a0,hh⟩;omega
theorem A3(h:Nat->Nat)(a x:Nat): ∀m,h x<=row e s h a m x
 |0=>W0 _
 |m+1=>Xz (A3 h a x m) (QJ e s _ a m x)
theorem nM(h:Nat->Nat){a b:Nat}(a0:e a b=true): ∀m,b<m->h b+wt s a b<=row e s h a m a
 |m+1,hb=>by
  by_cases b0:b=m
  ·subst b0;exact Xz (ZJ (A3 e s h a b b) _) (NP e s _ a0)
  ·exact Xz (nM h a0 m (by omega)) (QJ e s _ a m a)
theorem EF(n:Nat)(h:Nat->Nat)(x:Nat): ∀m,h x<=Ua e s n h m x
 |0=>W0 _
 |m+1=>Xz (EF n h x m) (A3 e s _ m x n)
theorem Cu(n:Nat)(h:Nat->Nat){a b:Nat}(a0:e a b=true)(hb:b<n): ∀m,a<m->h b+wt s a b<=Ua e s n h m a
 |m+1,ha=>by
  by_cases b0:a=m
  ·subst b0;exact Xz (ZJ (EF e s n h b a) _) (nM e s _ a0 n hb)
  ·exact Xz (Cu n h a0 hb m (by omega)) (A3 e s _ m a n)
theorem zJ(n:Nat)(x:Nat): ∀{t u:Nat},t<=u->high e s n t x<=high e s n u x:=by
 intro t u h
 induction h with
 |refl=>exact W0 _
 |step _ ih=>exact Xz ih (EF e s n _ x n)
variable {e s}
theorem T8{L h:Nat->Nat}(hL: ∀a b,e a b=true->L b+wt s a b<=L a)(hh: ∀x,h x<=L x)(a b x:Nat):rx e s h a b x<=L x:=by
 unfold rx;split
 ·rename_i hc;show(if x=a then _ else _)<=_;split
  ·rename_i hx;subst hx;exact Xz (ZJ (hh b) _) (hL x b hc.1)
  ·exact hh x
 ·exact hh x
theorem JG{L h:Nat->Nat}(hL: ∀a b,e a b=true->L b+wt s a b<=L a)(hh: ∀x,h x<=L x)(a:Nat): ∀m x,row e s h a m x<=L x
 |0,x=>hh x
 |m+1,x=>T8 hL (JG hL hh a m) a m x
theorem JJ{L h:Nat->Nat}(hL: ∀a b,e a b=true->L b+wt s a b<=L a)(n:Nat)(hh: ∀x,h x<=L x): ∀m x,Ua e s n h m x<=L x
 |0,x=>hh x
 |m+1,x=>JG hL (JJ hL n hh m) m n x
theorem wE{L:Nat->Nat}(hL: ∀a b,e a b=true->L b+wt s a b<=L a)(n:Nat): ∀t x,high e s n t x<=L x
 |0,_=>W3 _
 |t+1,x=>JJ hL n (wE hL n t) n x
end Go.Lv
namespace Go.Le
open Go.Co Go.Lv
variable {n:Nat} {e s b3:Nat->Nat->Bool}
def Pt(n:Nat)(e s:Nat->Nat->Bool)(L:Nat->Nat):Prop:= ∀S:Nat->Bool,(∃a,a<n∧S a=false)-> ∃x,x<n∧S x=false∧(L x=0∨ ∃y,y<n∧S y=true∧e x y=true∧L x<=L y+wt s x y)
theorem ve{α:Type}{p q:α->Bool}: ∀{l:List α},(∀x∈l,p x=true->q x=true)->(∃x∈l,p x=false∧q x=true)->l.countP p<l.countP q
 | [],_,⟨x,hx,_⟩=>nomatch hx
 |y::l,h,⟨x,hx,h1,h2⟩=>by
  have a0:l.countP p<=l.countP q:=ZF fun z hz=>h z (W8 _ hz);rw[ZH,ZH];rcases Xb.1 hx with rfl|hx
  ·rw[h1,h2];simp;omega
  ·have:=ve (fun z hz=>h z (W8 _ hz)) ⟨x,hx,h1,h2⟩;have hy:=h y (by simp);cases hp:p y with
   |false=>simp;split<;>omega
   |true=>rw[hy hp];simp;omega
theorem Dj{t:Nat}(ht:n<=t){L:Nat->Nat}(hL: ∀a b,e a b=true->L b+wt s a b<=L a)(hg:Pt n e s L){a:Nat}(ha:a<n):high e s n t a=L a:=by
 have key: ∀u,u<=n->u<=(Xc n).countP fun x=>decide (high e s n u x=L x):=by
  intro u
  induction u with
  |zero=>exact fun _=>W3 _
  |succ u ih=>
   intro hu;have ih:=ih (by omega);have a0: ∀x∈Xc n,decide (high e s n u x=L x)=true->decide (high e s n (u+1) x=L x)=true:=by
    intro x _ hx;rw[decide_eq_true_eq]at hx ⊢;refine ZL (wE hL n (u+1) x) ?_;rw[<-hx];exact zJ e s n x (Zo u)
   by_cases b0: ∃a,a<n∧decide (high e s n u a=L a)=false
   ·obtain⟨x,hx,h1,h2⟩:=hg _ b0;have:(Xc n).countP (fun x=>decide (high e s n u x=L x))<(Xc n).countP fun x=>decide (high e s n (u+1) x=L x):=by
     refine ve a0 ⟨x,Xu.2 hx,h1,?_⟩;rw[decide_eq_true_eq];refine ZL (wE hL n (u+1) x) ?_;rcases h2 with h2|⟨y,hy,h3,h4,h5⟩
     ·rw[h2];exact W3 _
     ·rw[decide_eq_true_eq]at h3;refine Xz h5 ?_;rw[<-h3];exact Cu e s n _ h4 hy n hx
    omega
   ·have c0:(Xc n).countP (fun x=>decide (high e s n u x=L x))=n:=by
     have:(Xc n).countP (fun x=>decide (high e s n u x=L x))=(Xc n).length:=by
      rw[Z6];intro x hx;cases h:decide (high e s n u x=L x) with
      |true=>rfl
      |false=>exact absurd ⟨x,Xu.1 hx,h⟩ b0
     rw[this,Zm]
    have:(Xc n).countP (fun x=>decide (high e s n u x=L x))<=(Xc n).countP fun x=>decide (high e s n (u+1) x=L x):=ZF a0;omega
 have h1:=key n (W0 n);have h2: ∀x∈Xc n,decide (high e s n n x=L x)=true:=by
  rw[<-Z6,Zm];exact ZL (by have:=Z7 (p:=fun x=>decide (high e s n n x=L x)) (l:=Xc n);rwa[Zm]at this) h1
 have h3:=of_decide_eq_true (h2 a (Xu.2 ha));refine ZL (wE hL n t a) ?_;rw[<-h3];exact zJ e s n a ht
def top(n:Nat)(e s:Nat->Nat->Bool)(h:Nat->Nat)(c:List Nat):Nat:=
 c.foldl (fun m a=>(Xc n).foldl (fun m b=>if e a b=true then max m (h b+wt s a b) else m) m) 0
def OG(n:Nat)(e s:Nat->Nat->Bool):List (List Nat)->(Nat->Nat)->(Nat->Nat)
 | [],h=>h
 |c::r,h=>OG n e s r (fun x=>if x∈c then top n e s h c else h x)
theorem foldl_max{α:Type}(p:α->Bool)(f:α->Nat): ∀(l:List α) (m:Nat),m<=l.foldl (fun m b=>if p b=true then max m (f b) else m) m∧
  (∀b∈l,p b=true->f b<=l.foldl (fun m b=>if p b=true then max m (f b) else m) m)∧(l.foldl (fun m b=>if p b=true then max m (f b) else m) m=m∨ ∃b∈l,p b=true∧l.foldl (fun m b=>if p b=true then max m (f b) else m) m=f b)
 | [],m=>⟨W0 _,fun _ h=>(nomatch h), .inl Z⟩
 |b::l,m=>by
  obtain⟨h1,h2,h3⟩:=foldl_max p f l (if p b=true then max m (f b) else m);rw[Xq];refine⟨Xz ?_ h1,fun c hc hp=>?_,?_⟩
  ·split<;>omega
  ·rcases Xb.1 hc with rfl|hc
   ·rw[am hp]at h1 ⊢;omega
   ·exact h2 c hc hp
  ·rcases h3 with h3|⟨c,hc,hp,h3⟩
   ·rw[h3];by_cases hp:p b=true
    ·rw[am hp];rcases Nat.le_total m (f b) with h|h
     ·exact .inr ⟨b,by simp,hp,by omega⟩
     ·exact .inl (by omega)
    ·rw[be hp];exact .inl Z
   ·exact .inr ⟨c,W8 _ hc,hp,h3⟩
theorem AI(n:Nat)(e s:Nat->Nat->Bool)(h:Nat->Nat): ∀(c:List Nat) (m:Nat),(m<=c.foldl (fun m a=>(Xc n).foldl (fun m b=>if e a b=true then max m (h b+wt s a b) else m) m) m)∧
  (∀a∈c,∀b,b<n->e a b=true->h b+wt s a b<=c.foldl (fun m a=>(Xc n).foldl (fun m b=>if e a b=true then max m (h b+wt s a b) else m) m) m)∧
  (c.foldl (fun m a=>(Xc n).foldl (fun m b=>if e a b=true then max m (h b+wt s a b) else m) m) m=m∨ ∃a∈c,∃b,b<n∧e a b=true∧c.foldl (fun m a=>(Xc n).foldl (fun m b=>if e a b=true then max m (h b+wt s a b) else m) m) m=h b+wt s a b)
 | [],m=>⟨W0 _,fun _ h=>(nomatch h), .inl Z⟩
 |a::c,m=>by
  obtain⟨g1,g2,g3⟩:=foldl_max (fun b=>e a b) (fun b=>h b+wt s a b) (Xc n) m;obtain⟨h1,h2,h3⟩:=AI n e s h c ((Xc n).foldl (fun m b=>if e a b=true then max m (h b+wt s a b) else m) m);rw[Xq];refine⟨Xz g1 h1,fun x hx b hb he=>?_,?_⟩
  ·rcases Xb.1 hx with rfl|hx
   ·exact Xz (g2 b (Xu.2 hb) he) h1
   ·exact h2 x hx b hb he
  ·rcases h3 with h3|⟨x,hx,b,hb,he,h3⟩
   ·rcases g3 with g3|⟨b,hb,he,g3⟩
    ·exact .inl (h3.trans g3)
    ·exact .inr ⟨a,by simp,b,Xu.1 hb,he,h3.trans g3⟩
   ·exact .inr ⟨x,W8 _ hx,b,hb,he,h3⟩
theorem Ja{h:Nat->Nat}{c:List Nat}{a b:Nat}(ha:a∈c)(hb:b<n)(he:e a b=true):h b+wt s a b<=top n e s h c:=(AI n e s h c 0).2.1 a ha b hb he
theorem Er(h:Nat->Nat)(c:List Nat):top n e s h c=0∨ ∃a∈c,∃b,b<n∧e a b=true∧top n e s h c=h b+wt s a b:=(AI n e s h c 0).2.2
structure Ej (n:Nat) (e s b3:Nat->Nat->Bool) (done:Nat->Bool) (h:Nat->Nat):Prop where
 cl:closed n b3 done
 zero: ∀x,done x=false->h x=0
 wg: ∀a b,a<n->done a=true->e a b=true->h b+wt s a b<=h a
 ground: ∀S:Nat->Bool,(∃a,a<n∧done a=true∧S a=false)-> ∃x,x<n∧done x=true∧S x=false∧(h x=0∨ ∃y,y<n∧S y=true∧e x y=true∧h x<=h y+wt s x y)
theorem Ej.next(hf:Pu n e b3)(hs: ∀a b,e a b=true->b3 b a=true->s a b=false){done:Nat->Bool}{h:Nat->Nat}(hd:Ej n e s b3 done h){a:Nat}(ha:a<n)(o0:done a=false)(c0:jE n b3 done a=true):
  Ej n e s b3 (fun b=>done b||cls b3 a b) (fun x=>if x∈(Xc n).filter (cls b3 a) then top n e s h ((Xc n).filter (cls b3 a)) else h x):=by
 have d0: ∀x,x∈(Xc n).filter (cls b3 a)↔x<n∧b3 a x=true∧b3 x a=true:=by
  intro x;simp[cls,Xs,Xu]
 have hnd: ∀x,x<n->b3 a x=true->b3 x a=true->done x=false:=by
  intro x hx _ h2;cases b0:done x with
  |false=>rfl
  |true=>have:=hd.cl x a hx b0 h2;rw[o0]at this;cases this
 have j0: ∀b,b3 a b=true->b3 b a=false->done b=true:=by
  intro b h1 h2;simp only[jE,Xm,Xu,XJ,XF,YJ,YA]at c0;rcases c0 b (hf.lt _ _ ha h1) with(h4|h4)|h4
  ·rw[h1]at h4;cases h4
  ·rw[h2]at h4;cases h4
  ·exact h4
 have a0: ∀x,x<n->done x=true->(if x∈(Xc n).filter (cls b3 a) then top n e s h ((Xc n).filter (cls b3 a)) else h x)=h x:=by
  intro x hx b0;rw[be];rw[d0];rintro⟨_,h1,h2⟩;rw[hnd x hx h1 h2]at b0;cases b0
 have hin: ∀x,x<n->b3 a x=true->b3 x a=true->(if x∈(Xc n).filter (cls b3 a) then top n e s h ((Xc n).filter (cls b3 a)) else h x)=top n e s h ((Xc n).filter (cls b3 a)):=
  fun x hx h1 h2=>am ((d0 x).2 ⟨hx,h1,h2⟩)
 have e0: ∀x y,x<n->b3 a x=true->b3 x a=true->e x y=true->b3 y a=true->h y+wt s x y=0:=by
  intro x y hx h1 h2 he h3;have hy:=hf.Vn _ _ hx he;have h4:b3 a y=true:=hf.trans _ _ _ h1 (hf.wg _ _ hx he);rw[hd.zero y (hnd y hy h4 h3)];simp[wt,hs x y he (hf.trans _ _ _ h3 h1)]
 refine⟨qo hf hd.cl ha c0,fun x hx=>?_,fun x y hx b0 he=>?_,fun S hS=>?_⟩
 ·simp only[XL]at hx;rw[be]
  ·exact hd.zero x hx.1
  ·rw[d0];rintro⟨_,h1,h2⟩;have:=hx.2;simp[cls,h1,h2]at this
 ·have hy:=hf.Vn _ _ hx he;simp only[XJ,cls,Xg]at b0;rcases b0 with b0|⟨h1,h2⟩
  ·have q0:done y=true:=hd.cl x y hx b0 (hf.wg _ _ hx he);rw[a0 x hx b0,a0 y hy q0];exact hd.wg x y hx b0 he
  ·rw[hin x hx h1 h2];have h3:b3 a y=true:=hf.trans _ _ _ h1 (hf.wg _ _ hx he);cases h4:b3 y a with
   |true=>
    rw[hin y hy h3 h4];have:wt s x y=0:=by simp[wt,hs x y he (hf.trans _ _ _ h4 h1)]
    omega
   |false=>
    rw[a0 y hy (j0 y h3 h4)];exact Ja ((d0 x).2 ⟨hx,h1,h2⟩) hy he
 ·by_cases g0: ∃x,x<n∧done x=true∧S x=false
  ·obtain⟨x,hx,h1,h2,h3⟩:=hd.ground S g0;refine⟨x,hx,by simp[h1],h2,?_⟩;rw[a0 x hx h1];rcases h3 with h3|⟨y,hy,h4,h5,h6⟩
   ·exact .inl h3
   ·exact .inr ⟨y,hy,h4,h5,by rw[a0 y hy (hd.cl x y hx h1 (hf.wg _ _ hx h5))];exact h6⟩
  ·have i0: ∀x,x<n->done x=true->S x=true:=fun x hx h1=>by
    cases h2:S x with
    |true=>rfl
    |false=>exact absurd ⟨x,hx,h1,h2⟩ g0
   obtain⟨x,hx,h1,h2⟩:=hS;simp only[XJ,cls,Xg]at h1;rcases h1 with h1|⟨h1,h3⟩
   ·exact absurd ⟨x,hx,h1,h2⟩ g0
   rcases Er (n:=n) (e:=e) (s:=s) h ((Xc n).filter (cls b3 a)) with ht|⟨a',r0,b,hb,he,ht⟩
   ·exact⟨x,hx,by simp[cls,h1,h3],h2, .inl (by rw[hin x hx h1 h3,ht])⟩
   ·obtain⟨g1,g2,g3⟩:=(d0 a').1 r0;cases hba:b3 b a with
    |true=>
     have:=e0 a' b g1 g2 g3 he hba;exact⟨x,hx,by simp[cls,h1,h3],h2, .inl (by rw[hin x hx h1 h3,ht,this])⟩
    |false=>
     have k0:=j0 b (hf.trans _ _ _ g2 (hf.wg _ _ g1 he)) hba;cases hSa:S a' with
     |false=>
      exact⟨a',g1,by simp[cls,g2,g3],hSa, .inr ⟨b,hb,i0 b hb k0,he,by rw[hin a' g1 g2 g3,a0 b hb k0,ht];exact W0 _⟩⟩
     |true=>
      obtain⟨u,v,hu,h4,h5,h6,h7,h8⟩:=hf.split x a' (fun z=>S z=false) hx (hf.trans _ _ _ h3 g2) h2 (by rw[hSa];simp);have hv:=hf.Vn _ _ hu h6;have f0:b3 a u=true:=hf.trans _ _ _ h1 h4;have n0:b3 v a=true:=hf.trans _ _ _ h8 g3;have m0:b3 u a=true:=hf.trans _ _ _ (hf.wg _ _ hu h6) n0;have p0:b3 a v=true:=hf.trans _ _ _ f0 (hf.wg _ _ hu h6);exact⟨u,hu,by simp[cls,f0,m0],h5, .inr ⟨v,hv,by simpa using h7,h6,by rw[hin u hu f0 m0,hin v hv p0 n0];omega⟩⟩
theorem Ej.nil(n:Nat)(e s b3:Nat->Nat->Bool):Ej n e s b3 (fun _=>false) (fun _=>0):=
 ⟨fun _ _ _ h=>(nomatch h),fun _ _=>rfl,fun _ _ _ h=>(nomatch h),fun _ ⟨_,_,h,_⟩=>(nomatch h)⟩
theorem uc{α:Type}{p:α->Bool}: ∀{l:List α},(∃x∈l,p x=true)-> ∃y,l.find? p=some y
 | [],⟨_,h,_⟩=>nomatch h
 |x::l,⟨y,h,hp⟩=>by
  rw[Yq];cases hx:p x with
  |true=>exact⟨x,rfl⟩
  |false=>
   rcases Xb.1 h with rfl|h
   ·rw[hx]at hp;cases hp
   ·exact uc ⟨y,h,hp⟩
theorem Da(hf:Pu n e b3)(hs: ∀a b,e a b=true->b3 b a=true->s a b=false): ∀(f:Nat) (done:Nat->Bool) (h:Nat->Nat),Ej n e s b3 done h->(Xc n).countP (fun x=>!done x)<=f->
  ∃all:Nat->Bool,(∀x,x<n->all x=true)∧Ej n e s b3 all (OG n e s (fo n (jE n b3) (cls b3) f done) h)
 | 0,done,h,hd,hc=>⟨done,fun x hx=>by
   cases hdx:done x with
   |true=>rfl
   |false=>
    have:0<(Xc n).countP (fun x=>!done x):=aae.2 ⟨x,Xu.2 hx,by simp[hdx]⟩
    omega,hd⟩
 |f+1,done,h,hd,hc=>by
  unfold fo;split
  ·rename_i b0;refine⟨done,fun x hx=>?_,hd⟩;cases hdx:done x with
   |true=>rfl
   |false=>
    obtain⟨a,h1,h2,h3⟩:=vH hf ⟨x,hx,hdx⟩;obtain⟨y,hy⟩:=uc (p:=fun a=>!done a&&jE n b3 done a) (l:=Xc n) ⟨a,Xu.2 h1,by simp[h2,h3]⟩;rw[b0]at hy;cases hy
  ·rename_i a a0;have h2:=ZK a0;have h3:=Xu.1 (YV a0);simp only[Xg,XF]at h2;have c0:=hd.next hf hs h3 h2.1 h2.2;refine Da hf hs f _ _ c0 ?_;have:(Xc n).countP (fun x=>!(done x||cls b3 a x))<(Xc n).countP fun x=>!done x:=by
    refine ve (fun x _ hx=>?_) ⟨a,Xu.2 h3,?_,?_⟩
    ·simp only[Bool.not_or,Xg]at hx;exact hx.1
    ·simp[cls,hf.refl a h3]
    ·simp[h2.1]
   omega
theorem Km(hf:Pu n e b3)(hlt: ∀a b,e a b=true->a<n∧b<n)(hs: ∀a b,e a b=true->b3 b a=true->s a b=false){t:Nat}(ht:n<=t){a:Nat}(ha:a<n):
  high e s n t a=OG n e s (fo n (jE n b3) (cls b3) n (fun _=>false)) (fun _=>0) a:=by
 obtain⟨all,h1,h2⟩:=Da hf hs n _ _ (Ej.nil n e s b3) (by have:=Z7 (p:=fun x:Nat=>!false) (l:=Xc n);rwa[Zm]at this);refine Dj ht (fun x y he=>h2.wg x y (hlt x y he).1 (h1 x (hlt x y he).1) he) (fun S ⟨x,hx,hS⟩=>?_) ha;obtain⟨y,hy,_,h4,h5⟩:=h2.ground S ⟨x,hx,h1 x hx,hS⟩;exact⟨y,hy,h4,h5⟩
end Go.Le
namespace Go.Or
open Go.Co Go.Lv Go.Le
variable {n:Nat} {e s b3:Nat->Nat->Bool}
structure WL (n:Nat) (b3:Nat->Nat->Bool) (done:Nat->Bool) (cs:List (List Nat)) (x i:Nat) (c:List Nat):Prop where
 at_:cs[i]? =some c
 mem:x∈c
 one: ∀(j:Nat) (c':List Nat),cs[j]? =some c'->x∈c'->j=i
 cl: ∀y,y∈c↔y<n∧cls b3 x y=true
 low: ∀y,y<n->b3 x y=true->done y=true∨ ∃j c',j<=i∧cs[j]? =some c'∧y∈c'
end Go.Or
namespace Go.Proofs.YtflegjieadkonaaGreatDoor
open Go Go.Al
mutual
def named:Lit->List aj
 | .mk k a _ _ _ _ _ _ b _=>if k=1∨k=2 then[a.rel] else if k=4 then iY b else[]
def iY:List Lit->List aj
 | []=> []
 |l::r=>named l++iY r
end
def Bi(l:Lit):List aj:=if l.kind=1∨l.kind=2 then[l.atom.rel] else if l.kind=4 then(l.ar.filter fun x=>decide (x.kind=1∨x.kind=2)).map fun x=>x.atom.rel else[]
theorem pN: ∀l:List Lit,iY l=l.flatMap named
 | []=>rfl
 |x::r=>by simp only[iY,XZ,pN r]
theorem zu: ∀(b:List Lit),(∀x∈b,x.kind≠4)->iY b=(b.filter fun x=>decide (x.kind=1∨x.kind=2)).map fun x=>x.atom.rel
 | [],_=>rfl
 | .mk k' a' op' le' ri' af' av' ao' b' at'::b,h=>by
  have hx:k'≠4:=h (.mk k' a' op' le' ri' af' av' ao' b' at') (Xd ..);rw[iY,zu b fun y hy=>h y (W8 _ hy),YD];by_cases hk:k'=1∨k'=2
  ·have:decide ((Lit.mk k' a' op' le' ri' af' av' ao' b' at').kind=1∨(Lit.mk k' a' op' le' ri' af' av' ao' b' at').kind=2)=true:=decide_eq_true hk;rw[this,named,am hk];rfl
  ·have:decide ((Lit.mk k' a' op' le' ri' af' av' ao' b' at').kind=1∨(Lit.mk k' a' op' le' ri' af' av' ao' b' at').kind=2)=false:=decide_eq_false hk;rw[this,named,be hk,be hx];rfl
theorem CY(l:Lit)(h:l.kind=4-> ∀x∈l.ar,x.kind≠4):named l=Bi l:=by
 obtain⟨k,a,op,le,ri,af,av,ao,b,a0⟩:=l;show(if k=1∨k=2 then[a.rel] else if k=4 then iY b else[])=if k=1∨k=2 then[a.rel] else if k=4 then(b.filter fun x=>decide (x.kind=1∨x.kind=2)).map fun x=>x.atom.rel else[];by_cases h4:k=4
 ·rw[zu b (h h4)]
 ·rw[be h4,be h4]
def fN(l:Lit):Nat:=if l.kind=1 then 1 else 2
def aK(p:Prog):List (aj×aj×Nat):=p.rules.flatMap fun r=>r.body.flatMap fun l=>(named l).map fun t=>(r.head.rel,t,fN l)
def gD(hs:List (aj×aj×Nat))(a b:aj):Nat:=hs.foldl (fun m x=>if x.1=a∧x.2.1=b then max m x.2.2 else m) 0
theorem BD(hs:List (aj×aj×Nat))(x:aj×aj×Nat)(a b:aj):gD (hs++ [x]) a b=if x.1=a∧x.2.1=b then max (gD hs a b) x.2.2 else gD hs a b:=by
 simp[gD,YI]
theorem BF(a b:aj): ∀(hs:List (aj×aj×Nat)) (m:Nat),m<=hs.foldl (fun m x=>if x.1=a∧x.2.1=b then max m x.2.2 else m) m∧(∀k,(a,b,k)∈hs->k<=hs.foldl (fun m x=>if x.1=a∧x.2.1=b then max m x.2.2 else m) m)∧
  (hs.foldl (fun m x=>if x.1=a∧x.2.1=b then max m x.2.2 else m) m=m∨(a,b,hs.foldl (fun m x=>if x.1=a∧x.2.1=b then max m x.2.2 else m) m)∈hs)
 | [],m=>⟨W0 _,fun _ h=>(nomatch h), .inl Z⟩
 |(x,y,k)::hs,m=>by
  obtain⟨h1,h2,h3⟩:=BF a b hs (if x=a∧y=b then max m k else m);rw[Xq];refine⟨Xz ?_ h1,fun k' hk=>?_,?_⟩
  ·split<;>omega
  ·rcases Xb.1 hk with h|h
   ·cases h;refine Xz ?_ h1;rw[am ⟨rfl,rfl⟩];exact Nat.le_max_right _ _
   ·exact h2 k' h
  ·rcases h3 with h3|h3
   ·by_cases a0:x=a∧y=b
    ·rw[am a0]at h3;rcases Nat.le_total m k with h4|h4
     ·right;rw[aal h4]at h3;obtain⟨rfl,rfl⟩:=a0;simp only[and_self,if_true,aal h4]at h3 ⊢;rw[h3];simp
     ·left;rw[Nat.max_eq_left h4]at h3;simp only[a0,and_self,if_true,Nat.max_eq_left h4]at h3 ⊢;exact h3
    ·rw[be a0]at h3;left;simp only[be a0];exact h3
   ·exact .inr (W8 _ h3)
theorem QW{hs:List (aj×aj×Nat)}{a b:aj}{k:Nat}(h:(a,b,k)∈hs):k<=gD hs a b:=(BF a b hs 0).2.1 k h
theorem GS(hs:List (aj×aj×Nat))(a b:aj):gD hs a b=0∨(a,b,gD hs a b)∈hs:=(BF a b hs 0).2.2
theorem Bv(l:Lit):fN l<=2:=by unfold fN;split<;>omega
theorem SC(p:Prog)(a b:aj):gD (aK p) a b<=2:=by
 rcases GS (aK p) a b with h|h
 ·omega
 ·generalize gD (aK p) a b=k at h;simp only[aK,Yw,Xt,W9]at h;obtain⟨r,_,l,_,t,_,_,_,h⟩:=h;rw[<-h];exact Bv l
def ns(p:Prog):List aj:=eH (p.aB.map Decl.name)
theorem o9: ∀(l a:List aj),pj a->pj (l.foldl ins a)
 | [],_,h=>h
 |x::l,a,h=>o9 l (ins a x) (sP h x)
theorem ua{x:aj}: ∀(l a:List aj),x∈l.foldl ins a↔x∈a∨x∈l
 | [],a=>by simp
 |y::l,a=>by rw[Xq,ua l,wA,Xb,or_assoc]
theorem HZ{p:Prog}(h:(p.aB.map Decl.name).Nodup):(p.aB.map Decl.name).foldl ins []=ns p:=
 lO (o9 _ _ YG) (fB h) fun x=>by rw[ua,ns,c8];simp
theorem pj.J9{l:List aj}(h:pj l):l.Nodup:=by
 refine aah ?_ h;intro a b a0 e;subst e;exact jY _ a0
def eg(p:Prog)(a b:aj):Bool:=decide (gD (aK p) a b≠0)
def EB(p:Prog)(a b:aj):Bool:=decide (gD (aK p) a b=2)
def Fu(p:Prog):List (aj×aj×Bool):=(ns p).flatMap fun a=>((ns p).filter (eg p a)).map fun b=>(a,b,EB p a b)
def ig(p:Prog):Nat->Nat->Bool:=Go.Rg.b3 (ns p) (eg p)
def eB(p:Prog):List (List aj):=(Go.Co.fo (ns p).length (Go.Co.jE (ns p).length (ig p)) (Go.Co.cls (ig p)) (ns p).length (fun _=>false)).map fun c=>c.map fun i=>(ns p).getD i default
def xN(p:Prog):Nat->Nat:=Go.Lv.high (Go.Rg.ed (ns p) (eg p)) (fun i j=>EB p ((ns p).getD i default) ((ns p).getD j default)) (ns p).length ((ns p).length+1)
def dJ(p:Prog):List (aj×Nat):=(Xc (ns p).length).map fun i=>((ns p).getD i default,xN p i)
theorem DN{p:Prog}{ring:aj->Int}(hr:Go.Rg.oj (ns p) (eg p) ring):
  Go.Rg.my (ns p) (fun a=>(ns p).filter (eg p a)) ring (ns p).length (fun _=>false)=eB p:=by
 rw[Go.Rg.ug hr (fun a _ b=>by rw[Xs])];have h:=Go.Co.zV (Go.Rg.p9 (ns p) (eg p)) (ns p).length (fun _=>false) (fun _ _ _ h=>by cases h);unfold eB ig;rw[h]
theorem Bj{p:Prog}(hs: ∀i j,Go.Rg.ed (ns p) (eg p) i j=true->ig p j i=true->EB p ((ns p).getD i default) ((ns p).getD j default)=false){i:Nat}(hi:i<(ns p).length):
  xN p i=Go.Le.OG (ns p).length (Go.Rg.ed (ns p) (eg p)) (fun i j=>EB p ((ns p).getD i default) ((ns p).getD j default)) (Go.Co.fo (ns p).length (Go.Co.jE (ns p).length (ig p)) (Go.Co.cls (ig p)) (ns p).length (fun _=>false)) (fun _=>0) i:=
 Go.Le.Km (Go.Rg.p9 (ns p) (eg p)) (fun _ _ h=>⟨(Go.Rg.j9.1 h).1,(Go.Rg.j9.1 h).2.1⟩) hs (Zo _) hi
theorem JN{p:Prog}(hn:(p.aB.map Decl.name).Nodup){f:Nat}(hf:(ns p).length<=f):Go.Rg.oj (ns p) (eg p) (Go.Tj.iU (fun a=>(ns p).filter (eg p a)) f (ns p) Go.Tj.St.o).ring:=
 Go.Rg.JM (V:=ns p) (pj.J9 (fB hn)) (fun a _ b=>by rw[Xs]) hf
def ringEq(p:Prog)(a b:aj):Bool:=(Xc (ns p).length).any fun i=>(Xc (ns p).length).any fun j=>decide ((ns p).getD i default=a)&&decide ((ns p).getD j default=b)&&Go.Co.cls (ig p) i j
theorem sr{p:Prog}{a b:aj}:ringEq p a b=true↔ ∃i j,i<(ns p).length∧j<(ns p).length∧(ns p).getD i default=a∧(ns p).getD j default=b∧ig p i j=true∧ig p j i=true:=by
 simp only[ringEq,XM,Xu,Xg,decide_eq_true_eq,Go.Co.cls];constructor
 ·rintro⟨i,hi,j,hj,⟨h1,h2⟩,h3,h4⟩;exact⟨i,j,hi,hj,h1,h2,h3,h4⟩
 ·rintro⟨i,j,hi,hj,h1,h2,h3,h4⟩;exact⟨i,hi,j,hj,⟨h1,h2⟩,h3,h4⟩
theorem vk{p:Prog}{ring:aj->Int}(hr:Go.Rg.oj (ns p) (eg p) ring){a b:aj}(ha:a∈ns p)(hb:b∈ns p):ringEq p a b=decide (ring a=ring b):=by
 rw[Xy,sr,decide_eq_true_eq];constructor
 ·rintro⟨i,j,hi,hj,rfl,rfl,h3,h4⟩;exact(hr i j hi hj).2 ⟨h3,h4⟩
 ·intro h;obtain⟨i,hi,rfl⟩:=Go.Rg.ki ha;obtain⟨j,hj,rfl⟩:=Go.Rg.ki hb;obtain⟨h3,h4⟩:=(hr i j hi hj).1 h;exact⟨i,j,hi,hj,rfl,rfl,h3,h4⟩
def kM(p:Prog)(r:aq):Bool:=r.body.any fun l=>decide (l.kind=1)&&ringEq p l.atom.rel r.head.rel
def ow(p:Prog)(r:aq):Option Lit:=r.body.find? fun l=>decide (l.kind≠1)&&(named l).any fun t=>ringEq p t r.head.rel
def vf(r:aq):Bool:=r.head.ae.any fun t=>decide (t.kind=1)&&!cj (np r) t.var
def kH(p:Prog)(r:aq):aZ:=match ow p r with
 |some l=>(70,l.at)
 |none=>if vf r=true∧kM p r=true then(71,r.at_) else aZ.z
def iy(p:Prog):aZ:=if(bF p).1≠0 then bF p else((p.rules.map (kH p)).find? fun d=>decide (d.1≠0)).getD aZ.z
def fg(p:Prog)(n:Int):Bool:=decide ((bF p).1=0)&&decide (1<=n)&&decide (n<=p.rules.length)&&kM p (p.rules.getD (n-1).toNat default)
def zf(p:Prog):Bool:=decide ((bF p).1=0)&&p.rules.all fun r=>r.body.all fun l=>decide (l.kind≠2)&&decide (l.kind≠4)
theorem vV{p:Prog}{r:aq}(h:(kH p r).1=0):ow p r=none:=by
 unfold kH at h;split at h
 ·cases h
 ·assumption
theorem wW{p:Prog}(h0:(bF p).1=0)(h:(iy p).1=0): ∀r∈p.rules,(kH p r).1=0:=by
 intro r hr;unfold iy at h;rw[be (by simpa using h0)]at h;cases hf:(p.rules.map (kH p)).find? fun d=>decide (d.1≠0) with
 |none=>
  have:=Yg.1 hf (kH p r) (X9 hr);simpa using this
 |some d=>
  rw[hf]at h;have:=ZK hf;simp only[ne_eq,decide_not,XF,decide_eq_false_iff_not]at this;exact absurd h this
theorem Cb{p:Prog}(h: ∀r∈p.rules,ow p r=none): ∀i j,Go.Rg.ed (ns p) (eg p) i j=true->ig p j i=true->EB p ((ns p).getD i default) ((ns p).getD j default)=false:=by
 intro i j he hf;obtain⟨hi,hj,_⟩:=Go.Rg.j9.1 he;cases hs:EB p ((ns p).getD i default) ((ns p).getD j default) with
 |false=>rfl
 |true=>
  rw[EB,decide_eq_true_eq]at hs;rcases GS (aK p) ((ns p).getD i default) ((ns p).getD j default) with h1|h1
  ·omega
  ·rw[hs]at h1;simp only[aK,Yw,Xt,W9]at h1;obtain⟨r,hr,l,hl,t,ht,h2,h3,h4⟩:=h1;have hk:l.kind≠1:=by
    intro hk;rw[fN,am hk]at h4;cases h4
   have:=Yg.1 (h r hr) l hl;simp only[Xg,decide_eq_true_eq,XM,not_and,not_exists]at this;refine absurd ?_ (this hk t ht);rw[sr];exact⟨j,i,hj,hi,h3.symm,h2.symm,hf,(Go.Rg.p9 (ns p) (eg p)).wg i j hi he⟩
end Go.Proofs.YtflegjieadkonaaGreatDoor
namespace Go.Re
open Go.Tj
variable {α:Type}
structure Eh (succ:α->List α) (S S':α->Prop) (a:α):Prop where
 HT: ∀x,S x->S' x
 here:S' a
 new: ∀x,S' x->S x∨om succ a x
 next: ∀x,S' x->S x∨ ∀y∈succ x,S' y
theorem Eh.skip{succ:α->List α}{S:α->Prop}{a:α}(h:S a):Eh succ S S a:=⟨fun _ h=>h,h,fun _ h=> .inl h,fun _ h=> .inl h⟩
structure WN (succ:α->List α) (S T:α->Prop) (a:α) (l:List α):Prop where
 HT: ∀x,S x->T x
 here:T a
 new: ∀x,T x->S x∨om succ a x
 next: ∀x,T x->S x∨x=a∨ ∀y∈succ x,T y
 done: ∀y∈l,T y
theorem WN.step{succ:α->List α}{S T T':α->Prop}{a b:α}{l:List α}(h:WN succ S T a l)(hb:b∈succ a)(p:Eh succ T T' b):WN succ S T' a (b::l):=by
 refine⟨fun x hx=>p.HT x (h.HT x hx),p.HT a h.here,fun x hx=>?_,fun x hx=>?_,fun y hy=>?_⟩
 ·rcases p.new x hx with h1|h1
  ·exact h.new x h1
  ·exact .inr ((om.step (.refl _) hb).trans h1)
 ·rcases p.next x hx with h1|h1
  ·rcases h.next x h1 with h2|h2|h2
   ·exact .inl h2
   ·exact .inr (.inl h2)
   ·exact .inr (.inr fun y hy=>p.HT y (h2 y hy))
  ·exact .inr (.inr h1)
 ·rcases Xb.1 hy with rfl|hy
  ·exact p.here
  ·exact p.HT y (h.done y hy)
structure Rc (succ:α->List α) (V:α->Prop) (T:α->Prop) (l:List α):Prop where
 new: ∀x,T x-> ∃r∈l,V r∧om succ r x
 next: ∀x,T x-> ∀y∈succ x,T y
 done: ∀r∈l,V r->T r
theorem Rc.step{succ:α->List α}{V T T':α->Prop}{l:List α}{a:α}(h:Rc succ V T l)(ha:V a)(p:Eh succ T T' a):Rc succ V T' (l++ [a]):=by
 refine⟨fun x hx=>?_,fun x hx y hy=>?_,fun r hr hv=>?_⟩
 ·rcases p.new x hx with h1|h1
  ·obtain⟨r,h2,h3⟩:=h.new x h1;exact⟨r,by simp[h2],h3⟩
  ·exact⟨a,by simp,ha,h1⟩
 ·rcases p.next x hx with h1|h1
  ·exact p.HT y (h.next x h1 y hy)
  ·exact h1 y hy
 ·rcases W7.1 hr with hr|hr
  ·exact p.HT r (h.done r hr hv)
  ·rw[W5]at hr;subst hr;exact p.here
theorem Rc.skip{succ:α->List α}{V T:α->Prop}{l:List α}{a:α}(h:Rc succ V T l)(ha: ¬V a):Rc succ V T (l++ [a]):=by
 refine⟨fun x hx=>?_,h.next,fun r hr hv=>?_⟩
 ·obtain⟨r,h2,h3⟩:=h.new x hx;exact⟨r,by simp[h2],h3⟩
 ·rcases W7.1 hr with hr|hr
  ·exact h.done r hr hv
  ·rw[W5]at hr;subst hr;exact absurd hv ha
theorem Rc.iff{succ:α->List α}{V T:α->Prop}{l:List α}(h:Rc succ V T l)(x:α):T x↔ ∃r∈l,V r∧om succ r x:=by
 refine⟨h.new x,fun⟨r,h1,h2,h3⟩=>?_⟩;have key: ∀{a b:α},om succ a b->T a->T b:=by
  intro a b hr
  induction hr with
  |refl=>exact id
  |step _ hc ih=>exact fun ha=>h.next _ (ih ha) _ hc
 exact key h3 (h.done r h1 h2)
end Go.Re
namespace Go.Proofs.YtflegjieadkonaaGreatDoor
open Go Go.Al
theorem CC(p:Prog): ∀i,(iV p i).length<=i
 |0=>W0 _
 |i+1=>by
  have:=CC p i;unfold iV;split<;>simp<;>omega
theorem Cq(p:Prog): ∀i,(jL p i).length<=i
 |0=>W0 _
 |i+1=>by
  have:=Cq p i;unfold jL;split<;>simp<;>omega
end Go.Proofs.YtflegjieadkonaaGreatDoor
namespace Go.Proofs.YtflegjieadkonaaGreatDoor
open Go Go.Al
section
variable {r t:aq} (hh:t.head=r.head) (hb: ∀x,x∈t.body↔x∈r.body)
include hh hb
end
section
variable {r t:aq} (hh:t.head=r.head) (hb: ∀x,x∈t.body↔x∈r.body)
include hh hb
end
structure WK (r t u:aq) (i k:Int):Prop where
 Vz: ∀x∈ff (aJ (bV r)),x∈ff (aJ (az r))
 Ub: ∀x∈ff (aJ (rA r)),x∈ff (aJ (bV r))
 outer:ff (aJ (az t))=ff (aJ (az r))
 lim:ff (aJ (bV t))=ff (aJ (bV r))
 plain:ff (aJ (rA t))=ff (aJ (rA r))
 loc:sJ t i=sJ r k
 sJ: ∀x∈sJ r k,x∉ff (aJ (az r))
 more: ∀x∈ff (aJ (bV r)),x∈ff (aJ (bV u))
 hasX:Sk [88]∈ff (aJ (bV u))
end Go.Proofs.YtflegjieadkonaaGreatDoor
namespace Go.Proofs.YtflegjieadkonaaGreatDoor
open Go Go.Al
def GH(p:Prog)(a:Atom)(i:Nat):Int:=(gP p a.rel).types.getD i default
def KQ(p:Prog)(a:Atom)(i:Nat)(m:NM):Option NM:=
 if(a.ae.getD i default).kind=2 then(if(a.ae.getD i default).val.kind=GH p a i then some m else none)
 else if(a.ae.getD i default).kind=1 then(if dV .str m (a.ae.getD i default).var=true∧ ¬bQ .str m (a.ae.getD i default).var 0=GH p a i then none else some (b6 .str m (a.ae.getD i default).var (GH p a i)))
 else some m
def QS(p:Prog)(a:Atom):Nat->Option NM
 |0=>some []
 |i+1=>(QS p a i).bind (KQ p a i)
theorem wm{n sz:Nat}{es:List (List PV)}(h:es.all (bs n)=true):(AO.row sz es).low n:=fun _ e he=>Xm.1 h e (Xo he)
def yD:List IV->List IV->Prop
 | [],[]=>True
 |p::r,q::s=>nA p q∧yD r s
 |_,_=>False
theorem yD.length: ∀{a b:List IV},yD a b->a.length=b.length
 | [],[],_=>rfl
 |_::_,_::_,h=>congrArg (· +1) (yD.length h.2)
 | [],_::_,h=>h.elim
 |_::_,[],h=>h.elim
theorem yD.get: ∀{a b:List IV},yD a b-> ∀(j:Nat) (q:IV),b[j]? =some q-> ∃p,a[j]? =some p∧nA p q
 | [],[],_,j,q,h=>by simp at h
 |p::r,q0::s,hh,j,q,h=>by
  cases j with
  |zero=>simp at h;subst h;exact⟨p,rfl,hh.1⟩
  |succ j=>simpa using yD.get hh.2 j q (by simpa using h)
 | [],_::_,hh,_,_,_=>hh.elim
 |_::_,[],hh,_,_,_=>hh.elim
def yd(i sz n:Nat):PV->Bool
 | .iv _=>true
 | .sl j off len s=>bif Xn j i then Xn s sz&&YQ (off+len) n else true
 |_=>false
theorem IE{i sz n:Nat}{p:PV}(h:yd i sz n p=true):p.bH i sz n:=by
 cases p with
 |iv=>trivial
 |sl j off len s=>
  simp only[yd]at h;show if j=i then s=sz∧off+len<=n else True;split
  ·rename_i e;subst e;simp only[Nat.beq_refl,cond_true,Xg]at h;exact⟨Xh h.1,WR h.2⟩
  ·trivial
 |_=>cases h
theorem xl{i sz n:Nat}: ∀{l:List PV},l.all (yd i sz n)=true->dw i sz n l
 | [],_=>trivial
 |p::r,h=>by
  rw[ZT,Xg]at h;exact⟨IE h.1,xl h.2⟩
def xt(i sz n:Nat):AH->Bool
 | []=>true
 |(_,none)::r=>xt i sz n r
 |(_,some (.cells cs _))::r=>cs.all (yd i sz n)&&xt i sz n r
 |(_,some (.row _ es))::r=>(es.all fun e=>e.all (yd i sz n))&&xt i sz n r
 |_::_=>false
theorem fC{i sz n:Nat}: ∀{h:AH},xt i sz n h=true->h.uQ i sz n
 | [],_=>trivial
 |(_,none)::r,h=>fC (h:=r) h
 |(_,some (.cells cs _))::r,h=>by
  simp only[xt,Xg]at h;exact⟨xl h.1,fC h.2⟩
 |(_,some (.row _ es))::r,h=>by
  simp only[xt,Xg]at h;exact⟨fun e he=>xl (Xm.1 h.1 e he),fC h.2⟩
 |(_,some (.bG _ _))::r,h=>by simp[xt]at h
 |(_,some .fY)::r,h=>by simp[xt]at h
 |(_,some (.map ..))::r,h=>by simp[xt]at h
 |(_,some (.bS ..))::r,h=>by simp[xt]at h
 |(_,some (.eJ ..))::r,h=>by simp[xt]at h
end Go.Proofs.YtflegjieadkonaaGreatDoor
namespace Go.Al
section
variable {P:Program} {ty:Ty} {nt:Nat} {Q:AQ} {k:List KI} {s:AS}
theorem Ew(q0:cz P ty){o:Oper}{t:TypeId}{a x:Operand}(ho:o.op= .store t a x)(hd:o.dst=none){i sz q:Nat}{e:cI}(he:ty t=some e)(z0:e.size=sz){es:List (List PV)}{xs:List PV}
  (ha:ev s.f a= .dC i sz q 0) (hi:s.h.get i=some (.row sz es)) (hq:q<es.length) (s0:(ev s.f x).cells=some xs) (j0:xs.length=sz) (e0:jb xs=true):
  OT P nt o s (fun u=>u=⟨s.f,(i,some (.row sz (es.set q xs)))::s.h,s.nx⟩):=by
 have hp:putDst nt o .any ⟨s.f,(i,some (.row sz (es.set q xs)))::s.h,s.nx⟩=some ⟨s.f,(i,some (.row sz (es.set q xs)))::s.h,s.nx⟩:=by simp only[putDst,hd]
 refine OT.skip hp fun M N b w hf=>?_;have hu:=bf hf.2.1 a;have hy:=bf hf.2.1 x;rw[ha]at hu;generalize m0:b.eval a=u at hu;generalize r0:b.eval x=y at hy
 have key: ∃w',(Instr.storeAt t u y).run P w= .ok () w'∧Ext M N (· <s.nx) s.h w M N (· <s.nx) ((i,some (.row sz (es.set q xs)))::s.h) w'∧Fits M N ⟨s.f,(i,some (.row sz (es.set q xs)))::s.h,s.nx⟩ nt b w':=by
  cases hu with
  |dC _ _ _ _ hU=>
   obtain⟨hl,hv⟩:=qs hy s0;have y0:y.cells.size=sz:=by omega
   rcases hf.1.obj i _ hi with h0|⟨h0,c,T,g1,g2,g3,g4,g5⟩
   ·rw[h0]at hq;simp at hq
   have c0:(q+1)*sz<=es.length*sz:=Xw _ hq;have a1:q*sz+sz<=c.size:=by rw[Y7]at c0;omega
   have b0: ∀z∈y.cells.toList,z.oneCell'=true:=by
    intro v t0;obtain⟨j,hj⟩:=XP t0;have n0:j<y.cells.toList.length:=(WX.1 hj).1;have i0:xs[j]? =some (xs[j]'(by simp at n0;omega)):=WY _;have:=(hv j _ i0).one (oi e0 j _ i0);rw[WT]at this;have v0:y.cells[j]? =some v:=by simpa using hj
    rw[v0]at this;exact this
   have d0:=run_storeCells_at P (N.aI i) (q*sz) T y.cells.toList 0 c w g1 (by simp;omega) b0;refine⟨w.setRow (N.aI i) (c.toList.take (q*sz+0)++y.cells.toList++c.toList.drop (q*sz+0+y.cells.toList.length)).toArray,?_,?_⟩
   ·have a0:=ct (w:=w) (q0 t e he);have p0:y.cells.size=e.size:=by omega
    simp only[Instr.storeAt,Instr.sureAddr,pure_bind,storeVar,Sem.run_bind,a0,Result.andThen_ok,p0,ne_eq,not_true_eq_false,if_false];exact d0
   ·have f0:=setRow_heap w (N.aI i) c (c.toList.take (q*sz+0)++y.cells.toList++c.toList.drop (q*sz+0+y.cells.toList.length)).toArray T (0,0) g1;have hne: ∀b,b≠N.aI i->(w.setRow (N.aI i) (c.toList.take (q*sz+0)++y.cells.toList++c.toList.drop (q*sz+0+y.cells.toList.length)).toArray).heap[b]? =w.heap[b]? :=by
     intro b hb;simp only[World.setRow,XR];rw[be (fun e=>hb e.symm)]
    have x0:(AO.row sz es).real=true:=by cases es with
     |nil=>simp at hq
     |cons=>rfl
    have k0: ∀m,(c.toList.take (q*sz+0)++y.cells.toList++c.toList.drop (q*sz+0+y.cells.toList.length)).toArray.getD m undef=if q*sz<=m∧m<q*sz+sz then y.cells.getD (m-q*sz) undef else c.getD m undef:=by
     intro m;rw[WT,WT,WT];have o0:y.cells.toList.length=sz:=by simp;omega
     split
     ·rename_i hm;have e1:(c.toList.take (q*sz+0)++y.cells.toList++c.toList.drop (q*sz+0+y.cells.toList.length)).toArray[m]? =y.cells[m-q*sz]? :=by
       simp only[Yf];rw[Xf (by simp;omega),Xj (by simp;omega)];simp only[XH,Array.length_toList,X4];congr 1;omega
      rw[e1]
     ·rename_i hm;have e1:(c.toList.take (q*sz+0)++y.cells.toList++c.toList.drop (q*sz+0+y.cells.toList.length)).toArray[m]? =c[m]? :=by
       simp only[Yf];rcases X3 m (q*sz) with k1|k1
       ·rw[Xa,Xf (by simp;omega),XY,am (by omega),X4]
       ·rw[Xj (by simp;omega),Yc,X4];congr 1;simp;omega
      rw[e1]
    have:=hf.1.write hi x0 (w.setRow (N.aI i) (c.toList.take (q*sz+0)++y.cells.toList++c.toList.drop (q*sz+0+y.cells.toList.length)).toArray) (.row sz (es.set q xs)) Z Z Z (by simp) hne
     (.inr ⟨h0,_,T,f0,by simp;omega,by simp;omega,fun k2 e2 h2=>?_,fun k2 e2 j2 p2 h2 h3=>?_⟩)
    ·exact⟨this.1,this.2,hf.2.1,hf.2.2⟩
    ·rw[XK]at h2;split at h2
     ·cases h2;exact j0
     ·exact g4 k2 e2 h2
    ·rw[k0];rw[XK]at h2;split at h2
     ·rename_i g0;subst g0;cases h2;have w0:j2<sz:=by rw[<-j0];exact(WX.1 h3).1
      rw[am (by omega),show q*sz+j2-q*sz=j2 by omega];exact hv j2 p2 h3
     ·rename_i g0;have w0:j2<sz:=by rw[<-g4 k2 e2 h2];exact(WX.1 h3).1
      rw[be ?_]
      ·exact g5 k2 e2 j2 p2 h2 h3
      ·intro⟨e1,e2⟩;rcases Nat.lt_trichotomy q k2 with hlt|heq|hgt
       ·have:(q+1)*sz<=k2*sz:=Xw _ hlt;rw[Y7]at this;omega
       ·exact g0 heq
       ·have:(k2+1)*sz<=q*sz:=Xw _ hgt;rw[Y7]at this;omega
 obtain⟨w',h1,h2,h3⟩:=key;refine⟨w',M,N,?_,h2,h3⟩;simp only[execOp,ho];simp[m0,r0,h1]
theorem mo(c0:cz P ty){all rest:List Oper}{o:Oper}{t:TypeId}{a x:Operand}(ho:o.op= .store t a x)(hd:o.dst=none)(hg:o.guard=none){i sz q:Nat}{e:cI}(he:ty t=some e)(e0:e.size=sz){es:List (List PV)}{xs:List PV}
  (ha:ev s.f a= .dC i sz q 0) (hi:s.h.get i=some (.row sz es)) (hq:q<es.length) (d0:(ev s.f x).cells=some xs) (b0:xs.length=sz) (a0:jb xs=true)
  {s':AS} (hs:(⟨s.f,(i,some (.row sz (es.set q xs)))::s.h,s.nx⟩:AS)=s') (h:GO P nt (.ops all rest::k) Q s'):GO P nt (.ops all (o::rest)::k) Q s:=
 ep hg (Ew c0 ho hd he e0 ha hi hq d0 b0 a0) fun u hu=>by subst hu;subst hs;exact h
end
theorem fO{P:Program}{nt:Nat}{Q:AQ}{k:List KI}{s:AS}{c:Code}(i:Nat){sz:Nat}{es:List (List PV)}(el:Nat->List IV)(hi:s.h.get i=some (.row sz es))(k0: ∀k e,es[k]? =some e->e=(el k).map .iv)
  (hf:s.f.rD i sz es.length) (hh:s.h.uQ i sz es.length) (h:GO P nt (.code c::k) Q ⟨s.f.iu i sz el,(i,none)::s.h.gH i sz el,s.nx⟩):GO P nt (.code c::k) Q s:=by
 intro M N a w a0;obtain⟨M',h1,h2,h4⟩:=wK a0.1 hi k0;have hg: ∀j o,AH.get ((i,none)::s.h.gH i sz el) j=some o-> ∃p,AH.get ((i,none)::s.h) j=some p∧s.h.get j=some p∧o=p.gH i sz el:=by
  intro j o hj;obtain⟨g1,g2⟩:=bz j o hj;rw[AH.j8,W6]at g2;obtain⟨p,g3,g4⟩:=g2;exact⟨p,by rw[AH.au,be g1];exact g3,g3,g4.symm⟩
 have hE:Ext M N (· <s.nx) s.h w M' N (· <s.nx) ((i,none)::s.h.gH i sz el) w:=⟨h1.os,h1.tape,h1.output,h1.size,h1.jq,h1.rF,h1.jM,h1.nm,h1.ule,fun j o hj b0=>by
  obtain⟨p,g1,_,rfl⟩:=hg j o hj;rw[AO.mr]at b0
  exact h1.iW j p g1 b0⟩
 have hR:Rel M' N (· <s.nx) ((i,none)::s.h.gH i sz el) w:=by
  refine⟨h2.dF,fun j o hj=>?_,fun j o hj b0=>?_,fun j o hj=>?_,fun j k o p hj hk ho hp=>?_⟩
  ·obtain⟨p,g1,_,rfl⟩:=hg j o hj;exact h2.used j p g1
  ·obtain⟨p,g1,_,rfl⟩:=hg j o hj;rw[AO.mr]at b0;exact h2.eK j p g1 b0
  ·obtain⟨p,g1,g2,rfl⟩:=hg j o hj;cases p with
   |cells cs T0=>
    obtain⟨c,T,q1,q2,q3,q4,q5⟩:=a0.1.obj j _ g2;have d0:=AH.nQ hh j _ g2;refine⟨c,T,q1,q2,by simpa[fE]using q3,fun k q hq=>?_,q5⟩;rw[fE,W1,W6]at hq;obtain⟨q0,f0,rfl⟩:=hq;exact h4 _ _ (q4 k q0 f0) (gE d0 k q0 f0)
   |row s2 es2=>
    have d0:=AH.nQ hh j _ g2;rcases a0.1.obj j _ g2 with rfl|⟨q0,c,T,q1,q2,q3,q4,q5⟩
    ·exact .inl Z
    ·refine .inr ⟨q0,c,T,q1,q2,by simpa using q3,fun k e he=>?_,fun k e j2 p he hp=>?_⟩
     ·rw[W1,W6]at he;obtain⟨e0,c0,rfl⟩:=he;rw[fE,Xr];exact q4 k e0 c0
     ·rw[W1,W6]at he;obtain⟨e0,c0,rfl⟩:=he;rw[fE,W1,W6]at hp;obtain⟨p0,g0,rfl⟩:=hp;exact h4 _ _ (q5 k e0 j2 p0 c0 g0) (gE (d0 e0 (Xo c0)) j2 p0 g0)
   |bG=>exact h2.obj j _ g1
   |fY=>exact h2.obj j _ g1
   |map=>exact h2.obj j _ g1
   |bS=>exact h2.obj j _ g1
   |eJ=>exact h2.obj j _ g1
  ·obtain⟨o',g1,_,rfl⟩:=hg j o hj;obtain⟨p',g2,_,rfl⟩:=hg k p hk;rw[AO.mr]at ho hp;exact h2.inj j k o' p' g1 g2 ho hp
 have m0:Fits M' N ⟨s.f.iu i sz el,(i,none)::s.h.gH i sz el,s.nx⟩ nt a w:=⟨hR,fun d=>by
  rw[AF.mq];exact h4 _ _ (a0.2.1 d) (AF.oA hf d),a0.2.2⟩
 exact AW.then h m0 fun e a2 w2 M2 N2 s2 i0 n0 j0=>⟨M2,N2,s2,hE.trans i0,n0,j0⟩
end Go.Al
namespace Go.Proofs.YtflegjieadkonaaGreatDoor
open Go Go.Al
theorem jV: ∀(l:List Lit) (x:Lit),Lit.ax (l++ [x])=Lit.ax l+x.size
 | [],x=>by simp[Lit.ax]
 |y::r,x=>by simp only[Ym,Lit.ax,jV r x];omega
theorem Gc(p:Prog): ∀i,∀d∈iV p i,¬d.1=0
 |0,d,h=>by cases h
 |i+1,d,h=>by
  rw[iV]at h;rcases W7.1 h with h|h
  ·exact Gc p i d h
  ·split at h
   ·cases h
   ·rename_i g;rw[W5]at h;subst h;exact g
theorem F5(p:Prog): ∀i,∀d∈jL p i,¬d.1=0
 |0,d,h=>by cases h
 |i+1,d,h=>by
  rw[jL]at h;rcases W7.1 h with h|h
  ·exact F5 p i d h
  ·split at h
   ·cases h
   ·rename_i g;rw[W5]at h;subst h;exact g
theorem Ir(p:Prog): ∀d∈jF p,¬d.1=0:=fun d h=>by
 rcases W7.1 h with h|h
 ·exact Gc p _ d h
 ·exact F5 p _ d h
theorem Fw(p:Prog):(bF p).1=0↔jF p=[]:=by
 unfold bF;cases h:jF p with
 |nil=>exact⟨fun _=>rfl,fun _=>rfl⟩
 |cons d l=>exact⟨fun e=>absurd e (Ir p d (by rw[h];exact Xd)),fun e=>nomatch e⟩
theorem Cp(p:Prog): ∀n,jL p n=[]↔ ∀i,i<n->(pd p i).1=0
 |0=>⟨fun _ i h=>absurd h (Y6 i),fun _=>rfl⟩
 |n+1=>by
  rw[jL,ZD,Cp p n];constructor
  ·rintro⟨h1,h2⟩ i hi;rcases Y1.1 hi with h|h
   ·exact h1 i h
   ·subst h;by_cases g:(pd p i).1=0
    ·exact g
    ·rw[be g]at h2;cases h2
  ·intro h;exact⟨fun i hi=>h i (by omega),am (h n (by omega))⟩
theorem bZ{α:Type}[Inhabited α]{l:List α}{i:Nat}(hi:i<l.length):l.getD i default∈l:=by rw[WU,WY hi];exact XD hi
structure jN (p:Prog):Prop where
 nodup:(p.aB.map Decl.name).Nodup
 len:p.aB.length<=64
 zP: ∀r∈p.rules,r.head.rel∈p.aB.map Decl.name
 lits: ∀r∈p.rules,∀l∈r.body,∀t∈named l,t∈p.aB.map Decl.name
 flat: ∀r∈p.rules,∀l∈r.body,l.kind=4-> ∀x∈l.ar,x.kind≠4
theorem CB(p:Prog): ∀n,iV p n=[]-> ∀i,i<n->dc p i=0
 |0,_,i,h=>absurd h (Y6 _)
 |n+1,h,i,hi=>by
  rw[iV]at h;obtain⟨h1,h2⟩:=ZD.1 h;rcases Y1.1 hi with h3|h3
  ·exact CB p n h1 i h3
  ·subst h3;exact Decidable.byContradiction fun hc=>by rw[be hc]at h2;cases h2
theorem vl{d:Decl}{i k:Int}(h:sw d i k=0): ¬i>=64∧ ¬k>0:=by
 unfold sw at h;split at h
 ·cases h
 ·split at h
  ·cases h
  ·rename_i h2;split at h
   ·cases h
   ·rename_i h3;exact⟨fun g=>h2 (.inl g),h3⟩
theorem xy{α:Type}[Inhabited α]: ∀(n:Nat) (l:List α),l.length=n->(∀i,i<l.length->l.getD i default∉l.take i)->l.Nodup
 |0,l,hn,_=>by rw[YO.1 hn];exact XT
 |n+1,l,hn,h=>by
  have hd:l=l.take n++ [l.getD n default]:=by rw[<-aN (by omega),W2 (by omega)]
  have h1:=xy n (l.take n) (by rw[XH];omega) fun i hi=>by
   rw[XH]at hi;have:=h i (by omega);rw[List.take_take,Nat.min_eq_left (by omega),WU,XY,am (by omega),<-WU];exact this
  rw[hd,Yy];refine⟨h1,by simp,fun a ha b hb e=>?_⟩;rw[W5]at hb;subst e;subst hb;exact h n (by omega) ha
theorem Cy{s:aj}: ∀(l:List Decl) (m:DM),dV .str (l.foldl gY m) s=true->s∈m.map Xl∨s∈l.map Decl.name
 | [],m,h=> .inl (pX.1 h)
 |d::l,m,h=>by
  rw[Xq]at h;rcases Cy l _ h with h1|h1
  ·unfold gY at h1;split at h1
   ·exact .inl h1
   ·rename_i h2;rw[dN (fun g=>h2 (pX.2 g))]at h1;rcases W7.1 h1 with h3|h3
    ·exact .inl h3
    ·rw[W5]at h3;subst h3;exact .inr Xd
  ·exact .inr (W8 _ h1)
theorem Pn{p:Prog}{a:Atom}(h:lz p a=false):a.rel∈p.aB.map Decl.name:=by
 unfold lz at h;rw[YA]at h;rcases Cy p.aB [] h with h1|h1
 ·cases h1
 ·exact h1
theorem oF{r:aq}{e:Int}(he:e≠0){f:Int->Bool}{k:aZ}(h:(bB r e f k).1=0):(∀lit∈iH r.body.length,f lit=false)∧k.1=0:=by
 unfold bB at h;split at h
 ·exact absurd h he
 ·rename_i h1;refine⟨fun lit hl=>?_,h⟩;have:=Yg.1 h1 lit hl;simpa using this
theorem EE{p:Prog}{r:aq}{n:Int}(h:(tz p r n).1=0):(xC p r).1=0:=by
 unfold tz at h;split at h
 ·cases h
 ·split at h
  ·cases h
  ·split at h
   ·cases h
   ·split at h
    ·cases h
    ·split at h
     ·cases h
     ·exact h
theorem OB(n:Nat):(-1:Int)∈iH n:=Xt.2 ⟨0,by simp,by simp⟩
theorem Gm{n i:Nat}(h:i<n):(i:Int)∈iH n:=Xt.2 ⟨i+1,by simp;omega,by simp⟩
theorem H3{l:Lit}{t:aj}(hf:l.kind=4-> ∀x∈l.ar,x.kind≠4)(h:t∈named l): ∃a∈(if l.kind=4 then l.ar else[l]).flatMap bU,a.rel=t:=by
 rw[CY l hf]at h;unfold Bi at h;split at h
 ·rename_i hk;rw[W5]at h;have h4: ¬l.kind=4:=by omega
  refine⟨l.atom,?_,h.symm⟩;rw[be h4,Yw];exact⟨l,YP _,by rw[bU,am hk];exact YP _⟩
 ·split at h
  ·rename_i h4;obtain⟨x,hx,rfl⟩:=Xt.1 h;obtain⟨h5,h6⟩:=Xs.1 hx;refine⟨x.atom,?_,rfl⟩;rw[am h4,Yw];exact⟨x,h5,by rw[bU,am (zT h6)];exact YP _⟩
  ·cases h
theorem oM{p:Prog}(h:(bF p).1=0):jN p:=by
 have hF:=(Fw p).1 h;unfold jF at hF;obtain⟨h1,h2⟩:=ZD.1 hF;have h1:=CB p _ h1;have h2:=(Cp p _).1 h2;have a0: ∀r∈p.rules,(xC p r).1=0:=by
  intro r hr;obtain⟨i,hi,rfl⟩:=Ye.1 hr;have:=EE (h2 i hi);rwa[WU,WY hi]at this
 have c0: ∀r∈p.rules,∀lit∈iH r.body.length,∀a∈bu r lit,a.rel∈p.aB.map Decl.name:=by
  intro r hr lit hl a ha;have:=(oF (by decide) (a0 r hr)).1 lit hl;exact Pn (by simpa using XO.1 this a ha)
 have b0: ∀r∈p.rules,∀l∈r.body,l.kind=4-> ∀x∈l.ar,x.kind≠4:=by
  intro r hr l hl h4 x hx;obtain⟨i,hi,rfl⟩:=Ye.1 hl;have:=(oF (by decide) (oF (by decide) (oF (by decide) (a0 r hr)).2).2).1 _ (Gm hi);have e:ah r (i:Int)=r.body[i]:=by unfold ah;simp[WU,hi]
  unfold dA at this;rw[be (by omega),e,am h4,XL]at this;simpa using XO.1 this.1 x hx
 refine⟨xy _ _ Z fun i hi hm=>?_,?_,fun r hr=>?_,fun r hr l hl t ht=>?_,b0⟩
 ·rw[Xr]at hi;have:=(vl (h1 i hi)).2;rw[bL]at this;have h3:s8 (dH p i) (p.aB.getD i default).name=0:=by omega
  rw[qZ]at h3;apply h3;unfold dH;rw[WU,W1,WY hi,<-aaf]at hm;rw[WU,WY hi];exact hm
 ·refine YY fun hc=>?_
  have:=(vl (h1 64 hc)).1;omega
 ·exact c0 r hr (-1) (OB _) r.head (by unfold bu;simp)
 ·obtain⟨i,hi,rfl⟩:=Ye.1 hl;obtain⟨a,ha,rfl⟩:=H3 (b0 r hr _ hl) ht;refine c0 r hr _ (Gm hi) a ?_;have e:ah r (i:Int)=r.body[i]:=by unfold ah;simp[WU,hi]
  unfold bu oH;rw[be (by omega),e];exact ha
theorem jN.aK{p:Prog}(h:jN p){x:aj×aj×Nat}(hx:x∈aK p):x.1∈p.aB.map Decl.name∧x.2.1∈p.aB.map Decl.name∧0<x.2.2:=by
 simp only[_root_.Go.Proofs.YtflegjieadkonaaGreatDoor.aK,Yw,Xt]at hx;obtain⟨r,hr,l,hl,t,ht,rfl⟩:=hx;refine⟨h.zP r hr,h.lits r hr l hl t ht,?_⟩;show 0<fN l;unfold fN;split<;>omega
abbrev GM:=List ((KC.str).K×Option NM)
def HP:Option NM->IV
 |none=> .v (.map none)
 |some r=>td r
abbrev qV(m:GM):IV:= .fw .str HP none (.map none) m
def FD(a0:NM)(t:aj)(b0:Int):NM:=b6 .str a0 t (max (bQ .str a0 t 0) b0)
def cY(hs:List (aj×aj×Nat))(a:aj):NM:=hs.foldl (fun a0 x=>if x.1=a then FD a0 x.2.1 x.2.2 else a0) []
def bA(p:Prog)(hs:List (aj×aj×Nat)):GM:=p.aB.map fun r=>(r.name,some (cY hs r.name))
def xQ(p:Prog):IV:=if(bF p).1=0 then qV (bA p (aK p)) else .v (.map none)
theorem nN(hs:List (aj×aj×Nat))(x:aj×aj×Nat)(a:aj):cY (hs++ [x]) a=if x.1=a then FD (cY hs a) x.2.1 x.2.2 else cY hs a:=by
 simp[cY,YI]
theorem F8(hs:List (aj×aj×Nat))(a b:aj):bQ .str (cY hs a) b 0=(gD hs a b:Int):=by
 induction hs using lP with
 |h0=>rfl
 |h1 hs x ih=>
  rw[nN,BD];by_cases h:x.1=a
  ·rw[am h,FD,iG];by_cases h2:x.2.1=b
   ·rw[am h2,am ⟨h,h2⟩,h2,ih];omega
   ·rw[be h2,be (fun g=>h2 g.2),ih]
  ·rw[be h,be (fun g=>h g.1),ih]
theorem qN(hs:List (aj×aj×Nat))(a:aj):((cY hs a).map Xl).Nodup∧ ∀b:aj,b∈(cY hs a).map Xl↔ ∃k,(a,b,k)∈hs:=by
 induction hs using lP with
 |h0=>exact⟨XT,fun b=>by simp[cY]⟩
 |h1 hs x ih=>
  obtain⟨b0,a0⟩:=ih;obtain⟨y,z,k⟩:=x;rw[nN];by_cases h:y=a
  ·rw[am h,FD];by_cases h2:z∈(cY hs a).map Xl
   ·rw[oL h2];refine⟨b0,fun b=>?_⟩;rw[a0];constructor
    ·rintro⟨j,hj⟩;exact⟨j,Xv _ hj⟩
    ·rintro⟨j,hj⟩;rcases W7.1 hj with hj|hj
     ·exact⟨j,hj⟩
     ·rw[W5]at hj;cases hj;exact(a0 z).1 h2
   ·rw[dN h2];refine⟨Yy.2 ⟨b0,by simp,fun u hu v hv e=>?_⟩,fun b=>?_⟩
    ·rw[W5]at hv;subst e;subst hv;exact h2 hu
    ·rw[W7,a0,W5];constructor
     ·rintro(⟨j,hj⟩|rfl)
      ·exact⟨j,Xv _ hj⟩
      ·exact⟨k,Yp _ (by rw[h];exact YP _)⟩
     ·rintro⟨j,hj⟩;rcases W7.1 hj with hj|hj
      ·exact .inl ⟨j,hj⟩
      ·rw[W5]at hj;cases hj;exact .inr Z
  ·rw[be h];refine⟨b0,fun b=>?_⟩;rw[a0];constructor
   ·rintro⟨j,hj⟩;exact⟨j,Xv _ hj⟩
   ·rintro⟨j,hj⟩;rcases W7.1 hj with hj|hj
    ·exact⟨j,hj⟩
    ·rw[W5]at hj;cases hj;exact absurd Z h
theorem JH(hs:List (aj×aj×Nat))(a:aj):(cY hs a).length<=hs.length:=by
 induction hs using lP with
 |h0=>exact W0 _
 |h1 hs x ih=>
  rw[nN,WW,XC];split
  ·have:=xp (cY hs a) x.2.1 (max (bQ .str (cY hs a) x.2.1 0) x.2.2);unfold FD;omega
  ·omega
def a8(p:Prog)(a:aj):List aj:=(ns p).filter (eg p a)
theorem mM{p:Prog}(h:jN p)(a:aj):eH ((cY (aK p) a).map Xl)=a8 p a:=by
 refine lO (fB (qN _ _).1) (List.Pairwise.filter _ (fB h.nodup)) fun b=>?_;rw[c8,(qN _ _).2,a8,Xs,ns,c8,eg,decide_eq_true_eq];constructor
 ·rintro⟨k,hk⟩;have h1:=h.aK hk;refine⟨h1.2.1,?_⟩;have:=QW hk;have h2:0<k:=h1.2.2;omega
 ·rintro⟨_,h1⟩;rcases GS (aK p) a b with h2|h2
  ·exact absurd h2 h1
  ·exact⟨_,h2⟩
theorem KH(p:Prog)(hs:List (aj×aj×Nat)){a:aj}(h:a∈p.aB.map Decl.name):bQ .str (bA p hs) a none=some (cY hs a):=by
 unfold bA
 revert h
 generalize p.aB=l
 induction l with
 |nil=>intro h;cases h
 |cons d l ih=>
  intro h;simp only[Xe,bQ];by_cases e:d.name=a
  ·rw[am e,e]
  ·rw[be e];rw[Xe,Xb]at h;exact ih (h.resolve_left fun g=>e g.symm)
theorem Fg(p:Prog)(hs:List (aj×aj×Nat)):(bA p hs).map Xl=p.aB.map Decl.name:=by
 simp[bA]
theorem vq{b:List Lit}{i:Nat}(h:i<b.length):iY (b.take (i+1))=iY (b.take i)++named (b.getD i default):=by
 rw[pN,pN,aN h,YT];simp
mutual
theorem lE: ∀l:Lit,(named l).length<=l.size
 | .mk k a op le ri af av ao b at_=>by
  have:=sF b;unfold named Lit.size;split
  ·simp;omega
  ·split
   ·omega
   ·simp
theorem sF: ∀l:List Lit,(iY l).length<=Lit.ax l
 | []=>W0 _
 |l::r=>by
  have h1:=lE l;have h2:=sF r;simp only[iY,Lit.ax,WW];omega
end
theorem H0(b:List Lit)(i:Nat):(iY (b.take i)).length<=Lit.ax b:=by
 have h1:=sF (b.take i);have h2: ∀(b:List Lit) (i:Nat),Lit.ax (b.take i)<=Lit.ax b:=by
  intro b
  induction b with
  |nil=>intro i;simp[Lit.ax]
  |cons x r ih=>
   intro i;cases i with
   |zero=>simp[Lit.ax]
   |succ i=>have:=ih i;simp only[Yh,Lit.ax];omega
 exact Xz h1 (h2 b i)
def S6(n:Nat):Prop:= ∀l:Lit,l.size<=n->Pure Tryz.prog 90 [ag l.c] (.iv (strs (named l)))
theorem pO(l:Lit):named l=if l.kind=1∨l.kind=2 then[l.atom.rel] else if l.kind=4 then iY l.ar else[]:=by cases l;rfl
theorem JD: ∀n:Nat,n<=100000000000->S6 n
 |0,_=>fun l h=>absurd l.size_pos (by omega)
 |n+1,hn=>fun l h=>by
  have e0:=l.size_eq;refine Al.Pure.le (aa:=[ag l.c]) (args:=[ag l.c1]) ?_ ⟨l.xG,ac⟩;refine ad ab Tryz.func90 Z (by decide) Tryz.ntmps90 Z (by simp) Z ?_;refine gA Z (zI (fun k1=>?_) fun k1=>?_)
  ·have k1:l.kind=1:=by simpa using k1
   rw[pO,am (.inl k1)];refine gA Z (cU (by first|exact .inr Z|exact .inl Z) Z Z (rfl) (rfl))
  have k1: ¬l.kind=1:=by simpa using k1
  refine gA Z (zI (fun k2=>?_) fun k2=>?_)
  ·have k2:l.kind=2:=by simpa using k2
   rw[pO,am (.inr k2)];refine gA Z (cU (by first|exact .inr Z|exact .inl Z) Z Z (rfl) (rfl))
  have k2: ¬l.kind=2:=by simpa using k2
  rw[pO,be (by rintro(g|g);exact k1 g;exact k2 g)];refine gA Z (zI (fun k3=>?_) fun k3=>?_);rotate_left
  ·have k3: ¬l.kind=4:=by simpa using k3
   rw[be k3];refine gA Z (zL ?_);exact .nil _ _
  have k3:l.kind=4:=by simpa using k3
  rw[am k3];refine gA Z ?_;refine fb 3 1 Z ?_;refine aA 0 l.ar.length (W3 _) (fun i=>⟨[(3, .sl 2 0 (iY (l.ar.take i)).length 1),(19, .iv (lits l.ar)),(20,pI l.ar.length),(21,pI i)],[(2,some (aD 1 (iY (l.ar.take i)) cW))],3⟩) (fun _=>True) [1] ac
   (zW (zS trivial)) fun i hi _=>?_
  have a0:=H0 l.ar i;have b0:=Lit.aw l.ar;refine gA Z (zI (fun h1=>?_) fun h1=>?_)
  ·have h1:=ci h1;have c0:=Lit.aT l.ar i h1;have d0:=lE (l.ar.getD i default);refine gA Z (zp (JD n (by omega) (l.ar.getD i default) (by omega)) ?_);refine gA Z ⟨h1,ac,[4],zM ⟨.row (by rw[vq h1,WW]),rfl,bv (bv (bv ac))⟩ (hR Z (by rw[ox,vq h1,WZ]) Z ac)⟩
  ·have h1:=co h1;rw[W2 h1];refine gA Z (cU (by first|exact .inr Z|exact .inl Z) Z Z (rfl) (rfl))
theorem F3(l:Lit)(h:l.size<=100000000000):Pure Tryz.prog 90 [ag l.c] (.iv (strs (named l))):=JD l.size h l (W0 _)
end Go.Proofs.YtflegjieadkonaaGreatDoor
namespace Go.Al
section
variable {P:Program} {ty:Ty} {nt:Nat} {s:AS}
theorem xK{M:Mem}{N:Nm}{a:Act}{w:World}(hf:Fits M N s nt a w){x:Operand}{k:IntKind}{n:Int}(h:ev s.f x= .iv (.v (.int k n))):a.eval x= .int k n:=by
 have hi:=bf hf.2.1 x;rw[h]at hi;generalize a.eval x=v at hi;cases hi with
 |iv _ _ hi=>cases hi with
  |v=>rfl
theorem Uh(f0:cz P ty){o:Oper}{t u:TypeId}{l c:Operand}(ho:o.op= .makeSlice t l c){e eu:cI}(ht:ty t=some e)(hk:e.k= .bb (.slice u))(hu:ty u=some eu)
  {n m sz:Nat} {kl kc:IntKind} {ml nc:Int} (hl:ev s.f l= .iv (.v (.int kl ml))) (hc:ev s.f c= .iv (.v (.int kc nc))) (w0:ml=(m:Int)) (m0:nc=(n:Int)) (hn:0<n) (y0:n<=100000000000) (hb:eu.bytes*n<=281474976710656) (k0:eu.size=sz) (g0:eu.zero.cells.size=sz) (p0:0<sz)
  {z:List PV} (hz:z=cV eu.zero) {p:PV} (e0:(m=0∧p= .sl s.nx 1 0 sz)∨(m=n∧p= .sl s.nx 0 n sz))
  {s':AS} (hp:putDst nt o p (newObj s (.row sz (Zb n z)))=some s'):OT P nt o s (fun t=>t=s'):=by
 refine OT.value hp fun M N a w hf=>?_;subst hz k0 w0 m0;obtain⟨⟨ii,v0,n0,j0,s0⟩,_⟩:=f0 u _ hu
 have q0:P.underlying t=some (.slice u):=by
  have:=(f0 t _ ht).2.1;rw[hk]at this;exact this.1
 have x0:m<=n:=by rcases e0 with⟨h,_⟩|⟨h,_⟩<;>omega
 have a0:=run_make w t u ii eu.zero q0 v0 s0 kl kc (m:Int) (n:Int) (by omega) (by omega) (by rw[j0];omega) (by omega);rw[Xp,Xp,n0]at a0;have d0:(cV eu.zero).length=eu.size:=by rw[(fS (M:=M) (N:=N) (U:=(· <s.nx)) eu.zero).1,g0]
 have c0: ∀(k:Nat) (e:List PV),(Zb n (cV eu.zero))[k]? =some e->k<n∧e=cV eu.zero:=by
  intro k e he;rw[Zj]at he;split at he
  ·exact⟨by assumption,by simpa using he.symm⟩
  ·cases he
 obtain⟨N',h1,h2,h8,h9,r0⟩:=hf.1.alloc (.cells (madeCells eu.zero.cells (n*eu.size)) u) (.row eu.size (Zb n (cV eu.zero))) (n*eu.size) (fun N' g1 g2 g3=>
  .inr ⟨p0,_,u,by rw[g1];exact heap_alloc_new w _,by rw[size_madeCells,g2],by rw[size_madeCells,List.length_replicate];exact W0 _,fun k e he=>by rw[(c0 k e he).2,d0],fun k e j p he hj=>by
   obtain⟨i0,rfl⟩:=c0 k e he;have o0:j<eu.size:=by rw[<-d0];exact(WX.1 hj).1
   have hlt:k*eu.size+j<n*eu.size:=by
    have:(k+1)*eu.size<=n*eu.size:=Xw _ i0;rw[Yj]at this;omega
   have h7:(madeCells eu.zero.cells (n*eu.size)).getD (k*eu.size+j) undef=eu.zero.cells.getD j undef:=by
    have hx:(aaa (n*eu.size))[k*eu.size+j]? =some (k*eu.size+j):=by simp[hlt]
    have hm:(k*eu.size+j) % eu.zero.cells.size=j:=by rw[g0,Nat.add_comm,Nat.add_mul_mod_self_right,Nat.mod_eq_of_lt o0]
    rw[madeCells,WT,Zk,hx];simp only[XW,Yl,hm];rw[WT,getElem!_pos eu.zero.cells j (by omega),XS (by omega)];rfl
   rw[h7];exact(fS eu.zero).2 j p hj⟩)
 refine⟨.slice (some ⟨w.heap.size,0,none⟩) m n,_,M,N',?_,h9,eV hf h9 r0,?_⟩
 ·simp only[execOp,ho,xK hf hl,xK hf hc];rw[Sem.run_bind,a0];rfl
 ·have t0:(newObj s (.row eu.size (Zb n (cV eu.zero)))).nx=s.nx+1:=by cases s;rfl
  rw[t0];have b0:n<=maxLen:=by simp only[maxLen];omega
  rcases e0 with⟨rfl,rfl⟩|⟨rfl,rfl⟩
  ·have:=VR.sle (M:=M) (N:=N') (U:=(· <s.nx+1)) s.nx eu.size n (by omega) b0 (by rw[h2]);rw[h1]at this;exact this
  ·have:=VR.sl (M:=M) (N:=N') (U:=(· <s.nx+1)) s.nx 0 m eu.size m (by omega) hn (W0 _) b0 (by rw[h2,Xk]);rw[h1,Za]at this;exact this
theorem Sm(b0:cz P ty){o:Oper}{t u:TypeId}{l c:Operand}(ho:o.op= .makeSlice t l c){e eu:cI}(ht:ty t=some e)(hk:e.k= .bb (.slice u))(hu:ty u=some eu)
  {sz:Nat} (el:Nat->List IV) {kl kc:IntKind} {ml nc:Int} (hl:ev s.f l= .iv (.v (.int kl ml))) (hc:ev s.f c= .iv (.v (.int kc nc))) (i0:ml=0) (c0:nc=0)
  {s':AS} (hp:putDst nt o (.iv (.dq sz 0 el)) (newObj s (.row sz []))=some s'):OT P nt o s (fun t=>t=s'):=by
 refine OT.value hp fun M N a w hf=>?_;subst i0 c0;obtain⟨⟨ii,g0,k0,j0,f0⟩,_⟩:=b0 u _ hu
 have d0:P.underlying t=some (.slice u):=by
  have:=(b0 t _ ht).2.1;rw[hk]at this;exact this.1
 have a0:=run_make w t u ii eu.zero d0 g0 f0 kl kc 0 0 (by omega) (by omega) (by omega) (by omega);obtain⟨N',h1,h2,h8,h9,e0⟩:=hf.1.alloc (.cells (madeCells eu.zero.cells ((0:Int).toNat*ii.size)) u) (.row sz []) 0 (fun N' g1 g2 g3=> .inl Z);refine⟨.slice (some ⟨w.heap.size,0,none⟩) 0 0,_,M,N',?_,h9,eV hf h9 e0, .iv _ _ (.kQ _ _ _ _)⟩;simp only[execOp,ho,xK hf hl,xK hf hc];rw[Sem.run_bind,a0];rfl
theorem SP(e0:cz P ty){o:Oper}{t u:TypeId}{x hi:Operand}(ho:o.op= .slice t x none (some hi) none){e eu:cI}(ht:ty t=some e)(hk:e.k= .bb (.slice u))(hu:ty u=some eu)
  {i n m sz:Nat} {kc:IntKind} {mi:Int} (hx:ev s.f x= .sl i 0 n sz) (hh:ev s.f hi= .iv (.v (.int kc mi))) (f0:mi=(m:Int)) (i0:m<=n) (hn:0<n)
  {p:PV} (g0:(m=0∧p= .sl i 1 0 sz)∨(0<m∧p= .sl i 0 m sz)) {s':AS} (hp:putDst nt o p s=some s'):OT P nt o s (fun t=>t=s'):=by
 refine OT.value hp fun M N a w hf=>?_;subst f0
 have b0:P.underlying t=some (.slice u):=by
  have:=(e0 t _ ht).2.1;rw[hk]at this;exact this.1
 have c0:P.elem t=u:=by simp[Program.elem,b0]
 have d0:=bf hf.2.1 x;rw[hx]at d0;generalize hv:a.eval x=vx at d0;cases d0 with
 |ph=>omega
 |sl _ _ _ _ cap hU h0 hl hc hext=>
  have a0:=run_slice_h (P:=P) (w:=w) t (some ⟨N.aI i,0*sz,none⟩) n cap (by rw[c0];exact b0) kc (m:Int) (by omega) (by omega);rw[c0,ct (e0 u _ hu)]at a0;refine⟨sliced (some ⟨N.aI i,0*sz,none⟩) 0 m cap eu.size,w,M,N,?_, .refl _ _ _ _ _,hf,?_⟩
  ·simp only[execOp,ho,hv,XW,Z3,xK hf hh];refine bO ?_;rw[run_sliceAt_slice w t _ _ _ _ (by rw[c0];exact b0),a0];rfl
  ·rcases g0 with⟨rfl,rfl⟩|⟨hm,rfl⟩
   ·have:=VR.sle (M:=M) (N:=N) (U:=(· <s.nx)) i sz cap hU hc (by rw[<-hext,Xk]);simpa[sliced,Addr.add]using this
   ·have:=VR.sl (M:=M) (N:=N) (U:=(· <s.nx)) i 0 m sz cap hU hm (by omega) hc hext;simpa[sliced,Addr.add]using this
theorem Ph(r0:cz P ty){o:Oper}{x y:Operand}{t u:TypeId}(ho:o.op= .call ⟨.builtin .append, #[x,y], #[t,t]⟩){e eu:cI}(ht:ty t=some e)(hk:e.k= .bb (.slice u))(hu:ty u=some eu)
  {i sz:Nat} {es news:List (List PV)} {py:PV} (hx:ev s.f x= .sl i 1 0 sz) (hi:s.h.get i=some (.row sz es)) (a1:eu.size=sz) (k0:news.length<=es.length) (hm:0<news.length)
  (e1:ev s.f y=py) (hy:Src s.h sz py news) (o0: ∀e∈news,jb e=true)
  {s':AS} (hp:putDst nt o (.sl s.nx 0 news.length sz) (uk s i sz [] news)=some s'):OT P nt o s (fun t=>t=s'):=by
 refine OT.value hp fun M N a w hf=>?_;subst a1;obtain⟨⟨ii,l1,q0,m1,n1⟩,_⟩:=r0 u _ hu
 have f1:P.underlying t=some (.slice u):=by
  have:=(r0 t _ ht).2.1;rw[hk]at this;exact this.1
 have n0:=bf hf.2.1 x;rw[hx]at n0;have w0:=bf hf.2.1 y;rw[e1]at w0;obtain⟨m0,ao,c,z0,d0⟩:=hy.ok hf w0;have b0: ∀v w',(Builtin.append_ #[t,t] o.type #[a.eval x,a.eval y]).run P w= .ok v w'->(execOp a.eval o).run P w= .ok (.value v) w':=by
  intro v w' h;simp only[execOp,ho,resolve];simp[invoke,builtin,h]
 rw[z0]at b0;have e0:(AO.row eu.size es).real=true:=by cases es with
  |nil=>exact absurd k0 (by simp only[YB];omega)
  |cons=>rfl
 rcases hf.1.obj i _ hi with rfl|⟨hsz0,cur,T,q1,q2,q3,q4,q5⟩
 ·cases e0
 generalize a.eval x=vx at n0 b0;cases n0 with
 |sl _ _ _ _ _ _ h0=>exact absurd h0 (ZU _)
 |sle _ _ cap hU hc hext=>
  have g0:cur.size=cap*eu.size:=by rw[q2,<-hext]
  have a0:news.length<=cap:=by
   have:es.length*eu.size<=cap*eu.size:=by rw[<-g0];exact q3
   have:=Nat.le_of_mul_le_mul_right this hsz0;omega
  obtain⟨b2,off,i1,f0⟩:=d0 (List.ne_nil_of_length_pos hm);subst i1;obtain⟨vs,s0,x0,t0⟩:=AE (s:=s) f0;have i0:vs.length=news.length*eu.size:=by rw[s0,p4 m0]
  have b1:vs.length<=cur.size:=by rw[i0,g0];exact Xw _ a0
  have j0: ∀v∈vs,v.oneCell'=true:=by
   intro v hv;obtain⟨j,hj⟩:=XP hv;have y0:j<news.flatten.length:=by rw[<-s0];exact(WX.1 hj).1
   have hp:=WY y0;obtain⟨k,e,i',h1,h2,_⟩:=p5 m0 j _ hp;have:=(t0 j _ hp).one (oi (o0 e (Xo h1)) i' _ h2);rw[WU,hj]at this;exact this
  have c0:=nL (P:=P) (w:=w) t o.type u ii f1 l1 T (N.aI i) 0 cap cur q1 ⟨b2,off,none⟩ news.length c vs (by rw[i0,q0]) x0 j0 (by omega) (by rw[q0];omega);rw[q0]at c0;generalize hL:(cur.toList.take (0*eu.size)++vs++cur.toList.drop (0*eu.size+vs.length)).toArray=L at c0;rw[Xk]at c0;have v0:L.size=cur.size:=by rw[<-hL];simp;omega
  have p0:=setRow_heap w (N.aI i) cur L T (0,0) q1;have j1: ∀j,j<vs.length->L.getD j undef=vs.getD j undef:=by
   intro j hj;rw[<-hL,WT,WU];simp only[Yf];rw[Xf (by simp;omega),Xj (by simp)];simp
  obtain⟨h1,h2⟩:=hf.1.move hi e0 (w.setRow (N.aI i) L) (.row eu.size ([]++news)) Z Z Z (by simp) (fun b hb=>by
    simp only[World.setRow,XR]
    rw[be (fun e=>hb e.symm)]) (by
   refine .inr ⟨hsz0,L,T,by simpa using p0,by rw[v0];simpa using q2,by rw[v0,g0];exact Xw _ a0,fun k e he=>m0 _ e he,fun k e j p he hj=>?_⟩;have o1:j<eu.size:=by rw[<-m0 _ e he];exact(WX.1 hj).1
   have d1:k<news.length:=(WX.1 he).1;have hlt:k*eu.size+j<vs.length:=by
    rw[i0];have:(k+1)*eu.size<=news.length*eu.size:=Xw _ d1;rw[Yj]at this;omega
   rw[j1 _ hlt]
   exact(t0 _ p (ub m0 _ e j p he hj)).mono (.refl _) (N.gl _ _ _) (fun i hi=>by omega))
  obtain⟨g1,g2⟩:=qy (es:=[]) (news:=news) (i:=i) hf h1 h2;refine⟨_,_,M,_,b0 _ _ c0,g1,g2,?_⟩;have:=VR.sl (M:=M) (N:=N.with s.nx (N.aI i) (N.ext i)) (U:=(· <s.nx+1)) s.nx 0 news.length eu.size cap (by omega) hm a0 hc (by simpa using hext);rw[mY];simpa using this
section
variable {Q:AQ} {k:List KI} {all rest:List Oper} {o:Oper} {s':AS}
theorem GJ(c0:cz P ty){t u:TypeId}{l c:Operand}(n m:Nat)(hg:o.guard=none)(ho:o.op= .makeSlice t l c){e eu:cI}(ht:ty t=some e)(hk:e.k= .bb (.slice u))(hu:ty u=some eu)
  {kl kc:IntKind} {ml nc:Int} (hl:ev s.f l= .iv (.v (.int kl ml))) (hc:ev s.f c= .iv (.v (.int kc nc))) (d0:ml=(m:Int)) (b0:nc=(n:Int)) (hn:0<n) (e0:n<=100000000000) (hb:eu.bytes*n<=281474976710656) (g0:eu.zero.cells.size=eu.size) (f0:0<eu.size)
  {z:List PV} (hz:z=cV eu.zero) {p:PV} (a0:(m=0∧p= .sl s.nx 1 0 eu.size)∨(m=n∧p= .sl s.nx 0 n eu.size))
  (hp:putDst nt o p (newObj s (.row eu.size (Zb n z)))=some s') (h:GO P nt (.ops all rest::k) Q s'):GO P nt (.ops all (o::rest)::k) Q s:=
 ep hg (Uh c0 ho ht hk hu hl hc d0 b0 hn e0 hb Z g0 f0 hz a0 hp) fun t ht=>by subst ht;exact h
theorem Fi(c0:cz P ty){t u:TypeId}{l c:Operand}(sz:Nat)(el:Nat->List IV)(hg:o.guard=none)(ho:o.op= .makeSlice t l c){e eu:cI}(ht:ty t=some e)(hk:e.k= .bb (.slice u))(hu:ty u=some eu)
  {kl kc:IntKind} {ml nc:Int} (hl:ev s.f l= .iv (.v (.int kl ml))) (hc:ev s.f c= .iv (.v (.int kc nc))) (b0:ml=0) (a0:nc=0)
  (hp:putDst nt o (.iv (.dq sz 0 el)) (newObj s (.row sz []))=some s') (h:GO P nt (.ops all rest::k) Q s'):GO P nt (.ops all (o::rest)::k) Q s:=
 ep hg (Sm c0 ho ht hk hu el hl hc b0 a0 hp) fun t ht=>by subst ht;exact h
theorem GN(d0:cz P ty){t u:TypeId}{x hi:Operand}{i n sz:Nat}(m:Nat)(hg:o.guard=none)(ho:o.op= .slice t x none (some hi) none){e eu:cI}(ht:ty t=some e)(hk:e.k= .bb (.slice u))(hu:ty u=some eu)
  {kc:IntKind} {mi:Int} (hx:ev s.f x= .sl i 0 n sz) (hh:ev s.f hi= .iv (.v (.int kc mi))) (a0:mi=(m:Int)) (c0:m<=n) (hn:0<n)
  {p:PV} (b0:(m=0∧p= .sl i 1 0 sz)∨(0<m∧p= .sl i 0 m sz)) (hp:putDst nt o p s=some s') (h:GO P nt (.ops all rest::k) Q s'):GO P nt (.ops all (o::rest)::k) Q s:=
 ep hg (SP d0 ho ht hk hu hx hh a0 c0 hn b0 hp) fun t ht=>by subst ht;exact h
theorem BC(d0:cz P ty){x y:Operand}{t u:TypeId}(hg:o.guard=none)(ho:o.op= .call ⟨.builtin .append, #[x,y], #[t,t]⟩){e eu:cI}(ht:ty t=some e)(hk:e.k= .bb (.slice u))(hu:ty u=some eu)
  {i:Nat} {es news:List (List PV)} {py:PV} (hx:ev s.f x= .sl i 1 0 eu.size) (hi:s.h.get i=some (.row eu.size es))
  (c0:ev s.f y=py) (hy:RZ s.h eu.size py=some news) (a0:news.length<=es.length) (hm:0<news.length) (b0: ∀e∈news,jb e=true)
  (hp:putDst nt o (.sl s.nx 0 news.length eu.size) (uk s i eu.size [] news)=some s') (h:GO P nt (.ops all rest::k) Q s'):GO P nt (.ops all (o::rest)::k) Q s:=
 ep hg (Ph d0 ho ht hk hu hx hi Z a0 hm c0 (Nv hy) b0 hp) fun t ht=>by subst ht;exact h
end
theorem zt{M:Mem}{N:Nm}{a:Act}{w:World}(hf:Fits M N s nt a w){x:Operand}(h:ev s.f x= .iv (.v (.map none))):a.eval x= .map none:=by
 have hi:=bf hf.2.1 x;rw[h]at hi;generalize a.eval x=v at hi;cases hi with
 |iv _ _ hi=>cases hi with
  |v=>rfl
theorem H9(a0:cz P ty){o:Oper}{t kt et:TypeId}{x:Operand}(ho:o.op= .call ⟨.builtin .len, #[x], #[t]⟩){e:cI}(ht:ty t=some e)(hk:e.k= .bb (.map kt et))(hx:ev s.f x= .iv (.v (.map none)))
  {s':AS} (hp:putDst nt o (pI 0) s=some s'):OT P nt o s (fun t=>t=s'):=by
 refine OT.value hp fun M N a w hf=>?_
 have hu:P.underlying t=some (.map kt et):=by
  have:=(a0 t _ ht).2.1;rw[hk]at this;exact this.1
 refine⟨.int .i64 0,w,M,N,?_, .refl _ _ _ _ _,hf, .iv _ _ (.v _)⟩;simp only[execOp,ho,resolve];simp[invoke,builtin,zt hf hx,Builtin.len_,run_underlying hu,goInt]
theorem HG(b0:cz P ty){o:Oper}{t kt et:TypeId}{x:Operand}(ho:o.op= .range t x){e:cI}(ht:ty t=some e)(hk:e.k= .bb (.map kt et))(hx:ev s.f x= .iv (.v (.map none)))
  {s':AS} (hp:putDst nt o (.ptr s.nx 0) (newObj s (.bS .str iI [] [] none))=some s'):OT P nt o s (fun t=>t=s'):=by
 refine OT.value hp fun M N a w hf=>?_
 have hu:P.underlying t=some (.map kt et):=by
  have:=(b0 t _ ht).2.1;rw[hk]at this;exact this.1
 obtain⟨N',h1,h2,h3,h4,h5⟩:=hf.1.alloc (.mapIter none 0 #[] 0) (.bS .str iI [] [] none) 0 (fun N' g1 g2 g3=> .inl ⟨rfl,rfl,rfl,by rw[g1];exact heap_alloc_new w _⟩);have a0:(newObj s (.bS .str iI [] [] none)).nx=s.nx+1:=by cases s;rfl
 refine⟨.pointer (some ⟨w.heap.size,0,none⟩),_,M,N',?_,h4,eV hf h4 h5,?_⟩
 ·simp only[execOp,ho,zt hf hx];simp[Instr.range,run_underlying hu]
 ·have:=VR.ptr (M:=M) (N:=N') (U:=(· <s.nx+1)) s.nx 0 (by omega);rw[h1]at this;rw[a0];exact this
section
variable {Q:AQ} {k:List KI} {all rest:List Oper} {o:Oper} {s':AS}
theorem Ik(a0:cz P ty){t kt et:TypeId}{x:Operand}(hg:o.guard=none)(ho:o.op= .call ⟨.builtin .len, #[x], #[t]⟩){e:cI}(ht:ty t=some e)(hk:e.k= .bb (.map kt et))(hx:ev s.f x= .iv (.v (.map none)))
  (hp:putDst nt o (pI 0) s=some s') (h:GO P nt (.ops all rest::k) Q s'):GO P nt (.ops all (o::rest)::k) Q s:=
 ep hg (H9 a0 ho ht hk hx hp) fun t ht=>by subst ht;exact h
theorem Ij(a0:cz P ty){t kt et:TypeId}{x:Operand}(hg:o.guard=none)(ho:o.op= .range t x){e:cI}(ht:ty t=some e)(hk:e.k= .bb (.map kt et))(hx:ev s.f x= .iv (.v (.map none)))
  (hp:putDst nt o (.ptr s.nx 0) (newObj s (.bS .str iI [] [] none))=some s') (h:GO P nt (.ops all rest::k) Q s'):GO P nt (.ops all (o::rest)::k) Q s:=
 ep hg (HG a0 ho ht hk hx hp) fun t ht=>by subst ht;exact h
end
end
theorem fQ.take{sz n:Nat}{es:List (List PV)}:fQ (.row sz es) (.row sz (es.take n)):=by
 refine⟨fun h=>?_,fun M N U w i h=>?_⟩
 ·cases es with
  |nil=>rw[List.take_nil]at h;exact h
  |cons=>rfl
 ·rcases h with h|⟨h0,c,T,h1,h2,h3,h4,h5⟩
  ·exact .inl (by rw[h,List.take_nil])
  ·refine .inr ⟨h0,c,T,h1,h2,Xz (Xw _ (by rw[XH];omega)) h3,fun k e he=>?_,fun k e j p he hp=>?_⟩
   ·rw[XY]at he;split at he
    ·exact h4 k e he
    ·cases he
   ·rw[XY]at he;split at he
    ·exact h5 k e j p he hp
    ·cases he
theorem tU{P:Program}{nt:Nat}{Q:AQ}{k:List KI}{s:AS}{body:Code}{σ:Type}(i0 n:Nat)(b0:i0<=n)(I:Nat->σ->AS)(J:Nat->σ->Prop)(x0:σ)(L0:List Nat)(j0:J i0 x0)(h0:Wk s.nx L0 s (I i0 x0))
  (a0: ∀i x,i<=n->J i x->GO P nt (.code body:: .lp (fun t=>i<n∧ ∃x' L,J (i+1) x'∧Wk s.nx L t (I (i+1) x'))::k) Q (I i x)):GO P nt (.code (.loop body)::k) Q s:=by
 refine o8 (σ:={p:Nat×σ//p.1<=n∧J p.1 p.2}) (fun p=>I p.1.1 p.1.2) (fun p=>n-p.1.1) ⟨(i0,x0),b0,j0⟩ L0 h0 fun p=>?_;obtain⟨⟨i,x⟩,h1,h2⟩:=p;refine sN ?_ (a0 i x h1 h2)
 rintro t ⟨h3,x',L,h4,h5⟩;exact⟨⟨(i+1,x'),h3,h4⟩,L,by show n-(i+1)<n-i;omega,h5⟩
theorem KT{P:Program}{nt:Nat}{Q:AQ}{k:List KI}{s:AS}{all rest:List Oper}(d:Nat){p:PV}(a0:aH (s.f.get d) p)(h:GO P nt (.ops all rest::k) Q ⟨(d,p)::s.f,s.h,s.nx⟩):GO P nt (.ops all rest::k) Q s:=by
 intro M N a w hf;refine h M N a w ⟨hf.1,fun e=>?_,hf.2.2⟩;rw[AF.au];split
 ·rename_i he;subst he;exact a0 M N _ _ (hf.2.1 e)
 ·exact hf.2.1 e
theorem tT{P:Program}{ty:Ty}{nt:Nat}{Q:AQ}{k:List KI}{s:AS}(b0:cz P ty){all rest:List Oper}{o:Oper}{t:TypeId}{x i:Operand}(p:PV)(ho:o.op= .lookup t x i false)(hg:o.guard=none)
  {kc:KC} {V:Type} {e:V->IV} {z:V} {zv:Value} {m:List (kc.K×V)} (hx:ev s.f x= .iv (.fw kc e z zv m)) {q:PV} (hl:xD ty t false kc e z zv m (ev s.f i)=some (q,True)) (hq:q=p)
  {s':AS} (hp:putDst nt o p s=some s') (h:GO P nt (.ops all rest::k) Q s'):GO P nt (.ops all (o::rest)::k) Q s:=by
 have a0:kN ty s o.op=some (p,True):=by
  rw[ho,<-hq];simp only[kN,hx];exact hl
 exact ep hg (uF b0 a0 ac hp) fun u hu=>by subst hu;exact h
end Go.Al
namespace Go.Proofs.YtflegjieadkonaaGreatDoor
open Go Go.Al Go.Proofs.Tryz
theorem Js(hS:ft)(el:Nat->List IV):Pure prog 91 [.iv (.dq 1 0 el)] (.bT []):=by
 refine⟨bI func91 Z (by decide),fun M N w vs hr a0 hv=>?_⟩;obtain⟨v,rfl⟩: ∃v,vs=[v]:=by
  cases vs with
  |nil=>cases a0
  |cons v r=>cases r with
   |nil=>exact⟨v,rfl⟩
   |cons a b=>simp at a0
 have b0:=hv 0 _ Z;simp only[List.getD_cons_zero]at b0;obtain⟨a,cap,rfl⟩: ∃a cap,v= .slice a 0 cap:=by
  cases b0 with
  |iv _ _ h=>cases h with
   |kQ _ _ a cap=>exact⟨a,cap,rfl⟩
   |dq _ _ _ b off cap=>exact⟨_,cap,rfl⟩
 refine(hS.2 a cap w).mono ?_;rintro e w' ⟨rfl,rfl⟩;exact⟨_,M,N, .bT [],_,_,rfl,⟨rfl,rfl,rfl⟩, .refl _ _ _ _ _,hr, .bT [] #[] Z (by simp)⟩
section
variable {V:Type}
def Gx(m:List ((KC.str).K×V))(vs:List Nat):List aj:=iZ (m.map fun x=>(x.1,0)) vs
theorem Df(m:List ((KC.str).K×V))(vs:List Nat)(j:Nat)(x:(KC.str).K×V)(h:m[j]? =some x):Gx m (j::vs)=Gx m vs++ [x.1]:=
 mT _ _ _ (x.1,0) (by rw[W1,h];rfl)
theorem Gw(m:List ((KC.str).K×V))(vs:List Nat)(hn:vs.Nodup)(hb: ∀j∈vs,j<m.length)(a0: ∀j,j<m.length->j∈vs):(Gx m vs).Perm (m.map (·.1)):=by
 have:=mc (m.map fun x=>(x.1,(0:Int))) vs hn (by simpa using hb) (by simpa using a0);rw[Y0]at this;exact this
theorem Gv(m:List ((KC.str).K×V))(vs:List Nat):(Gx m vs).length<=vs.length:=xH _ _
end
def HN(i:Nat):List aj->PV
 | []=> .sl i 1 0 1
 |x::r=> .sl i 0 (x::r).length 1
def yH(n:Nat):List aj->AO
 | []=> .row 1 (Zb n [pS W4])
 |x::r=>aD 1 (x::r) cW
theorem zk(i:Nat)(l:List aj)(s:aj):HN i (l++ [s])= .sl i 0 (l.length+1) 1:=by cases l<;>simp[HN]
theorem zl(n:Nat)(l:List aj)(s:aj):yH n (l++ [s])=aD 1 (l++ [s]) cW:=by cases l<;>rfl
theorem CO{i:Nat}{l:List aj}(h:l≠ []):HN i l= .sl i 0 l.length 1:=by cases l with
 |nil=>exact absurd Z h
 |cons=>rfl
theorem CP{n:Nat}{l:List aj}(h:l≠ []):yH n l=aD 1 l cW:=by cases l with
 |nil=>exact absurd Z h
 |cons=>rfl
theorem JZ(n:Nat)(l:List aj)(k:Nat):(yH n l).low k:=by
 cases l with
 |nil=>
  intro j e he;rw[Zj]at he;split at he
  ·cases he;rfl
  ·cases he
 |cons x r=>exact cL k
theorem JY(n:Nat)(l:List aj)(σ:Nat->Nat):(yH n l).c7 σ=yH n l:=by
 cases l with
 |nil=>simp only[yH,AO.c7];rw[List.map_replicate];rfl
 |cons x r=>exact bC σ
theorem hO{h r:AH}{σ:Nat->Nat}{i n m:Nat}{o:AO}{l:List aj}(ho:h.get (σ i)=some o)(he:o=yH m l)(hi:Xi i n=true)(hr:rr n σ h r):rr n σ h ((i,some (yH m l))::r):=
 ⟨⟨_,ho, .of_eq (by rw[JY,he])⟩,WR hi,JZ m l n,hr⟩
theorem tI(i:Nat)(l:List aj){n:Nat}(h:Xi i n=true):(HN i l).low n=true:=by cases l<;>exact h
theorem Jz(hS:ft)(m:NM)(hm:m.length<=100000000):Pure prog 52 [.iv (td m)] (.iv (strs (eH (m.map (·.1))))):=by
 refine ad ab func52 Z (by decide) ntmps52 Z (by simp) Z ?_;rcases Nat.eq_zero_or_pos m.length with h0|h0
 ·have h0:=YO.1 h0;subst h0;refine gA Z (Fi ab 1 (fun k=>cW (([]:List aj).getD k default)) Z Z Z Z Z Z Z Z Z Z ?_);refine gA Z ?_;refine gG ([]:List ((KC.str).K×Int)) (fun _=>⟨[(3, .iv (.dq 1 0 (fun k=>cW (([]:List aj).getD k default)))),(9, .ptr 1 0)],[(1,some (.bS .str xY ([]:List ((KC.str).K×Int)) [] none))],2⟩) (fun _=>True) [] ac
   (zW (hI Z Z (.inl Z) Z trivial)) fun vs _=>?_
  refine nX Z ac (eN Z Z Z Z Z (by decide) (fun _=>?_) fun j x hx _=>?_)
  ·refine gA Z (bn (Js hS _) Z Z Z Z Z Z ?_);refine gA Z (zL ?_);exact .of_eq (show _=PV.iv (strs (eH [])) by rw[qL];rfl)
  ·cases hx
 refine gA Z (GJ ab m.length 0 Z Z Z Z Z Z Z Z Z h0 (by omega) (by show 16*m.length<=_;omega) Z (by decide) Z (.inl ⟨rfl,rfl⟩) Z ?_);refine gA Z ?_;refine gG m (fun vs=>⟨[(3,HN 2 (Gx m vs)),(9, .ptr 1 0)],[(1,some (.bS .str xY m vs none)),(2,some (yH m.length (Gx m vs)))],3⟩) (fun vs=>vs.Nodup∧ ∀j∈vs,j<m.length) [0] ⟨XT,by simp⟩
  (zW (hI Z Z (.inl Z) Z (hO Z Z Z trivial))) fun vs hJ=>?_
 obtain⟨b0,c0⟩:=hJ;have g0:=xz b0 c0;have e0:=Gv m vs;refine nX Z ac (eN Z Z Z Z Z (by decide) (fun d0=>?_) fun j x hx hj=>?_)
 ·have hp:=Gw m vs b0 c0 d0;have hne:Gx m vs≠ []:=fun e=>by
   have:=hp.length_eq;rw[e,Xr]at this;simp at this;omega
  rw[CO hne,CP hne];refine nX Z ac (ja [2] (LC hS (Gx m vs) (by omega)) Z Z Z Z Z (congrArg (fun o=> [some o]) (bC _).symm) Z Z ?_);refine nX Z ac (cU (.inr Z) Z Z ((xj _ _).trans (by rw[sc hp])) ?_);rw[ji,<-hp.length_eq]
 ·have hk:=Df m vs j x hx;have f0: ∀a0,a0=j::vs->a0.Nodup∧ ∀i∈a0,i<m.length:=fun a0 e=>e▸⟨X5.2 ⟨hj,b0⟩,fun i hi=>(Xb.1 hi).elim (fun h=>h▸(WX.1 hx).1) (c0 i)⟩
  cases hl:Gx m vs with
  |nil=>
   rw[hl,Y5]at hk;refine gA Z (BC ab Z Z Z Z Z Z Z Z Z (by simp;omega) (by simp) (mD Z) Z ?_);refine gA Z ?_;exact⟨j,x,hx,hj,f0 _ Z,[4],zM ⟨.of_eq (by rw[hk];rfl),tI 2 _ Z, .refl _,rfl,ac⟩ (hI Z Z (.inr Z) Z (hO Z (by rw[hk];rfl) Z ac))⟩
  |cons a r=>
   rw[hl]at hk e0;have i0:(r.length+1)<=m.length:=by simpa using Xz e0 g0
   refine gA Z ⟨j,x,hx,hj,f0 _ Z,[4],zM ⟨.of_eq (by rw[hk,zk];rfl),tI 2 _ Z, .refl _,rfl,ac⟩ (hI Z Z (.inr Z) Z (hO Z (by rw[hk,zl,aD,WZ];rfl) Z ac))⟩
theorem JA(hS:ft)(m:GM)(hm:m.length<=100000000):Pure prog 51 [.iv (qV m)] (.iv (strs (eH (m.map (·.1))))):=by
 refine ad ab func51 Z (by decide) ntmps51 Z (by simp) Z ?_;rcases Nat.eq_zero_or_pos m.length with h0|h0
 ·have h0:=YO.1 h0;subst h0;refine gA Z (Fi ab 1 (fun k=>cW (([]:List aj).getD k default)) Z Z Z Z Z Z Z Z Z Z ?_);refine gA Z ?_;refine gG ([]:List ((KC.str).K×Option NM)) (fun _=>⟨[(3, .iv (.dq 1 0 (fun k=>cW (([]:List aj).getD k default)))),(9, .ptr 1 0)],[(1,some (.bS .str HP ([]:List ((KC.str).K×Option NM)) [] none))],2⟩) (fun _=>True) [] ac
   (zW (hI Z Z (.inl Z) Z trivial)) fun vs _=>?_
  refine nX Z ac (eN Z Z Z Z Z (by decide) (fun _=>?_) fun j x hx _=>?_)
  ·refine gA Z (bn (Js hS _) Z Z Z Z Z Z ?_);refine gA Z (zL ?_);exact .of_eq (show _=PV.iv (strs (eH [])) by rw[qL];rfl)
  ·cases hx
 refine gA Z (GJ ab m.length 0 Z Z Z Z Z Z Z Z Z h0 (by omega) (by show 16*m.length<=_;omega) Z (by decide) Z (.inl ⟨rfl,rfl⟩) Z ?_);refine gA Z ?_;refine gG m (fun vs=>⟨[(3,HN 2 (Gx m vs)),(9, .ptr 1 0)],[(1,some (.bS .str HP m vs none)),(2,some (yH m.length (Gx m vs)))],3⟩) (fun vs=>vs.Nodup∧ ∀j∈vs,j<m.length) [0] ⟨XT,by simp⟩
  (zW (hI Z Z (.inl Z) Z (hO Z Z Z trivial))) fun vs hJ=>?_
 obtain⟨b0,c0⟩:=hJ;have g0:=xz b0 c0;have e0:=Gv m vs;refine nX Z ac (eN Z Z Z Z Z (by decide) (fun d0=>?_) fun j x hx hj=>?_)
 ·have hp:=Gw m vs b0 c0 d0;have hne:Gx m vs≠ []:=fun e=>by
   have:=hp.length_eq;rw[e,Xr]at this;simp at this;omega
  rw[CO hne,CP hne];refine nX Z ac (ja [2] (LC hS (Gx m vs) (by omega)) Z Z Z Z Z (congrArg (fun o=> [some o]) (bC _).symm) Z Z ?_);refine nX Z ac (cU (.inr Z) Z Z ((xj _ _).trans (by rw[sc hp])) ?_);rw[ji,<-hp.length_eq]
 ·have hk:=Df m vs j x hx;have f0: ∀a0,a0=j::vs->a0.Nodup∧ ∀i∈a0,i<m.length:=fun a0 e=>e▸⟨X5.2 ⟨hj,b0⟩,fun i hi=>(Xb.1 hi).elim (fun h=>h▸(WX.1 hx).1) (c0 i)⟩
  cases hl:Gx m vs with
  |nil=>
   rw[hl,Y5]at hk;refine gA Z (BC ab Z Z Z Z Z Z Z Z Z (by simp;omega) (by simp) (mD Z) Z ?_);refine gA Z ?_;exact⟨j,x,hx,hj,f0 _ Z,[4],zM ⟨.of_eq (by rw[hk];rfl),tI 2 _ Z, .refl _,rfl,ac⟩ (hI Z Z (.inr Z) Z (hO Z (by rw[hk];rfl) Z ac))⟩
  |cons a r=>
   rw[hl]at hk e0;have i0:(r.length+1)<=m.length:=by simpa using Xz e0 g0
   refine gA Z ⟨j,x,hx,hj,f0 _ Z,[4],zM ⟨.of_eq (by rw[hk,zk];rfl),tI 2 _ Z, .refl _,rfl,ac⟩ (hI Z Z (.inr Z) Z (hO Z (by rw[hk,zl,aD,WZ];rfl) Z ac))⟩
theorem sk(hS:ft):Pure prog 51 [.iv (.v (.map none))] (.iv (strs [])):=by
 refine ad ab func51 Z (by decide) ntmps51 Z (by simp) Z ?_;refine gA Z (Ik ab Z Z Z Z Z Z ?_);refine gA Z (Fi ab 1 (fun k=>cW (([]:List aj).getD k default)) Z Z Z Z Z Z Z Z Z Z ?_);refine gA Z (Ij ab Z Z Z Z Z Z ?_);refine gA Z ?_;refine gG ([]:List ((KC.str).K×Int)) (fun _=>⟨[(3, .iv (.dq 1 0 (fun k=>cW (([]:List aj).getD k default)))),(9, .ptr 1 0)],[(1,some (.bS .str iI ([]:List ((KC.str).K×Int)) [] none))],2⟩) (fun _=>True) [] ac
  (zW (hI Z Z (.inl Z) Z trivial)) fun vs _=>?_
 refine nX Z ac (eN Z Z Z Z Z (by decide) (fun _=>?_) fun j x hx _=>?_)
 ·refine gA Z (bn (Js hS _) Z Z Z Z Z Z ?_);refine gA Z (zL ?_);exact .of_eq Z
 ·cases hx
end Go.Proofs.YtflegjieadkonaaGreatDoor
namespace Go.Al
def S8{σ:Type}(P:Program)(nt:Nat)(k:List KI)(Q:AQ)(n0:Nat)(t:σ->AS):AQ:=fun e u=>(e= .normal∧ ∃i L,Wk n0 L u (t i))∨(e≠ .normal∧kp P nt k Q e u)
theorem go_cut{P:Program}{nt:Nat}{Q:AQ}{k:List KI}{s:AS}{c:Code}{σ:Type}(n:Nat)(t:σ->AS)(d0:c=R1 (AN n c) (wM n c))
  (h1:GO P nt ((AN n c).map KI.code) (S8 P nt k Q s.nx t) s) (h2: ∀i,GO P nt (.code (wM n c)::k) Q (t i)):GO P nt (.code c::k) Q s:=by
 intro M N a w hf;rw[d0];have key: ∀(l:List Code) (u:AS) M' N' a' w',Ext M N (· <s.nx) s.h w M' N' (· <u.nx) u.h w'->Fits M' N' u nt a' w'->
   kp P nt (l.map KI.code) (S8 P nt k Q s.nx t) .normal u->(R1 l (wM n c)).wp P (pb nt M N s w (kp P nt k Q)) a' w':=by
  intro l
  induction l with
  |nil=>
   intro u M' N' a' w' hx e0 hk;rcases hk with⟨_,i,L,hw⟩|⟨he,_⟩
   ·exact AW.then (h2 i) (hw.fits e0) fun e a2 w2 M2 N2 s2 a0 c0 b0=>⟨M2,N2,s2,(hw.ext hx).trans a0,c0,b0⟩
   ·exact absurd Z he
  |cons c l ih=>
   intro u M' N' a' w' hx e0 hk;refine wp_seq (AW.then hk e0 fun e a2 w2 M2 N2 s2 a0 c0 b0=>?_);cases e with
   |normal=>exact ih s2 M2 N2 a2 w2 (hx.trans a0) c0 b0
   |_=>
    rcases Gu (l:=l) (by simp) b0 with⟨he,_⟩|⟨_,hq⟩
    ·cases he
    ·exact⟨M2,N2,s2,hx.trans a0,c0,hq⟩
 exact key _ s M N a w (.refl _ _ _ _ _) hf h1
theorem gd{P:Program}{nt:Nat}{k:List KI}{Q:AQ}{n0:Nat}{σ:Type}{t:σ->AS}{u:AS}(i:σ)(L:List Nat)(h:Wk n0 L u (t i)):S8 P nt k Q n0 t .normal u:= .inl ⟨rfl,i,L,h⟩
section
variable {P:Program} {ty:Ty} {nt:Nat} {Q:AQ} {k:List KI} {s:AS}
theorem b4(b0:cz P ty){all rest:List Oper}{o:Oper}{t:TypeId}{a:Operand}(ho:o.op= .load t a)(hg:o.guard=none){e:cI}(he:ty t=some e){i sz q off:Nat}{es:List (List PV)}{row:List PV}{v:PV}
  (ha:ev s.f a= .dC i sz q off) (hi:s.h.get i=some (.row sz es)) (hq:es[q]? =some row) (hr:jX e (row.drop off)=some v)
  {s':AS} (hp:putDst nt o v s=some s') (h:GO P nt (.ops all rest::k) Q s'):GO P nt (.ops all (o::rest)::k) Q s:=by
 have hb:behind s.h (.dC i sz q off)=some (row.drop off):=by
  simp only[behind,hi,hq,Nat.beq_refl]
 have a0:kN ty s o.op=some (v,True):=by
  rw[ho];simp only[kN,he,ha,hb,hr]
 exact ep hg (uF b0 a0 ac hp) fun u hu=>by subst hu;exact h
theorem jt{α:Type}[Inhabited α]{l:List α}{f:α->List IV}{i:Nat}(h:i<l.length):(l.map fun x=>(f x).map PV.iv)[0+i]? =some ((f (l.getD i default)).map .iv):=by
 rw[Xk,W1,WY h,WU,WY h];rfl
end
def Nm.one(b e:Nat):Nm:=⟨fun _=>b,fun _=>e⟩
inductive SB:Type 1 where
 |obj (o:AO) (e:Nat)
 |out (i e:Nat)
abbrev bc:=Nat->Option SB
def bc.nil:bc:=fun _=>none
def bc.put(X:bc)(b:Nat)(x:SB):bc:=fun c=>if c=b then some x else X c
def bc.still(X:bc):Prop:= ∀b i e,X b≠some (.out i e)
theorem bc.du(X:bc)(b:Nat)(x:SB):X.put b x b=some x:=by simp[bc.put]
theorem bc.kO(X:bc){b c:Nat}(x:SB)(h:c≠b):X.put b x c=X c:=by simp[bc.put,h]
theorem bc.Gf(X:bc)(b:Nat)(x y:SB):(X.put b x).put b y=X.put b y:=by
 funext c;simp only[bc.put];split<;>rfl
structure dM (M:Mem) (N:Nm) (n:Nat) (h:AH) (X:bc) (w:World):Prop where
 real: ∀b o e,X b=some (.obj o e)->o.real=true
 obj: ∀b o e,X b=some (.obj o e)->OR M (Nm.one b e) (fun _=>False) w 0 o
 dF: ∀b o e,X b=some (.obj o e)->M b=none
 apart: ∀b o e,X b=some (.obj o e)-> ∀i p,h.get i=some p->p.real=true->N.aI i≠b
 out: ∀b i e,X b=some (.out i e)->i<n∧N.aI i=b∧N.ext i=e
def AO.all(G:PV->Prop):AO->Prop
 | .cells cs _=> ∀p∈cs,G p
 | .row _ es=> ∀e∈es,∀p∈e,G p
 |_=>True
theorem AO.all_true(o:AO):o.all fun _=>True:=by cases o<;>simp[AO.all]
theorem OR.move{M M':Mem}{N N':Nm}{U U':Nat->Prop}{w w':World}{i i':Nat}{o:AO}{G:PV->Prop}(hM:M.le M')(hG:o.all G)(hV: ∀p x,G p->VR M N U p x->VR M' N' U' p x)
  (hb:N'.aI i'=N.aI i) (he:N'.ext i'=N.ext i) (hw:w'.heap[N.aI i]? =w.heap[N.aI i]?) (h:OR M N U w i o):OR M' N' U' w' i' o:=by
 cases o with
 |cells cs T0=>
  obtain⟨c,T,h1,h2,h3,h4,h5⟩:=h;exact⟨c,T,by rw[hb,hw,h1],by rw[he,h2],h3,fun j p hp=>hV _ _ (hG p (Xo hp)) (h4 j p hp),h5⟩
 |row sz es=>
  rcases h with h|⟨h0,c,T,h1,h2,h3,h4,h5⟩
  ·exact .inl h
  exact .inr ⟨h0,c,T,by rw[hb,hw,h1],by rw[he,h2],h3,h4,fun k e j p hk hp=>hV _ _ (hG e (Xo hk) p (Xo hp)) (h5 k e j p hk hp)⟩
 |bG l T=>
  rcases h with h|⟨c,h1,h2,h3,h4⟩
  ·exact .inl h
  exact .inr ⟨c,by rw[hb,hw,h1],by rw[he,h2],h3,h4⟩
 |fY=>show w'.heap[N'.aI i']? =_;rw[hb,hw];exact h
 |map kc ev z zv dv m=>
  obtain⟨e,cl,h1,h2,h3⟩:=h;exact⟨e,cl,by rw[hb,hw,h1],h2.mono hM,h3.mono hM⟩
 |bS kc ev m l cu=>
  rcases h with⟨h1,h2,h3,h4⟩|⟨b,e,cl,se,h1,h2,h3,h4⟩
  ·exact .inl ⟨h1,h2,h3,by rw[hb,hw,h4]⟩
  ·exact .inr ⟨b,e,cl,se,by rw[hb,hw,h1],hM _ _ h2,h3.mono hM,h4⟩
 |eJ s p=>show w'.heap[N'.aI i']? =_;rw[hb,hw];exact h
theorem VR.Gi{M M':Mem}{N N':Nm}{U':Nat->Prop}(hM:M.le M'){p:PV}{x:Value}(h:VR M N (fun _=>False) p x):VR M' N' U' p x:=
 h.mono hM ⟨fun _ h=>h.elim,fun _ h=>h.elim⟩ (fun _ h=>h.elim)
def PV.flat:PV->Prop
 | .iv _=>True
 | .kb _=>True
 | .any=>True
 |_=>False
theorem VR.Np{M:Mem}{N N':Nm}{U U':Nat->Prop}{p:PV}{x:Value}(hp:p.flat)(h:VR M N U p x):VR M N' U' p x:=by
 cases h with
 |iv x y h=>exact .iv _ _ h
 |kb b=>exact .kb _
 |any x=>exact .any _
 |_=>exact hp.elim
def Vh(N:Nm)(h:AH)(X:bc)(b:Nat):Prop:=(∃i o,h.get i=some o∧o.real=true∧N.aI i=b)∨ ∃o e,X b=some (.obj o e)
structure jd (M:Mem) (N:Nm) (n:Nat) (h:AH) (X:bc) (w:World) (M':Mem) (N':Nm) (n':Nat) (h':AH) (X':bc) (w':World):Prop where
 os:w'.os=w.os
 tape:w'.tape=w.tape
 output:w'.output=w.output
 size:w.heap.size<=w'.heap.size
 jq: ∀b,b<w.heap.size-> ¬Vh N h X b->w'.heap[b]? =w.heap[b]?
 rF:M.le M'
 jM: ∀b c,M b=none->M' b=some c->w.heap.size<=b∨Vh N h X b
 nm:N.agree N' (· <n)
 ule:n<=n'
 iW: ∀b,Vh N' h' X' b->w.heap.size<=b∨Vh N h X b
theorem jd.refl(M:Mem)(N:Nm)(n:Nat)(h:AH)(X:bc)(w:World):jd M N n h X w M N n h X w:=
 ⟨rfl,rfl,rfl,W0 _,fun _ _ _=>rfl, .refl _,fun b c h1 h2=>by simp[h1]at h2, .refl _ _,W0 _,fun _ h=> .inr h⟩
theorem jd.trans{M M1 M2:Mem}{N N1 N2:Nm}{n n1 n2:Nat}{h h1 h2:AH}{X X1 X2:bc}{w w1 w2:World}
  (a:jd M N n h X w M1 N1 n1 h1 X1 w1) (b:jd M1 N1 n1 h1 X1 w1 M2 N2 n2 h2 X2 w2):jd M N n h X w M2 N2 n2 h2 X2 w2 where
 os:=b.os.trans a.os
 tape:=b.tape.trans a.tape
 output:=b.output.trans a.output
 size:=Xz a.size b.size
 jq:=fun k hk hn=>by
  rw[b.jq k (YX hk a.size) (fun ho=>?_),a.jq k hk hn];rcases a.iW k ho with h3|h3
  ·omega
  ·exact hn h3
 rF:=a.rF.trans b.rF
 jM:=fun k c h3 h4=>by
  cases h5:M1 k with
  |some c'=>exact a.jM k c' h3 h5
  |none=>
   rcases b.jM k c h5 h4 with h6|h6
   ·exact .inl (Xz a.size h6)
   ·exact a.iW k h6
 nm:=⟨fun i hi=>(b.nm.aI i (YX hi a.ule)).trans (a.nm.aI i hi),fun i hi=>(b.nm.ext i (YX hi a.ule)).trans (a.nm.ext i hi)⟩
 ule:=Xz a.ule b.ule
 iW:=fun k hk=>by
  rcases b.iW k hk with h3|h3
  ·exact .inl (Xz a.size h3)
  ·exact a.iW k h3
theorem jd.frame{M M':Mem}{N N':Nm}{n n':Nat}{h h':AH}{X:bc}{w w':World}(x:Ext M N (· <n) h w M' N' (· <n') h' w')(hs:dM M N n h X w):
  jd M N n h X w M' N' n' h' X w'∧dM M' N' n' h' X w':=by
 have hlt: ∀b o e,X b=some (.obj o e)->b<w.heap.size:=fun b o e hb=>(hs.obj b o e hb).lt (hs.real b o e hb);have a0:n<=n':=YY fun hh=>absurd (x.ule n' hh) (ZU _);refine⟨⟨x.os,x.tape,x.output,x.size,fun b hb hn=>x.jq b hb fun i o hi b0 he=>hn (.inl ⟨i,o,hi,b0,he⟩),x.rF,fun b c h1 h2=>?_,x.nm,a0,fun b hb=>?_⟩,hs.real,fun b o e hb=>?_,fun b o e hb=>?_,fun b o e hb i p hi b0 c0=>?_,fun b i e hb=>?_⟩
 ·rcases x.jM b c h1 h2 with h3|⟨i,o,h3,h4,h5⟩
  ·exact .inl h3
  ·exact .inr (.inl ⟨i,o,h3,h4,h5⟩)
 ·rcases hb with⟨i,o,h3,h4,h5⟩|hb
  ·rcases x.iW i o h3 h4 with h6|⟨j,p,h6,h7,h8⟩
   ·exact .inl (h5▸h6)
   ·exact .inr (.inl ⟨j,p,h6,h7,h8.trans h5⟩)
  ·exact .inr (.inr hb)
 ·refine OR.move (G:=fun _=>True) x.rF (AO.all_true o) (fun p y _ hv=>hv.Gi x.rF) Z Z ?_ (hs.obj b o e hb);exact x.jq b (hlt b o e hb) (hs.apart b o e hb)
 ·cases hM:M' b with
  |none=>rfl
  |some c=>
   rcases x.jM b c (hs.dF b o e hb) hM with h3|⟨i,p,h3,h4,h5⟩
   ·have:=hlt b o e hb;omega
   ·exact absurd h5 (hs.apart b o e hb i p h3 h4)
 ·rcases x.iW i p hi b0 with h3|⟨j,q,h3,h4,h5⟩
  ·have:=hlt b o e hb;omega
  ·exact hs.apart b o e hb j q h3 h4 (h5.trans c0)
 ·obtain⟨h1,h2,h3⟩:=hs.out b i e hb;exact⟨YX h1 a0,(x.nm.aI i h1).trans h2,(x.nm.ext i h1).trans h3⟩
theorem jd.RT{M M':Mem}{N N':Nm}{n n':Nat}{h h':AH}{X':bc}{w w':World}(x:jd M N n h bc.nil w M' N' n' h' X' w'):Ext M N (· <n) h w M' N' (· <n') h' w':=by
 have a0: ∀b,Vh N h bc.nil b-> ∃i o,h.get i=some o∧o.real=true∧N.aI i=b:=fun b hb=>by
  rcases hb with hb|⟨o,e,hb⟩
  ·exact hb
  ·cases hb
 refine⟨x.os,x.tape,x.output,x.size,fun b hb hn=>x.jq b hb fun ho=>?_,x.rF,fun b c h1 h2=>?_,x.nm,fun i hi=>YX hi x.ule,fun i o hi b0=>?_⟩
 ·obtain⟨i,o,h1,h2,h3⟩:=a0 b ho;exact hn i o h1 h2 h3
 ·exact(x.jM b c h1 h2).imp id (a0 b)
 ·exact(x.iW _ (.inl ⟨i,o,hi,b0,rfl⟩)).imp id (a0 _)
theorem dM.nil(M:Mem)(N:Nm)(n:Nat)(h:AH)(w:World):dM M N n h bc.nil w:=⟨nofun,nofun,nofun,nofun,nofun⟩
abbrev XQ:=Exit->AS->bc->Prop
def qE(nt:Nat)(M:Mem)(N:Nm)(s:AS)(X:bc)(w:World)(R:XQ):Exit->Act->World->Prop:=fun e a' w'=>
 ∃M' N' s' X',jd M N s.nx s.h X w M' N' s'.nx s'.h X' w'∧Fits M' N' s' nt a' w'∧dM M' N' s'.nx s'.h X' w'∧R e s' X'
theorem qE.later{nt:Nat}{M M':Mem}{N N':Nm}{s s':AS}{X X':bc}{w w':World}{R:XQ}{e:Exit}{a:Act}{w2:World}
  (x:jd M N s.nx s.h X w M' N' s'.nx s'.h X' w') (h:qE nt M' N' s' X' w' R e a w2):qE nt M N s X w R e a w2:=by
 obtain⟨M2,N2,s2,X2,h1,h2⟩:=h;exact⟨M2,N2,s2,X2,x.trans h1,h2⟩
theorem qE.now{nt:Nat}{M:Mem}{N:Nm}{s:AS}{X:bc}{w:World}{R:XQ}{e:Exit}{a:Act}(hf:Fits M N s nt a w)(hs:dM M N s.nx s.h X w)(h:R e s X):qE nt M N s X w R e a w:=
 ⟨M,N,s,X, .refl _ _ _ _ _ _,hf,hs,h⟩
def AX(P:Program)(nt:Nat)(c:Code)(R:XQ)(s:AS)(X:bc):Prop:= ∀M N a w,Fits M N s nt a w->dM M N s.nx s.h X w->c.wp P (qE nt M N s X w R) a w
def ALX(P:Program)(nt:Nat)(all rest:List Oper)(R:XQ)(s:AS)(X:bc):Prop:= ∀M N a w,Fits M N s nt a w->dM M N s.nx s.h X w->wpList P all.toArray (qE nt M N s X w R) rest a w
def SLX(P:Program)(nt:Nat)(all rest:List Oper)(R:XQ)(s:AS)(X:bc):Prop:= ∀M N a w,Fits M N s nt a w->dM M N s.nx s.h X w->
 wpStill P all.toArray w (fun a'=>qE nt M N s X w R .normal a' w) rest a
inductive XI where
 |vW (all rest:List Oper)
 |code (c:Code)
 |aI (id:Nat)
 |ops (all rest:List Oper)
 |lp (R:AS->bc->Prop)
 |IM
def kx(P:Program)(nt:Nat):List XI->XQ->XQ
 | [],Q=>Q
 | .code c::k,Q=>fun e s X=>match e with| .normal=>AX P nt c (kx P nt k Q) s X|e=>kx P nt k Q e s X
 | .ops all rest::k,Q=>fun e s X=>match e with| .normal=>ALX P nt all rest (kx P nt k Q) s X|e=>kx P nt k Q e s X
 | .vW all rest::k,Q=>fun e s X=>match e with| .normal=>SLX P nt all rest (kx P nt k Q) s X|e=>kx P nt k Q e s X
 | .lp R::k,Q=>fun e s X=>match e with| .normal=>R s X|e=>kx P nt k Q e s X
 | .aI id::k,Q=>fun e s X=>match e with| .exit j=>if j=id then kx P nt k Q .normal s X else kx P nt k Q (.exit j) s X|e=>kx P nt k Q e s X
 | .IM::k,Q=>fun e s X=>match e with| .goto _=>False|e=>kx P nt k Q e s X
def GX(P:Program)(nt:Nat)(k:List XI)(Q:XQ)(s:AS)(X:bc):Prop:=kx P nt k Q .normal s X
section
variable {P:Program} {nt:Nat} {Q:XQ} {k:List XI} {s:AS} {X:bc}
theorem AX.then{c:Code}{R:XQ}(h:AX P nt c R s X){M:Mem}{N:Nm}{a:Act}{w:World}(hf:Fits M N s nt a w)(hs:dM M N s.nx s.h X w){Z:Exit->Act->World->Prop}
  (hz: ∀e a' w' M' N' s' X',jd M N s.nx s.h X w M' N' s'.nx s'.h X' w'->Fits M' N' s' nt a' w'->dM M' N' s'.nx s'.h X' w'->R e s' X'->Z e a' w'):c.wp P Z a w:=
 wp_mono (h M N a w hf hs) fun e a' w' ⟨M',N',s',X',h1,h2,h3,h4⟩=>hz e a' w' M' N' s' X' h1 h2 h3 h4
theorem GD{Q0:AQ}{k0:List KI}{c:Code}(h:GX P nt [.code c] (fun e t _=>kp P nt k0 Q0 e t) s bc.nil):GO P nt (.code c::k0) Q0 s:=by
 intro M N a w hf;exact AX.then h hf (.nil ..) fun e a' w' M' N' s' X' hx a0 _ hr=>⟨M',N',s',hx.RT,a0,hr⟩
theorem bW{c:Code}(h:GO P nt [.code c] (fun e u=>kx P nt k Q e u X) s):GX P nt (.code c::k) Q s X:=by
 intro M N a w hf hs;refine AW.then h hf fun e a' w' M' N' s' hx a0 hr=>?_;obtain⟨h1,h2⟩:=jd.frame hx hs;exact⟨M',N',s',X,h1,a0,h2,hr⟩
theorem aG{x y:Code}(h:GX P nt (.code x:: .code y::k) Q s X):GX P nt (.code (.seq x y)::k) Q s X:=by
 intro M N a w hf hs;refine wp_seq (AX.then h hf hs fun e a' w' M' N' s' X' hx b0 a0 hr=>?_);cases e with
 |normal=>exact AX.then hr b0 a0 fun e a2 w2 M2 N2 s2 X2 c0 f0 e0 d0=>⟨M2,N2,s2,X2,hx.trans c0,f0,e0,d0⟩
 |_=>exact⟨M',N',s',X',hx,b0,a0,hr⟩
theorem fa(h:GX P nt k Q s X):GX P nt (.code .skip::k) Q s X:=fun _ _ _ _ hf hs=>wp_skip (.now hf hs h)
theorem ie{id:Nat}(h:kx P nt k Q (.exit id) s X):GX P nt (.code (.exit id)::k) Q s X:=fun _ _ _ _ hf hs=>wp_exit (.now hf hs h)
theorem kR{id:Nat}(h:GX P nt k Q s X):GX P nt (.aI id::k) Q s X:=h
theorem bP{id:Nat}{x:Code}(h:GX P nt (.code x:: .aI id::k) Q s X):GX P nt (.code (.block id x)::k) Q s X:=by
 intro M N a w hf hs;refine wp_block (AX.then h hf hs fun e a' w' M' N' s' X' hx b0 a0 hr=>?_);cases e with
 |exit j=>
  simp only[kx]at hr;simp only[Exit.inBlock];split
  ·rename_i hj;rw[am hj]at hr;exact⟨M',N',s',X',hx,b0,a0,hr⟩
  ·rename_i hj;rw[be hj]at hr;exact⟨M',N',s',X',hx,b0,a0,hr⟩
 |_=>exact⟨M',N',s',X',hx,b0,a0,hr⟩
theorem ic{id:Nat}{ops:Array Oper}(h:GX P nt (.ops ops.toList ops.toList::k) Q s X):GX P nt (.code (.region id ops false)::k) Q s X:=by
 intro M N a w hf hs;refine wp_region_list ?_;have:=h M N a w hf hs;simpa using this
theorem eU{all:List Oper}(h:GX P nt k Q s X):GX P nt (.ops all []::k) Q s X:=fun _ _ _ _ hf hs=>wpList_nil (qE.now hf hs h)
theorem Fe{c:Operand}{x y:Code}{t:Bool}(hc:ev s.f c= .kb t)(h:GX P nt (.code (bif t then x else y)::k) Q s X):GX P nt (.code (.cond c x y)::k) Q s X:=by
 intro M N a w hf hs;have hb:a.eval c= .bool t:=by
  have:=bf hf.2.1 c;rw[hc]at this;generalize a.eval c=v at this;cases this;rfl
 refine wp_cond hb ?_;cases t
 ·exact h M N a w hf hs
 ·exact h M N a w hf hs
theorem eM{c:Operand}{x y:Code}{t:Bool}(hc:ev s.f c= .iv (.v (.bool t)))(h1:t=true->GX P nt (.code x::k) Q s X)(h2:t=false->GX P nt (.code y::k) Q s X):
  GX P nt (.code (.cond c x y)::k) Q s X:=by
 intro M N a w hf hs;refine wp_cond_split (hf.bool hc) (fun ht=>?_) (fun ht=>?_)
 ·exact h1 ht M N a w hf hs
 ·exact h2 ht M N a w hf hs
theorem Be{o:Oper}{a:Act}{w:World}{K K':Act->World->Prop}{Q Q':Exit->Act->World->Prop}(h: ∀a w,K a w->K' a w)(hq: ∀e a w,e≠ .normal->Q e a w->Q' e a w)(hh:o.wp P a w K Q):o.wp P a w K' Q':=by
 have hl:LetsOut Q->LetsOut Q':=fun⟨a,w,x⟩=>⟨a,w,hq _ _ _ (by simp) x⟩
 unfold Oper.wp at*
 generalize(execOp a.eval o).run P w=r at*
 cases r with
 |ok n w'=>
  cases n<;>simp only[Oper.upon]at hh ⊢ <;>
   first
    |exact h _ _ hh
    |exact Calls.mono hh (fun e a0 he=>by cases e<;>first|exact h _ _ he|exact hl he|exact hq _ _ _ (by simp) he)
    |exact Rows.mono hh (fun _ _ he=>h _ _ he)
 |halt x w'=>cases x<;>simp only[Oper.upon]at hh ⊢ <;>exact hq _ _ _ (by simp) hh
theorem rV{a0:Array Oper}{Q1 Q2:Exit->Act->World->Prop}(l2:List Oper)(h2: ∀a w,Q1 .normal a w->wpList P a0 Q2 l2 a w)(hq: ∀e a w,e≠ .normal->Q1 e a w->Q2 e a w): ∀(l:List Oper) (a:Act) (w:World),wpList P a0 Q1 l a w->wpList P a0 Q2 (l++l2) a w
 | [],a,w,h=>h2 _ _ h
 |o::r,a,w,h=>by
  rw[Ym];rw[wpList]at h ⊢;split
  ·rename_i hw;rw[am hw]at h;exact h.imp (Be (rV l2 h2 hq r) hq) (fun⟨h3,a1,w1,h4⟩=>⟨h3,a1,w1,hq _ _ _ (by simp) h4⟩)
  ·rename_i hw;rw[be hw]at h;exact rV l2 h2 hq r _ _ h
theorem Ih{all r1 r2:List Oper}(h:GO P nt [.ops all r1] (fun e u=>kx P nt (.ops all r2::k) Q e u X) s):GX P nt (.ops all (r1++r2)::k) Q s X:=by
 intro M N a w hf hs;refine rV r2 (fun a' w' hp=>?_) (fun e a' w' he hp=>?_) r1 a w (h M N a w hf)
 ·obtain⟨M',N',s',hx,a0,hr⟩:=hp;obtain⟨h1,h2⟩:=jd.frame hx hs;have:=hr M' N' a' w' a0 h2;exact je (fun _ _ _=>qE.later h1) r2 a' w' this
 ·obtain⟨M',N',s',hx,a0,hr⟩:=hp;obtain⟨h1,h2⟩:=jd.frame hx hs;refine⟨M',N',s',X,h1,a0,h2,?_⟩;cases e with
  |normal=>exact absurd Z he
  |_=>exact hr
theorem dM.drew{M:Mem}{N:Nm}{n:Nat}{h:AH}{X:bc}{w:World}(hs:dM M N n h X w):dM M N n h X {w with drawn:=w.drawn+1}:=
 ⟨hs.real,fun b o e hb=>OR.move (G:=fun _=>True) (.refl _) (AO.all_true o) (fun _ _ _ hv=>hv) Z Z Z (hs.obj b o e hb),hs.dF,hs.apart,hs.out⟩
theorem jd.drew{M:Mem}{N:Nm}{n:Nat}{h:AH}{X:bc}{w:World}:jd M N n h X w M N n h X {w with drawn:=w.drawn+1}:=
 ⟨rfl,rfl,rfl,W0 _,fun _ _ _=>rfl, .refl _,fun b c h1 h2=>by simp[h1]at h2, .refl _ _,W0 _,fun _ h=> .inr h⟩
theorem bx{all rest:List Oper}(m:Nat)(h:GO P nt [.ops all (rest.take m)] (fun e u=>kx P nt (.ops all (rest.drop m)::k) Q e u X) s):GX P nt (.ops all rest::k) Q s X:=by
 have:=Ih h;rwa[Zd]at this
def SX(nt:Nat)(s:AS)(X:bc)(T:AS->bc->Prop):Prop:= ∀M N a w,Fits M N s nt a w->dM M N s.nx s.h X w->
 ∃M' N' t Y,jd M N s.nx s.h X w M' N' t.nx t.h Y w∧Fits M' N' t nt a w∧dM M' N' t.nx t.h Y w∧T t Y
theorem Dm{c:Code}{T:AS->bc->Prop}(h:SX nt s X T)(hk: ∀t Y,T t Y->GX P nt (.code c::k) Q t Y):GX P nt (.code c::k) Q s X:=by
 intro M N a w hf hs;obtain⟨M',N',t,Y,h1,h2,h3,h4⟩:=h M N a w hf hs;exact AX.then (hk t Y h4) h2 h3 fun e a2 w2 M2 N2 s2 X2 a0 d0 c0 b0=>⟨M2,N2,s2,X2,h1.trans a0,d0,c0,b0⟩
theorem eA{all rest:List Oper}{T:AS->bc->Prop}(h:SX nt s X T)(hk: ∀t Y,T t Y->GX P nt (.ops all rest::k) Q t Y):GX P nt (.ops all rest::k) Q s X:=by
 intro M N a w hf hs;obtain⟨M',N',t,Y,h1,h2,h3,h4⟩:=h M N a w hf hs;exact je (fun _ _ _=>qE.later h1) rest a w (hk t Y h4 M' N' a w h2 h3)
theorem Qz{L:List Nat}{t:AS}(hw:Wk s.nx L s t):SX nt s X (fun t' Y=>t'=t∧Y=X):=by
 intro M N a w hf hs;obtain⟨h1,h2⟩:=jd.frame (hw.ext (.refl M N (· <s.nx) s.h w)) hs;exact⟨M,_,t,X,h1,hw.fits hf,h2,rfl,rfl⟩
theorem Uw{body:Code}{σ:Type 1}(I:σ->AS)(J:σ->bc)(μ:σ->Nat)(i0:σ)(L0:List Nat)(h0:Wk s.nx L0 s (I i0))(hJ:J i0=X)(j0: ∀i,(J i).still)
  (d0: ∀i,GX P nt (.code body:: .lp (fun t Y=> ∃j L,μ j<μ i∧Wk s.nx L t (I j)∧Y=J j)::k) Q (I i) (J i)):GX P nt (.code (.loop body)::k) Q s X:=by
 intro M0 N0 a0 w0 n0 k0
 let K:Act->World->Nat->Prop:=fun a w n=> ∃i M N,μ i=n∧jd M0 N0 s.nx s.h X w0 M N (I i).nx (I i).h (J i) w∧Fits M N (I i) nt a w∧dM M N (I i).nx (I i).h (J i) w
 have o0:K a0 w0 (μ i0):=by
  obtain⟨h1,h2⟩:=jd.frame (h0.ext (.refl M0 N0 (· <s.nx) s.h w0)) k0;exact⟨i0,M0,N0.comp (sg s.nx L0),rfl,by rw[hJ];exact h1,h0.fits n0,by rw[hJ];exact h2⟩
 refine wp_loop (fun a w=> ∃n,K a w n) (fun a w=>by classical exact if h: ∃n,K a w n then Zp (dB h) else 0) ⟨_,o0⟩ fun a w g0=>?_;obtain⟨⟨i,M,N,hi,hx,hf,hs⟩,m0⟩:=YW (dB g0);refine AX.then (d0 i) hf hs fun e a' w' M' N' s' X' e0 f0 c0 hr=>?_
 cases e with
 |normal=>
  obtain⟨j,L,hj,hw,hY⟩:=hr
  have hJ:K a' w' (μ j):=⟨j,M',N'.comp (sg s.nx L),rfl,by
   have b0:=hx.trans e0;rw[hY]at b0 c0;refine⟨b0.os,b0.tape,b0.output,b0.size,b0.jq,b0.rF,b0.jM,⟨fun i hi=>?_,fun i hi=>?_⟩,by have:=hw.nx;omega,fun b hb=>b0.iW b ?_⟩
   ·simp only[Nm.comp,gh hi];exact b0.nm.aI i hi
   ·simp only[Nm.comp,gh hi];exact b0.nm.ext i hi
   ·rcases hb with⟨i,o,h3,h4,h5⟩|hb
    ·obtain⟨⟨o',g1,g2⟩,_⟩:=kg hw.h i o h3;exact .inl ⟨_,o',g1,g2.real ((AO.cM _ o).trans h4),h5⟩
    ·exact .inr hb,hw.fits f0,by
   rw[hY]at c0;refine⟨c0.real,c0.obj,c0.dF,fun b o e hb i p hi p0=>?_,fun b i e hb=>?_⟩
   ·obtain⟨⟨o',g1,g2⟩,_⟩:=kg hw.h i p hi;exact c0.apart b o e hb _ o' g1 (g2.real ((AO.cM _ p).trans p0))
   ·exact absurd hb (j0 j b i e)⟩
  refine⟨⟨_,hJ⟩,?_⟩;simp only[dif_pos g0,dif_pos (⟨_,hJ⟩: ∃n,K a' w' n)];rw[<-hi];exact Nat.lt_of_le_of_lt ((YW (dB (⟨_,hJ⟩: ∃n,K a' w' n))).2 _ hJ) hj
 |_=>exact⟨M',N',s',X',hx.trans e0,f0,c0,hr⟩
theorem Jh{b e d:Nat}{o:AO}{p:PV}(hX:X b=some (.obj o e))(hp: ∀(M:Mem) (N:Nm) (U:Nat->Prop) (x:Value),U s.nx->N.aI s.nx=b->N.ext s.nx=e->VR M N U (s.f.get d) x->VR M N U p x):
  SX nt s X (fun t Y=>t=⟨(d,p)::s.f,(s.nx,some o)::s.h,s.nx+1⟩∧Y=X.put b (.out s.nx e)):=by
 intro M N a w hf hs;obtain⟨f,h,n⟩:=s
 let N':Nm:=⟨fun j=>if j=n then b else N.aI j,fun j=>if j=n then e else N.ext j⟩
 have hag:N.agree N' (· <n):=⟨fun i hi=>be (ZY hi),fun i hi=>be (ZY hi)⟩
 have c0:N'.aI n=b:=am Z;have d0:N'.ext n=e:=am Z;have hU: ∀i,i<n->i<n+1:=fun i hi=>YS hi;have e0:=hs.real b o e hX
 have a0: ∀i q,AH.get ((n,some o)::h) i=some q->(i=n∧q=o)∨(i<n∧h.get i=some q):=by
  intro i q hi;rw[AH.au]at hi;split at hi
  ·rename_i hin;exact .inl ⟨hin,by simpa using hi.symm⟩
  ·exact .inr ⟨hf.1.used i q hi,hi⟩
 refine⟨M,N',⟨(d,p)::f,(n,some o)::h,n+1⟩,X.put b (.out n e),⟨rfl,rfl,rfl,W0 _,fun _ _ _=>rfl, .refl _,fun c m h1 h2=>by simp[h1]at h2,hag,Zo _,fun c hc=> .inr ?_⟩,⟨⟨hf.1.dF,fun i q hi=>?_,fun i q hi hr=>?_,fun i q hi=>?_,fun i j q r hi hj hq hr he=>?_⟩,fun k=>?_,hf.2.2⟩,⟨fun c q g hc=>?_,fun c q g hc=>?_,fun c q g hc=>?_,fun c q g hc i r hi hr=>?_,fun c i g hc=>?_⟩,rfl,rfl⟩
 ·rcases hc with⟨i,q,h1,h2,h3⟩|⟨q,g,h1⟩
  ·rcases a0 i q h1 with⟨rfl,rfl⟩|⟨h4,h5⟩
   ·rw[c0]at h3;subst h3;exact .inr ⟨_,_,hX⟩
   ·exact .inl ⟨i,q,h5,h2,by rw[<-h3];exact(hag.aI i h4).symm⟩
  ·by_cases b0:c=b
   ·subst b0;rw[bc.du]at h1;cases h1
   ·rw[bc.kO _ _ b0]at h1;exact .inr ⟨q,g,h1⟩
 ·rcases a0 i q hi with⟨rfl,rfl⟩|⟨h4,_⟩
  ·exact YC _
  ·exact hU i h4
 ·rcases a0 i q hi with⟨rfl,rfl⟩|⟨h4,h5⟩
  ·rw[c0];exact hs.dF _ _ _ hX
  ·rw[hag.aI i h4];exact hf.1.eK i q h5 hr
 ·rcases a0 i q hi with⟨rfl,rfl⟩|⟨h4,h5⟩
  ·exact OR.move (G:=fun _=>True) (.refl _) (AO.all_true _) (fun p y _ hv=>hv.Gi (.refl _)) c0 d0 Z (hs.obj b _ e hX)
  ·exact(hf.1.obj i q h5).mono (.refl _) hag hU h4 Z
 ·rcases a0 i q hi with⟨rfl,rfl⟩|⟨h4,h5⟩<;>rcases a0 j r hj with⟨h6,rfl⟩|⟨h6,h7⟩
  ·exact h6.symm
  ·rw[c0,hag.aI j h6]at he;exact absurd he.symm (hs.apart b _ e hX j r h7 hr)
  ·subst h6;rw[c0,hag.aI i h4]at he;exact absurd he (hs.apart b _ e hX i q h5 hq)
  ·rw[hag.aI i h4,hag.aI j h6]at he;exact hf.1.inj i j q r h5 h7 hq hr he
 ·rw[AF.au];split
  ·rename_i hk;subst hk;exact hp M N' _ _ (YC _) c0 d0 ((hf.2.1 k).mono (.refl _) hag hU)
  ·exact(hf.2.1 k).mono (.refl _) hag hU
 all_goals by_cases b0:c=b
 ·subst b0;rw[bc.du]at hc;cases hc
 ·rw[bc.kO _ _ b0]at hc;exact hs.real c q g hc
 ·subst b0;rw[bc.du]at hc;cases hc
 ·rw[bc.kO _ _ b0]at hc;exact hs.obj c q g hc
 ·subst b0;rw[bc.du]at hc;cases hc
 ·rw[bc.kO _ _ b0]at hc;exact hs.dF c q g hc
 ·subst b0;rw[bc.du]at hc;cases hc
 ·rw[bc.kO _ _ b0]at hc;rcases a0 i r hi with⟨rfl,rfl⟩|⟨h4,h5⟩
  ·rw[c0];exact fun e=>b0 e.symm
  ·rw[hag.aI i h4];exact hs.apart c q g hc i r h5 hr
 ·subst b0;rw[bc.du]at hc;cases hc;exact⟨YC _,c0,d0⟩
 ·rw[bc.kO _ _ b0]at hc;obtain⟨h1,h2,h3⟩:=hs.out c i g hc;exact⟨hU i h1,(hag.aI i h1).trans h2,(hag.ext i h1).trans h3⟩
theorem jT{b e d a0 cap sz:Nat}{o:AO}(hX:X b=some (.obj o e))(hd:s.f.get d= .iv (.v (.slice (some ⟨b,0,none⟩) a0 cap)))(h0:0<a0)(hl:a0<=cap)(hc:cap<=maxLen)(he:cap*sz=e):
  SX nt s X (fun t Y=>t=⟨(d, .sl s.nx 0 a0 sz)::s.f,(s.nx,some o)::s.h,s.nx+1⟩∧Y=X.put b (.out s.nx e)):=
 Jh hX fun M N U x hu hb hE hv=>by
  rw[hd]at hv;cases hv with
  |iv _ _ hi=>cases hi with
   |v=>
    have:=VR.sl (M:=M) (N:=N) s.nx 0 a0 sz cap hu h0 hl hc (by rw[hE,Xk];exact he);rw[hb,Za]at this;exact this
theorem Hp{b e d:Nat}{o:AO}(hX:X b=some (.obj o e))(hd:s.f.get d= .iv (.v (.map (some b)))):
  SX nt s X (fun t Y=>t=⟨(d, .mp s.nx)::s.f,(s.nx,some o)::s.h,s.nx+1⟩∧Y=X.put b (.out s.nx e)):=
 Jh hX fun M N U x hu hb hE hv=>by
  rw[hd]at hv;cases hv with
  |iv _ _ hi=>cases hi with
   |v=>
    have:=VR.mp (M:=M) (N:=N) s.nx hu;rw[hb]at this;exact this
theorem Rel.drop{M:Mem}{N:Nm}{n:Nat}{h:AH}{w:World}(hr:Rel M N (· <n) h w)(i:Nat):Rel M N (· <n) ((i,none)::h) w:=
 ⟨hr.dF,fun j o hj=>hr.used j o (bz j o hj).2,fun j o hj a0=>hr.eK j o (bz j o hj).2 a0,fun j o hj=>hr.obj j o (bz j o hj).2,fun j l o p hj hl ho hp he=>hr.inj j l o p (bz j o hj).2 (bz l p hl).2 ho hp he⟩
theorem FX{M:Mem}{N:Nm}{n:Nat}{h:AH}{w:World}(hr:Rel M N (· <n) h w)(hs:dM M N n h X w){i:Nat}{o:AO}(hi:h.get i=some o)(b0:o.real=true)(d0:o.all PV.flat):
  jd M N n h X w M N n ((i,none)::h) (X.put (N.aI i) (.obj o (N.ext i))) w∧dM M N n ((i,none)::h) (X.put (N.aI i) (.obj o (N.ext i))) w:=by
 refine⟨⟨rfl,rfl,rfl,W0 _,fun _ _ _=>rfl, .refl _,fun b c h1 h2=>by simp[h1]at h2, .refl _ _,W0 _,fun c hc=> .inr ?_⟩,fun c q g hc=>?_,fun c q g hc=>?_,fun c q g hc=>?_,fun c q g hc j r hj c0=>?_,fun c j g hc=>?_⟩
 ·rcases hc with⟨j,q,h1,h2,h3⟩|⟨q,g,h1⟩
  ·exact .inl ⟨j,q,(bz j q h1).2,h2,h3⟩
  ·by_cases a0:c=N.aI i
   ·exact .inl ⟨i,o,hi,b0,a0.symm⟩
   ·rw[bc.kO _ _ a0]at h1;exact .inr ⟨q,g,h1⟩
 all_goals by_cases a0:c=N.aI i
 ·subst a0;rw[bc.du]at hc;cases hc;exact b0
 ·rw[bc.kO _ _ a0]at hc;exact hs.real c q g hc
 ·subst a0;rw[bc.du]at hc;cases hc;exact OR.move (G:=PV.flat) (N:=N) (i:=i) (.refl _) d0 (fun p x hg hv=>hv.Np hg) Z Z Z (hr.obj i o hi)
 ·rw[bc.kO _ _ a0]at hc;exact hs.obj c q g hc
 ·subst a0;exact hr.eK i o hi b0
 ·rw[bc.kO _ _ a0]at hc;exact hs.dF c q g hc
 ·obtain⟨h1,h2⟩:=bz j r hj;subst a0;exact fun e=>h1 (hr.inj j i r o h2 hi c0 b0 e)
 ·rw[bc.kO _ _ a0]at hc;exact hs.apart c q g hc j r (bz j r hj).2 c0
 ·subst a0;rw[bc.du]at hc;cases hc
 ·rw[bc.kO _ _ a0]at hc;exact hs.out c j g hc
theorem xc{b e i:Nat}{o:AO}(hX:X b=some (.out i e))(hi:s.h.get i=some o)(b0:o.real=true)(a0:o.all PV.flat):
  SX nt s X (fun t Y=>t=⟨s.f,(i,none)::s.h,s.nx⟩∧Y=X.put b (.obj o e)):=by
 intro M N a w hf hs;obtain⟨h1,rfl,rfl⟩:=hs.out b i e hX;obtain⟨h2,h3⟩:=FX hf.1 hs hi b0 a0;exact⟨M,N,⟨s.f,(i,none)::s.h,s.nx⟩,_,h2,⟨hf.1.drop i,hf.2⟩,h3,rfl,rfl⟩
theorem Ji{i d:Nat}{o:AO}{G:Nat->Nat->PV->Prop}(c0:X.still)(hi:s.h.get i=some o)(a0:o.real=true)(b0:o.all PV.flat)
  (hq: ∀(M:Mem) (N:Nm) (U:Nat->Prop) (x:Value),VR M N U (s.f.get d) x-> ∃q,G (N.aI i) (N.ext i) q∧VR M N U q x):
  SX nt s X (fun t Y=> ∃b e q,X b=none∧G b e q∧t=⟨(d,q)::s.f,(i,none)::s.h,s.nx⟩∧Y=X.put b (.obj o e)):=by
 intro M N a w hf hs;obtain⟨h2,h3⟩:=FX hf.1 hs hi a0 b0;obtain⟨q,h4,h5⟩:=hq M N _ _ (hf.2.1 d);refine⟨M,N,⟨(d,q)::s.f,(i,none)::s.h,s.nx⟩,_,h2,⟨hf.1.drop i,fun k=>?_,hf.2.2⟩,h3,N.aI i,N.ext i,q,?_,h4,rfl,rfl⟩
 ·rw[AF.au];split
  ·rename_i hk;subst hk;exact h5
  ·exact hf.2.1 k
 ·cases hx:X (N.aI i) with
  |none=>rfl
  |some y=>
   cases y with
   |obj p g=>exact absurd Z (hs.apart _ p g hx i o hi a0)
   |out j g=>exact absurd hx (c0 _ _ _)
theorem qI{i d a0 sz:Nat}{o:AO}(b0:X.still)(hi:s.h.get i=some o)(d0:o.real=true)(c0:o.all PV.flat)(hd:s.f.get d= .sl i 0 a0 sz)(h0:0<a0):
  SX nt s X (fun t Y=> ∃b e cap,X b=none∧a0<=cap∧cap<=maxLen∧cap*sz=e∧t=⟨(d, .iv (.v (.slice (some ⟨b,0,none⟩) a0 cap)))::s.f,(i,none)::s.h,s.nx⟩∧Y=X.put b (.obj o e)):=by
 intro M N a w hf hs
 obtain⟨M',N',t,Y,h1,h2,h3,b,e,q,h4,⟨cap,h5,h6,h7,rfl⟩,h8,h9⟩:=Ji (G:=fun b e q=> ∃cap,a0<=cap∧cap<=maxLen∧cap*sz=e∧q= .iv (.v (.slice (some ⟨b,0,none⟩) a0 cap))) (d:=d) b0 hi d0 c0 (fun M N U x hv=>by
  rw[hd]at hv;cases hv with
  |sl _ _ _ _ cap hu h0 hl hc he=>exact⟨_,⟨cap,hl,hc,by rw[Xk]at he;exact he,rfl⟩,by rw[Za];exact .iv _ _ (.v _)⟩
  |ph=>exact absurd h0 (ZU _)) M N a w hf hs
 exact⟨M',N',t,Y,h1,h2,h3,b,e,cap,h4,h5,h6,h7,h8,h9⟩
theorem Hq{i d:Nat}{o:AO}(b0:X.still)(hi:s.h.get i=some o)(c0:o.real=true)(a0:o.all PV.flat)(hd:s.f.get d= .mp i):
  SX nt s X (fun t Y=> ∃b e,X b=none∧t=⟨(d, .iv (.v (.map (some b))))::s.f,(i,none)::s.h,s.nx⟩∧Y=X.put b (.obj o e)):=by
 intro M N a w hf hs
 obtain⟨M',N',t,Y,h1,h2,h3,b,e,q,h4,rfl,h8,h9⟩:=Ji (G:=fun b e q=>q= .iv (.v (.map (some b)))) (d:=d) b0 hi c0 a0 (fun M N U x hv=>by
  rw[hd]at hv;cases hv with
  |mp _ hu=>exact⟨_,rfl, .iv _ _ (.v _)⟩) M N a w hf hs
 exact⟨M',N',t,Y,h1,h2,h3,b,e,h4,h8,h9⟩
inductive Up (X:bc):Value->IV->Prop
 | row (b len cap sz e:Nat) (es:List (List PV)) (el:Nat->List IV) (hX:X b=some (.obj (.row sz es) e)) (hn:len=es.length) (hl:len<=cap) (hc:cap<=maxLen) (hel: ∀k e,es[k]? =some e->e=(el k).map .iv):
   Up X (.slice (some ⟨b,0,none⟩) len cap) (.dq sz len el)
 |map {V:Type} (b e:Nat) (kc:KC) (ev:V->IV) (z:V) (zv:Value) (dv:PV->V) (m:List (kc.K×V)) (hX:X b=some (.obj (.map kc ev z zv dv m) e)):Up X (.map (some b)) (.fw kc ev z zv m)
 |fY {V:Type} (b e:Nat) (kc:KC) (ev:V->IV) (z:V) (zv:Value) (hX:X b=some (.obj .fY e)) (hz: ∀M,IR M (ev z) zv):Up X (.map (some b)) (.fw kc ev z zv [])
 |HT (y:Value):Up X y (.v y)
 |nil (sz:Nat) (el:Nat->List IV) (a:Option Addr) (cap:Nat):Up X (.slice a 0 cap) (.dq sz 0 el)
theorem Jw{M:Mem}{N:Nm}{n:Nat}{h:AH}{w:World}(hr:Rel M N (· <n) h w)(hs:dM M N n h X w):
  ∃M':Mem,M.le M'∧jd M N n h X w M' N n h bc.nil w∧Rel M' N (· <n) h w∧ ∀y p,Up X y p->IR M' p y:=by
 let M':Mem:=⟨fun b=>match X b with
  |some (.obj _ _)=>(match w.heap[b]? with|some (.cells c _ _)=>some (.cells c)|some (.map es cl)=>some (.map es cl)|_=>none)
  |_=>M.fn b,fun b c hb=>by
   have:=M.OV b c hb;cases hx:X b with
   |none=>simpa using this
   |some y=>cases y with
    |obj o e=>exact absurd (this.symm.trans (hs.dF b o e hx)) (by simp)
    |out i e=>simpa using this⟩
 have b0: ∀b,(∀o e,X b≠some (.obj o e))->M' b=M b:=fun b hb=>by
  show(match X b with|some (.obj _ _)=>_|_=>M.fn b)=M.fn b;cases hx:X b with
  |none=>rfl
  |some y=>cases y with
   |obj o e=>exact absurd hx (hb o e)
   |out i e=>rfl
 have d0: ∀b o e,X b=some (.obj o e)->M' b=(match w.heap[b]? with|some (.cells c _ _)=>some (MB.cells c)|some (.map es cl)=>some (MB.map es cl)|_=>none):=fun b o e hb=>by
  show(match X b with|some (.obj _ _)=>_|_=>M.fn b)=_;rw[hb]
 have c0:M.le M':=fun b c hb=>by
  rw[b0 b fun o e hx=>absurd (hb.symm.trans (hs.dF b o e hx)) (by simp)];exact hb
 refine⟨M',c0,⟨rfl,rfl,rfl,W0 _,fun _ _ _=>rfl,c0,fun b c h1 h2=>?_, .refl _ _,W0 _,fun c hc=> .inr ?_⟩,⟨fun b c hb=>?_,hr.used,fun i o hi g0=>?_,fun i o hi=>(hr.obj i o hi).mono c0 (.refl _ _) (fun _ h=>h) (hr.used i o hi) Z,hr.inj⟩,fun y p hu=>?_⟩
 ·cases hx:X b with
  |none=>rw[b0 b (by simp[hx]),h1]at h2;cases h2
  |some y=>cases y with
   |obj o e=>exact .inr (.inr ⟨o,e,hx⟩)
   |out i e=>rw[b0 b (by simp[hx]),h1]at h2;cases h2
 ·rcases hc with hc|⟨o,e,hc⟩
  ·exact .inl hc
  ·cases hc
 ·cases hx:X b with
  |none=>rw[b0 b (by simp[hx])]at hb;exact hr.dF b c hb
  |some y=>cases y with
   |out i e=>rw[b0 b (by simp[hx])]at hb;exact hr.dF b c hb
   |obj o e=>
    rw[d0 b o e hx]at hb;split at hb
    ·rename_i hh;cases hb;exact⟨_,_,hh⟩
    ·rename_i hh;cases hb;exact hh
    ·cases hb
 ·rw[b0 _ fun q e hx=>hs.apart _ q e hx i o hi g0 Z];exact hr.eK i o hi g0
 ·cases hu with
  |HT=>exact .v _
  |nil=>exact .kQ _ _ _ _
  |fY b e kc ev z zv hX hz=>
   have h1:=hs.obj b _ e hX;have h2:M' b=some (.map #[] 0):=by rw[d0 b _ e hX];rw[show w.heap[b]? =some (.map #[] 0) from h1]
   exact .fw _ _ _ _ _ b #[] 0 h2 Z (by simp) (by simp) (hz M') (by simp) (by simp)
  |map b e kc ev z zv dv m hX=>
   obtain⟨ents,cl,h1,h2,h3⟩:=hs.obj b _ e hX;have h4:M' b=some (.map ents cl):=by rw[d0 b _ e hX];rw[show w.heap[b]? =some (.map ents cl) from h1]
   have h5:=h2.mono c0;exact .fw _ _ _ _ _ b ents cl h4 h5.size h5.key h5.val (h3.mono c0) h5.inj h5.lt
  |row b len cap sz e es el hX hn hl hc hel=>
   rcases hs.obj b _ e hX with h0|⟨h0,c,T,g1,g2,g3,g4,g5⟩
   ·have:=hs.real b _ e hX;rw[h0]at this;cases this
   have h4:M' b=some (.cells c):=by rw[d0 b _ e hX];rw[show w.heap[b]? =some (.cells c T (0,0)) from g1]
   have a0: ∀o,M'.cell b o=c[o]? :=fun o=>by simp only[Mem.cell,h4]
   have e0: ∀k,k<len-> ∃e,es[k]? =some e:=fun k hk=>⟨_,WY (by omega)⟩
   have hlt: ∀k j,k<len->j<sz->k*sz+j<c.size:=fun k j hk hj=>by
    have:(k+1)*sz<=es.length*sz:=Xw _ (by omega);rw[Yj]at this;omega
   refine .dq _ _ _ _ _ _ hl hc (fun k hk=>?_) (fun k j hk hj=>?_) (fun k j p hk hp=>?_)
   ·obtain⟨e,he⟩:=e0 k hk;have:=g4 _ e he;rw[hel _ e he]at this;simpa using this
   ·rw[a0,Xk];simp[hlt k j hk hj]
   ·obtain⟨e,he⟩:=e0 k hk;have h9:=g4 _ e he;have f0:=hel _ e he;have hj:j<sz:=by rw[<-h9,f0,Xr];exact(WX.1 hp).1
    have:=g5 _ e j (.iv p) he (by rw[f0,W1,hp];rfl);rw[a0,Xk];rw[WT]at this;cases this with
    |iv _ _ h=>exact h.mono c0
def Up1(X:bc)(p p':PV):Prop:=p'=p∨ ∃y q,p= .iv (.v y)∧p'= .iv q∧Up X y q
inductive L7 (X:bc):AO->AO->Prop
 | row (sz:Nat) (es es':List (List PV)) (hl:es'.length=es.length) (h: ∀(k:Nat) (e':List PV),es'[k]? =some e'-> ∃e,es[k]? =some e∧e'.length=e.length∧ ∀(j:Nat) (p':PV),e'[j]? =some p'-> ∃p,e[j]? =some p∧Up1 X p p'):
   L7 X (.row sz es) (.row sz es')
 | map {V V':Type} (kc:KC) (ev:V->IV) (z:V) (zv:Value) (dv:PV->V) (m:List (kc.K×V)) (ev':V'->IV) (z':V') (dv':PV->V') (m':List (kc.K×V')) (hl:m'.length=m.length)
   (h: ∀(j:Nat) (x':kc.K×V'),m'[j]? =some x'-> ∃x y,m[j]? =some x∧x'.1=x.1∧ev x.2= .v y∧Up X y (ev' x'.2)) (hz: ∀M,IR M (ev' z') zv):L7 X (.map kc ev z zv dv m) (.map kc ev' z' zv dv' m')
theorem L7.or{M M':Mem}{N:Nm}{U:Nat->Prop}{w:World}{i:Nat}{o o':AO}(d0:M.le M')(hu: ∀y p,Up X y p->IR M' p y)(h:L7 X o o')(ho:OR M N U w i o):OR M' N U w i o':=by
 have hv: ∀p p' x,Up1 X p p'->VR M N U p x->VR M' N U p' x:=by
  rintro p p' x (rfl|⟨y,q,rfl,rfl,h3⟩) hx
  ·exact hx.mono d0 (.refl _ _) (fun _ h=>h)
  ·cases hx with
   |iv _ _ hi=>cases hi with
    |v=>exact .iv _ _ (hu _ _ h3)
 cases h with
 |row sz es es' hl h=>
  rcases ho with rfl|⟨h0,c,T,g1,g2,g3,g4,g5⟩
  ·left;exact YO.1 hl
  ·refine .inr ⟨h0,c,T,g1,g2,by rw[hl];exact g3,fun k e' b0=>?_,fun k e' j p' b0 c0=>?_⟩
   ·obtain⟨e,h1,h2,_⟩:=h k e' b0;rw[h2];exact g4 k e h1
   ·obtain⟨e,h1,_,h3⟩:=h k e' b0;obtain⟨p,h4,h5⟩:=h3 j p' c0;exact hv _ _ _ h5 (g5 k e j p h1 h4)
 |map kc ev z zv dv m ev' z' dv' m' hl h hz=>
  obtain⟨ents,cl,g1,g2,g3⟩:=ho;refine⟨ents,cl,g1,⟨g2.size.trans hl.symm,fun j x' a0=>?_,fun j x' a0=>?_,g2.inj,g2.lt⟩,hz M'⟩
  ·obtain⟨x,y,h1,h2,_⟩:=h j x' a0;rw[h2];exact g2.key j x h1
  ·obtain⟨x,y,h1,_,h3,h4⟩:=h j x' a0;have:=g2.val j x h1;rw[h3]at this;generalize(ents.getD j default).val=v at this ⊢;cases this with
   |v=>exact hu _ _ h4
theorem L7.real{o o':AO}(h:L7 X o o'):o'.real=o.real:=by
 cases h with
 |row sz es es' hl h=>cases es<;>cases es'<;>first|rfl|simp at hl
 |map=>rfl
theorem AT{i:Nat}{o o':AO}(hi:s.h.get i=some o)(hu:L7 X o o'):SX nt s X (fun t Y=>t=⟨s.f,(i,some o')::s.h,s.nx⟩∧Y=bc.nil):=by
 intro M N a w hf hs;obtain⟨M',h1,h2,h3,h4⟩:=Jw hf.1 hs;have a0: ∀j q,AH.get ((i,some o')::s.h) j=some q-> ∃q',s.h.get j=some q'∧q.real=q'.real∧(q=q'∨(j=i∧q=o')):=by
  intro j q hj;rw[AH.au]at hj;split at hj
  ·rename_i b0;subst b0;cases hj;exact⟨o,hi,hu.real, .inr ⟨rfl,rfl⟩⟩
  ·exact⟨q,hj,rfl, .inl Z⟩
 refine⟨M',N,⟨s.f,(i,some o')::s.h,s.nx⟩,bc.nil,?_,⟨⟨h3.dF,fun j q hj=>?_,fun j q hj hr=>?_,fun j q hj=>?_,fun j k q r hj hk hq hr he=>?_⟩,fun k=>(hf.2.1 k).mono h1 (.refl _ _) (fun _ h=>h),hf.2.2⟩, .nil ..,rfl,rfl⟩
 ·exact⟨h2.os,h2.tape,h2.output,h2.size,h2.jq,h2.rF,h2.jM,h2.nm,h2.ule,fun b hb=> .inr<|by
   rcases hb with⟨j,q,g1,g2,g3⟩|⟨q,g,g1⟩
   ·obtain⟨q',g4,g5,_⟩:=a0 j q g1;exact .inl ⟨j,q',g4,g5▸g2,g3⟩
   ·cases g1⟩
 ·obtain⟨q',g4,_⟩:=a0 j q hj;exact hf.1.used j q' g4
 ·obtain⟨q',g4,g5,_⟩:=a0 j q hj;exact h3.eK j q' g4 (g5▸hr)
 ·obtain⟨q',g4,_,rfl|⟨rfl,rfl⟩⟩:=a0 j q hj
  ·exact h3.obj j _ g4
  ·exact hu.or h1 h4 (hf.1.obj j o hi)
 ·obtain⟨q',g4,g5,_⟩:=a0 j q hj;obtain⟨r',g6,g7,_⟩:=a0 k r hk;exact hf.1.inj j k q' r' g4 g6 (g5▸hq) (g7▸hr) he
theorem Rel.congr{M:Mem}{N:Nm}{U:Nat->Prop}{h h':AH}{w:World}(he: ∀i,h'.get i=h.get i)(hr:Rel M N U h w):Rel M N U h' w:=
 ⟨hr.dF,fun i o hi=>hr.used i o (he i▸hi),fun i o hi=>hr.eK i o (he i▸hi),fun i o hi=>hr.obj i o (he i▸hi),fun i j o p hi hj=>hr.inj i j o p (he i▸hi) (he j▸hj)⟩
end
section
variable {P:Program}
section
variable {nt:Nat} {Q:XQ} {k0:List XI} {s:AS} {X:bc}
theorem FP{t:AS}(hh:t.h=s.h)(hn:t.nx=s.nx)(h: ∀M N a w,Fits M N s nt a w->dM M N s.nx s.h X w->FR M N (· <s.nx) t.f a.tmps):SX nt s X (fun t' Y=>t'=t∧Y=X):=by
 intro M N a w hf hs;obtain⟨f,h',n⟩:=t;simp only at hh hn;subst hh;subst hn;exact⟨M,N,⟨f,s.h,s.nx⟩,X, .refl _ _ _ _ _ _,⟨hf.1,h M N a w hf hs,hf.2.2⟩,hs,rfl,rfl⟩
theorem QC{d:Nat}{p:PV}(a0:aH (s.f.get d) p):SX nt s X (fun t Y=>t=⟨(d,p)::s.f,s.h,s.nx⟩∧Y=X):=
 FP Z Z fun M N a w hf _ k=>by
  rw[AF.au];split
  ·rename_i hk;subst hk;exact a0 M N _ _ (hf.2.1 k)
  ·exact hf.2.1 k
theorem Jj{b j e d:Nat}{p:PV}(hX:X b=some (.out j e))(hp: ∀(M:Mem) (N:Nm) (U:Nat->Prop) (x:Value),U j->N.aI j=b->N.ext j=e->VR M N U (s.f.get d) x->VR M N U p x):
  SX nt s X (fun t Y=>t=⟨(d,p)::s.f,s.h,s.nx⟩∧Y=X):=
 FP Z Z fun M N a w hf hs k=>by
  obtain⟨h1,h2,h3⟩:=hs.out b j e hX;rw[AF.au];split
  ·rename_i hk;subst hk;exact hp M N _ _ h1 h2 h3 (hf.2.1 k)
  ·exact hf.2.1 k
theorem EG{M:Mem}{N:Nm}{n:Nat}{h:AH}{w:World}(hr:Rel M N (· <n) h w){i:Nat}{o o':AO}(hi:h.get i=some o)(d0:o'.real=true->o.real=true)(ho:OR M N (· <n) w i o'):Rel M N (· <n) ((i,some o')::h) w:=by
 have a0: ∀j q,AH.get ((i,some o')::h) j=some q->(j=i∧q=o')∨(j≠i∧h.get j=some q):=by
  intro j q hj;rw[AH.au]at hj;split at hj
  ·rename_i c0;exact .inl ⟨c0,by simpa using hj.symm⟩
  ·rename_i c0;exact .inr ⟨c0,hj⟩
 refine⟨hr.dF,fun j q hj=>?_,fun j q hj b0=>?_,fun j q hj=>?_,fun j k q r hj hk hq b0 he=>?_⟩
 ·rcases a0 j q hj with⟨rfl,rfl⟩|⟨_,h2⟩
  ·exact hr.used j o hi
  ·exact hr.used j q h2
 ·rcases a0 j q hj with⟨rfl,rfl⟩|⟨_,h2⟩
  ·exact hr.eK j o hi (d0 b0)
  ·exact hr.eK j q h2 b0
 ·rcases a0 j q hj with⟨rfl,rfl⟩|⟨_,h2⟩
  ·exact ho
  ·exact hr.obj j q h2
 ·rcases a0 j q hj with⟨rfl,rfl⟩|⟨g1,h2⟩<;>rcases a0 k r hk with⟨g2,h3⟩|⟨g2,h3⟩
  ·exact g2.symm
  ·exact hr.inj j k o r hi h3 (d0 hq) b0 he
  ·subst g2;subst h3;exact hr.inj j k q o h2 hi hq (d0 b0) he
  ·exact hr.inj j k q r h2 h3 hq b0 he
theorem RW{i:Nat}{o o':AO}(hi:s.h.get i=some o)(b0:o'.real=true->o.real=true)(ho: ∀M N w,dM M N s.nx s.h X w->OR M N (· <s.nx) w i o->OR M N (· <s.nx) w i o'):
  SX nt s X (fun t Y=>t=⟨s.f,(i,some o')::s.h,s.nx⟩∧Y=X):=by
 intro M N a w hf hs;have a0: ∀j q,AH.get ((i,some o')::s.h) j=some q->q.real=true-> ∃q',s.h.get j=some q'∧q'.real=true:=by
  intro j q hj hq;rw[AH.au]at hj;split at hj
  ·rename_i c0;subst c0;cases hj;exact⟨o,hi,b0 hq⟩
  ·exact⟨q,hj,hq⟩
 refine⟨M,N,⟨s.f,(i,some o')::s.h,s.nx⟩,X,⟨rfl,rfl,rfl,W0 _,fun _ _ _=>rfl, .refl _,fun b c h1 h2=>by simp[h1]at h2, .refl _ _,W0 _,fun b hb=> .inr ?_⟩,
  ⟨EG hf.1 hi b0 (ho M N w hs (hf.1.obj i o hi)),hf.2⟩,⟨hs.real,hs.obj,hs.dF,fun b p e hb j q hj hq=>?_,hs.out⟩,rfl,rfl⟩
 ·rcases hb with⟨j,q,h1,h2,h3⟩|hb
  ·obtain⟨q',g1,g2⟩:=a0 j q h1 h2;exact .inl ⟨j,q',g1,g2,h3⟩
  ·exact .inr hb
 ·obtain⟨q',g1,g2⟩:=a0 j q hj hq;exact hs.apart b p e hb j q' g1 g2
theorem xb{i:Nat}{o o':AO}(hi:s.h.get i=some o)(a0:fQ o o'):SX nt s X (fun t Y=>t=⟨s.f,(i,some o')::s.h,s.nx⟩∧Y=X):=
 RW hi a0.1 fun M N w _ h=>a0.2 M N _ w i h
end
end
section
variable {P:Program} {nt:Nat} {Q:XQ} {k0:List XI} {s:AS} {X:bc} {ty:Ty}
theorem E8{c:Code}{R R':AS->bc->Prop}(h: ∀t Y,R t Y->R' t Y)(hg:GX P nt (.code c:: .lp R::k0) Q s X):GX P nt (.code c:: .lp R'::k0) Q s X:=by
 intro M N a w hf hs;refine AX.then hg hf hs fun e a' w' M' N' s' X' hx b0 a0 hr=>⟨M',N',s',X',hx,b0,a0,?_⟩
 cases e with
 |normal=>exact h _ _ hr
 |_=>exact hr
theorem j7{body:Code}{σ:Type 1}(i0 n:Nat)(c0:i0<=n)(I:Nat->σ->AS)(J:Nat->σ->bc->Prop)(x0:σ)(L0:List Nat)(j0:J i0 x0 X)(h0:Wk s.nx L0 s (I i0 x0))(b0: ∀i x Y,J i x Y->Y.still)
  (a0: ∀i x Y,i<=n->J i x Y->GX P nt (.code body:: .lp (fun t Y'=>i<n∧ ∃x' L,J (i+1) x' Y'∧Wk s.nx L t (I (i+1) x'))::k0) Q (I i x) Y):GX P nt (.code (.loop body)::k0) Q s X:=by
 refine Uw (σ:={p:Nat×σ×bc//p.1<=n∧J p.1 p.2.1 p.2.2}) (fun p=>I p.1.1 p.1.2.1) (fun p=>p.1.2.2) (fun p=>n-p.1.1) ⟨(i0,x0,X),c0,j0⟩ L0 h0 Z (fun p=>b0 _ _ _ p.2.2) fun p=>?_;obtain⟨⟨i,x,Y⟩,h1,h2⟩:=p;refine E8 ?_ (a0 i x Y h1 h2)
 rintro t Y' ⟨h3,x',L,h4,h5⟩;exact⟨⟨(i+1,x',Y'),h3,h4⟩,L,by show n-(i+1)<n-i;omega,h5,rfl⟩
end
section
variable {P:Program} {nt:Nat} {Q:XQ} {k:List XI} {s:AS} {X:bc}
def GoW(P:Program)(nt:Nat)(k:List XI)(Q:XQ)(X:bc)(n0:Nat)(t:AS):AQ:=fun e u=>(e= .normal∧ ∃L,Wk n0 L u t)∨(e≠ .normal∧kx P nt k Q e u X)
theorem jB{n0:Nat}{t u:AS}(L:List Nat)(h:Wk n0 L u t):GoW P nt k Q X n0 t .normal u:= .inl ⟨rfl,L,h⟩
theorem fZ{c:Code}(t:AS)(h1:GO P nt [.code c] (GoW P nt k Q X s.nx t) s)(h2:GX P nt k Q t X):GX P nt (.code c::k) Q s X:=by
 intro M N a w hf hs;refine AW.then h1 hf fun e a' w' M' N' u hx a0 hr=>?_;rcases hr with⟨rfl,L,hw⟩|⟨_,hr⟩
 ·obtain⟨g1,g2⟩:=jd.frame (hw.ext hx) hs;exact⟨M',_,t,X,g1,hw.fits a0,g2,h2⟩
 ·obtain⟨g1,g2⟩:=jd.frame hx hs;exact⟨M',N',u,X,g1,a0,g2,hr⟩
def bc.drop(X:bc)(b:Nat):bc:=fun c=>if c=b then none else X c
theorem Hr(b:Nat):SX nt s X (fun t Y=>t=s∧Y=X.drop b):=by
 intro M N a w hf hs;have h: ∀c y,X.drop b c=some y->X c=some y:=fun c y hc=>by
  unfold bc.drop at hc;split at hc
  ·cases hc
  ·exact hc
 refine⟨M,N,s,X.drop b,⟨rfl,rfl,rfl,W0 _,fun _ _ _=>rfl, .refl _,fun c d h1 h2=>by simp[h1]at h2, .refl _ _,W0 _,fun c hc=> .inr ?_⟩,hf,⟨fun c o e hc=>hs.real c o e (h c _ hc),fun c o e hc=>hs.obj c o e (h c _ hc),fun c o e hc=>hs.dF c o e (h c _ hc),fun c o e hc=>hs.apart c o e (h c _ hc),fun c i e hc=>hs.out c i e (h c _ hc)⟩,rfl,rfl⟩;rcases hc with hc|⟨o,e,hc⟩
 ·exact .inl hc
 ·exact .inr ⟨o,e,h c _ hc⟩
end
end Go.Al
namespace Go.Proofs.YtflegjieadkonaaGreatDoor
open Go Go.Al
def Vx(b:Option Nat):IV:= .v (.map b)
def dvR(p:PV):Option Nat:=match p with
 | .iv (.v (.map b))=>b
 |_=>none
abbrev RM:=List ((KC.str).K×Option Nat)
abbrev gO(m:RM):AO:= .map .str Vx none (.map none) dvR m
abbrev BS:=Nat×Nat
def lW(l:List Decl)(B:List BS):RM:=Z0 (fun d b=>(d.name,some b.1)) l B
def eR(L:List (Nat×Nat×NM)):bc:=fun b=>(L.find? fun y=>y.1==b).map fun y=> .obj (c9 y.2.2) y.2.1
theorem js(L:List (Nat×Nat×NM)):(eR L).still:=by
 intro b i e h;unfold eR at h;cases hf:L.find? fun y=>y.1==b<;>rw[hf]at h<;>cases h
def rowsOf(l:List Decl)(B:List BS)(hs:List (aj×aj×Nat)):List (Nat×Nat×NM):=Z0 (fun d b=>(b.1,b.2,cY hs d.name)) l B
theorem H4{V:Type}{kc:KC}{ev:V->IV}{z:V}{zv:Value}{dv:PV->V}(hz: ∀M,IR M (ev z) zv):fQ .fY (.map kc ev z zv dv []):=
 ⟨id,fun M N U w j hj=>⟨#[],0,hj,⟨rfl,by simp,by simp,by simp,by simp⟩,hz M⟩⟩
structure BOK (l:List Decl) (i:Nat) (B:List BS):Prop where
 len:B.length=i
 nd:(B.map Xl).Nodup
theorem CE(l:List Decl):lW l []=[]:=by cases l<;>rfl
theorem xk(l:List Decl)(hs:List (aj×aj×Nat)):rowsOf l [] hs=[]:=by cases l<;>rfl
theorem EA(l:List Decl)(hs:List (aj×aj×Nat)):eR (rowsOf l [] hs)=bc.nil:=by rw[xk];rfl
theorem wT{α β γ:Type}[Inhabited α](f:α->β->γ): ∀(l:List α) (B:List β) (x:β),B.length<l.length->Z0 f l (B++ [x])=Z0 f l B++ [f (l.getD B.length default) x]
 |a::l,[],x,_=>by simp
 |a::l,b::B,x,h=>by
  have:=wT f l B x (by simpa using h);simp[this]
 | [],B,x,h=>absurd h (Y6 _)
theorem Oq{B:List BS}{b e:Nat}(h:(B.map Xl).Nodup)(hb:b∉B.map Xl):((B++ [(b,e)]).map Xl).Nodup:=by
 rw[WZ,Yy];exact⟨h,by simp,fun u hu v hv g=>hb (by simp at hv;subst g;subst hv;exact hu)⟩
theorem pz(hs:List (aj×aj×Nat)): ∀(l:List Decl) (B:List BS),B.length<=l.length->(rowsOf l B hs).map Xl=B.map Xl
 |_,[],_=>by simp[xk]
 |d::l,b::B,h=>by
  have:=pz hs l B (by simpa using h);simp only[rowsOf,Z1,Xe]at this ⊢;rw[this]
 | [],b::B,h=>absurd h (by simp)
theorem Hz{l:List Decl}{B:List BS}{hs:List (aj×aj×Nat)}{b:Nat}(hl:B.length<=l.length)(h:eR (rowsOf l B hs) b=none):b∉B.map Xl:=by
 rw[<-pz hs l B hl];intro hm;obtain⟨y,hy,rfl⟩:=Xt.1 hm;unfold eR at h;rw[Y9,Yg]at h;exact h y hy (by simp)
theorem Cl(L:List (Nat×Nat×NM))(y:Nat×Nat×NM)(h:y.1∉L.map Xl):eR (L++ [y])=(eR L).put y.1 (.obj (c9 y.2.2) y.2.1):=by
 funext c
 unfold eR bc.put;rw[ZE];by_cases hc:c=y.1
 ·subst hc;rw[am Z];have:L.find? (fun z=>z.1==y.1)=none:=Yg.2 fun z hz=>by
   simp only[beq_iff_eq];exact fun e=>h (e▸X9 hz)
  rw[this];simp
 ·rw[be hc];have: ¬y.1=c:=fun e=>hc e.symm;cases hf:L.find? (fun z=>z.1==c)<;>simp[this,hf]
theorem Hy{l:List Decl}{B:List BS}{b e:Nat}(hl:B.length<l.length)(hb:b∉B.map Xl):eR (rowsOf l (B++ [(b,e)]) [])=(eR (rowsOf l B [])).put b (.obj (c9 []) e):=by
 have h:rowsOf l (B++ [(b,e)]) []=rowsOf l B []++ [(b,e,[])]:=wT _ l B (b,e) hl;rw[h];exact Cl _ _ (by rw[pz _ _ _ (Nat.le_of_lt hl)];exact hb)
theorem CD: ∀(l:List Decl) (B:List BS),B.length<=l.length->(lW l B).map Xl=(l.take B.length).map Decl.name
 |_,[],_=>by simp[CE]
 |d::l,b::B,h=>by
  have:=CD l B (by simpa using h);simp only[lW,Z1,Xe,Xx,Yh]at this ⊢;rw[this]
 | [],b::B,h=>absurd h (by simp)
theorem Oc{V:Type}{m:List ((KC.str).K×V)}{s:aj}{v:V}(h:s∉m.map Xl):b6 .str m s v=m++ [(s,v)]:=by
 induction m with
 |nil=>rfl
 |cons x r ih=>
  obtain⟨a,c⟩:=x;simp only[Xe,Xb,not_or]at h;have: ¬a=s:=fun e=>h.1 e.symm;simp only[b6,be this,ih h.2];rfl
theorem JS{l:List Decl}{B:List BS}{i b e:Nat}(hn:(l.map Decl.name).Nodup)(hi:B.length=i)(hl:i<l.length):b6 .str (lW l B) (l.getD i default).name (some b)=lW l (B++ [(b,e)]):=by
 subst hi;have h:lW l (B++ [(b,e)])=lW l B++ [((l.getD B.length default).name,some b)]:=wT _ l B (b,e) hl;rw[h];apply Oc;rw[CD l B (Nat.le_of_lt hl)];intro hm;have h2:l.map Decl.name=(l.take B.length).map Decl.name++(l.drop B.length).map Decl.name:=by rw[<-WZ,Zd]
 rw[h2,Yy]at hn;refine hn.2.2 _ hm _ (Xt.2 ⟨l.getD B.length default,?_,rfl⟩) Z;rw[WU,WY hl];exact List.mem_drop_iff_getElem.2 ⟨0,by simpa using hl,by simp⟩
def mj(r:aq)(l:Lit):List (aj×aj×Nat):=(named l).map fun t=>(r.head.rel,t,fN l)
def tP(r:aq):List (aj×aj×Nat):=r.body.flatMap (mj r)
theorem GW: ∀{L:List (Nat×Nat×NM)} {j:Nat} {y:Nat×Nat×NM},(L.map Xl).Nodup->L[j]? =some y->L.find? (fun z=>z.1==y.1)=some y
 | [],_,_,_,h=>by simp at h
 |x::L,0,y,_,h=>by
  simp only[ZA,WV]at h;subst h;simp
 |x::L,j+1,y,hn,h=>by
  rw[Y3]at h;rw[Xe,X5]at hn;have hne: ¬x.1=y.1:=fun e=>hn.1 (e▸X9 (Xo h));rw[Z2 (by simpa using hne)];exact GW hn.2 h
theorem tv{l:List Decl}{B:List BS}{hs:List (aj×aj×Nat)}{j:Nat}{d:Decl}{b:BS}(hl:B.length=l.length)(hn:(B.map Xl).Nodup)(hd:l[j]? =some d)(hb:B[j]? =some b):eR (rowsOf l B hs) b.1=some (.obj (c9 (cY hs d.name)) b.2):=by
 have h:(rowsOf l B hs)[j]? =some (b.1,b.2,cY hs d.name):=by
  unfold rowsOf;rw[Z8,hd,hb]
 have h2:=GW (by rw[pz hs l B (aai hl)];exact hn) h;unfold eR;rw[h2];rfl
theorem Ck{l:List Decl}{B:List BS}{hs:List (aj×aj×Nat)}{c:Nat}(hl:B.length<=l.length)(h:c∉B.map Xl):eR (rowsOf l B hs) c=none:=by
 rw[<-pz hs l B hl]at h;unfold eR;rw[Y9,Yg];intro y hy;simp only[beq_iff_eq];exact fun e=>h (e▸X9 hy)
theorem Hx{l:List Decl}{B:List BS}{hs:List (aj×aj×Nat)}{j h:Nat}{d:Decl}{b:BS}{t:aj}(hl:B.length=l.length)(hn:(B.map Xl).Nodup)(e0:(l.map Decl.name).Nodup)(hd:l[j]? =some d)(hb:B[j]? =some b):
  (eR (rowsOf l B hs)).put b.1 (.obj (c9 (FD (cY hs d.name) t h)) b.2)=eR (rowsOf l B (hs++ [(d.name,t,h)])):=by
 funext c
 unfold bc.put;by_cases hc:c=b.1
 ·subst hc;rw[am Z,tv hl hn hd hb,nN,am Z]
 ·rw[be hc];by_cases hm:c∈B.map Xl
  ·obtain⟨b',d0,rfl⟩:=Xt.1 hm;obtain⟨i,hi,rfl⟩:=Ye.1 d0;have a0:i<l.length:=by omega
   have c0:i≠j:=fun e=>hc (by subst e;rw[WY hi]at hb;cases hb;rfl);rw[tv hl hn (WY a0) (WY hi),tv hl hn (WY a0) (WY hi),nN,be];intro e;have hj:=(WX.1 hd)
   obtain⟨b0,f0⟩:=hj;apply c0;refine(Zt e0 (h₀:=by simpa using a0) (h₁:=by simpa using b0)).1 ?_;rw[ZG,ZG,f0];exact e.symm
  ·rw[Ck (aai hl) hm,Ck (aai hl) hm]
theorem Sb{l:List Decl}{B:List BS}{a:aj}(hl:B.length=l.length)(a0:(l.map Decl.name).Nodup)(ha:a∈l.map Decl.name): ∃(j:Nat) (d:Decl) (b:BS),l[j]? =some d∧B[j]? =some b∧d.name=a∧bQ .str (lW l B) a none=some b.1:=by
 induction l generalizing B with
 |nil=>cases ha
 |cons d l ih=>
  cases B with
  |nil=>cases hl
  |cons b B=>
   by_cases h:d.name=a
   ·exact⟨0,d,b,rfl,rfl,h,by simp[lW,bQ,h]⟩
   ·rw[Xe,X5]at a0;rw[Xe,Xb]at ha;obtain⟨j,d',b',h1,h2,h3,h4⟩:=ih (by simpa using hl) a0.2 (ha.resolve_left fun e=>h e.symm);exact⟨j+1,d',b',h1,h2,h3,by simpa[lW,bQ,h]using h4⟩
def dvG(_:PV):Option NM:=none
theorem I1{p:Prog}{B:List BS}(hl:B.length=p.aB.length)(hn:(B.map Xl).Nodup){hs:List (aj×aj×Nat)}:L7 (eR (rowsOf p.aB B hs)) (gO (lW p.aB B)) (.map .str HP none (.map none) dvG (bA p hs)):=by
 refine .map _ _ _ _ _ _ _ _ _ _ (by simp[bA,lW,hl]) (fun j x' hx=>?_) fun M=> .v _
 obtain⟨d,hd,rfl⟩: ∃d,p.aB[j]? =some d∧x'=(d.name,some (cY hs d.name)):=by
  unfold bA at hx;rw[W1,W6]at hx;obtain⟨d,h1,h2⟩:=hx;exact⟨d,h1,h2.symm⟩
 have a0:j<B.length:=by rw[hl];exact(WX.1 hd).1
 refine⟨(d.name,some B[j].1), .map (some B[j].1),?_,rfl,rfl,?_⟩
 ·unfold lW;rw[Z8,hd,WY a0]
 ·refine .map B[j].1 B[j].2 .str xY 0 (.int .i64 0) Vp (cY hs d.name) ?_;exact tv hl hn hd (WY a0)
theorem JC(hS:ft)(p:Prog)(hb:p.fit):Pure Tryz.prog 50 [ag p.c] (.bT [.iv (xQ p),pB (decide ((bF p).1=0))]):=by
 refine ad ab Tryz.func50 Z (by decide) Tryz.ntmps50 Z (by simp) Z ?_;refine gA Z (zp (c24 p hb) ?_);refine gA Z (zI (fun k1=>?_) fun k1=>?_)
 ·have k1: ¬(bF p).1=0:=by simpa using k1
  rw[xQ,be k1,decide_eq_false k1];refine gA Z (zL (.of_eq ?_));rfl
 have k1:(bF p).1=0:=by simpa using k1
 have hf:=oM k1;have a1:=hf.len;rw[xQ,am k1,decide_eq_true k1];refine gM 1 Z ?_;refine GD ?_;refine aG (bW ?_);refine gA Z ?_;refine aG (aG (fZ ⟨[(1, .ptr 0 0),(4, .mp 2),(20, .iv (dy 4 p.aB Decl.c)),(21,pI p.aB.length),(22,pI 0)],[(0,some (an p.c)),(2,some (gO []))],3⟩ ?_ ?_))
 ·refine gA Z (jB [1] ?_);exact zW (zK (KF Z (fun _=> .v _) Z ac))
 refine bP (j7 0 p.aB.length (W3 _) (fun i (x:ULift.{1} (List BS))=>⟨[(1, .ptr 0 0),(4, .mp 2),(20, .iv (dy 4 p.aB Decl.c)),(21,pI p.aB.length),(22,pI i)],[(0,some (an p.c)),(2,some (gO (lW p.aB x.down)))],3⟩)
  (fun i x Y=>BOK p.aB i x.down∧Y=eR (rowsOf p.aB x.down [])) ⟨[]⟩ [] ⟨⟨rfl,XT⟩,(EA p.aB []).symm⟩
  (zW (zK (hM Z (CE p.aB).symm Z ac))) (fun _ _ _ h=>h.2▸js _) fun i x Y hi hJ=>?_)
 obtain⟨hB,rfl⟩:=hJ;obtain⟨B⟩:=x;refine aG (bW ?_);refine gA Z ?_;refine aG (eM Z (fun h1=>fa ?_) (fun h1=>ie ?_))
 ·have h1:=ci h1;refine aG (bP (aG (bW ?_)));refine gA Z ?_;refine ic (bx 4 ?_);refine gA Z ?_;refine eA (xb (i:=4) (o':=c9 []) Z (H4 gK)) fun t Y ht=>?_;obtain⟨rfl,rfl⟩:=ht;refine eA (Hq (i:=4) (d:=29) (js _) Z Z ac Z) fun t Y ht=>?_;obtain⟨b,e,w0,rfl,rfl⟩:=ht;refine bx 1 ?_;refine gA Z ?_;refine eU (kR (bW ?_));refine gA Z ?_;have d0:=Hz (by rw[hB.len];exact hi) w0;exact⟨h1,⟨B++ [(b,e)]⟩,[],⟨⟨by rw[WW,hB.len];rfl,Oq hB.nd d0⟩,(Hy (by rw[hB.len];exact h1) d0).symm⟩,zW (zK (hM Z (JS hf.nodup hB.len h1) Z ac))⟩
 have h1:=co h1;have g0:B.length=p.aB.length:=by have:B.length=i:=hB.len;omega
 have k0:=hB.nd;clear hB;have hrl:p.rules.length<=1000000000:=hb.2.1
 let G:Nat->List (aj×aj×Nat):=fun r=>(p.rules.take r).flatMap tP
 change GX _ _ [.code _] _ _ _;refine aG (aG (fZ ⟨[(1, .ptr 0 0),(4, .mp 2),(32, .iv (dy 5 p.rules aq.c)),(33,pI p.rules.length),(34,pI 0)],[(0,some (an p.c)),(2,some (gO (lW p.aB B)))],3⟩ ?_ ?_))
 ·refine gA Z (jB [] ?_);exact zW (zK (hM Z Z Z ac))
 refine bP (j7 0 p.rules.length (W3 _) (fun i (_:PUnit.{2})=>⟨[(1, .ptr 0 0),(4, .mp 2),(32, .iv (dy 5 p.rules aq.c)),(33,pI p.rules.length),(34,pI i)],[(0,some (an p.c)),(2,some (gO (lW p.aB B)))],3⟩)
  (fun i _ Y=>Y=eR (rowsOf p.aB B (G i))) ⟨⟩ [] Z (zW (zK (hM Z Z Z ac))) (fun _ _ _ h=>h▸js _) fun n _ Y hn hJ=>?_)
 subst hJ;refine aG (bW ?_);refine gA Z ?_;refine aG (eM Z (fun h1=>fa ?_) (fun h1=>ie ?_));rotate_left
 ·have h1:=co h1;have r0:G n=aK p:=by show((p.rules.take n).flatMap tP)=_;rw[W2 h1];rfl
  rw[r0];change GX _ _ [.code _] _ _ _;refine Dm (AT (i:=2) (o':= .map .str HP none (.map none) dvG (bA p (aK p))) Z (I1 g0 k0)) fun t Y ht=>?_;obtain⟨rfl,rfl⟩:=ht;refine bW ?_;refine gA Z (jH (.inr Z) Z (iz.map 2 Z (.done (.refl _))))
 have h1:=ci h1;have hR:p.rules.getD n default∈p.rules:=bZ h1;have p0:G (n+1)=G n++tP (p.rules.getD n default):=by show((p.rules.take (n+1)).flatMap tP)=_;rw[aN h1,YT];simp;rfl
 have e0:=hb.2.2 _ hR;have c0:=e0.1;have b0:=hf.zP _ hR;have a0:=hf.lits _ hR;generalize q0:p.rules.getD n default=R at hR p0 e0 c0 b0 a0;refine aG (bP (aG (bW ?_)));refine gA Z ?_;refine aG (fZ ⟨[(1, .ptr 0 0),(4, .mp 2),(8, .ptr 3 0),(32, .iv (dy 5 p.rules aq.c)),(33,pI p.rules.length),(34,pI n),(39, .iv (lits R.body)),(40,pI R.body.length),(41,pI 0)],[(0,some (an p.c)),(2,some (gO (lW p.aB B))),(3,some (an R.c))],4⟩ ?_ ?_)
 ·refine gA Z (jB [] ?_);subst q0;exact zW (zK (hM Z Z Z (zK ac)))
 have y0:R.body.length<=10000000:=by have:=Lit.aw R.body;unfold aq.size at c0;omega
 refine bP (j7 0 R.body.length (W3 _) (fun i (_:PUnit.{2})=>⟨[(1, .ptr 0 0),(4, .mp 2),(8, .ptr 3 0),(32, .iv (dy 5 p.rules aq.c)),(33,pI p.rules.length),(34,pI n),(39, .iv (lits R.body)),(40,pI R.body.length),(41,pI i)],[(0,some (an p.c)),(2,some (gO (lW p.aB B))),(3,some (an R.c))],4⟩)
  (fun i _ Y=>Y=eR (rowsOf p.aB B (G n++(R.body.take i).flatMap (mj R)))) ⟨⟩ [] (by simp) (zW (zK (hM Z Z Z (zK ac)))) (fun _ _ _ h=>h▸js _) fun i _ Y z0 hJ=>?_)
 subst hJ;refine aG (bW ?_);refine gA Z ?_;refine aG (eM Z (fun h2=>fa ?_) (fun h2=>ie ?_));rotate_left
 ·have h2:=co h2;rw[W2 h2,show G n++R.body.flatMap (mj R)=G (n+1) from p0.symm];change GX _ _ (.code _::_) _ _ _;refine bW ?_;refine gA Z ⟨h1,⟨⟩,[],rfl,zW (zK (hM Z Z Z ac))⟩
 have h2:=ci h2;have hl:R.body.getD i default∈R.body:=bZ h2;have m0:(R.body.take (i+1)).flatMap (mj R)=(R.body.take i).flatMap (mj R)++mj R (R.body.getD i default):=by rw[aN h2,YT];simp
 have i0:(R.body.getD i default).size<=10000000:=by have:=Lit.aT R.body i h2;unfold aq.size at c0;omega
 have j0:=a0 _ hl;generalize x0:R.body.getD i default=l at hl m0 i0 j0;refine aG (bP (aG (bW ?_)));refine gA Z ?_;refine aG (fZ ⟨[(1, .ptr 0 0),(4, .mp 2),(8, .ptr 3 0),(10, .ptr 4 0),(32, .iv (dy 5 p.rules aq.c)),(33,pI p.rules.length),(34,pI n),(39, .iv (lits R.body)),(40,pI R.body.length),(41,pI i),(46, .iv (strs (named l))),(47,pI (named l).length),(48,pI 0)],[(0,some (an p.c)),(2,some (gO (lW p.aB B))),(3,some (an R.c)),(4,some (an l.c))],5⟩ ?_ ?_)
 ·subst x0;refine gA Z (zp (F3 (R.body.getD i default) (by omega)) ?_);refine gA Z (jB [] ?_);exact zW (zK (hM Z Z Z (zK (zK ac))))
 have b1:=lE l
 refine bP (j7 0 (named l).length (W3 _) (fun k (_:PUnit.{2})=>⟨[(1, .ptr 0 0),(4, .mp 2),(8, .ptr 3 0),(10, .ptr 4 0),(32, .iv (dy 5 p.rules aq.c)),(33,pI p.rules.length),(34,pI n),(39, .iv (lits R.body)),(40,pI R.body.length),(41,pI i),(46, .iv (strs (named l))),(47,pI (named l).length),(48,pI k)],[(0,some (an p.c)),(2,some (gO (lW p.aB B))),(3,some (an R.c)),(4,some (an l.c))],5⟩)
  (fun k _ Y=>Y=eR (rowsOf p.aB B ((G n++(R.body.take i).flatMap (mj R))++((named l).take k).map fun t=>(R.head.rel,t,fN l)))) ⟨⟩ [] (by simp) (zW (zK (hM Z Z Z (zK (zK ac))))) (fun _ _ _ h=>h▸js _) fun k _ Y hk hJ=>?_)
 subst hJ;refine aG (bW ?_);refine gA Z ?_;refine aG (eM Z (fun h3=>fa ?_) (fun h3=>ie ?_));rotate_left
 ·have h3:=co h3;have eX:(G n++(R.body.take i).flatMap (mj R))++(named l).map (fun t=>(R.head.rel,t,fN l))=G n++(R.body.take (i+1)).flatMap (mj R):=by rw[Xa,m0];rfl
  rw[W2 h3,eX];change GX _ _ (.code _::_) _ _ _;refine bW ?_;refine gA Z ⟨h2,⟨⟩,[],rfl,zW (zK (hM Z Z Z (zK ac)))⟩
 have h3:=ci h3;obtain⟨j,d,b,hd,o0,t0,n0⟩:=Sb g0 hf.nodup b0;have hX:=tv (hs:=(G n++(R.body.take i).flatMap (mj R))++((named l).take k).map fun t=>(R.head.rel,t,fN l)) g0 k0 hd o0;have f0:=Hx (hs:=(G n++(R.body.take i).flatMap (mj R))++((named l).take k).map fun t=>(R.head.rel,t,fN l)) (t:=(named l).getD k default) (h:=fN l) g0 k0 hf.nodup hd o0;rw[t0]at hX f0;have s0:((G n++(R.body.take i).flatMap (mj R))++((named l).take k).map fun t=>(R.head.rel,t,fN l))++ [(R.head.rel,(named l).getD k default,fN l)]=(G n++(R.body.take i).flatMap (mj R))++((named l).take (k+1)).map fun t=>(R.head.rel,t,fN l):=by
  rw[aN h3,WZ,Xa];rfl
 rw[s0]at f0;generalize(G n++(R.body.take i).flatMap (mj R))++((named l).take k).map (fun t=>(R.head.rel,t,fN l))=hs at hX f0;refine aG (bP (aG (bW ?_)));refine gA Z ?_;refine aG (bW ?_);refine gA Z ?_;refine aG (fZ ⟨[(1, .ptr 0 0),(4, .mp 2),(8, .ptr 3 0),(10, .ptr 4 0),(32, .iv (dy 5 p.rules aq.c)),(33,pI p.rules.length),(34,pI n),(39, .iv (lits R.body)),(40,pI R.body.length),(41,pI i),(46, .iv (strs (named l))),(47,pI (named l).length),(48,pI k),(12,pS ((named l).getD k default)),(13,pI (fN l))],[(0,some (an p.c)),(2,some (gO (lW p.aB B))),(3,some (an R.c)),(4,some (an l.c))],5⟩ ?_ ?_)
 ·refine gA Z (zI (fun h4=>?_) fun h4=>?_)
  ·have h4:l.kind=1:=zT h4;refine gA Z (jB [] ?_);exact zM (bv (bv (bv (bv (bv (bv (bv (bv (bv (bv (bv (bv (bv (bv ⟨.of_eq (by rw[fN,am h4];rfl),rfl,ac⟩)))))))))))))) (zK (hM Z Z Z (zK (zK ac))))
  ·have h4: ¬l.kind=1:=zF h4;refine gA Z (jB [] ?_);exact zM (bv (bv (bv (bv (bv (bv (bv (bv (bv (bv (bv (bv (bv (bv ⟨.of_eq (by rw[fN,be h4];rfl),rfl,ac⟩)))))))))))))) (zK (hM Z Z Z (zK (zK ac))))
 refine ic (bx 12 ?_);refine gA Z ?_;refine eA (Hp (d:=65) hX (show PV.iv (.v (.map (bQ .str (lW p.aB B) R.head.rel none)))=_ by rw[n0])) fun t Y ht=>?_;obtain⟨rfl,rfl⟩:=ht;refine eA (Jj (b:=b.1) (j:=5) (e:=b.2) (d:=59) (p:= .mp 5) (bc.du _ _ _) fun M N U x hu v0 _ hv=>?_) fun t Y ht=>?_
 ·have hv:VR M N U (PV.iv (.v (.map (bQ .str (lW p.aB B) R.head.rel none)))) x:=hv;rw[n0]at hv;cases hv with
  |iv _ _ hi=>cases hi with
   |v=>rw[<-v0];exact .mp 5 hu
 obtain⟨rfl,rfl⟩:=ht;refine bx 4 ?_;refine gA Z ?_;refine eU (kR (Dm (xc (b:=b.1) (e:=b.2) (i:=5) (o:=c9 (FD (cY hs R.head.rel) ((named l).getD k default) (fN l))) (bc.du _ _ _) Z Z ac) fun t Y ht=>?_));obtain⟨rfl,rfl⟩:=ht;rw[bc.Gf];refine bW ?_;refine gA Z ⟨h3,⟨⟩,[],f0,zW (zK (hM Z Z Z (zK (zK ac))))⟩
end Go.Proofs.YtflegjieadkonaaGreatDoor
namespace Go.Proofs.YtflegjieadkonaaGreatDoor
open Go Go.Al Go.Proofs.Tryz Go.Tj
def sa(e:Option aj)(i:Nat)(l:List aj):PV:=match e,l with
 |some _,[]=> .sl i 1 0 1
 |_,l=> .sl i 0 l.length 1
def sb(e:Option aj)(l:List aj):AO:=match e,l with
 |some y,[]=> .row 1 [[pS y]]
 |_,l=>aD 1 l cW
theorem nG(σ:Nat->Nat)(e:Option aj)(i:Nat)(l:List aj):(sa e i l).c7 σ=sa e (σ i) l:=by cases e<;>cases l<;>rfl
theorem nH(σ:Nat->Nat)(e:Option aj)(l:List aj):(sb e l).c7 σ=sb e l:=by
 cases e<;>cases l<;>first|rfl|exact bC σ
theorem Cf{n i:Nat}(h:Xi i n=true)(e:Option aj)(l:List aj):(sa e i l).low n=true:=by cases e<;>cases l<;>exact h
theorem Ci(n:Nat)(e:Option aj)(l:List aj):(sb e l).low n:=by
 cases e with
 |none=>exact cL n
 |some y=>
  cases l with
  |nil=>
   intro k e he;cases k with
   |zero=>cases he;rfl
   |succ k=>cases he
  |cons=>exact cL n
theorem Ce{e:Option aj}{i:Nat}{l:List aj}(h:e=none∨l≠ []):sa e i l= .sl i 0 l.length 1:=by
 cases e with
 |none=>rfl
 |some y=>cases l with
  |nil=>exact absurd Z (h.resolve_left (by simp))
  |cons=>rfl
theorem Cg{e:Option aj}{l:List aj}(h:e=none∨l≠ []):sb e l=aD 1 l cW:=by
 cases e with
 |none=>rfl
 |some y=>cases l with
  |nil=>exact absurd Z (h.resolve_left (by simp))
  |cons=>rfl
structure TW where
 low:NM
 on:NM
 ring:NM
 stack:List aj
 wa:Option aj
def TW.st(w:TW):St aj:=⟨fun a=>bQ .str w.low a 0,fun a=>bQ .str w.on a 0,fun a=>bQ .str w.ring a 0,w.low.length,w.stack⟩
structure TW.Ok (V:List aj) (w:TW):Prop where
 nz: ∀a∈w.low.map Xl,bQ .str w.low a 0≠0
 nd:(w.low.map Xl).Nodup
 sub: ∀a∈w.low.map Xl,a∈V
abbrev BY:PV:= .dr (.func 92) [] [.ptr 0 0, .ptr 1 0, .ptr 2 0, .ptr 3 0, .ptr 4 0, .ptr 5 0]
abbrev tO(G:IV)(w:TW):List AO:=[.cells [.mp 6], .cells [.mp 7], .cells [sa w.wa 9 w.stack], .cells [.iv G], .cells [BY], .cells [.mp 8],c9 w.low,c9 w.on,c9 w.ring,sb w.wa w.stack]
abbrev tH(G:IV)(w:TW)(k:Nat):AH:=[(0,some (.cells [.mp 6])),(1,some (.cells [.mp 7])),(2,some (.cells [sa w.wa k w.stack])),(3,some (.cells [.iv G])),(4,some (.cells [BY])),(5,some (.cells [.mp 8])),
 (6,some (c9 w.low)),(7,some (c9 w.on)),(8,some (c9 w.ring)),(k,some (sb w.wa w.stack))]
theorem wX{n k:Nat}{σ:Nat->Nat}{h:AH}{G:IV}{w:TW}{q2:PV}{l6 l7 l8:NM}{o:AO}(b:YQ 9 n=true)(bk:Xi k n=true)(hs: ∀i,i<9->σ i=i)
  (g0:h.get 0=some (.cells [.mp 6])) (g1:h.get 1=some (.cells [.mp 7])) (g2:h.get 2=some (.cells [q2])) (g3:h.get 3=some (.cells [.iv G])) (g4:h.get 4=some (.cells [BY])) (g5:h.get 5=some (.cells [.mp 8]))
  (g6:h.get 6=some (c9 l6)) (g7:h.get 7=some (c9 l7)) (g8:h.get 8=some (c9 l8)) (g9:h.get (σ k)=some o)
  (e2:q2=sa w.wa (σ k) w.stack) (e6:l6=w.low) (e7:l7=w.on) (e8:l8=w.ring) (e9:fQ o (sb w.wa w.stack)):rr n σ h (tH G w k):=by
 have b9:=WR b;have bk:=WR bk;have hb: ∀i,i<9->Xi i n=true:=fun i hi=>XB (by omega);subst e2 e6 e7 e8;have r: ∀i,i<9->PV.mp (σ i)=PV.mp i:=fun i hi=>by rw[hs i hi]
 have rp: ∀i,i<9->PV.ptr (σ i) 0=PV.ptr i 0:=fun i hi=>by rw[hs i hi]
 have lm: ∀i,i<9->bs n [PV.mp i]=true:=fun i hi=>by simp only[bs,PV.low,hb i hi]
 refine⟨⟨_,by rw[hs 0 (by omega)];exact g0, .of_eq (by simp only[AO.c7,dS,PV.c7,r 6 (by omega)])⟩,by omega,lm 6 (by omega),
  ⟨_,by rw[hs 1 (by omega)];exact g1, .of_eq (by simp only[AO.c7,dS,PV.c7,r 7 (by omega)])⟩,by omega,lm 7 (by omega),
  ⟨_,by rw[hs 2 (by omega)];exact g2, .of_eq (by simp only[AO.c7,dS,nG])⟩,by omega,by simp only[AO.low,bs,Cf (XB bk)],
  ⟨_,by rw[hs 3 (by omega)];exact g3, .of_eq Z⟩,by omega,rfl,
  ⟨_,by rw[hs 4 (by omega)];exact g4, .of_eq (by simp only[AO.c7,dS,PV.c7,rp 0 (by omega),rp 1 (by omega),rp 2 (by omega),rp 3 (by omega),rp 4 (by omega),rp 5 (by omega)])⟩,by omega,by simp only[AO.low,bs,PV.low,hb 0 (by omega),hb 1 (by omega),hb 2 (by omega),hb 3 (by omega),hb 4 (by omega),hb 5 (by omega)],
  ⟨_,by rw[hs 5 (by omega)];exact g5, .of_eq (by simp only[AO.c7,dS,PV.c7,r 8 (by omega)])⟩,by omega,lm 8 (by omega),
  ⟨_,by rw[hs 6 (by omega)];exact g6, .of_eq Z⟩,by omega,ac,
  ⟨_,by rw[hs 7 (by omega)];exact g7, .of_eq Z⟩,by omega,ac,
  ⟨_,by rw[hs 8 (by omega)];exact g8, .of_eq Z⟩,by omega,ac,
  ⟨_,g9,by rw[nH];exact e9⟩,bk,Ci _ _ _,ac⟩
theorem AY(m:NM)(b:aj)(v:Int):(fun x=>bQ .str (b6 .str m b v) x 0)=AG (fun x=>bQ .str m x 0) b v:=by
 funext x
 rw[iG,AG];by_cases h:b=x
 ·rw[am h,am h.symm]
 ·rw[be h,be fun e=>h e.symm]
def TW.push(w:TW)(a:aj):TW:=⟨b6 .str w.low a ((w.low.length:Int)+1),b6 .str w.on a 1,w.ring,w.stack++ [a],none⟩
theorem TW.key{V:List aj}{w:TW}(h:w.Ok V){a:aj}(h0:w.st.low a=0):a∉w.low.map Xl:=fun g=>h.nz a g h0
theorem vn{m:NM}{a:aj}{v:Int}(h:a∉m.map Xl):(b6 .str m a v).length=m.length+1:=by
 have:=congrArg Zn (dN (v:=v) h);simpa using this
theorem TW.Od{V:List aj}{w:TW}(h:w.Ok V){a:aj}(h0:w.st.low a=0):(w.push a).st=Go.Tj.push w.st a:=
 St.eq (AY _ _ _) (AY _ _ _) Z (vn (TW.key h h0)) Z
theorem TW.Oe{V:List aj}{w:TW}(h:w.Ok V){a:aj}(h0:w.st.low a=0)(ha:a∈V):(w.push a).Ok V:=by
 have hk:=TW.key h h0;refine⟨fun x hx=>?_,?_,fun x hx=>?_⟩
 ·show bQ .str (b6 .str w.low a _) x 0≠0;rw[iG];split
  ·omega
  ·rename_i hne;have hx:x∈(b6 .str w.low a ((w.low.length:Int)+1)).map Xl:=hx;rw[dN hk,W7,W5]at hx;exact h.nz x (hx.resolve_right fun e=>hne e.symm)
 ·show((b6 .str w.low a _).map Xl).Nodup;rw[dN hk,Yy];exact⟨h.nd,by simp,fun u hu v hv e=>hk (by rw[W5]at hv;subst e;subst hv;exact hu)⟩
 ·have hx:x∈(b6 .str w.low a ((w.low.length:Int)+1)).map Xl:=hx;rw[dN hk,W7,W5]at hx;rcases hx with hx|rfl
  ·exact h.sub x hx
  ·exact ha
theorem TW.len{V:List aj}{w:TW}(h:w.Ok V):w.low.length<=V.length:=by
 have:=X0 h.nd (l₂:=V) h.sub;simpa using this
theorem TW.y8{V:List aj}{w:TW}(h:w.Ok V){succ:aj->List aj}{path:List aj}(hI:Inv succ path w.st):w.stack.length<=V.length:=by
 refine X0 (l₂:=V) ?_ fun y hy=>?_
 ·refine aah ?_ hI.Ta;intro x y a0 e;subst e;omega
 ·have h1:=(hI.y8 y).2 hy;have h2:w.st.low y≠0:=xr hI h1;refine h.sub y (Yb fun hc=>h2 (xE hc))
def TW.pop(w:TW)(u:List aj)(b:aj)(a0:Int):TW:=⟨w.low,b6 .str w.on b 2,b6 .str w.ring b a0,u,some b⟩
theorem TW.JW{w:TW}{u:List aj}{b:aj}(h:w.stack=u++ [b])(a0:Int):(w.pop u b a0).st=Bb a0 w.st:=by
 have h1:w.st.stack.getLast? =some b:=by show w.stack.getLast? =_;rw[h];simp
 have h2:w.st.stack.dropLast=u:=by show w.stack.dropLast=_;rw[h];simp
 unfold Bb;rw[h1];exact St.eq Z (AY _ _ _) (AY _ _ _) Z h2.symm
theorem TW.Sf{V:List aj}{w:TW}(h:w.Ok V)(u:List aj)(b:aj)(a0:Int):(w.pop u b a0).Ok V:=⟨h.nz,h.nd,h.sub⟩
theorem QI(hS:ft){p:Prog}(hf:jN p)(hl:(aK p).length<=100000000)(a:aj):Pure prog 52 [.iv (td (cY (aK p) a))] (.iv (strs (a8 p a))):=by
 rw[<-mM hf];exact Jz hS _ (Xz (JH _ _) hl)
abbrev Tk(a:aj):List PV:=[pS a, .ptr 0 0, .ptr 1 0, .ptr 2 0, .ptr 3 0, .ptr 4 0, .ptr 5 0]
abbrev vF(a:aj):AF:=[(0,pS a),(1, .ptr 0 0),(2, .ptr 1 0),(3, .ptr 2 0),(4, .ptr 3 0),(5, .ptr 4 0),(6, .ptr 5 0)]
def S2(p:Prog)(f:Nat):Prop:= ∀(path:List aj) (a:aj) (w:TW),w.Ok (ns p)->Inv (a8 p) path w.st->w.st.low a=0->a∈ns p->(∀g∈path,om (a8 p) g a)->lI (ns p) w.st<=f->
 Go.Al.Fn prog 92 (Tk a) (tO (qV (bA p (aK p))) w) fun r h n=> ∃w':TW,w'.Ok (ns p)∧w'.st=(fe (a8 p) f a w.st).2∧r=pI (fe (a8 p) f a w.st).1∧h=tH (qV (bA p (aK p))) w' 10∧n=11
theorem pY(p:Prog)(hs:List (aj×aj×Nat)){a:aj}(h:a∈p.aB.map Decl.name):(HP (bQ .str (bA p hs) a none)).pv= .iv (td (cY hs a)):=by rw[KH p hs h];rfl
theorem RV(G:IV)(w:TW){n:Nat}:[some (AO.cells [PV.mp 6]),some (.cells [.mp 7]),some (.cells [sa w.wa 11 w.stack]),some (.cells [.iv G]),some (.cells [BY]),some (.cells [.mp 8]),some (c9 w.low),some (c9 w.on),some (c9 w.ring),some (sb w.wa w.stack)]=
  (tO G w).map fun o=>some (o.c7 (sig [0,1,2,3,4,5,6,7,8,11] n)):=by
 have h1:=nG (sig [0,1,2,3,4,5,6,7,8,11] n) w.wa 9 w.stack;have h2:=nH (sig [0,1,2,3,4,5,6,7,8,11] n) w.wa w.stack;show _=[some (AO.cells [PV.mp 6]),some (.cells [.mp 7]),some (.cells [(sa w.wa 9 w.stack).c7 (sig [0,1,2,3,4,5,6,7,8,11] n)]),some (.cells [.iv G]),some (.cells [BY]),some (.cells [.mp 8]),some (c9 w.low),some (c9 w.on),some (c9 w.ring),some ((sb w.wa w.stack).c7 (sig [0,1,2,3,4,5,6,7,8,11] n))]
 rw[h1,h2];rfl
theorem Jl(u:List aj)(b:aj):((u++ [b]).map fun x=>(cW x).map PV.iv)[0+((((u.length+1:Nat):Int)-1).toNat)]? =some [pS b]:=by
 rw[Xk,show(((u.length+1:Nat):Int)-1).toNat=u.length by omega];simp[cW]
theorem Jm(i:Nat)(u:List aj)(b:aj):(u.length=0∧sa (some b) i u= .sl i 1 0 1)∨(0<u.length∧sa (some b) i u= .sl i 0 u.length 1):=by
 cases u with
 |nil=>exact .inl ⟨rfl,rfl⟩
 |cons x r=>exact .inr ⟨by simp,rfl⟩
theorem Ch(u:List aj)(b:aj):fQ (aD 1 (u++ [b]) cW) (sb (some b) u):=by
 cases u with
 |nil=>exact .of_eq Z
 |cons x r=>
  have e:sb (some b) (x::r)= .row 1 (((x::r++ [b]).map fun y=>(cW y).map PV.iv).take (x::r).length):=by
   rw[<-aaf,List.take_left];rfl
  rw[e];exact .take
theorem wj{p:Prog}: ∀a∈ns p,∀b∈a8 p a,b∈ns p:=fun _ _ _ h=>(Xs.1 h).1
theorem pK{p:Prog}(hf:jN p):(ns p).length<=64:=by
 have:=hf.len;rw[ns,ji,Xr];exact this
theorem IZ(hS:ft){p:Prog}(hf:jN p)(hl:(aK p).length<=100000000)(f:Nat)(ih:S2 p f):S2 p (f+1):=by
 intro path a w p0 hI h0 m0 hp hw;have w0:=pK hf;have n1:=mL hI.o5 m0 h0;have o1:=TW.len p0;have s1:=TW.y8 p0 hI;have i1:a∈p.aB.map Decl.name:=by rw[ns,c8]at m0;exact m0
 have g0:=TW.Od p0 h0;have d1:=TW.Oe p0 h0 m0;have w1:=X6 (eg p a) (ns p);refine xW ab func92 Z (by decide) ntmps92 Z (by simp) ?_;refine go_cut 6 (fun _:Unit=>⟨(9,pI ((w.low.length:Int)+1))::(10,pI ((w.low.length:Int)+1))::vF a,tH (qV (bA p (aK p))) (w.push a) 10,11⟩) Z ?_ ?_
 ·have y0:bQ .str (b6 .str w.low a ((w.low.length:Int)+1)) a 0=(w.low.length:Int)+1:=by rw[iG,am Z]
  by_cases hu:w.wa=none∨w.stack≠ []
  ·rw[show tO (qV (bA p (aK p))) w=[.cells [.mp 6], .cells [.mp 7], .cells [.sl 9 0 w.stack.length 1], .cells [.iv (qV (bA p (aK p)))], .cells [BY], .cells [.mp 8],c9 w.low,c9 w.on,c9 w.ring,aD 1 w.stack cW] by
    unfold tO;rw[Ce hu,Cg hu]]
   refine gA Z (gd () [11] ?_);exact wk Z Z Z ⟨.of_eq (congrArg pI y0),rfl,.of_eq (congrArg pI y0),rfl,bv (bv (bv (bv (bv (bv (bv ac))))))⟩
    (wX (w:=w.push a) Z Z (fun i hi=>gh (by show i<10;omega)) Z Z Z Z Z Z Z Z Z Z (by show _=PV.sl 11 0 (w.stack++ [a]).length 1;rw[WW];rfl) Z Z Z (.of_eq (by show _=aD 1 (w.stack++ [a]) cW;rw[aD,WZ];rfl))) Z
  ·obtain⟨y,hy,e1⟩: ∃y,w.wa=some y∧w.stack=[]:=by
    cases hg:w.wa with
    |none=>exact absurd (.inl hg) hu
    |some y=>exact⟨y,rfl,Yb fun h=>hu (.inr h)⟩
   rw[show tO (qV (bA p (aK p))) w=[.cells [.mp 6], .cells [.mp 7], .cells [.sl 9 1 0 1], .cells [.iv (qV (bA p (aK p)))], .cells [BY], .cells [.mp 8],c9 w.low,c9 w.on,c9 w.ring, .row 1 [[pS y]]] by
    unfold tO;rw[hy,e1];rfl]
   refine gA Z (BC ab Z Z Z Z Z Z Z Z Z (by simp) (by simp) (mD Z) Z ?_);refine gA Z (gd () [11] ?_);exact wk Z Z Z ⟨.of_eq (congrArg pI y0),rfl,.of_eq (congrArg pI y0),rfl,bv (bv (bv (bv (bv (bv (bv ac))))))⟩
    (wX (w:=w.push a) Z Z (fun i hi=>gh (by show i<10;omega)) Z Z Z Z Z Z Z Z Z Z (by show _=PV.sl 11 0 (w.stack++ [a]).length 1;rw[e1];rfl) Z Z Z (.of_eq (by show _=aD 1 (w.stack++ [a]) cW;rw[e1];rfl))) Z
 intro _;have hi:=CG hI h0 hp;rw[<-g0]at n1 hi;have hm:((w.push a).low.length:Int)=(w.low.length:Int)+1:=by
  have:=vn (v:=(w.low.length:Int)+1) (TW.key p0 h0);show(((b6 .str w.low a _).length:Nat):Int)=_;rw[this];omega
 have la:(w.push a).st.low a=(w.st.n:Int)+1:=by rw[g0];exact lJ _ _ _
 have oa:(w.push a).st.on a=1:=by rw[g0];exact lJ _ _ _
 have t1:gj (a8 p) path a w.st [] ((w.st.n:Int)+1,Go.Tj.push w.st a) []:=
  ⟨g0▸hi, .refl _,rfl,fun y hy=>(nomatch hy),YU _,fun y hy=>(nomatch hy),fun z hz=>(nomatch hz),fun z hz=>(nomatch hz),⟨a,g0▸oa,g0▸la, .refl _⟩⟩
 have v0:=fun pa b s=>rZ (succ:=a8 p) wj f pa b s
 let qf:Nat->Int×St aj:=fun i=>((a8 p a).take i).foldl (Go.Tj.fy (fe (a8 p) f)) ((w.st.n:Int)+1,Go.Tj.push w.st a)
 have t0: ∀i,∃t,gj (a8 p) path a w.st ((a8 p a).take i) (qf i) t:=fun i=>by
  have:=uV wj v0 hI h0 m0 (by rw[<-g0];omega) ((a8 p a).take i) [] _ [] t1 fun b hb=>ZI hb;rwa[Y5]at this
 refine gM 5 Z (tT ab (.iv (td (cY (aK p) a))) Z Z Z Z (pY p _ i1) Z ?_);refine gA Z (zp (QI hS hf hl a) ?_);refine gA Z ?_;refine tU 0 (a8 p a).length (W3 _) (fun i w2=>⟨(9,pI ((w.low.length:Int)+1))::(10,pI (qf i).1)::(32, .iv (strs (a8 p a)))::(33,pI (a8 p a).length)::(34,pI i)::vF a,tH (qV (bA p (aK p))) w2 11,12⟩)
  (fun i w2=>w2.Ok (ns p)∧w2.st=(qf i).2) (w.push a) [10] ⟨d1,g0⟩
  (wk Z Z Z (bv (bv (bv (bv (bv (bv (bv (bv (bv (bv (bv (bv trivial))))))))))))
   (wX Z Z (fun i hi=>gh (by show i<11;omega)) Z Z Z Z Z Z Z Z Z Z Z Z Z Z (.refl _)) Z) fun i w2 z1 hJ=>?_
 obtain⟨d0,b0⟩:=hJ;obtain⟨t2,c0⟩:=t0 i;have p1:(a8 p a).length<=64:=Xz w1 w0;refine gA Z (zI (fun h1=>?_) fun h1=>?_)
 ·have h1:=ci h1;have o0:qf (i+1)=Go.Tj.fy (fe (a8 p) f) (qf i) ((a8 p a).getD i default):=cR h1;have hb:((a8 p a).getD i default)∈a8 p a:=bZ h1;have a0:Go.Tj.fy (fe (a8 p) f) (qf i) ((a8 p a).getD i default)=if w2.st.low ((a8 p a).getD i default)=0 then(min (qf i).1 (fe (a8 p) f ((a8 p a).getD i default) w2.st).1,(fe (a8 p) f ((a8 p a).getD i default) w2.st).2)
    else if w2.st.on ((a8 p a).getD i default)=1 then(min (qf i).1 (w2.st.low ((a8 p a).getD i default)),w2.st) else(qf i):=by rw[b0];rfl
  refine gA Z (zI (fun h2=>?_) fun h2=>?_)
  ·have h2:w2.st.low ((a8 p a).getD i default)=0:=zT h2;rw[am h2]at a0;have j0: ∀g∈path++ [a],om (a8 p) g ((a8 p a).getD i default):=by
    intro g hg;have e0:(qf i).2.on a=1:=(c0.inv.y8 a).2 (by rw[c0.stack];simp);refine .step (c0.inv.dn g hg a e0 ?_) hb;rcases W7.1 hg with e|e
    ·have:=c0.pa hI h0 g e;omega
    ·rw[W5]at e;rw[e];exact YU _
   have q1:lI (ns p) w2.st<=f:=by
    have:=yU (V:=ns p) c0.le;rw[b0];rw[g0]at n1;omega
   refine gA Z (Dv [0,1,2,3,4,5,6,7,8,11] (ih (path++ [a]) ((a8 p a).getD i default) w2 d0 (b0▸c0.inv) h2 (wj a m0 ((a8 p a).getD i default) hb) j0 q1) Z Z Z Z Z (RV _ _) Z ?_);rintro r h' n' ⟨w3,hok3,hst3,rfl,rfl,rfl⟩;refine⟨_,rfl,?_⟩;refine gA Z ⟨h1,w3,[12],⟨hok3,by rw[o0,a0];exact hst3⟩,zM (bv ⟨.of_eq (by rw[o0,a0];rfl),rfl,bv (bv (bv (bv (bv (bv (bv (bv (bv (bv ac)))))))))⟩) (wX Z Z (fun i hi=>gh (by show i<11;omega)) Z Z Z Z Z Z Z Z Z Z (nG _ _ _ _) Z Z Z (.of_eq (nH _ _ _)))⟩
  ·have h2: ¬w2.st.low ((a8 p a).getD i default)=0:=zF h2;rw[be h2]at a0;refine gA Z (zI (fun h3=>?_) fun h3=>?_)
   ·have h3:w2.st.on ((a8 p a).getD i default)=1:=zT h3;rw[am h3]at a0;refine gA Z ⟨h1,w2,[11],⟨d0,by rw[o0,a0]⟩,zM (bv ⟨.of_eq (by rw[o0,a0];rfl),rfl,bv (bv (bv (bv (bv (bv (bv (bv (bv (bv ac)))))))))⟩) (wX Z Z (fun i hi=>gh (by show i<11;omega)) Z Z Z Z Z Z Z Z Z Z Z Z Z Z (.refl _))⟩
   ·have h3: ¬w2.st.on ((a8 p a).getD i default)=1:=zF h3;rw[be h3]at a0;refine gA Z ⟨h1,w2,[11],⟨d0,by rw[o0,a0];exact b0⟩,zM (bv ⟨.of_eq (by rw[o0,a0];rfl),rfl,bv (bv (bv (bv (bv (bv (bv (bv (bv (bv ac)))))))))⟩) (wX Z Z (fun i hi=>gh (by show i<11;omega)) Z Z Z Z Z Z Z Z Z Z Z Z Z Z (.refl _))⟩
 ·have h1:=co h1;have r1:i=(a8 p a).length:=by omega
  subst r1;have r0:fe (a8 p) (f+1) a w.st=we a ((w.st.n:Int)+1) (qf (a8 p a).length):=by
   show we a _ ((a8 p a).foldl _ _)=we a _ (((a8 p a).take (a8 p a).length).foldl _ _);rw[YE]
  have i0: ∀(w':TW) (k:Nat) (u:AS) (e:Exit),e= .normal∨e= .ret->10<=k->k<u.nx->lS pn u f92.results.toList=some (pI (qf (a8 p a).length).1)->w'.Ok (ns p)->w'.st=(we a ((w.st.n:Int)+1) (qf (a8 p a).length)).2->
    rr 11 (sg 10 [k]) u.h (tH (qV (bA p (aK p))) w' 10)->Pv pn f92.results.toList 10 (fun r h n=> ∃w':TW,w'.Ok (ns p)∧w'.st=(fe (a8 p) (f+1) a w.st).2∧r=pI (fe (a8 p) (f+1) a w.st).1∧h=tH (qV (bA p (aK p))) w' 10∧n=11) e u:=by
   intro w' k u e he hk v1 hr f1 a1 hh;refine GV [k] he hr ⟨w',f1,by rw[r0];exact a1,rfl,rfl,rfl⟩ ⟨rfl,by show 10<=u.nx;omega,by simpa using v1,⟨.of_eq ?_,rfl,ac⟩,hh,?_⟩
   ·show pI (qf (a8 p a).length).1=pI (fe (a8 p) (f+1) a w.st).1;rw[r0];unfold we;split<;>rfl
   ·show[0,1,2,3,4,5,6,7,8,k].Nodup;simp;omega
  generalize qf (a8 p a).length=q at*
  refine gA Z (zI (fun h4=>?_) fun h4=>?_);rotate_left
  ·have h4: ¬q.1=(w.st.n:Int)+1:=zF h4;refine gA Z (i0 w2 11 _ _ (.inr Z) (by omega) (by show 11<12;omega) Z d0 (by rw[we,be h4];exact b0) ?_);exact wX Z Z (fun i hi=>gh (by omega)) Z Z Z Z Z Z Z Z Z Z Z Z Z Z (.refl _)
  have h4:q.1=(w.st.n:Int)+1:=zT h4;have hE:(we a ((w.st.n:Int)+1) q).2=gz a ((w.st.n:Int)+1) q.2.stack.length q.2:=by rw[we,am h4]
  have e0:q.2.on a=1:=(c0.inv.y8 a).2 (by rw[c0.stack];simp);have hF:gz a ((w.st.n:Int)+1) (t2.length+1) q.2=(we a ((w.st.n:Int)+1) q).2:=by
   rw[hE,uO (by omega) c0.stack c0.at_ e0,uO (by rw[c0.stack];simp;omega) c0.stack c0.at_ e0]
  generalize(we a ((w.st.n:Int)+1) q).2=F at hF i0;refine gA Z ?_;refine o8 (σ:={v:TW//v.Ok (ns p)∧((∃t,v.stack=w.stack++a::t∧a∉t∧v.stack.length<=64∧v.st.on a=1∧gz a ((w.st.n:Int)+1) (t.length+1) v.st=F)∨(v.st.on a≠1∧v.st=F))})
   (fun v=>⟨(9,pI ((w.low.length:Int)+1))::(10,pI q.1)::vF a,tH (qV (bA p (aK p))) v.1 12,13⟩) (fun v=>v.1.stack.length) ⟨w2,d0, .inl ⟨t2,by rw[show w2.stack=w2.st.stack from rfl,b0];exact c0.stack,c0.at_,Xz (TW.y8 d0 (b0▸c0.inv)) w0,by rw[b0];exact e0,by rw[b0];exact hF⟩⟩ [11]
   (zW (wX Z Z (fun i hi=>gh (by show i<12;omega)) Z Z Z Z Z Z Z Z Z Z Z Z Z Z (.refl _))) fun v=>?_
  obtain⟨v,x0,hJ⟩:=v;rcases hJ with⟨t,hs,j1,s0,n0,f0⟩|⟨n0,y1⟩
  rotate_left
  ·refine gA Z (zI (fun h5=>?_) fun h5=>?_)
   ·exact absurd (zT h5) n0
   refine gA Z (i0 v 12 _ _ (.inr Z) (by omega) (by show 12<13;omega) Z x0 y1 ?_);exact wX Z Z (fun i hi=>gh (by omega)) Z Z Z Z Z Z Z Z Z Z Z Z Z Z (.refl _)
  have key: ∃u b,v.stack=u++ [b]∧((b=a∧Bb ((w.st.n:Int)+1) v.st=F)∨ ∃t',u=w.stack++a::t'∧a∉t'∧b≠a∧gz a ((w.st.n:Int)+1) (t'.length+1) (Bb ((w.st.n:Int)+1) v.st)=F):=by
   rcases t.eq_nil_or_concat with e|⟨t',b,e⟩
   ·subst e;refine⟨w.stack,a,hs, .inl ⟨rfl,?_⟩⟩;rw[YB,gz,am n0]at f0;exact f0
   ·rw[Z5]at e;subst e;refine⟨w.stack++a::t',b,by rw[hs];simp, .inr ⟨t',rfl,fun h=>j1 (by simp[h]),fun h=>j1 (by simp[h]),?_⟩⟩;rw[gz,am n0,WW]at f0;exact f0
  obtain⟨u,b,k0,q0⟩:=key;have a2:u.length+1<=64:=by rw[k0,WW]at s0;exact s0
  have hne:v.stack≠ []:=by rw[k0];simp
  have g1:v.stack.length=u.length+1:=by rw[k0,WW];rfl
  have u1:tH (qV (bA p (aK p))) v 12=[(0,some (.cells [.mp 6])),(1,some (.cells [.mp 7])),(2,some (.cells [.sl 12 0 (u.length+1) 1])),(3,some (.cells [.iv (qV (bA p (aK p)))])),(4,some (.cells [BY])),(5,some (.cells [.mp 8])),
    (6,some (c9 v.low)),(7,some (c9 v.on)),(8,some (c9 v.ring)),(12,some (aD 1 (u++ [b]) cW))]:=by
   unfold tH;rw[Ce (.inr hne),Cg (.inr hne),g1,k0]
  show GO prog _ _ _ ⟨_,tH (qV (bA p (aK p))) v 12,_⟩;rw[u1];refine gA Z (zI (fun h5=>?_) fun h5=>?_);rotate_left
  ·exact absurd n0 (zF h5)
  refine gM 9 Z (b4 ab Z Z Z Z Z (Jl u b) Z Z ?_);have l1:(v.pop u b ((w.st.n:Int)+1)).Ok (ns p)∧((∃t,(v.pop u b ((w.st.n:Int)+1)).stack=w.stack++a::t∧a∉t∧(v.pop u b ((w.st.n:Int)+1)).stack.length<=64∧(v.pop u b ((w.st.n:Int)+1)).st.on a=1∧gz a ((w.st.n:Int)+1) (t.length+1) (v.pop u b ((w.st.n:Int)+1)).st=F)∨((v.pop u b ((w.st.n:Int)+1)).st.on a≠1∧(v.pop u b ((w.st.n:Int)+1)).st=F)):=by
   refine⟨TW.Sf x0 u b _,?_⟩;rcases q0 with⟨rfl,z0⟩|⟨t',hu,b1,x1,z0⟩
   ·refine .inr ⟨?_,by rw[TW.JW k0];exact z0⟩;show bQ .str (b6 .str v.on b 2) b 0≠1;rw[iG,am Z];decide
   ·refine .inl ⟨t',hu,b1,by show u.length<=64;omega,?_,by rw[TW.JW k0];exact z0⟩;show bQ .str (b6 .str v.on b 2) a 0=1;rw[iG,be x1];exact n0
  have m1:(v.pop u b ((w.st.n:Int)+1)).stack.length<v.stack.length:=by show u.length<v.stack.length;omega
  rcases Jm 12 u b with hc|hc
  ·refine gA Z (GN ab u.length Z Z Z Z Z Z Z (by omega) (by omega) (by omega) (.inl ⟨hc.1,rfl⟩) Z ?_);refine gA Z ⟨⟨v.pop u b ((w.st.n:Int)+1),l1⟩,[12],m1,zW (wX Z Z (fun i hi=>gh (by show i<12;omega)) Z Z Z Z Z Z Z Z Z Z hc.2.symm Z Z Z (Ch u b))⟩
  ·refine gA Z (GN ab u.length Z Z Z Z Z Z Z (by omega) (by omega) (by omega) (.inr ⟨hc.1,rfl⟩) Z ?_);refine gA Z ⟨⟨v.pop u b ((w.st.n:Int)+1),l1⟩,[12],m1,zW (wX Z Z (fun i hi=>gh (by show i<12;omega)) Z Z Z Z Z Z Z Z Z Z hc.2.symm Z Z Z (Ch u b))⟩
theorem Ti(hS:ft){p:Prog}(hf:jN p)(hl:(aK p).length<=100000000): ∀f,S2 p f
 |0=>fun path a w b0 hI h0 a0 hp hw=>by
  have:=mL hI.o5 a0 h0;omega
 |f+1=>IZ hS hf hl f (Ti hS hf hl f)
theorem nJ(hS:ft){p:Prog}(hf:jN p)(hs:List (aj×aj×Nat)):Pure prog 51 [.iv (qV (bA p hs))] (.iv (strs (ns p))):=by
 have h:=JA hS (bA p hs) (by have:=hf.len;simp[bA];omega);rw[show(bA p hs).map (·.1)=p.aB.map Decl.name from Fg p hs]at h;exact h
abbrev Ob:PV:= .dr (.func 92) [] [.ptr 4 0, .ptr 5 0, .ptr 7 0, .ptr 0 0, .ptr 8 0, .ptr 6 0]
abbrev rH(G:IV)(w:TW)(k:Nat):AH:=[(0,some (.cells [.iv G])),(1,some (c9 w.low)),(2,some (c9 w.on)),(3,some (c9 w.ring)),(4,some (.cells [.mp 1])),(5,some (.cells [.mp 2])),(6,some (.cells [.mp 3])),(7,some (.cells [sa w.wa k w.stack])),(8,some (.cells [Ob])),(k,some (sb w.wa w.stack))]
theorem Rk{n k:Nat}{σ:Nat->Nat}{h:AH}{G:IV}{w:TW}{q7:PV}{o1 o2 o3 o:AO}(b:YQ 9 n=true)(bk:Xi k n=true)(hs: ∀i,i<9->σ i=i)
  (g0:h.get 0=some (.cells [.iv G])) (g1:h.get 1=some o1) (g2:h.get 2=some o2) (g3:h.get 3=some o3)
  (g4:h.get 4=some (.cells [.mp 1])) (g5:h.get 5=some (.cells [.mp 2])) (g6:h.get 6=some (.cells [.mp 3])) (g7:h.get 7=some (.cells [q7])) (g8:h.get 8=some (.cells [Ob])) (g9:h.get (σ k)=some o)
  (e1:fQ o1 (c9 w.low)) (e2:fQ o2 (c9 w.on)) (e3:fQ o3 (c9 w.ring)) (e7:q7=sa w.wa (σ k) w.stack) (e9:fQ o (sb w.wa w.stack)):rr n σ h (rH G w k):=by
 have b9:=WR b;have bk:=WR bk;have hb: ∀i,i<9->Xi i n=true:=fun i hi=>XB (by omega);subst e7;have r: ∀i,i<9->PV.mp (σ i)=PV.mp i:=fun i hi=>by rw[hs i hi]
 have rp: ∀i,i<9->PV.ptr (σ i) 0=PV.ptr i 0:=fun i hi=>by rw[hs i hi]
 have lm: ∀i,i<9->bs n [PV.mp i]=true:=fun i hi=>by simp only[bs,PV.low,hb i hi]
 refine⟨⟨_,by rw[hs 0 (by omega)];exact g0, .of_eq Z⟩,by omega,rfl,
  ⟨_,by rw[hs 1 (by omega)];exact g1,e1⟩,by omega,ac,
  ⟨_,by rw[hs 2 (by omega)];exact g2,e2⟩,by omega,ac,
  ⟨_,by rw[hs 3 (by omega)];exact g3,e3⟩,by omega,ac,
  ⟨_,by rw[hs 4 (by omega)];exact g4, .of_eq (by simp only[AO.c7,dS,PV.c7,r 1 (by omega)])⟩,by omega,lm 1 (by omega),
  ⟨_,by rw[hs 5 (by omega)];exact g5, .of_eq (by simp only[AO.c7,dS,PV.c7,r 2 (by omega)])⟩,by omega,lm 2 (by omega),
  ⟨_,by rw[hs 6 (by omega)];exact g6, .of_eq (by simp only[AO.c7,dS,PV.c7,r 3 (by omega)])⟩,by omega,lm 3 (by omega),
  ⟨_,by rw[hs 7 (by omega)];exact g7, .of_eq (by simp only[AO.c7,dS,nG])⟩,by omega,by simp only[AO.low,bs,Cf (XB bk)],
  ⟨_,by rw[hs 8 (by omega)];exact g8, .of_eq (by simp only[AO.c7,dS,PV.c7,rp 0 (by omega),rp 4 (by omega),rp 5 (by omega),rp 6 (by omega),rp 7 (by omega),rp 8 (by omega)])⟩,by omega,by simp only[AO.low,bs,PV.low,hb 0 (by omega),hb 4 (by omega),hb 5 (by omega),hb 6 (by omega),hb 7 (by omega),hb 8 (by omega)],
  ⟨_,g9,by rw[nH];exact e9⟩,bk,Ci _ _ _,ac⟩
theorem xB{V:Type}{kc:KC}{ev:V->IV}{z:V}{zv:Value}{dv:PV->V}(hz: ∀M,IR M (ev z) zv):fQ .fY (.map kc ev z zv dv []):=
 ⟨id,fun M N U w j hj=>⟨#[],0,hj,⟨rfl,by simp,by simp,by simp,by simp⟩,hz M⟩⟩
def TW.o:TW:=⟨[],[],[],[],none⟩
theorem Sc(G:IV)(w:TW){n:Nat}:[some (AO.cells [PV.mp 1]),some (.cells [.mp 2]),some (.cells [sa w.wa 10 w.stack]),some (.cells [.iv G]),some (.cells [Ob]),some (.cells [.mp 3]),some (c9 w.low),some (c9 w.on),some (c9 w.ring),some (sb w.wa w.stack)]=
  (tO G w).map fun o=>some (o.c7 (sig [4,5,7,0,8,6,1,2,3,10] n)):=by
 have h1:=nG (sig [4,5,7,0,8,6,1,2,3,10] n) w.wa 9 w.stack;have h2:=nH (sig [4,5,7,0,8,6,1,2,3,10] n) w.wa w.stack;show _=[some (AO.cells [PV.mp 1]),some (.cells [.mp 2]),some (.cells [(sa w.wa 9 w.stack).c7 (sig [4,5,7,0,8,6,1,2,3,10] n)]),some (.cells [.iv G]),some (.cells [Ob]),some (.cells [.mp 3]),some (c9 w.low),some (c9 w.on),some (c9 w.ring),some ((sb w.wa w.stack).c7 (sig [4,5,7,0,8,6,1,2,3,10] n))]
 rw[h1,h2];rfl
theorem EC(hS:ft){p:Prog}(hf:jN p)(hl:(aK p).length<=100000000):Go.Al.Fn prog 53 [.iv (qV (bA p (aK p)))] [] fun r h n=> ∃m:NM,Go.Rg.oj (ns p) (eg p) (fun a=>bQ .str m a 0)∧r= .iv (td m)∧h=[]∧n=0:=by
 have e0:=pK hf;refine xW ab func53 Z (by decide) ntmps53 Z (by simp) ?_;refine gA Z (zp (nJ hS hf (aK p)) ?_);refine gA Z ?_;refine kB 7 0 1 Z Z ?_
 let sn:Nat->St aj:=fun i=>iU (a8 p) (ns p).length ((ns p).take i) St.o
 have c0: ∀i,Inv (a8 p) [] (sn i):=fun i=>(uH wj (W0 _) ((ns p).take i) St.o (fun a h=>ZI h) (QM _)).1
 refine tU 0 (ns p).length (W3 _) (fun i w=>⟨[(3, .ptr 4 0),(4, .ptr 5 0),(5, .ptr 6 0),(6, .ptr 7 0),(7, .ptr 8 0),(15, .iv (strs (ns p))),(16,pI (ns p).length),(17,pI i)],rH (qV (bA p (aK p))) w 10,11⟩)
  (fun i w=>w.Ok (ns p)∧w.st=sn i) TW.o [9] ⟨⟨fun a h=>(nomatch h),XT,fun a h=>(nomatch h)⟩,rfl⟩
  (wk Z Z Z (bv (bv (bv (bv (bv (bv (bv (bv trivial))))))))
   (Rk Z Z (fun i hi=>gh (by show i<10;omega)) Z Z Z Z Z Z Z Z Z Z (xB gK) (xB gK) (xB gK) Z (.of_eq Z)) Z) fun i w hi hJ=>?_
 obtain⟨d0,a0⟩:=hJ;refine gA Z (zI (fun h1=>?_) fun h1=>?_)
 ·have h1:=ci h1;have b0:sn (i+1)=if(sn i).low ((ns p).getD i default)=0 then(fe (a8 p) (ns p).length ((ns p).getD i default) (sn i)).2 else sn i:=cR h1;refine gA Z (zI (fun h2=>?_) fun h2=>?_)
  ·have h2:w.st.low ((ns p).getD i default)=0:=zT h2;rw[<-a0,am h2]at b0;refine gA Z (Dv [4,5,7,0,8,6,1,2,3,10] (Ti hS hf hl (ns p).length [] ((ns p).getD i default) w d0 (a0▸c0 i) h2 (bZ h1) (fun g hg=>nomatch hg) (X6 _ _)) Z Z Z Z Z (Sc _ _) Z ?_);rintro r h' n' ⟨w3,hok3,hst3,rfl,rfl,rfl⟩;refine⟨_,rfl,?_⟩;refine gA Z ?_
   exact⟨h1,w3,[11],⟨hok3,by rw[b0];exact hst3⟩,wk Z Z Z (bv (bv (bv (bv (bv (bv (bv (bv ac))))))))
    (Rk Z Z (fun i hi=>gh (by show i<10;omega)) Z Z Z Z Z Z Z Z Z Z (.refl _) (.refl _) (.refl _) (nG _ _ _ _) (.of_eq (nH _ _ _))) Z⟩
  ·have h2: ¬w.st.low ((ns p).getD i default)=0:=zF h2;rw[<-a0,be h2]at b0;refine gA Z ?_
   exact⟨h1,w,[10],⟨d0,b0.symm⟩,wk Z Z Z (bv (bv (bv (bv (bv (bv (bv (bv ac))))))))
    (Rk Z Z (fun i hi=>gh (by show i<10;omega)) Z Z Z Z Z Z Z Z Z Z (.refl _) (.refl _) (.refl _) Z (.refl _)) Z⟩
 ·have h1:=co h1;have hr:Go.Rg.oj (ns p) (eg p) (fun a=>bQ .str w.ring a 0):=by
   have h2:=JN hf.nodup (W0 (ns p).length);have h3:sn i=iU (a8 p) (ns p).length (ns p) St.o:=by show iU _ _ ((ns p).take i) _=_;rw[W2 h1]
   have h4:(fun a=>bQ .str w.ring a 0)=(iU (a8 p) (ns p).length (ns p) St.o).ring:=by rw[<-h3,<-a0];rfl
   rw[h4];exact h2
  refine gA Z ⟨.inr Z,_,rfl,iz.map 3 Z (.done ⟨.iv (td w.ring),[],0,[],⟨w.ring,hr,rfl,rfl,rfl⟩,?_⟩)⟩;exact⟨rfl,W3 _,by simp,⟨.of_eq Z,rfl,ac⟩,ac,XT⟩
end Go.Proofs.YtflegjieadkonaaGreatDoor
namespace Go.Proofs.YtflegjieadkonaaGreatDoor
open Go Go.Al Go.Proofs.Tryz
theorem R4(l:List aj)(s:aj):Pure prog 129 [.iv (strs l),pS s] (pI (sQ (fun x:aj=>decide (s=x)) l)):=by
 refine pE (bI func129 Z (by decide)) ⟨_,_,Xd⟩ fun a0=>?_;simp only[maxLen]at a0;refine ad ab func129 Z (by decide) ntmps129 Z (by simp) Z ?_;refine gA Z ?_
 refine aA 0 l.length (W3 _) (fun i=>⟨[(0, .iv (strs l)),(1,pS s),(7,pI l.length),(8,pI i)],[],0⟩) (fun i=>(l.take i).any (fun x:aj=>decide (s=x))=false) [] (by simp)
  (mH Z Z (bv (bv (bv (bv trivial)))) Z) fun i hi hJ=>?_
 refine gA Z (zI (fun h1=>?_) fun h1=>?_)
 ·have h1:=ci h1;refine gA Z (zI (fun h2=>?_) fun h2=>?_)
  ·have h2:(fun x:aj=>decide (s=x)) (l.getD i default)=true:=h2;rw[iL hJ h1 h2];refine gA Z (zL (.of_eq ?_));rfl
  ·have h2:(fun x:aj=>decide (s=x)) (l.getD i default)=false:=h2;refine gA Z ⟨h1,(bq hJ h1).2 h2,[],mH Z Z (bv (bv (bv (bv ac)))) Z⟩
 ·have h1:=co h1;rw[ib (any_none hJ h1)];refine gA Z (zL (.of_eq ?_));rfl
theorem Pk(l:List aj)(s:aj):(l.any fun x=>decide (s=x))=cj l s:=by
 rw[Xy,aQ,XM];constructor
 ·rintro⟨x,hx,h⟩;exact(zT h)▸hx
 ·exact fun h=>⟨s,h,decide_eq_true Z⟩
theorem HE(l:List aj)(s:aj):Pure prog 99 [.iv (strs l),pS s] (pB (cj l s)):=by
 refine ad ab func99 Z (by decide) ntmps99 Z (by simp) Z ?_;refine gA Z (zp (R4 l s) ?_);refine gA Z (zL (.of_eq ?_));exact fu (by rw[<-Pk];exact ky _ l)
def re(m:NM)(r:aq)(l:Lit):Bool:=decide (l.kind=1)&&decide (bQ .str m l.atom.rel 0=bQ .str m r.head.rel 0)
abbrev R9(m:NM)(r:aq):List AO:=[.cells [.iv (td m)],an r.c]
abbrev NU(m:NM)(r:aq):AH:=[(0,some (.cells [.iv (td m)])),(1,some (an r.c))]
theorem NI(m:NM)(r:aq)(l:Lit):b8 prog 102 [ag l.c, .ptr 0 0, .ptr 1 0] (R9 m r) (pB (re m r l)) (NU m r) 2:=by
 refine aE ab func102 Z (by decide) ntmps102 Z (by simp) ?_;refine gA Z (zI (fun h1=>?_) fun h1=>?_)
 ·have h1:l.kind=1:=zT h1;refine gA Z (aC [] (by first|exact .inr Z|exact .inl Z) Z (zM ⟨.of_eq (fu (by rw[re,decide_eq_true h1,XV])),rfl,ac⟩ ((zO (zK ac)))))
 ·have h1: ¬l.kind=1:=zF h1;refine gA Z (aC [] (by first|exact .inr Z|exact .inl Z) Z (zM ⟨.of_eq (fu (by rw[re,decide_eq_false h1,Yi])),rfl,ac⟩ ((zO (zK ac)))))
abbrev JL:PV:= .dr (.func 102) [] [.ptr 0 0, .ptr 1 0]
theorem ND(m:NM)(r:aq)(l:List Lit):b8 prog 130 [.iv (dy 30 l Lit.c),JL] (R9 m r) (pI (sQ (re m r) l)) (NU m r) 2:=by
 refine vd (bI func130 Z (by decide)) ⟨_,_,Xd⟩ fun a0=>?_;simp only[maxLen]at a0;refine aE ab func130 Z (by decide) ntmps130 Z (by simp) ?_;refine gA Z ?_
 refine aA 0 l.length (W3 _) (fun i=>⟨[(0, .iv (dy 30 l Lit.c)),(1,JL),(7,pI l.length),(8,pI i)],NU m r,2⟩) (fun i=>(l.take i).any (re m r)=false) [] (by simp)
  (zW ((zO (zK trivial)))) fun i hi hJ=>?_
 refine gA Z (zI (fun h1=>?_) fun h1=>?_)
 ·have h1:=ci h1;refine gA Z (zq [0,1] (NI m r (l.getD i default)) ?_);refine gA Z (zI (fun h2=>?_) fun h2=>?_)
  ·have h2:re m r (l.getD i default)=true:=h2;rw[iL hJ h1 h2];refine gA Z (aC [] (by first|exact .inr Z|exact .inl Z) Z (zW ((zO (zK ac)))))
  ·have h2:re m r (l.getD i default)=false:=h2;refine gA Z ⟨h1,(bq hJ h1).2 h2,[],zW ((zO (zK ac)))⟩
 ·have h1:=co h1;rw[ib (any_none hJ h1)];refine gA Z (aC [] (by first|exact .inr Z|exact .inl Z) Z (zW ((zO (zK ac)))))
theorem NH(m:NM)(r:aq)(l:List Lit):b8 prog 101 [.iv (dy 30 l Lit.c),JL] (R9 m r) (pB (l.any (re m r))) (NU m r) 2:=by
 refine aE ab func101 Z (by decide) ntmps101 Z (by simp) ?_;refine gA Z (zq [0,1] (ND m r l) ?_);refine gA Z (aC [] (by first|exact .inr Z|exact .inl Z) Z (zM ⟨.of_eq (fu (ky _ l)),rfl,ac⟩ ((zO (zK ac)))))
theorem JB(m:NM)(r:aq):Pure prog 60 [ag r.c, .iv (td m)] (pB (r.body.any (re m r))):=by
 refine ad ab func60 Z (by decide) ntmps60 Z (by simp) Z ?_;refine gA Z (zq [1,0] (NH m r r.body) ?_);refine gA Z (zL (.of_eq ?_));rfl
def yF(m:NM)(r:aq)(l:Lit):Bool:=decide (l.kind≠1)&&(named l).any fun t=>decide (bQ .str m t 0=bQ .str m r.head.rel 0)
def yP(m:NM)(r:aq)(t:Term):Bool:=decide (t.kind=1)&&!cj (np r) t.var&&r.body.any (re m r)
def kG(m:NM)(r:aq):aZ:=match r.body.find? (yF m r) with
 |some l=>(70,l.at)
 |none=>if r.head.ae.any (yP m r)=true then(71,r.at_) else aZ.z
theorem R2(m:NM)(r:aq)(hb:r.size<=10000000):Pure prog 57 [ag r.c, .iv (td m)] (ag (kG m r).c):=by
 have b0:r.body.length<=10000000:=by have:=Lit.aw r.body;unfold aq.size at hb;omega
 have c0:r.head.ae.length<=10000000:=by unfold aq.size at hb;omega
 refine ad ab func57 Z (by decide) ntmps57 Z (by simp) Z ?_;refine gA Z ?_;refine aA 0 r.body.length (W3 _) (fun i=>⟨[(1, .iv (td m)),(2, .ptr 0 0),(4, .ptr 1 0),(13, .iv (lits r.body)),(14,pI r.body.length),(15,pI i)],[(0,some (an r.c)),(1,some (an aZ.z.c))],2⟩) (fun i=>(r.body.take i).any (yF m r)=false) [] (by simp)
  (zW (zK (zK trivial))) fun i hi hJ=>?_
 refine gA Z (zI (fun h1=>?_) fun h1=>?_)
 ·have h1:=ci h1;have d0:(r.body.getD i default).size<=10000000:=by have:=Lit.aT r.body i h1;unfold aq.size at hb;omega
  have e0:=lE (r.body.getD i default);refine gA Z (zp (F3 (r.body.getD i default) (by omega)) ?_);refine gA Z ?_;refine aA 0 (named (r.body.getD i default)).length (W3 _) (fun k=>⟨[(1, .iv (td m)),(2, .ptr 0 0),(4, .ptr 1 0),(6, .ptr 2 0),(13, .iv (lits r.body)),(14,pI r.body.length),(15,pI i),(20, .iv (strs (named (r.body.getD i default)))),(21,pI (named (r.body.getD i default)).length),(22,pI k)],[(0,some (an r.c)),(1,some (an aZ.z.c)),(2,some (an (r.body.getD i default).c))],3⟩)
   (fun k=>decide ((r.body.getD i default).kind≠1)=false∨((named (r.body.getD i default)).take k).any (fun t=>decide (bQ .str m t 0=bQ .str m r.head.rel 0))=false) [] (.inr (by simp))
   (zW (zK (zK (zK trivial)))) fun k hk hK=>?_
  refine gA Z (zI (fun h2=>?_) fun h2=>?_)
  ·have h2:k<(named (r.body.getD i default)).length:=by simpa using h2
   refine gA Z (zI (fun h3=>?_) fun h3=>?_)
   ·have h3: ¬(r.body.getD i default).kind=1:=by simpa using h3
    have hK:=hK.resolve_left (by simpa using h3);refine gA Z (zI (fun h4=>?_) fun h4=>?_)
    ·have h4:bQ .str m ((named (r.body.getD i default)).getD k default) 0=bQ .str m r.head.rel 0:=zT h4;have hs:yF m r (r.body.getD i default)=true:=by
      rw[yF,decide_eq_true h3,XV];exact kn h2 (decide_eq_true h4)
     rw[kG,nZ hJ h1 hs];refine gA Z (zL (.of_eq ?_));rfl
    ·have h4: ¬bQ .str m ((named (r.body.getD i default)).getD k default) 0=bQ .str m r.head.rel 0:=zF h4;refine gA Z ⟨h2, .inr ((bq hK h2).2 (decide_eq_false h4)),[],zW (zK (zK (zK ac)))⟩
   ·have h3:(r.body.getD i default).kind=1:=by simpa using h3
    refine gA Z ⟨h2, .inl (decide_eq_false fun h=>h h3),[],zW (zK (zK (zK ac)))⟩
  ·have h2:(named (r.body.getD i default)).length<=k:=by simpa using h2
   have hs:yF m r (r.body.getD i default)=false:=by
    rcases hK with hK|hK
    ·rw[yF,hK,Yi]
    ·rw[yF,any_none hK h2,Yz]
   refine gA Z ⟨h1,(bq hJ h1).2 hs,[],zW (zK (zK ac))⟩
 have h1:=co h1;have a0:r.body.find? (yF m r)=none:=fV (any_none hJ h1);rw[kG,a0];refine gA Z (zp (VW r hb) ?_);refine gA Z ?_;refine aA 0 r.head.ae.length (W3 _) (fun k=>⟨[(1, .iv (td m)),(2, .ptr 0 0),(4, .ptr 1 0),(9, .iv (strs (np r))),(49, .iv (dy 5 r.head.ae Term.c)),(50,pI r.head.ae.length),(51,pI k)],[(0,some (an r.c)),(1,some (an aZ.z.c))],2⟩) (fun k=>(r.head.ae.take k).any (yP m r)=false) [] (by simp)
  (zW (zK (zK trivial))) fun k hk hK=>?_
 refine gA Z (zI (fun h2=>?_) fun h2=>?_)
 ·have h2:=ci h2;have no:yP m r (r.head.ae.getD k default)=false->(r.head.ae.take (k+1)).any (yP m r)=false:=(bq hK h2).2;refine gA Z (zI (fun h3=>?_) fun h3=>?_)
  ·have h3:(r.head.ae.getD k default).kind=1:=zT h3;refine gA Z (zp (HE (np r) (r.head.ae.getD k default).var) ?_);refine gA Z (zI (fun h4=>?_) fun h4=>?_)
   ·have h4:(!cj (np r) (r.head.ae.getD k default).var)=true:=h4;refine gA Z (zp (JB m r) ?_);refine gA Z (zI (fun h5=>?_) fun h5=>?_)
    ·have h5:r.body.any (re m r)=true:=h5;rw[am (kn h2 (by rw[yP,decide_eq_true h3,h4,h5];rfl))];refine gA Z (zL (.of_eq ?_));rfl
    ·have h5:r.body.any (re m r)=false:=h5;refine gA Z ⟨h2,no (by rw[yP,h5,Yz]),[],zW (zK (zK ac))⟩
   ·have h4:(!cj (np r) (r.head.ae.getD k default).var)=false:=h4;refine gA Z ⟨h2,no (by rw[yP,h4,Yz,Yi]),[],zW (zK (zK ac))⟩
  ·have h3: ¬(r.head.ae.getD k default).kind=1:=zF h3;refine gA Z ⟨h2,no (by rw[yP,decide_eq_false h3,Yi,Yi]),[],zW (zK (zK ac))⟩
 ·have h2:=co h2;rw[be (by rw[any_none hK h2];decide)];refine gA Z (zL (.of_eq ?_));rfl
theorem find_congr{α:Type}{f g:α->Bool}: ∀{l:List α},(∀x∈l,f x=g x)->l.find? f=l.find? g
 | [],_=>rfl
 |x::l,h=>by
  rw[Yq,Yq,h x Xd,find_congr fun y hy=>h y (W8 _ hy)]
theorem yv{α:Type}{f g:α->Bool}{l:List α}(h: ∀x∈l,f x=g x):l.any f=l.any g:=by
 rw[Xy,XM,XM];exact⟨fun⟨x,hx,h1⟩=>⟨x,hx,by rw[<-h x hx];exact h1⟩,fun⟨x,hx,h1⟩=>⟨x,hx,by rw[h x hx];exact h1⟩⟩
theorem Bh{p:Prog}{a:aj}(h:a∈p.aB.map Decl.name):a∈ns p:=by rw[ns,c8];exact h
theorem JK{p:Prog}(hf:jN p){m:NM}(hR:Go.Rg.oj (ns p) (eg p) (fun a=>bQ .str m a 0)){r:aq}(hr:r∈p.rules):r.body.any (re m r)=kM p r:=by
 refine yv fun l hl=>?_;rw[re];by_cases hk:l.kind=1
 ·have hm:l.atom.rel∈named l:=by rw[pO,am (.inl hk)];exact YP _
  rw[vk hR (Bh (hf.lits r hr l hl _ hm)) (Bh (hf.zP r hr))]
 ·rw[decide_eq_false hk];rfl
theorem IU{p:Prog}(hf:jN p){m:NM}(hR:Go.Rg.oj (ns p) (eg p) (fun a=>bQ .str m a 0)){r:aq}(hr:r∈p.rules):kG m r=kH p r:=by
 have h1:r.body.find? (yF m r)=ow p r:=find_congr fun l hl=>by
  rw[yF];congr 1;exact yv fun t ht=>(vk hR (Bh (hf.lits r hr l hl t ht)) (Bh (hf.zP r hr))).symm
 have h2:r.head.ae.any (yP m r)=(vf r&&kM p r):=by
  rw[<-JK hf hR hr,vf];have:yP m r=fun t=>(decide (t.kind=1)&&!cj (np r) t.var)&&r.body.any (re m r):=rfl;rw[this];generalize r.body.any (re m r)=c;cases c<;>simp
 rw[kG,kH,h1];cases ow p r with
 |some l=>rfl
 |none=>
  simp only[h2,Xg]
theorem A0(hS:ft){p:Prog}(hb:p.fit)(h: ¬(bF p).1=0):Pure prog 50 [ag p.c] (.bT [.iv (.v (.map none)),pB false]):=by
 have:=JC hS p hb;rwa[xQ,be h,decide_eq_false h]at this
theorem xh(hS:ft){p:Prog}(hb:p.fit)(h:(bF p).1=0):Pure prog 50 [ag p.c] (.bT [.iv (qV (bA p (aK p))),pB true]):=by
 have:=JC hS p hb;rwa[xQ,am h,decide_eq_true h]at this
theorem tq{α β:Type}(f:α->List β)(g:α->Nat)(h: ∀a,(f a).length<=g a): ∀l:List α,(l.flatMap f).length<=(l.map g).sum
 | []=>W0 _
 |a::l=>by
  have h1:=tq f g h l;have h2:=h a;rw[XZ,WW,Xe,YK];omega
theorem gX: ∀l:List Lit,Lit.ax l=(l.map Lit.size).sum
 | []=>rfl
 |x::l=>by rw[Lit.ax,gX l,Xe,YK]
theorem qU{p:Prog}(hs:p.size<=10000000):(aK p).length<=100000000:=by
 have h1:=tq (fun r:aq=>r.body.flatMap fun l=>(named l).map fun t=>(r.head.rel,t,fN l)) aq.size (fun r=>by
  have:=tq (fun l=>(named l).map fun t=>(r.head.rel,t,fN l)) Lit.size (fun l=>by rw[Xr];exact lE l) r.body;rw[<-gX]at this
  unfold aq.size;omega) p.rules
 unfold Prog.size at hs;show(p.rules.flatMap _).length<=_;omega
theorem ED(hS:ft)(p:Prog)(hb:p.fit)(hs:p.size<=10000000):Pure prog 17 [ag p.c] (ag (iy p).c):=by
 by_cases k1:(bF p).1=0;rotate_left
 ·rw[iy,am k1];refine ad ab func17 Z (by decide) ntmps17 Z (by simp) Z ?_;refine gA Z (zp (A0 hS hb k1) ?_);refine gA Z (zI (fun k2=>?_) fun k2=>?_);rotate_left
  ·cases k2
  refine gA Z (zp (c24 p hb) ?_);refine gA Z (zL (.of_eq ?_));rfl
 have hf:=oM k1;have hrl:p.rules.length<=1000000000:=hb.2.1;rw[iy,be (by simpa using k1)];refine ad ab func17 Z (by decide) ntmps17 Z (by simp) Z ?_;refine gA Z (zp (xh hS hb k1) ?_);refine gA Z (zI (fun k2=>?_) fun k2=>?_)
 ·cases k2
 refine gA Z (Dv [] (EC hS hf (qU hs)) Z Z Z Z Z Z Z ?_);rintro r h' n' ⟨m,hR,rfl,rfl,rfl⟩;refine⟨_,rfl,?_⟩;have hW:p.rules.map (kG m)=p.rules.map (kH p):=Yx fun r hr=>IU hf hR hr;rw[<-hW]
 have c0: ∀i,i<p.rules.length->(p.rules.map (kG m)).getD i default=kG m (p.rules.getD i default):=fun i hi=>by
  rw[WU,W1,WY hi,WU,WY hi];rfl
 have a0:(p.rules.map (kG m)).length=p.rules.length:=Xr _;refine gA Z ?_;refine aA 0 p.rules.length (W3 _) (fun i=>⟨[(1, .ptr 0 0),(2, .ptr 1 0),(5, .iv (td m)),(21, .iv (dy 5 p.rules aq.c)),(22,pI p.rules.length),(23,pI i)],[(0,some (an p.c)),(1,some (an aZ.z.c))],2⟩) (fun i=>((p.rules.map (kG m)).take i).any (fun d=>decide (d.1≠0))=false) [] (by simp)
  (zW (zK (zK trivial))) fun i hi hJ=>?_
 refine gA Z (zI (fun h1=>?_) fun h1=>?_)
 ·have h1:=ci h1;have b0:=hb.2.2 _ (bZ h1);have hg:=c0 i h1;refine gA Z (zp (R2 m (p.rules.getD i default) b0.1) ?_);refine gA Z (zI (fun h2=>?_) fun h2=>?_)
  ·have h2: ¬(kG m (p.rules.getD i default)).1=0:=by simpa using h2
   rw[nZ hJ (by rw[a0];exact h1) (by rw[hg];exact decide_eq_true h2),hg];refine gA Z (zL (.of_eq ?_));rfl
  ·have h2:(kG m (p.rules.getD i default)).1=0:=by simpa using h2
   refine gA Z ⟨h1,(bq hJ (by rw[a0];exact h1)).2 (by rw[hg];simpa using h2),[],zW (zK (zK ac))⟩
 ·have h1:=co h1;rw[fV (any_none hJ (by rw[a0];exact h1))];refine gA Z (zL (.of_eq ?_));rfl
def mQ(l:Lit):Bool:=decide (l.kind≠2)&&decide (l.kind≠4)
theorem HD(hS:ft)(p:Prog)(hb:p.fit):Pure prog 18 [ag p.c] (pB (zf p)):=by
 have hrl:p.rules.length<=1000000000:=hb.2.1;refine ad ab func18 Z (by decide) ntmps18 Z (by simp) Z ?_;refine gA Z (zp (JC hS p hb) ?_);refine gA Z ?_;refine aA 0 p.rules.length (W3 _) (fun i=>⟨[(1, .ptr 0 0),(4,pB (decide ((bF p).1=0)&&(p.rules.take i).all fun r=>r.body.all mQ)),(15, .iv (dy 5 p.rules aq.c)),(16,pI p.rules.length),(17,pI i)],[(0,some (an p.c))],1⟩) (fun _=>True) [] ac
  (zM (bv ⟨.of_eq (fu (by simp)),rfl,bv (bv (bv trivial))⟩) (zK trivial)) fun i hi _=>?_
 refine gA Z (zI (fun h1=>?_) fun h1=>?_)
 ·have h1:=ci h1;have b0:=(hb.2.2 _ (bZ h1)).1;have e0:(p.rules.getD i default).body.length<=10000000:=by have:=Lit.aw (p.rules.getD i default).body;unfold aq.size at b0;omega
  have c0:(decide ((bF p).1=0)&&(p.rules.take (i+1)).all fun r=>r.body.all mQ)=((decide ((bF p).1=0)&&(p.rules.take i).all fun r=>r.body.all mQ)&&(p.rules.getD i default).body.all mQ):=by
   rw[aN h1,Zz,Bool.and_assoc];simp
  generalize(decide ((bF p).1=0)&&(p.rules.take i).all fun r=>r.body.all mQ)=b at*
  refine gA Z ?_;refine aA 0 (p.rules.getD i default).body.length (W3 _) (fun k=>⟨[(1, .ptr 0 0),(4,pB (b&&((p.rules.getD i default).body.take k).all mQ)),(6, .ptr 1 0),(15, .iv (dy 5 p.rules aq.c)),(16,pI p.rules.length),(17,pI i),(22, .iv (lits (p.rules.getD i default).body)),(23,pI (p.rules.getD i default).body.length),(24,pI k)],[(0,some (an p.c)),(1,some (an (p.rules.getD i default).c))],2⟩) (fun _=>True) [] ac
   (zM (bv ⟨.of_eq (fu (by simp)),rfl,bv (bv (bv (bv (bv (bv (bv trivial))))))⟩) (zK (zK trivial))) fun k hk _=>?_
  refine gA Z (zI (fun h2=>?_) fun h2=>?_)
  ·have h2:k<(p.rules.getD i default).body.length:=by simpa using h2
   have d0:(b&&((p.rules.getD i default).body.take (k+1)).all mQ)=((b&&((p.rules.getD i default).body.take k).all mQ)&&mQ ((p.rules.getD i default).body.getD k default)):=by
    rw[aN h2,Zz,Bool.and_assoc];simp
   generalize(b&&((p.rules.getD i default).body.take k).all mQ)=c at*
   have a0: ∀d:Bool,d=(c&&mQ ((p.rules.getD i default).body.getD k default))->d=(b&&((p.rules.getD i default).body.take (k+1)).all mQ):=fun d h=>by rw[d0,h]
   refine gA Z (zI (fun g1=>?_) fun g1=>?_)
   ·have g1:c=true:=g1;refine gA Z (zI (fun g2=>?_) fun g2=>?_)
    ·refine gA Z ?_;exact⟨h2,ac,[],zM (bv ⟨.of_eq (fu (a0 _ (by rw[g1,mQ,decide_eq_true (show(((p.rules.getD i default).body.getD k default).kind≠2) by simpa using g2)];simp))),rfl,bv (bv (bv (bv (bv (bv (bv ac))))))⟩) (zK (zK ac))⟩
    ·refine gA Z ?_;exact⟨h2,ac,[],zM (bv ⟨aH.te (a0 _ (by rw[g1,mQ,decide_eq_false (show¬(((p.rules.getD i default).body.getD k default).kind≠2) by simpa using g2)];simp)),rfl,bv (bv (bv (bv (bv (bv (bv ac))))))⟩) (zK (zK ac))⟩
   ·have g1:c=false:=g1;refine gA Z ⟨h2,ac,[],zM (bv ⟨aH.te (a0 _ (by rw[g1];simp)),rfl,bv (bv (bv (bv (bv (bv (bv ac))))))⟩) (zK (zK ac))⟩
  ·have h2:(p.rules.getD i default).body.length<=k:=by simpa using h2
   refine gA Z ⟨h1,ac,[],zM (bv ⟨.of_eq (fu (by rw[c0,W2 h2])),rfl,bv (bv (bv ac))⟩) (zK ac)⟩
 ·have h1:=co h1;refine gA Z (zL (.of_eq ?_));rw[W2 h1];rfl
abbrev WQ:=aj×aj×Bool
def SH(x:WQ):List IV:=[iS x.1,iS x.2.1, .v (.bool x.2.2)]
def x7(p:Prog):List WQ:=if(bF p).1=0 then Fu p else[]
def cD(p:Prog)(a:aj):List WQ:=(a8 p a).map fun b=>(a,b,EB p a b)
theorem Ft{p:Prog}{i:Nat}(h:i<(ns p).length):((ns p).take (i+1)).flatMap (cD p)=((ns p).take i).flatMap (cD p)++cD p ((ns p).getD i default):=by
 rw[aN h,YT];simp
theorem Ca(p:Prog)(a:aj):(a8 p a).length<=(ns p).length:=X6 _ _
theorem Lc{p:Prog}(h:(ns p).length<=64)(i:Nat):(((ns p).take i).flatMap (cD p)).length<=10000:=by
 have h1:=tq (cD p) (fun _=>64) (fun a=>by unfold cD;rw[Xr];exact Xz (Ca p a) h) ((ns p).take i);have h2: ∀l:List aj,(l.map fun _=>64).sum=l.length*64:=by
  intro l
  induction l with
  |nil=>rfl
  |cons x l ih=>rw[Xe,YK,ih,Xx];omega
 rw[h2,XH]at h1;omega
theorem R5(hS:ft)(p:Prog)(hb:p.fit)(hs:p.size<=10000000):Pure prog 13 [ag p.c] (.iv (dy 3 (x7 p) SH)):=by
 by_cases k1:(bF p).1=0;rotate_left
 ·rw[x7,be k1];refine ad ab func13 Z (by decide) ntmps13 Z (by simp) Z ?_;refine gA Z (zp (A0 hS hb k1) ?_);refine gA Z (zp (sk hS) ?_);refine gA Z ?_;refine aA 0 0 (W3 _) (fun i=>⟨[(5, .iv (.v (.slice none 0 0))),(17,pI 0),(18,pI 0)],[],1⟩) (fun _=>True) [] ac
   (zW trivial) fun i hi _=>?_
  refine gA Z (zI (fun h1=>?_) fun h1=>?_)
  ·exact absurd h1 (by decide)
  refine gA Z (zL ?_);exact .nil _ _
 have hf:=oM k1;have hn:=pK hf;rw[x7,am k1];refine ad ab func13 Z (by decide) ntmps13 Z (by simp) Z ?_;refine gA Z (zp (xh hS hb k1) ?_);refine gA Z (zp (nJ hS hf (aK p)) ?_);refine gA Z ?_;refine fb 5 3 Z ?_;refine aA 0 (ns p).length (W3 _) (fun i=>⟨[(3, .iv (qV (bA p (aK p)))),(5, .sl 2 0 (((ns p).take i).flatMap (cD p)).length 3),(16, .iv (strs (ns p))),(17,pI (ns p).length),(18,pI i)],[(2,some (aD 3 (((ns p).take i).flatMap (cD p)) SH))],3⟩) (fun _=>True) [1] ac
  (zW (zS trivial)) fun i hi _=>?_
 refine gA Z (zI (fun h1=>?_) fun h1=>?_)
 ·have h1:=ci h1;have ha:(ns p).getD i default∈p.aB.map Decl.name:=by have:=bZ h1;rwa[ns,c8]at this
  have b0:=Ft h1;have f0:=Lc hn i;have e0:=Ca p ((ns p).getD i default);refine gM 13 Z (tT ab (.iv (td (cY (aK p) ((ns p).getD i default)))) Z Z Z Z (pY p _ ha) Z ?_);refine gA Z (zp (QI hS hf (qU hs) ((ns p).getD i default)) ?_);refine gA Z ?_;refine aA 0 (a8 p ((ns p).getD i default)).length (W3 _) (fun k=>⟨[(3, .iv (qV (bA p (aK p)))),(7,pS ((ns p).getD i default)),(5, .sl 3 0 (((ns p).take i).flatMap (cD p)++(cD p ((ns p).getD i default)).take k).length 3),(16, .iv (strs (ns p))),(17,pI (ns p).length),(18,pI i),(25, .iv (strs (a8 p ((ns p).getD i default)))),(26,pI (a8 p ((ns p).getD i default)).length),(27,pI k)],[(3,some (aD 3 (((ns p).take i).flatMap (cD p)++(cD p ((ns p).getD i default)).take k) SH))],4⟩) (fun _=>True) [2] ac
   (zM (bv (bv ⟨.row (by simp),rfl,bv (bv (bv (bv (bv (bv trivial)))))⟩)) (hR Z (by simp) Z trivial)) fun k hk _=>?_
  refine gA Z (zI (fun h2=>?_) fun h2=>?_)
  ·have h2:k<(a8 p ((ns p).getD i default)).length:=by simpa using h2
   have a0:(cD p ((ns p).getD i default)).take (k+1)=(cD p ((ns p).getD i default)).take k++ [((ns p).getD i default,(a8 p ((ns p).getD i default)).getD k default,EB p ((ns p).getD i default) ((a8 p ((ns p).getD i default)).getD k default))]:=by
    unfold cD;rw[<-aaf,aN h2,WZ];simp
   have d0:((cD p ((ns p).getD i default)).take k).length<=64:=by rw[XH];omega
   have c0:(((ns p).take i).flatMap (cD p)++(cD p ((ns p).getD i default)).take k).length<=100000:=by rw[WW];omega
   have hq:decide (bQ .str (cY (aK p) ((ns p).getD i default)) ((a8 p ((ns p).getD i default)).getD k default) 0=2)=EB p ((ns p).getD i default) ((a8 p ((ns p).getD i default)).getD k default):=by
    rw[F8,EB];exact decide_eq_decide.2 (by omega)
   have hL:((ns p).take i).flatMap (cD p)++(cD p ((ns p).getD i default)).take (k+1)=(((ns p).take i).flatMap (cD p)++(cD p ((ns p).getD i default)).take k)++ [((ns p).getD i default,(a8 p ((ns p).getD i default)).getD k default,decide (bQ .str (cY (aK p) ((ns p).getD i default)) ((a8 p ((ns p).getD i default)).getD k default) 0=2))]:=by
    rw[a0,hq,Xa]
   clear a0 hq;generalize((ns p).take i).flatMap (cD p)++(cD p ((ns p).getD i default)).take k=L at*
   refine gM 15 Z (tT ab (.iv (td (cY (aK p) ((ns p).getD i default)))) Z Z Z Z (pY p _ ha) Z ?_);refine gA Z ⟨h2,ac,[5],zM (bv (bv ⟨.row (by rw[hL,WW];rfl),rfl,bv (bv (bv (bv (bv (bv ac)))))⟩)) (hR Z (by rw[hL,WZ];rfl) Z ac)⟩
  ·have h2:(a8 p ((ns p).getD i default)).length<=k:=by simpa using h2
   have e:(cD p ((ns p).getD i default)).take k=cD p ((ns p).getD i default):=W2 (by unfold cD;rw[Xr];exact h2);refine gA Z ⟨h1,ac,[3],zM (bv ⟨.row (by rw[e,b0]),rfl,bv (bv (bv ac))⟩) (hR Z (by rw[e,b0]) Z ac)⟩
 ·have h1:=co h1;rw[W2 h1];refine gA Z (cU (by first|exact .inr Z|exact .inl Z) Z Z (rfl) (rfl))
end Go.Proofs.YtflegjieadkonaaGreatDoor
namespace Go.Al
section
variable {P:Program} {ty:Ty} {nt:Nat} {Q:AQ} {k:List KI} {s:AS}
theorem Sy(d0:cz P ty){all:List Oper}{todo pend:List (Nat×Oper)}{j:Nat}{o:Oper}{c:Call}{g:FuncId}{asv args:List PV}{os:List AO}{R:PV->AH->Nat->Prop}{CA:Prop}(L:List Nat)(hc:Fn P g args os R)
  (hrd:ey todo=[(j,o)]) (ho:o.op= .call c) (ha:bK s.f c=some (g,asv)) (hn:bN L=true) (hl:L.all (fun j=>Xi j s.nx)=true) (f0:L.map s.h.get=os.map fun o=>some (o.c7 (sig L s.nx))) (a0:asv=dS (sig L s.nx) args)
  (hg:cC nt all s.f o=some true) (hpb:iD all pend o=true) (hE:n8 todo [j]=true) (hag:qC ty nt all s todo pend=some CA) (hCA:CA)
  (h: ∀r h' n',R r h' n'-> ∃s',putDst nt o (r.c7 (sig L s.nx)) (aM s L h' n')=some s'∧ ∃C2,dD ty nt all s' (bg pend o)=some C2∧C2∧GO P nt (.cJ all (todo.filter fun x=>!Xn x.1 j) (bg pend o)::k) Q s'):
  GO P nt (.cJ all todo pend::k) Q s:=by
 have c0:(j,o)∈ey todo:=by rw[hrd];simp
 obtain⟨h3,h4⟩:=Xs.1 c0;simp only[XF,XL,XO]at h4;have b0: ∀y∈todo,aU y.2=true-> ∀y∈pend,im P nt all s y.2:=by
  intro y hy e0;unfold qC at hag;split at hag
  ·exact dX d0 hag hCA
  ·rename_i h2;have:=XO.1 h2 y hy;rw[e0]at this;exact absurd Z this
 refine wJ hE ⟨_,h3,h4.1⟩ b0 fun j' o' hj _ hu=>?_;simp only[W5]at hj;subst hj;have:=hu o h3;subst this;refine⟨h4.1,fun y hy _=>by simpa using h4.2 y hy,hpb,hg,_,lv (S:=fun t=> ∃C2,dD ty nt all t (bg pend o)=some C2∧C2∧GO P nt (.cJ all (todo.filter fun x=>!Xn x.1 j') (bg pend o)::k) Q t) ho ha hc (dd hn) (fun j hj=>WR (Xm.1 hl j hj)) f0 a0 h,fun t ⟨C2,h5,h6,h7⟩=>⟨dX d0 h5 h6,h7⟩⟩
end
end Go.Al
namespace Go.Proofs.YtflegjieadkonaaGreatDoor
open Go Go.Al Go.Proofs.Tryz
theorem F0(hS:ft)(p:Prog)(n:Int)(hb:p.fit)(hs:p.size<=10000000):Pure prog 20 [ag p.c,pI n] (pB (fg p n)):=by
 have hrl:p.rules.length<=1000000000:=hb.2.1;by_cases k1:(bF p).1=0;rotate_left
 ·rw[show fg p n=false by unfold fg;rw[decide_eq_false k1];simp];refine ad ab func20 Z (by decide) ntmps20 Z (by simp) Z ?_;refine gA Z (zp (A0 hS hb k1) ?_);refine gA Z (zI (fun k2=>?_) fun k2=>?_)
  ·cases k2
  refine gA Z (zL (.of_eq ?_));rfl
 have hf:=oM k1;refine ad ab func20 Z (by decide) ntmps20 Z (by simp) Z ?_;refine gA Z (zp (xh hS hb k1) ?_);refine gA Z (zI (fun k2=>?_) fun k2=>?_);rotate_left
 ·cases k2
 refine gA Z (zI (fun g1=>?_) fun g1=>?_);rotate_left
 ·have g1: ¬1<=n:=by simpa using g1
  rw[show fg p n=false by unfold fg;rw[decide_eq_false g1];simp];refine gA Z (zL (.of_eq ?_));rfl
 have g1:1<=n:=by simpa using g1
 refine gA Z (zI (fun g2=>?_) fun g2=>?_);rotate_left
 ·have g2: ¬n<=p.rules.length:=by simpa using g2
  rw[show fg p n=false by unfold fg;rw[decide_eq_false g2];simp];refine gA Z (zL (.of_eq ?_));rfl
 have g2:n<=p.rules.length:=by simpa using g2
 have hi:(n-1).toNat<p.rules.length:=by omega
 have hr:=bZ (l:=p.rules) hi;have hrd:fg p n=kM p (p.rules.getD (n-1).toNat default):=by unfold fg;rw[decide_eq_true k1,decide_eq_true g1,decide_eq_true g2];rfl
 refine gA Z (Sy ab [] (EC hS hf (qU hs)) Z Z Z Z Z Z Z Z Z Z Z (by(repeat' (first|exact ac|exact rfl|exact aH.refl _|exact aH.bk (by assumption)|apply XA))<;>first|omega|(simp only[Xp];omega)|(simp;done)|(simp;omega)) ?_);rintro r h' n' ⟨m,hR,rfl,rfl,rfl⟩;refine⟨_,rfl,_,rfl,(by(repeat' (first|exact ac|exact rfl|exact aH.refl _|exact aH.bk (by assumption)|apply XA))<;>first|omega|(simp only[Xp];omega)|(simp;done)|(simp;omega)),?_⟩;refine gA Z (nB (JB m (p.rules.getD (n-1).toNat default)) ?_);refine gA Z (zL (.of_eq ?_));rw[hrd,<-JK hf hR hr];rfl
end Go.Proofs.YtflegjieadkonaaGreatDoor
namespace Go.Proofs.YtflegjieadkonaaGreatDoor
open Go Go.Al
section
variable {X:Type} (f:X->AO)
def eW(L:List (Nat×Nat×X)):bc:=fun c=>(L.find? fun y=>y.1==c).map fun y=> .obj (f y.2.2) y.2.1
theorem cQ(L:List (Nat×Nat×X)):(eW f L).still:=by
 intro b i e h;unfold eW at h;cases hf:L.find? fun y=>y.1==b<;>rw[hf]at h<;>cases h
theorem DD: ∀{L:List (Nat×Nat×X)} {j:Nat} {y:Nat×Nat×X},(L.map Xl).Nodup->L[j]? =some y->L.find? (fun z=>z.1==y.1)=some y
 | [],_,_,_,h=>by simp at h
 |x::L,0,y,_,h=>by
  simp only[ZA,WV]at h;subst h;simp
 |x::L,j+1,y,hn,h=>by
  rw[Y3]at h;rw[Xe,X5]at hn;have hne: ¬x.1=y.1:=fun e=>hn.1 (e▸X9 (Xo h));rw[Z2 (by simpa using hne)];exact DD hn.2 h
theorem db{L:List (Nat×Nat×X)}{j:Nat}{y:Nat×Nat×X}(hn:(L.map Xl).Nodup)(h:L[j]? =some y):eW f L y.1=some (.obj (f y.2.2) y.2.1):=by
 unfold eW;rw[DD hn h];rfl
theorem jW{L:List (Nat×Nat×X)}{c:Nat}(h:c∉L.map Xl):eW f L c=none:=by
 unfold eW;rw[Y9,Yg];intro y hy;simp only[beq_iff_eq];exact fun e=>h (e▸X9 hy)
theorem tw{L:List (Nat×Nat×X)}{c:Nat}(h:eW f L c=none):c∉L.map Xl:=by
 intro hm;obtain⟨y,hy,rfl⟩:=Xt.1 hm;unfold eW at h;rw[Y9,Yg]at h;exact h y hy (by simp)
theorem pL{L:List (Nat×Nat×X)}{y:Nat×Nat×X}(hn:(L.map Xl).Nodup)(h:y.1∉L.map Xl):((L++ [y]).map Xl).Nodup:=by
 rw[WZ,Yy];exact⟨hn,by simp,fun u hu v hv g=>h (by simp at hv;subst g;subst hv;exact hu)⟩
theorem sj{L:List (Nat×Nat×X)}{y:Nat×Nat×X}(hn:(L.map Xl).Nodup)(h:y.1∉L.map Xl):(eW f L).put y.1 (.obj (f y.2.2) y.2.1)=eW f (L++ [y]):=by
 funext c
 have a0:=pL hn h;unfold bc.put;by_cases hc:c=y.1
 ·subst hc;rw[am Z,db f a0 (j:=L.length) (y:=y) (by simp)]
 ·rw[be hc];by_cases hm:c∈L.map Xl
  ·obtain⟨z,hz,rfl⟩:=Xt.1 hm;obtain⟨i,hi⟩:=XP hz;rw[db f hn hi,db f a0 (j:=i) (by rw[Xf (WX.1 hi).1];exact hi)]
  ·rw[jW f hm,jW f (by simp only[WZ,W7,not_or];exact⟨hm,by simpa using hc⟩)]
theorem Kc{α:Type}{l:List α}:l.Nodup↔ ∀(i j:Nat) (x:α),l[i]? =some x->l[j]? =some x->i=j:=by
 constructor
 ·intro h i j x hi hj;obtain⟨h1,h2⟩:=WX.1 hi;obtain⟨h3,h4⟩:=WX.1 hj;exact(Zt h).1 (h2.trans h4.symm)
 ·intro h;rw[List.nodup_iff_pairwise_ne,Zu];intro i j hi hj a0 e;have:=h i j l[i] (WY hi) (by rw[WY hj,e]);omega
theorem oD{L:List (Nat×Nat×X)}{i:Nat}{y y':Nat×Nat×X}(hn:(L.map Xl).Nodup)(hy:L[i]? =some y)(h:y'.1∉L.map Xl∨y'.1=y.1):((L.set i y').map Xl).Nodup:=by
 rw[YN];have hi:=(WX.1 hy).1;have a0:(L.map Xl)[i]? =some y.1:=by rw[W1,hy];rfl
 rw[Kc]at hn ⊢;have hin: ∀k,(L.map Xl)[k]? =some y'.1->i=k:=by
  intro k e;rcases h with h|h
  ·exact absurd (Xo e) h
  ·rw[h]at e;exact hn _ _ _ a0 e
 intro a b x ha hb;rw[XK]at ha hb;split at ha
 ·rw[am (by simpa using hi)]at ha;cases ha;split at hb
  ·omega
  ·have:=hin b hb;omega
 ·split at hb
  ·rw[am (by simpa using hi)]at hb;cases hb;have:=hin a ha;omega
  ·exact hn a b x ha hb
theorem HA{L:List (Nat×Nat×X)}{i j e:Nat}{y y':Nat×Nat×X}(hn:(L.map Xl).Nodup)(hy:L[i]? =some y)(h:y'.1∉L.map Xl∨y'.1=y.1):
  (((eW f L).put y.1 (.out j e)).drop y.1).put y'.1 (.obj (f y'.2.2) y'.2.1)=eW f (L.set i y'):=by
 funext c
 have b0:=oD hn hy h;have hi:=(WX.1 hy).1;unfold bc.put bc.drop;by_cases hc:c=y'.1
 ·subst hc;rw[am Z,db f b0 (j:=i) (y:=y') (by rw[XK,am Z,am hi])]
 ·rw[be hc];by_cases a0:c=y.1
  ·rw[am a0,jW f];rw[YN];intro hm;obtain⟨k,hk⟩:=XP hm;rw[XK]at hk;split at hk
   ·rw[am (by simpa using hi)]at hk;cases hk;exact hc Z
   ·rename_i f0;have d0:(L.map Xl)[i]? =some y.1:=by rw[W1,hy];rfl
    rw[a0]at hk;exact f0 (Kc.1 hn _ _ _ d0 hk)
  ·rw[be a0];show(if c=y.1 then _ else eW f L c)=_;rw[be a0];by_cases hm:c∈L.map Xl
   ·obtain⟨z,hz,rfl⟩:=Xt.1 hm;obtain⟨k,hk⟩:=XP hz;have c0: ¬i=k:=fun g=>a0 (by subst g;rw[hy]at hk;cases hk;rfl);rw[db f hn hk,db f b0 (j:=k) (by rw[XK,be c0];exact hk)]
   ·rw[jW f hm,jW f];rw[YN];intro e0;obtain⟨k,hk⟩:=XP e0;rw[XK]at hk;split at hk
    ·rw[am (by simpa using hi)]at hk;cases hk;exact hc Z
    ·exact hm (Xo hk)
end
end Go.Proofs.YtflegjieadkonaaGreatDoor
namespace Go.Al
structure BX where
 M:Mem
 N:Nm
 n:Nat
 h:AH
 X:bc
 w:World
def Vg(nt:Nat)(B:BX)(R:XQ):Exit->Act->World->Prop:=fun e a' w'=>
 ∃M' N' s' X',jd B.M B.N B.n B.h B.X B.w M' N' s'.nx s'.h X' w'∧Fits M' N' s' nt a' w'∧dM M' N' s'.nx s'.h X' w'∧R e s' X'
def BR(P:Program)(nt:Nat)(all:List Oper)(todo pend:List (Nat×Oper))(R:XQ)(s:AS)(X:bc):Prop:=
 Region.noSelect all.toArray=true->gL 0 all=true->jK P nt all->(∀x∈todo,aU x.2=false)-> ∀(B:BX) (B0:Bs) M N listed a w fuel,jd B.M B.N B.n B.h B.X B.w M N s.nx s.h X w->dM M N s.nx s.h X w->
  oq P nt all todo pend B0 M N s listed a w->listed.toList.count false<=fuel->wpAny P .any all.toArray (Vg nt B R) fuel listed a w
section
variable {P:Program} {ty:Ty} {nt:Nat} {all:List Oper} {todo pend:List (Nat×Oper)} {Q R:XQ} {k:List XI} {s:AS} {X:bc}
theorem G1(h:R .normal s X):BR P nt all [] pend R s X:=by
 intro hns hd f0 g0 B B0 M N listed a w a0 hB hs
 induction a0 generalizing listed a with
 |zero=>
  intro hi hc;have b0: ∀i,listed.getD i true=true:=fun i=>by
   cases hx:listed.getD i true with
   |true=>rfl
   |false=>have:=n9 hx;omega
  exact⟨xx b0,M,N,s,X,hB,hi.done b0,hs,h⟩
 |succ a0 ih=>
  intro hi hc;refine⟨fun hr=>⟨M,N,s,X,hB,hi.done (lT hi.size hd hr),hs,h⟩,fun i c0=>?_⟩;obtain⟨hu,o,ho,_⟩:=mem_ready.1 c0;have d0:all[i]? =some o:=by simpa using ho
  rcases hi.IT i o d0 hu with hm|hm
  ·cases hm
  ·obtain⟨v,hv,e0⟩:=hi.take hns f0 hm c0;refine wpOp_of_stOp (K:=fun a'=>a'=a.put o.dst v) (fun a' ha=>?_) (hv.stOp ho Z);subst ha;exact ih _ _ e0 (by have:=dp hu;omega)
theorem x8{i:Nat}{o:Oper}{s':AS}(hin:(i,o)∈todo)(d0:aU o=false)(e0: ∀x∈todo,waits o x.1=false)(a0:yS all pend o=true)(he:s'.h=s.h∧s'.nx=s.nx)
  (hy: ∀M N b w,Fits M N s nt b w-> ∃v,YieldsAt P all.toArray w o v b∧Fits M N s' nt (b.put o.dst v) w) (h:BR P nt all (todo.filter fun x=>!Xn x.1 i) ((i,o)::pend) R s' X):BR P nt all todo pend R s X:=by
 intro hns hd f0 b0 B B0 M N listed a w c0 hB hs hi hc;exact h hns hd f0 (fun x hx=>b0 x (Xs.1 hx).1) B B0 M N listed a w c0 (by rw[he.1,he.2];exact hB) (by rw[he.1,he.2];exact hs) (hi.read hns hin d0 e0 a0 he hy) hc
theorem qj{T:AS->bc->Prop}(h:SX nt s X T)(hk: ∀t Y,T t Y->BR P nt all todo pend R t Y):BR P nt all todo pend R s X:=by
 intro hns hd e0 b0 B B0 M N listed a w a0 hB hs hi hc;obtain⟨b,hb,hr⟩:=hi.ap;obtain⟨M',N',t,Y,h1,h2,h3,h4⟩:=h M N b w hb hs;obtain⟨bl,d0,_⟩:=hi.er;have c0: ∀x∈todo,listed.getD x.1 true=true->False:=fun x hx hl=>by
  have:=(d0 x hx hl).alloc;rw[b0 x hx]at this;cases this
 exact hk t Y h4 hns hd e0 b0 B B0 M' N' listed a w a0 (hB.trans h1) h3 ⟨hi.size,hi.tl,hi.pl,hi.dj,hi.IT,hi.pw,hi.pp,hi.pa,⟨bl,fun x hx hl=>(c0 x hx hl).elim,fun x hx _ _ hl=>(c0 x hx hl).elim⟩,b,h2,hr⟩ hc
theorem O1{j:Nat}{o:Oper}{T:AS->Prop}(hrd:ey todo=[(j,o)])(hg:cC nt all s.f o=some true)(hpb:iD all pend o=true)(hE:n8 todo [j]=true)(q0:OT P nt o s T)
  (h: ∀s',T s'->(∀x∈bg pend o,im P nt all s' x.2)∧BR P nt all (todo.filter fun x=>!Xn x.1 j) (bg pend o) R s' X):BR P nt all todo pend R s X:=by
 have m0:(j,o)∈ey todo:=by rw[hrd];simp
 obtain⟨d0,h4⟩:=Xs.1 m0;simp only[XF,XL,XO]at h4;intro hns hd n0 f0 B B0 M N listed a w a0 hB hs
 induction a0 generalizing listed a w with
 |zero=>
  intro hi hc;obtain⟨bl,i0,_⟩:=hi.er;have p0:listed.getD j true=false:=by
   cases hl:listed.getD j true with
   |false=>rfl
   |true=>have:=(i0 _ d0 hl).alloc;simp only at this;rw[h4.1]at this;cases this
  have:=n9 p0;omega
 |succ a0 ih=>
  intro hi hc;obtain⟨bl,i0,w0⟩:=hi.er;have b0: ∀x∈todo,aU x.2=false->listed.getD x.1 true=false:=fun x hx e0=>by
   cases hl:listed.getD x.1 true with
   |false=>rfl
   |true=>have:=(i0 x hx hl).alloc;rw[e0]at this;cases this
  refine⟨fun hr=>?_,fun i g0=>?_⟩
  ·have:=lT hi.size hd hr j;rw[b0 _ d0 h4.1]at this;cases this
  obtain⟨hu,q,hq,k0⟩:=mem_ready.1 g0;have o0:all[i]? =some q:=by simpa using hq
  rcases hi.IT i q o0 hu with hm|hm
  ·have r0:i=j:=by
    have:=Xm.1 hE _ hm;simp only[XJ,XM,Xg,XF]at this;rcases this with h1|h1|⟨y,hy,h0,h1⟩
    ·simpa using h1
    ·rw[f0 _ hm]at h1;cases h1
    ·obtain⟨e,he,hb,s0⟩:=gm h1;have:=k0 e he hb;rw[s0,mA (b0 y hy h0)]at this;cases this
   subst r0;have v0:q=o:=by
    have:=hi.tl _ d0;simp only at this;rw[o0]at this;exact XX this
   subst v0;obtain⟨b,hb,c0,j0,hnew⟩:=hi.eff hns hd n0 d0 (fun x hx e0=>by rw[f0 x hx]at e0;cases e0) hpb g0 hu;unfold wpOp;simp only[hq];rw[am (by rw[j0];exact ei hg hb)];refine .inl (FG (K':=fun a' w'=> ∃M' N' s',Ext M N (· <s.nx) s.h w M' N' (· <s'.nx) s'.h w'∧Fits M' N' s' nt a' w'∧T s') c0 ?_ ?_ (q0 M N b w hb _ _ fun M' N' s' a' w' hx hf hr=>⟨M',N',s',hx,hf,hr⟩))
   ·rintro d w' ⟨M',N',s',_,hf,_⟩;have:=hf.2.2.1;rw[lh]at this;cases this
   ·rintro v w' ⟨M',N',s',hx,hf,hr⟩;obtain⟨h5,h6⟩:=h s' hr;obtain⟨g1,g2⟩:=jd.frame hx hs;exact h6 hns hd n0 (fun x hx=>f0 x (Xs.1 hx).1) B B0 M' N' _ _ w' a0 (hB.trans g1) g2 (hnew v M' N' s' w' hx hf h5) (by have:=dp hu;omega)
  ·obtain⟨v,hv,t0⟩:=hi.take hns n0 hm g0;refine wpOp_of_stOp (K:=fun a'=>a'=a.put q.dst v) (fun a' ha=>?_) (hv.stOp hq Z);subst ha;exact ih _ _ _ hB hs t0 (by have:=dp hu;omega)
theorem KG{id:Nat}{a0:Array Oper}(hm:P.follows .mixedOrders=true)(hns:uT a0.toList=true)(hd:gL 0 a0.toList=true)(b0:a0.toList.all (fun o=>!aU o)=true)(h:BR P nt a0.toList (gB 0 a0.toList) [] (kx P nt k Q) s X):GX P nt (.code (.region id a0 true)::k) Q s X:=by
 intro M N a w hf hs;refine wp_region_any hm ?_;have e0:=hf.drew;have b0: ∀o∈a0.toList,aU o=false:=fun o ho=>by simpa using Xm.1 b0 o ho
 have hin: ∀x∈gB 0 a0.toList,a0.toList[x.1]? =some x.2:=fun x hx=>by
  obtain⟨_,h2⟩:=(jw _ 0 x.1 x.2).1 hx;simpa using h2
 have d0: ∀i,i<a0.size->(YL a0.size false).getD i true=false:=fun i hi=>by simp[WT,hi]
 have c0: ∀x∈gB 0 a0.toList,(YL a0.size false).getD x.1 true=true->False:=fun x hx hl=>by
  have:x.1<a0.size:=by simpa using(WX.1 (hin x hx)).1
  rw[d0 _ this]at hl;cases hl
 have:=h (zs hns) hd (fun i o ho ha=>by rw[b0 o (Xo ho)]at ha;cases ha) (fun x hx=>b0 _ (Xo (hin x hx))) ⟨M,N,s.nx,s.h,X,w⟩ ⟨M,N,s.nx,s.h,w⟩ M N (YL a0.size false) a {w with drawn:=w.drawn+1} a0.size jd.drew hs.drew
  ⟨by simp,hin,fun _ hx=>(nomatch hx),fun _ hx=>(nomatch hx),fun i o ho _=> .inl ((jw _ 0 i o).2 ⟨W3 _,by simpa using ho⟩),YG,fun _ hx=>(nomatch hx),fun _ hx=>(nomatch hx),
   ⟨fun _=>0,fun x hx hl=>(c0 x hx hl).elim,fun x hx _ _ hl=>(c0 x hx hl).elim⟩,⟨a,e0,rfl,rfl,fun _ _ _=>rfl,fun _ hx=>(nomatch hx)⟩⟩ (by simp)
 rw[Yr]at this;exact this
def QY(ty:Ty)(nt:Nat)(all:List Oper):Nat->List (Nat×Oper)->List (Nat×Oper)->AS->Prop->Prop×List (Nat×Oper)×List (Nat×Oper)×AS
 |0,todo,pend,s,C=>(C,todo,pend,s)
 |n+1,todo,pend,s,C=>match mP ty nt s all todo pend todo with
  |some (.read i o p C')=>match putDst nt o p s with
   |none=>(C,todo,pend,s)
   |some s'=>match Bc o.op with
    |true=>QY ty nt all n (todo.filter fun x=>!Xn x.1 i) ((i,o)::pend) s' (C∧C')
    |false=>QY ty nt all n (todo.filter fun x=>!Xn x.1 i) ((i,o)::pend) s' C
  |some (.skip i o)=>QY ty nt all n (todo.filter fun x=>!Xn x.1 i) ((i,o)::pend) (iq o s) C
  |_=>(C,todo,pend,s)
theorem BH(c0:cz P ty): ∀{n:Nat} {todo pend:List (Nat×Oper)} {s:AS} {C C':Prop} {a0 b0:List (Nat×Oper)} {s':AS},QY ty nt all n todo pend s C=(C',a0,b0,s')->C'->C∧(BR P nt all a0 b0 R s' X->BR P nt all todo pend R s X)
 |0,todo,pend,s,C,C',a0,b0,s',h,hC=>by
  simp only[QY,W9]at h;obtain⟨rfl,rfl,rfl,rfl⟩:=h;exact⟨hC,id⟩
 |n+1,todo,pend,s,C,C',a0,b0,s',h,hC=>by
  simp only[QY]at h;split at h
  ·rename_i i o p C1 d0;obtain⟨g1,ga,gb,g2,g3,g4⟩:=(pG (fun _ h=>h)).1 d0;split at h
   ·simp only[W9]at h;obtain⟨rfl,rfl,rfl,rfl⟩:=h;exact⟨hC,id⟩
   ·rename_i s1 hp;split at h
    ·obtain⟨⟨h1,h2⟩,h3⟩:=BH c0 h hC;obtain⟨e1,e2⟩:=lC c0 g4 h2 hp;exact⟨h1,fun g=>x8 g1 ga gb g3 e1 (fun M N b w hf=>let ⟨x,f1,f2⟩:=e2 M N b w hf;⟨x, .inl ⟨ei g2 hf, .inl f1⟩,f2⟩) (h3 g)⟩
    ·rename_i ho;obtain⟨h1,h3⟩:=BH c0 h hC;obtain⟨e1,e2⟩:=lC c0 g4 (wv g4 ho) hp;exact⟨h1,fun g=>x8 g1 ga gb g3 e1 (fun M N b w hf=>let ⟨x,f1,f2⟩:=e2 M N b w hf;⟨x, .inl ⟨ei g2 hf, .inl f1⟩,f2⟩) (h3 g)⟩
  ·rename_i i o d0;obtain⟨g1,ga,gb,g2,g3⟩:=(pG (fun _ h=>h)).2 d0;obtain⟨h1,h3⟩:=BH c0 h hC;exact⟨h1,fun g=>x8 g1 ga gb g3 (jj o s) (fun _ _ _ _ hf=>⟨undef, .inr ⟨ei g2 hf,rfl⟩,hf.skip o⟩) (h3 g)⟩
  ·simp only[W9]at h;obtain⟨rfl,rfl,rfl,rfl⟩:=h;exact⟨hC,id⟩
def Vo(ty:Ty)(nt:Nat)(s:AS)(o:Oper):Option (Prop×AS):=match kN ty s o.op with
 |some (p,C)=>(putDst nt o p s).map fun s'=>(C,s')
 |none=>match IP ty s o.op with
  |some (p,s1)=>(putDst nt o p s1).map fun s'=>(True,s')
  |none=>match Te ty s o.op with
   |some (C,p,s1)=>(putDst nt o p s1).map fun s'=>(C,s')
   |none=>none
theorem SJ(a0:cz P ty){o:Oper}{C:Prop}{s':AS}(h:Vo ty nt s o=some (C,s'))(hC:C):OT P nt o s (fun t=>t=s'):=by
 unfold Vo at h;split at h
 ·rename_i p C1 hr;obtain⟨s1,h1,h2⟩:=W6.1 h;cases h2;exact uF a0 hr hC h1
 ·split at h
  ·rename_i p s0 hm;obtain⟨s1,h1,h2⟩:=W6.1 h;cases h2;exact EW a0 hm h1
  ·split at h
   ·rename_i C1 p s0 hm;obtain⟨s1,h1,h2⟩:=W6.1 h;cases h2;exact Em a0 hm hC h1
   ·cases h
theorem O0(c0:cz P ty)(n:Nat){C':Prop}{b0 a0:List (Nat×Oper)}{s':AS}(h:QY ty nt all n todo pend s True=(C',b0,a0,s'))(hC:C')(g:BR P nt all b0 a0 R s' X):BR P nt all todo pend R s X:=(BH c0 h hC).2 g
theorem SK(a0:cz P ty){j:Nat}{o:Oper}{C C2:Prop}{s':AS}(hrd:ey todo=[(j,o)])(ho:Vo ty nt s o=some (C,s'))(hg:cC nt all s.f o=some true)(hpb:iD all pend o=true)(hE:n8 todo [j]=true)(hag:dD ty nt all s' (bg pend o)=some C2)
  (hC:C) (hC2:C2) (h:BR P nt all (todo.filter fun x=>!Xn x.1 j) (bg pend o) R s' X):BR P nt all todo pend R s X:=
 O1 hrd hg hpb hE (SJ a0 ho hC) fun t ht=>by subst ht;exact⟨dX a0 hag hC2,h⟩
end
end Go.Al
namespace Go.Proofs.YtflegjieadkonaaGreatDoor
open Go Go.Al
section
variable {nt:Nat} {all:List Oper} {todo pend:List (Nat×Oper)} {R:XQ} {s s':AS} {X:bc}
theorem dR(n:Nat){C:Prop}{b0 a0:List (Nat×Oper)}(h:QY pn nt all n todo pend s True=(C,b0,a0,s'))(g:BR Tryz.prog nt all b0 a0 R s' X)
  (hC:C:=by(repeat' (first|exact ac|exact rfl|exact aH.refl _|exact aH.bk (by assumption)|apply XA))<;>first|omega|exact kF (fun _=>rfl) _|(simp only[Xp];omega)|(simp;done)|(simp;omega)):BR Tryz.prog nt all todo pend R s X:=O0 ab n h hC g
theorem dO{j:Nat}{o:Oper}{C C2:Prop}(hrd:ey todo=[(j,o)])(ho:Vo pn nt s o=some (C,s'))(hg:cC nt all s.f o=some true)(hpb:iD all pend o=true)(hE:n8 todo [j]=true)(hag:dD pn nt all s' (bg pend o)=some C2)
  (h:BR Tryz.prog nt all (todo.filter fun x=>!Xn x.1 j) (bg pend o) R s' X)
  (hC:C∧C2:=by(repeat' (first|exact ac|exact rfl|exact aH.refl _|exact aH.bk (by assumption)|apply XA))<;>first|omega|exact kF (fun _=>rfl) _|(simp only[Xp];omega)|(simp;done)|(simp;omega)):BR Tryz.prog nt all todo pend R s X:=
 SK ab hrd ho hg hpb hE hag hC.1 hC.2 h
end
end Go.Proofs.YtflegjieadkonaaGreatDoor
namespace Go.Proofs.YtflegjieadkonaaGreatDoor
open Go Go.Al
section
variable {V:Type}
theorem Ki{m:List ((KC.int .i64).K×V)}{s t:Int}{v z:V}:bQ (.int .i64) (b6 (.int .i64) m s v) t z=if s=t then v else bQ (.int .i64) m t z:=by
 induction m with
 |nil=>simp only[b6,bQ]
 |cons x r ih=>
  obtain⟨a,b⟩:=x;simp only[b6];by_cases h:a=s
  ·rw[am h];simp only[bQ];by_cases h2:s=t
   ·simp[h2]
   ·have: ¬a=t:=fun e=>h2 (h▸e)
    rw[be h2,be h2,be this]
  ·rw[be h];simp only[bQ,ih];by_cases h2:a=t
   ·have: ¬s=t:=fun e=>h (h2.trans e.symm)
    simp[h2,this]
   ·simp[h2]
theorem Kt{m:List ((KC.int .i64).K×V)}{s:Int}{v:V}(h:s∈m.map Xl):(b6 (.int .i64) m s v).map Xl=m.map Xl:=by
 induction m with
 |nil=>simp at h
 |cons x r ih=>
  obtain⟨a,b⟩:=x;simp only[b6];by_cases h2:a=s
  ·rw[am h2];simp[h2]
  ·have: ¬s=a:=fun e=>h2 e.symm
   rw[be h2,Xe,ih (by simpa[this]using h)];rfl
theorem CF{m:List ((KC.int .i64).K×V)}{s:Int}{v:V}(h:s∉m.map Xl):b6 (.int .i64) m s v=m++ [(s,v)]:=by
 induction m with
 |nil=>simp[b6]
 |cons x r ih=>
  obtain⟨a,b⟩:=x;simp only[Xe,Xb,not_or]at h;have: ¬a=s:=fun e=>h.1 e.symm;simp only[b6,be this,ih h.2];rfl
theorem EZ{m:List ((KC.int .i64).K×V)}{t:Int}{z:V}(h:t∉m.map Xl):bQ (.int .i64) m t z=z:=by
 induction m with
 |nil=>rfl
 |cons x r ih=>
  obtain⟨a,b⟩:=x;simp only[Xe,Xb,not_or]at h;have: ¬a=t:=fun e=>h.1 e.symm;simp only[bQ,be this];exact ih h.2
theorem Oz{m:List ((KC.int .i64).K×V)}{t:Int}{z:V}(h:t∈m.map Xl):(t,bQ (.int .i64) m t z)∈m:=by
 induction m with
 |nil=>simp at h
 |cons x r ih=>
  obtain⟨a,b⟩:=x;by_cases h2:a=t
  ·simp only[bQ,am h2];exact h2▸Xd ..
  ·have h3: ¬t=a:=fun e=>h2 e.symm
   simp only[bQ,be h2];exact W8 _ (ih (by simpa[h3]using h))
end
abbrev Vj:=List ((KC.int .i64).K×List aj)
def IL(ring:aj->Int)(G:Vj)(a:aj):Vj:=b6 (.int .i64) G (ring a) (bQ (.int .i64) G (ring a) []++ [a])
def rm(ring:aj->Int)(l:List aj):Vj:=l.foldl (IL ring) []
theorem Dn(ring:aj->Int)(l:List aj)(a:aj):rm ring (l++ [a])=IL ring (rm ring l) a:=by simp[rm,YI]
theorem Ff(ring:aj->Int)(l:List aj)(k:Int):bQ (.int .i64) (rm ring l) k []=l.filter fun b=>decide (ring b=k):=by
 induction l using lP with
 |h0=>rfl
 |h1 l a ih=>
  rw[Dn,IL,Ki,List.filter_append];by_cases h:ring a=k
  ·rw[am h,h,ih];simp[h]
  ·rw[be h,ih];simp[h]
theorem nV(ring:aj->Int)(l:List aj):((rm ring l).map Xl).Nodup∧ ∀k:Int,k∈(rm ring l).map Xl↔ ∃a∈l,ring a=k:=by
 induction l using lP with
 |h0=>exact⟨XT,fun k=>by simp[rm]⟩
 |h1 l a ih=>
  obtain⟨b0,a0⟩:=ih;rw[Dn,IL];by_cases h:ring a∈(rm ring l).map Xl
  ·rw[Kt h];refine⟨b0,fun k=>?_⟩;rw[a0];constructor
   ·rintro⟨b,hb,e⟩;exact⟨b,Xv _ hb,e⟩
   ·rintro⟨b,hb,e⟩;rcases W7.1 hb with hb|hb
    ·exact⟨b,hb,e⟩
    ·rw[W5]at hb;subst hb;rw[<-e];exact(a0 _).1 h
  ·rw[CF h,WZ];refine⟨Yy.2 ⟨b0,by simp,fun u hu v hv e=>?_⟩,fun k=>?_⟩
   ·simp only[Xe,XN,W5]at hv;subst hv;subst e;exact h hu
   ·rw[W7,a0];constructor
    ·rintro(⟨b,hb,e⟩|hk)
     ·exact⟨b,Xv _ hb,e⟩
     ·simp only[Xe,XN,W5]at hk;exact⟨a,by simp,hk.symm⟩
    ·rintro⟨b,hb,e⟩;rcases W7.1 hb with hb|hb
     ·exact .inl ⟨b,hb,e⟩
     ·rw[W5]at hb;subst hb;exact .inr (by simp[e])
abbrev Rf:=List ((KC.int .i64).K×Int)
def dn(dm:Rf)(x:Int):Bool:=decide (x∈dm.map Xl)
section
variable {p:Prog} {ring:aj->Int} {dm:Rf} {out:List (List aj)}
def Nz(p:Prog)(a:aj):List aj:=(ns p).filter (eg p a)
def K6(p:Prog)(ring:aj->Int)(dm:Rf)(a:aj):Bool:=Go.Rg.z8 (ns p) (Nz p) ring (dn dm) a
structure Hg (p:Prog) (ring:aj->Int) (dm:Rf) (out:List (List aj)):Prop where
 one: ∀e∈dm,e.2=1
 nd:(dm.map Xl).Nodup
 sub: ∀k∈dm.map Xl,∃a∈ns p,ring a=k
 cl:Go.Co.closed (ns p).length (ig p) fun j=>dn dm (ring ((ns p).getD j default))
 eq: ∃f,f+dm.length=(ns p).length∧out++Go.Rg.my (ns p) (Nz p) ring f (dn dm)=Go.Rg.my (ns p) (Nz p) ring (ns p).length fun _=>false
 len:out.length=dm.length
theorem SQ:Hg p ring [] []:=
 ⟨fun _ h=>(nomatch h),XT,fun _ h=>(nomatch h),fun _ _ _ h=>by simp[dn]at h,⟨(ns p).length,rfl,by congr 1⟩,rfl⟩
theorem Hg.lk(h:Hg p ring dm out)(x:Int):bQ (.int .i64) dm x 0=if dn dm x then 1 else 0:=by
 unfold dn;by_cases hx:x∈dm.map Xl
 ·simp only[hx,decide_true,if_true];exact h.one _ (Oz hx)
 ·simp only[hx,decide_false,Yn,if_false];exact EZ hx
theorem Hg.le(h:Hg p ring dm out):dm.length<=(ns p).length:=by
 obtain⟨f,hf,_⟩:=h.eq;omega
theorem Sr(p:Prog)(ring:aj->Int):(rm ring (ns p)).length<=(ns p).length:=by
 have:=X0 (nV ring (ns p)).1 (l₂:=(ns p).map ring) (fun k hk=>by
  obtain⟨a,ha,rfl⟩:=((nV ring (ns p)).2 k).1 hk
  exact X9 ha)
 simpa using this
theorem Hg.done(h:Hg p ring dm out)(hg:(rm ring (ns p)).length<=dm.length):out=Go.Rg.my (ns p) (Nz p) ring (ns p).length fun _=>false:=by
 have a0: ∀a∈ns p,dn dm (ring a)=true:=fun a ha=>by
  unfold dn;rw[decide_eq_true_eq];rcases aao (ring a∈dm.map Xl) with h1|h1
  ·exact h1
  ·exfalso
   have:=X0 (X5.2 ⟨h1,h.nd⟩) (l₂:=(rm ring (ns p)).map Xl) (fun k hk=>by
    rcases Xb.1 hk with rfl|hk
    ·exact((nV ring (ns p)).2 _).2 ⟨a,ha,rfl⟩
    ·exact((nV ring (ns p)).2 _).2 (h.sub k hk))
   simp at this;omega
 obtain⟨f,_,he⟩:=h.eq;have hn:Go.Rg.my (ns p) (Nz p) ring f (dn dm)=[]:=by
  cases f with
  |zero=>rfl
  |succ f=>
   unfold Go.Rg.my;rw[Yg.2 fun a ha=>by simp[a0 a ha]]
 rw[hn,XE]at he;exact he
theorem Hg.has(hr:Go.Rg.oj (ns p) (eg p) ring)(h:Hg p ring dm out)(hg:dm.length<(rm ring (ns p)).length): ∃a∈ns p,dn dm (ring a)=false∧K6 p ring dm a=true:=by
 have a0: ∃i,i<(ns p).length∧dn dm (ring ((ns p).getD i default))=false:=by
  rcases aao (∃i,i<(ns p).length∧dn dm (ring ((ns p).getD i default))=false) with h1|h1
  ·exact h1
  ·exfalso
   have:=X0 (nV ring (ns p)).1 (l₂:=dm.map Xl) (fun k hk=>by
    obtain⟨a,ha,rfl⟩:=((nV ring (ns p)).2 k).1 hk;obtain⟨i,hi,rfl⟩:=Go.Rg.ki ha;have h2:dn dm (ring ((ns p).getD i default))=true:=by
     cases h3:dn dm (ring ((ns p).getD i default)) with
     |true=>rfl
     |false=>exact absurd ⟨i,hi,h3⟩ h1
    exact zT h2)
   simp at this;omega
 obtain⟨i,hi,h1,h2⟩:=Go.Co.vH (Go.Rg.p9 (ns p) (eg p)) (done:=fun j=>dn dm (ring ((ns p).getD j default))) a0;refine⟨_,Go.Rg.get_mem hi,h1,?_⟩;unfold K6;rw[Go.Rg.va hr (fun a _ b=>by rw[Nz,Xs]) hi,<-Go.Co.BE (Go.Rg.p9 (ns p) (eg p)) h.cl hi];exact h2
theorem Hg.step(hr:Go.Rg.oj (ns p) (eg p) ring)(h:Hg p ring dm out){i:Nat}(hi:i<(ns p).length)(hb: ∀b∈(ns p).take i,(!dn dm (ring b)&&K6 p ring dm b)=false)(h1:dn dm (ring ((ns p).getD i default))=false)(h2:K6 p ring dm ((ns p).getD i default)=true):
  Hg p ring (b6 (.int .i64) dm (ring ((ns p).getD i default)) 1) (out++ [bQ (.int .i64) (rm ring (ns p)) (ring ((ns p).getD i default)) []]):=by
 have hk:ring ((ns p).getD i default)∉dm.map Xl:=zF h1;have c0: ∀x:Int,dn (dm++ [(ring ((ns p).getD i default),1)]) x=(decide (x=ring ((ns p).getD i default))||dn dm x):=fun x=>by
  unfold dn;rw[Xy];simp only[WZ,Xe,XN,W7,W5,XJ,decide_eq_true_eq];exact or_comm
 have hF:Go.Co.jE (ns p).length (ig p) (fun j=>dn dm (ring ((ns p).getD j default))) i=true:=by
  have:=h2;unfold K6 at this;rw[Go.Rg.va hr (fun a _ b=>by rw[Nz,Xs]) hi,<-Go.Co.BE (Go.Rg.p9 (ns p) (eg p)) h.cl hi]at this;exact this
 have f0:=Go.Co.qo (Go.Rg.p9 (ns p) (eg p)) h.cl hi hF;have d0: ∀j,j<(ns p).length->dn (dm++ [(ring ((ns p).getD i default),1)]) (ring ((ns p).getD j default))=(dn dm (ring ((ns p).getD j default))||Go.Co.cls (ig p) i j):=fun j hj=>by
  rw[c0,Bool.or_comm];congr 1;have:=hr j i hj hi;rw[Xy,decide_eq_true_eq,this];simp[Go.Co.cls,ig,and_comm]
 have hlt:dm.length<(ns p).length:=by
  have:=X0 (X5.2 ⟨hk,h.nd⟩) (l₂:=(ns p).map ring) (fun k hk=>by
   rcases Xb.1 hk with rfl|hk
   ·exact X9 (Go.Rg.get_mem hi)
   ·obtain⟨a,ha,rfl⟩:=h.sub k hk
    exact X9 ha)
  simp at this;omega
 rw[CF hk];refine⟨fun e he=>?_,?_,fun k hk2=>?_,fun a b ha a0 b0=>?_,?_,by simp[h.len]⟩
 ·rcases W7.1 he with he|he
  ·exact h.one e he
  ·rw[W5]at he;subst he;rfl
 ·rw[WZ];exact Yy.2 ⟨h.nd,by simp,fun u hu v hv e=>by simp only[Xe,XN,W5]at hv;subst hv;subst e;exact hk hu⟩
 ·rw[WZ]at hk2;rcases W7.1 hk2 with hk2|hk2
  ·exact h.sub k hk2
  ·simp only[Xe,XN,W5]at hk2;exact⟨_,Go.Rg.get_mem hi,hk2.symm⟩
 ·have e0:=(Go.Rg.p9 (ns p) (eg p)).lt a b ha b0;have a0:=(d0 a ha).symm.trans a0;show dn _ _=true;rw[d0 b e0];exact f0 a b ha a0 b0
 ·obtain⟨f,hf,he⟩:=h.eq;cases f with
  |zero=>omega
  |succ f=>
   refine⟨f,by simp;omega,?_⟩;rw[<-he,Xa];congr 1
   conv=>rhs;unfold Go.Rg.my
   have g0:(ns p).find? (fun a=>!dn dm (ring a)&&Go.Rg.z8 (ns p) (Nz p) ring (dn dm) a)=some ((ns p).getD i default):=by
    rw[YZ];refine⟨by simp only[h1,Zi,XV];exact h2,i,hi,by rw[WU,WY hi];rfl,fun j hj=>?_⟩;have:=hb ((ns p)[j]'(by omega)) (by rw[Zf];exact⟨j,by omega,rfl⟩);unfold K6 at this;rw[this];rfl
   rw[g0];simp only[Ff];rw[show dn (dm++ [(ring ((ns p).getD i default),1)])=fun x=>decide (x=ring ((ns p).getD i default))||dn dm x from funext c0];rfl
end
end Go.Proofs.YtflegjieadkonaaGreatDoor
namespace Go.Proofs.YtflegjieadkonaaGreatDoor
open Go Go.Al Go.Proofs.Tryz
abbrev Vk:=Int×Nat×List aj
abbrev GL:=List (Nat×Nat×Vk)
def fR(x:Vk):AO:=aD 1 x.2.2 cW
def RX(o:Option (Nat×Nat×Nat)):Value:=match o with
 |none=> .slice none 0 0
 |some (b,len,cap)=> .slice (some ⟨b,0,none⟩) len cap
def Oa(o:Option (Nat×Nat×Nat)):IV:= .v (RX o)
def dvS(p:PV):Option (Nat×Nat×Nat):=match p with
 | .iv (.v (.slice (some ⟨b,0,none⟩) len cap))=>some (b,len,cap)
 |_=>none
abbrev OM:=List ((KC.int .i64).K×Option (Nat×Nat×Nat))
abbrev Ue(m:OM):AO:= .map (.int .i64) Oa none (.slice none 0 0) dvS m
def ofM(L:GL):OM:=L.map fun y=>(y.2.2.1,some (y.1,y.2.2.2.2.length,y.2.2.2.1))
def rk(L:GL):Vj:=L.map fun y=>(y.2.2.1,y.2.2.2.2)
structure S7 (L:GL):Prop where
 nd:(L.map Xl).Nodup
 ok: ∀y∈L,y.2.2.2.2≠ []∧y.2.2.2.2.length<=y.2.2.2.1∧y.2.2.2.1<=maxLen∧y.2.2.2.1*1=y.2.1
theorem GY(L:GL)(k:Int):kT (.int .i64) (ofM L) k=kT (.int .i64) (rk L) k:=by
 induction L with
 |nil=>rfl
 |cons y L ih=>
  have ih:kT (.int .i64) (ofM L) k=kT (.int .i64) (rk L) k:=ih;unfold ofM rk at ih ⊢;simp only[Xe,kT,ih]
theorem Cs(l:List aj):(aD 1 l cW).all PV.flat:=by
 intro e he q hq;obtain⟨s,_,rfl⟩:=Xt.1 he;obtain⟨x,_,rfl⟩:=Xt.1 hq;trivial
theorem JF{l:List aj}{a:aj}:(aD 1 (l++ [a]) cW).real=true:=by cases l<;>rfl
theorem Ey{L:GL}{b j e:Nat}:(((eW fR L).put b (.out j e)).drop b).still:=by
 intro c i g h;unfold bc.drop bc.put at h;split at h
 ·cases h
 ·exact cQ fR L c i g h
theorem Om{ring:aj->Int}{L:GL}{l:List aj}{a:aj}(hg:rk L=rm ring l):
  (kT (.int .i64) (ofM L) (ring a)=none∧bQ (.int .i64) (ofM L) (ring a) none=none∧(∀b e cap,b6 (.int .i64) (ofM L) (ring a) (some (b,1,cap))=ofM (L++ [(b,e,ring a,cap,[a])])∧rk (L++ [(b,e,ring a,cap,[a])])=rm ring (l++ [a])))∨
  ∃i y,L[i]? =some y∧bQ (.int .i64) (ofM L) (ring a) none=some (y.1,y.2.2.2.2.length,y.2.2.2.1)∧(∀b e cap,b6 (.int .i64) (ofM L) (ring a) (some (b,y.2.2.2.2.length+1,cap))=ofM (L.set i (b,e,ring a,cap,y.2.2.2.2++ [a]))∧rk (L.set i (b,e,ring a,cap,y.2.2.2.2++ [a]))=rm ring (l++ [a])):=by
 have b0:rm ring (l++ [a])=IL ring (rk L) a:=by rw[hg];simp[rm,YI]
 rw[b0,IL];cases hf:kT (.int .i64) (ofM L) (ring a) with
 |none=>
  obtain⟨h1,_,h2,_⟩:=lG hf;rw[GY]at hf;obtain⟨h3,_,h4,_⟩:=lG hf;exact .inl ⟨rfl,h1 none,fun b e cap=>⟨by rw[h2];simp[ofM],by rw[h4,h3];simp[rk]⟩⟩
 |some i=>
  right;obtain⟨v,h1,h2,_,h3,_⟩:=lF hf;rw[GY]at hf;obtain⟨v',g1,g2,_,g3,_⟩:=lF hf;have hy: ∃y,L[i]? =some y:=by
   unfold ofM at h1;rw[W1,W6]at h1;obtain⟨y,hy,_⟩:=h1;exact⟨y,hy⟩
  obtain⟨y,hy⟩:=hy;have hv:v=some (y.1,y.2.2.2.2.length,y.2.2.2.1):=by
   unfold ofM at h1;rw[W1,hy]at h1;simp only[XW,WV,W9]at h1;exact h1.2.symm
  have a0:v'=y.2.2.2.2:=by
   unfold rk at g1;rw[W1,hy]at g1;simp only[XW,WV,W9]at g1;exact g1.2.symm
  refine⟨i,y,hy,by rw[h2 none,hv],fun b e cap=>⟨?_,?_⟩⟩
  ·rw[h3];unfold ofM;rw[YN];simp
  ·rw[g3,g2 [],a0];unfold rk;rw[YN]
theorem Oj{L:GL}{y:Nat×Nat×Vk}(h:S7 L)(hb:y.1∉L.map Xl)(hy:y.2.2.2.2≠ []∧y.2.2.2.2.length<=y.2.2.2.1∧y.2.2.2.1<=maxLen∧y.2.2.2.1*1=y.2.1):S7 (L++ [y]):=
 ⟨pL h.nd hb,fun z hz=>by
  rcases W7.1 hz with hz|hz
  ·exact h.ok z hz
  ·rw[W5]at hz;subst hz;exact hy⟩
theorem Sg{L:GL}{i:Nat}{y y':Nat×Nat×Vk}(h:S7 L)(hi:L[i]? =some y)(hb:y'.1∉L.map Xl∨y'.1=y.1)(hy:y'.2.2.2.2≠ []∧y'.2.2.2.2.length<=y'.2.2.2.1∧y'.2.2.2.1<=maxLen∧y'.2.2.2.1*1=y'.2.1):S7 (L.set i y'):=
 ⟨oD h.nd hi hb,fun z hz=>by
  rcases Zw hz with hz|rfl
  ·exact h.ok z hz
  ·exact hy⟩
theorem Ix{L:GL}{c j e:Nat}{y:Nat×Nat×Vk}(h:((eW fR L).put y.1 (.out j e)).drop y.1 c=none):c∉L.map Xl∨c=y.1:=by
 by_cases hc:c=y.1
 ·exact .inr hc
 ·unfold bc.drop bc.put at h;rw[be hc,be hc]at h;exact .inl (tw fR h)
def VE(_:PV):List aj:=[]
theorem Tl{L:GL}(h:S7 L):L7 (eW fR L) (Ue (ofM L)) (.map (.int .i64) strs [] (.slice none 0 0) VE (rk L)):=by
 refine .map _ _ _ _ _ _ _ _ _ _ (by simp[ofM,rk]) (fun j x' hx=>?_) fun M=> .kQ ..
 ·unfold rk at hx;rw[W1,W6]at hx;obtain⟨y,hy,rfl⟩:=hx;obtain⟨h1,h2,h3,h4⟩:=h.ok y (Xo hy);refine⟨(y.2.2.1,some (y.1,y.2.2.2.2.length,y.2.2.2.1)), .slice (some ⟨y.1,0,none⟩) y.2.2.2.2.length y.2.2.2.1,?_,rfl,rfl,?_⟩
  ·unfold ofM;rw[W1,hy];rfl
  ·exact .row y.1 _ _ 1 y.2.1 _ _ (db fR h.nd hy) (by simp) h2 h3 (cX Z)
abbrev UC(G:Vj):AO:= .map (.int .i64) strs [] (.slice none 0 0) VE G
abbrev UG(dm:Rf):AO:= .map (.int .i64) xY 0 (.int .i64 0) Vp dm
def okC(p:Prog)(ring:aj->Int)(dm:Rf)(a b:aj):Bool:=(a8 p b).all fun c=>decide (ring c=ring a)||dn dm (ring c)
theorem SE(p:Prog)(ring:aj->Int)(dm:Rf)(a:aj):K6 p ring dm a=(bQ (.int .i64) (rm ring (ns p)) (ring a) []).all (okC p ring dm a):=by
 rw[Ff];rfl
theorem mem_row{p:Prog}(h:jN p)(a b:aj):b∈(cY (aK p) a).map Xl↔b∈a8 p a:=by
 rw[<-mM h a,c8]
def x9(p:Prog):List (List aj):=if(bF p).1=0 then eB p else[]
def yQ(l:List aj):List IV:=[strs l]
theorem F4(hS:ft){p:Prog}(hb:p.fit)(hs:p.size<=10000000)(k1:(bF p).1=0):Pure prog 14 [ag p.c] (.iv (dy 1 (eB p) yQ)):=by
 have hf:=oM k1;have hn:=pK hf;refine ad ab func14 Z (by decide) ntmps14 Z (by simp) Z ?_;refine gA Z (zp (xh hS hb k1) ?_);refine gA Z (Dv [] (EC hS hf (qU hs)) Z Z Z Z Z Z Z ?_);rintro r h' n' ⟨m,hRm,rfl,rfl,rfl⟩;refine⟨_,rfl,?_⟩
 let ring:aj->Int:=fun a=>bQ .str m a 0
 refine gM 2 Z (GD ?_);refine aG (bW ?_);refine gA Z ?_;refine aG (aG (fZ ⟨[(3, .iv (qV (bA p (aK p)))),(5, .iv (td m)),(6, .mp 1),(25, .iv (strs (ns p))),(26,pI (ns p).length),(27,pI 0)],[(1,some (Ue []))],2⟩ ?_ ?_))
 ·refine gA Z (zp (nJ hS hf (aK p)) ?_);refine gA Z (jB [] ?_);exact zW (KF Z (fun _=> .v _) Z ac)
 refine bP (j7 0 (ns p).length (W3 _) (fun i (x:ULift.{1} GL)=>⟨[(3, .iv (qV (bA p (aK p)))),(5, .iv (td m)),(6, .mp 1),(25, .iv (strs (ns p))),(26,pI (ns p).length),(27,pI i)],[(1,some (Ue (ofM x.down)))],2⟩)
  (fun i x Y=>Y=eW fR x.down∧S7 x.down∧rk x.down=rm ring ((ns p).take i)∧ ∀y∈x.down,y.2.2.2.2.length<=i) ⟨[]⟩ [] ⟨rfl,⟨XT,fun y hy=>(nomatch hy)⟩,rfl,fun y hy=>(nomatch hy)⟩
  (zW (hM Z Z Z ac)) (fun _ _ _ h=>h.1▸cQ fR _) fun i x Y hi hJ=>?_)
 obtain⟨rfl,a0,e0,i0⟩:=hJ;obtain⟨L⟩:=x;have a0:S7 L:=a0;have e0:rk L=rm ring ((ns p).take i):=e0;have i0: ∀y∈L,y.2.2.2.2.length<=i:=i0;refine aG (bW ?_);refine gA Z ?_;refine aG (eM Z (fun h1=>fa ?_) (fun h1=>ie ?_))
 ·have h1:=ci h1;have j0:=Om (ring:=ring) (a:=(ns p).getD i default) e0;rw[<-aN h1]at j0;refine aG (bP (aG (bW ?_)));refine gA Z ?_;refine KG cv Z Z Z ?_;refine dR 10 Z ?_;refine dO Z Z Z Z Z Z ?_;rcases j0 with⟨_,c0,hnew⟩|⟨j,y,hy,c0,hnew⟩
  ·refine qj (QC (d:=39) (p:= .iv (.v (.slice none 0 0))) (.of_eq (show PV.iv (.v (RX (bQ (.int .i64) (ofM L) (ring ((ns p).getD i default)) none)))=_ by rw[c0];rfl))) fun t Y ht=>?_
   obtain⟨rfl,rfl⟩:=ht;refine dO Z Z Z Z Z Z ?_;refine qj (Qz (t:=⟨[(3, .iv (qV (bA p (aK p)))),(5, .iv (td m)),(6, .mp 1),(25, .iv (strs (ns p))),(26,pI (ns p).length),(27,pI i),(31, .mp 1),(34, .iv (xY (ring ((ns p).getD i default)))),(42, .sl 4 0 1 1)],[(1,some (Ue (ofM L))),(4,some (aD 1 [(ns p).getD i default] cW))],5⟩) (L:=[]) (zW (hM Z Z Z (zS ac)))) fun t Y ht=>?_;obtain⟨rfl,rfl⟩:=ht;refine qj (qI (i:=4) (d:=42) (cQ fR L) Z Z (Cs _) Z (by simp)) fun t Y ht=>?_;obtain⟨b,e,cap,n0,g1,g2,g3,rfl,rfl⟩:=ht;refine dO Z Z Z Z Z Z ?_;refine G1 ?_;refine kR (bW ?_);refine gA Z ?_;have g0:=tw fR n0;obtain⟨q1,q2⟩:=hnew b e cap
   exact⟨h1,⟨L++ [(b,e,ring ((ns p).getD i default),cap,[(ns p).getD i default])]⟩,[],⟨sj fR (y:=(b,e,ring ((ns p).getD i default),cap,[(ns p).getD i default])) a0.nd g0,Oj a0 g0 ⟨by simp,by simpa using g1,g2,g3⟩,q2,fun z hz=>by
    rcases W7.1 hz with hz|hz
    ·have:=i0 z hz;omega
    ·rw[W5]at hz;subst hz;simp⟩,zW (hM Z q1 Z ac)⟩
  ·obtain⟨k1,k2,k3,k4⟩:=a0.ok y (Xo hy);have k5:=i0 y (Xo hy);refine qj (jT (d:=39) (sz:=1) (db fR a0.nd hy) (show PV.iv (.v (RX (bQ (.int .i64) (ofM L) (ring ((ns p).getD i default)) none)))=_ by rw[c0];rfl) (List.length_pos_iff.2 k1) k2 k3 k4) fun t Y ht=>?_;obtain⟨rfl,rfl⟩:=ht;refine qj (QC (d:=39) (p:= .sl 3 0 (y.2.2.2.2.map fun x=>(cW x).map PV.iv).length 1) (aH.row (by simp))) fun t Y ht=>?_;obtain⟨rfl,rfl⟩:=ht;refine dO Z Z Z Z Z Z ?_ ⟨?_,?_⟩;rotate_left
   ·exact⟨rfl,by simp,rfl,by simp;omega,by simp;omega⟩
   ·repeat' (first|exact ac|exact rfl|exact aH.refl _|apply XA)
   refine qj (Qz (t:=⟨[(3, .iv (qV (bA p (aK p)))),(5, .iv (td m)),(6, .mp 1),(25, .iv (strs (ns p))),(26,pI (ns p).length),(27,pI i),(31, .mp 1),(34, .iv (xY (ring ((ns p).getD i default)))),(42, .sl 4 0 (y.2.2.2.2.length+1) 1)],[(1,some (Ue (ofM L))),(4,some (aD 1 (y.2.2.2.2++ [(ns p).getD i default]) cW))],5⟩) (L:=[]) (zM (bv (bv (bv (bv (bv (bv (bv (bv ⟨.row (by simp),rfl,ac⟩)))))))) (hM Z Z Z (hR Z (by simp;rfl) Z ac)))) fun t Y ht=>?_;obtain⟨rfl,rfl⟩:=ht;refine qj (Hr y.1) fun t Y ht=>?_;obtain⟨rfl,rfl⟩:=ht;refine qj (qI (i:=4) (d:=42) Ey Z JF (Cs _) Z (by simp)) fun t Y ht=>?_;obtain⟨b,e,cap,n0,g1,g2,g3,rfl,rfl⟩:=ht;refine dO Z Z Z Z Z Z ?_;refine G1 ?_;refine kR (bW ?_);refine gA Z ?_;have g0:=Ix n0;obtain⟨q1,q2⟩:=hnew b e cap
   exact⟨h1,⟨L.set j (b,e,ring ((ns p).getD i default),cap,y.2.2.2.2++ [(ns p).getD i default])⟩,[],⟨HA fR (y':=(b,e,ring ((ns p).getD i default),cap,y.2.2.2.2++ [(ns p).getD i default])) a0.nd hy g0,Sg a0 hy g0 ⟨by simp,by simpa using g1,g2,g3⟩,q2,fun z hz=>by
    rcases Zw hz with hz|rfl
    ·have:=i0 z hz;omega
    ·simp;exact k5⟩,zW (hM Z q1 Z ac)⟩
 ·have h1:=co h1;rw[W2 h1]at e0;change GX _ _ [.code _] _ _ _;refine Dm (AT (i:=1) (o':= .map (.int .i64) strs [] (.slice none 0 0) VE (rk L)) Z (Tl a0)) fun t Y ht=>?_;obtain⟨rfl,rfl⟩:=ht;rw[e0];refine bW ?_;refine gA Z ?_;refine fb 10 1 Z ?_
  refine o8 (σ:={x:Rf×List (List aj)//Hg p ring x.1 x.2}) (fun x=>⟨[(3, .iv (qV (bA p (aK p)))),(5, .iv (td m)),(6, .mp 1),(9, .mp 2),(10, .sl 4 0 x.1.2.length 1)],[(1,some (UC (rm ring (ns p)))),(2,some (UG x.1.1)),(4,some (aD 1 x.1.2 yQ))],5⟩)
   (fun x=>(rm ring (ns p)).length-x.1.1.length) ⟨([],[]),SQ⟩ [3]
   (zW (hM Z Z Z (KF Z (fun _=> .v _) Z (zS trivial)))) ?_
  rintro⟨⟨dm,out⟩,b0⟩;have b0:Hg p ring dm out:=b0;have b1:=b0.le;have z0:=Sr p ring;have a1:=b0.len;refine gA Z (zI (fun h2=>?_) fun h2=>?_)
  ·have h2:dm.length<(rm ring (ns p)).length:=by simpa using h2
   refine gA Z (zp (nJ hS hf (aK p)) ?_);refine gA Z ?_;refine aA 0 (ns p).length (W3 _) (fun i=>⟨[(3, .iv (qV (bA p (aK p)))),(5, .iv (td m)),(6, .mp 1),(9, .mp 2),(10, .sl 4 0 out.length 1),(51, .iv (strs (ns p))),(52,pI (ns p).length),(53,pI i)],[(1,some (UC (rm ring (ns p)))),(2,some (UG dm)),(4,some (aD 1 out yQ))],5⟩)
    (fun i=> ∀b∈(ns p).take i,(!dn dm (ring b)&&K6 p ring dm b)=false) [] (fun b hb=>(nomatch hb)) (zW (hM Z Z Z (hM Z Z Z (zS trivial)))) fun i hi hJ=>?_
   refine gA Z (zI (fun h3=>?_) fun h3=>?_)
   ·have h3:=ci h3;have t0:(!dn dm (ring ((ns p).getD i default))&&K6 p ring dm ((ns p).getD i default))=false-> ∀b∈(ns p).take (i+1),(!dn dm (ring b)&&K6 p ring dm b)=false:=fun h b hb=>by
     rw[aN h3]at hb;rcases W7.1 hb with hb|hb
     ·exact hJ b hb
     ·rw[W5]at hb;subst hb;exact h
    have c0:=b0.lk (ring ((ns p).getD i default));have o0:=SE p ring dm ((ns p).getD i default);have j0:=b0.step hRm h3 hJ;have q0:=Ff ring (ns p) (ring ((ns p).getD i default));have x0:(bQ (.int .i64) (rm ring (ns p)) (ring ((ns p).getD i default)) []).length<=64:=by rw[q0];exact Xz (X6 _ _) hn
    have hlm: ∀b∈bQ (.int .i64) (rm ring (ns p)) (ring ((ns p).getD i default)) [],b∈p.aB.map Decl.name:=fun b hb=>by
     rw[q0]at hb;have:=(Xs.1 hb).1;rwa[ns,c8]at this
    let a:=((ns p).getD i default)
    let l:List aj:=bQ (.int .i64) (rm ring (ns p)) (ring a) []
    refine gA Z (zI (fun h4=>?_) fun h4=>?_)
    ·have h4:bQ (.int .i64) dm (ring a) 0=1:=zT h4;have hd:dn dm (ring a)=true:=by
      rw[c0]at h4;cases hd:dn dm (ring a) with
      |true=>rfl
      |false=>rw[hd]at h4;simp at h4
     refine gA Z ⟨h3,t0 (by rw[hd];rfl),[],zW (hM Z Z Z (hM Z Z Z (zS ac)))⟩
    ·have h4: ¬bQ (.int .i64) dm (ring a) 0=1:=zF h4;have hd:dn dm (ring a)=false:=by
      rw[c0]at h4;cases hd:dn dm (ring a) with
      |false=>rfl
      |true=>rw[hd]at h4;simp at h4
     refine gA Z ?_;refine aA 0 l.length (W3 _) (fun k=>⟨[(3, .iv (qV (bA p (aK p)))),(5, .iv (td m)),(6, .mp 1),(9, .mp 2),(10, .sl 4 0 out.length 1),(51, .iv (strs (ns p))),(52,pI (ns p).length),(53,pI i),(12,pS a),(67, .iv (strs l)),(68,pI l.length),(69,pI k)],[(1,some (UC (rm ring (ns p)))),(2,some (UG dm)),(4,some (aD 1 out yQ))],5⟩)
      (fun k=>(l.take k).all (okC p ring dm a)=true) [] Z (zW (hM Z Z Z (hM Z Z Z (zS trivial)))) fun k hk hK=>?_
     refine gA Z (zI (fun h5=>?_) fun h5=>?_)
     ·have h5:=ci h5;have hb:=hlm _ (bZ h5);have v0:l.length<=64:=x0;refine gM 13 Z (tT ab (.iv (td (cY (aK p) (l.getD k default)))) Z Z Z Z (pY p _ hb) Z ?_);refine gA Z ?_;refine gG (cY (aK p) (l.getD k default)) (fun vs=>⟨[(3, .iv (qV (bA p (aK p)))),(5, .iv (td m)),(6, .mp 1),(9, .mp 2),(10, .sl 4 0 out.length 1),(51, .iv (strs (ns p))),(52,pI (ns p).length),(53,pI i),(12,pS a),(67, .iv (strs l)),(68,pI l.length),(69,pI k),(76, .ptr 5 0)],[(1,some (UC (rm ring (ns p)))),(2,some (UG dm)),(4,some (aD 1 out yQ)),(5,some (.bS .str xY (cY (aK p) (l.getD k default)) vs none))],6⟩)
       (fun vs=> ∀j∈vs,∀x,(cY (aK p) (l.getD k default))[j]? =some x->(decide (ring x.1=ring a)||dn dm (ring x.1))=true) [] (fun j hj=>(nomatch hj))
       (zW (hM Z Z Z (hM Z Z Z (zS (hI Z Z (.inl Z) Z trivial))))) fun vs hV=>?_
      refine nX Z ac (eN Z Z Z Z Z (by decide) (fun m0=>?_) fun j x hx hj=>?_)
      ·refine gA Z ?_;refine⟨h5,?_,[],zW (hM Z Z Z (hM Z Z Z (zS ac)))⟩;rw[aN h5,Zz,hK,XV,ZT,List.all_nil,Bool.and_true];refine Xm.2 fun c hc=>?_;obtain⟨e,he,rfl⟩:=Xt.1 ((mem_row hf _ _).2 hc);obtain⟨i',p0⟩:=XP he;exact hV i' (m0 i' (WX.1 p0).1) e p0
      ·have d0:(ring x.1=ring a∨dn dm (ring x.1)=true)->(decide (ring x.1=ring a)||dn dm (ring x.1))=true:=fun h=>by simpa using h
       have s0:=b0.lk (ring x.1);refine gA Z (zI (fun h6=>?_) fun h6=>?_)
       ·have h6: ¬ring x.1=ring a:=by simpa using h6
        refine gA Z (zI (fun h7=>?_) fun h7=>?_)
        ·have h7:bQ (.int .i64) dm (ring x.1) 0=0:=zT h7;have k0:dn dm (ring x.1)=false:=by
          cases hd:dn dm (ring x.1) with
          |false=>rfl
          |true=>rw[s0,hd]at h7;simp at h7
         have w0:K6 p ring dm a=false:=by
          rw[o0];refine Y4.2 ⟨_,bZ h5,?_⟩;rw[Yv];refine Y4.2 ⟨x.1,(mem_row hf _ _).1 (X9 (Xo hx)),?_⟩;simp only[k0,YR,decide_eq_true_eq];exact h6
         refine gA Z ⟨h3,t0 (by rw[w0,Yz]),[],zW (hM Z Z Z (hM Z Z Z (zS ac)))⟩
        ·have h7: ¬bQ (.int .i64) dm (ring x.1) 0=0:=zF h7;have k0:dn dm (ring x.1)=true:=by
          cases hd:dn dm (ring x.1) with
          |true=>rfl
          |false=>rw[s0,hd]at h7;simp at h7
         refine gA Z ?_
         exact⟨j,x,hx,hj,(fun i hi y hy=>by
         rcases Xb.1 hi with rfl|hi
         ·rw[hx]at hy;cases hy;exact d0 (.inr k0)
         ·exact hV i hi y hy),[],zW (hM Z Z Z (hM Z Z Z (zS (hI Z Z (.inr Z) Z ac))))⟩
       ·have h6:ring x.1=ring a:=by simpa using h6
        refine gA Z ?_
        exact⟨j,x,hx,hj,(fun i hi y hy=>by
         rcases Xb.1 hi with rfl|hi
         ·rw[hx]at hy;cases hy;exact d0 (.inl h6)
         ·exact hV i hi y hy),[],zW (hM Z Z Z (hM Z Z Z (zS (hI Z Z (.inr Z) Z ac))))⟩
     ·have h5:=co h5;rw[W2 h5]at hK;have f0:=j0 hd (by rw[o0];exact hK);have r0:=f0.len;rw[WW,XC]at r0;refine gA Z ?_ ⟨⟨ac, .refl _⟩,by simp,by simp,rfl,by omega,by omega⟩;refine⟨⟨(b6 (.int .i64) dm (ring a) 1,out++ [l]),f0⟩,[6],?_,zM (bv (bv (bv (bv ⟨.row (by rw[WW];rfl),rfl,ac⟩)))) (hM Z Z Z (hM Z Z Z (hR Z (by rw[WZ];rfl) Z ac)))⟩;show(rm ring (ns p)).length-(b6 (.int .i64) dm (ring a) 1).length<(rm ring (ns p)).length-dm.length;have y0:out.length+1=(b6 (.int .i64) dm (ring a) 1).length:=r0;omega
   ·exfalso;have h3:=co h3;rw[W2 h3]at hJ;obtain⟨a,ha,g1,g2⟩:=b0.has hRm h2;have:=hJ a ha;rw[g1,g2]at this;cases this
  ·have h2:(rm ring (ns p)).length<=dm.length:=by simpa using h2
   have:=b0.done h2;rw[show Go.Rg.my (ns p) (Nz p) ring (ns p).length (fun _=>false)=eB p from DN hRm]at this;subst this;refine gA Z (cU (by first|exact .inr Z|exact .inl Z) Z Z (rfl) (rfl))
theorem NJ(hS:ft):Pure prog 53 [.iv (.v (.map none))] (.iv (td [])):=by
 refine ad ab func53 Z (by decide) ntmps53 Z (by simp) Z ?_;refine gA Z (zp (sk hS) ?_);refine gA Z ?_;refine aA 0 0 (W3 _) (fun i=>⟨[(5, .ptr 6 0),(16,pI 0),(17,pI 0)],[(3,some (c9 [])),(6,some (.cells [.mp 3]))],9⟩) (fun _=>True) [] ac
  (zW (KF Z (fun _=> .v _) Z (zO trivial))) fun i hi _=>?_
 refine gA Z (zI (fun h1=>?_) fun h1=>?_)
 ·exact absurd h1 (by decide)
 refine gA Z ⟨.inr Z,_,rfl,iz.map 3 Z (.done (.of_eq Z))⟩
theorem R6(hS:ft)(p:Prog)(hb:p.fit)(hs:p.size<=10000000):Pure prog 14 [ag p.c] (.iv (dy 1 (x9 p) yQ)):=by
 by_cases k1:(bF p).1=0
 ·rw[x9,am k1];exact F4 hS hb hs k1
 rw[x9,be k1];refine ad ab func14 Z (by decide) ntmps14 Z (by simp) Z ?_;refine gA Z (zp (A0 hS hb k1) ?_);refine gA Z (zp (NJ hS) ?_);refine gA Z (zp (sk hS) ?_);refine gA Z ?_;refine aA 0 0 (W3 _) (fun i=>⟨[(6, .mp 1),(26,pI 0),(27,pI 0)],[(1,some .fY)],2⟩) (fun _=>True) [] ac
  (zW ⟨⟨_,rfl, .of_eq Z⟩,WR Z,ac,ac⟩) fun i hi _=>?_
 refine gA Z (zI (fun h1=>?_) fun h1=>?_)
 ·exact absurd h1 (by decide)
 refine gA Z ?_;refine aA 0 0 (W3 _) (fun i=>⟨[(6, .mp 1),(9, .mp 2),(10, .iv (.v (.slice none 0 0)))],[(1,some (UC [])),(2,some (UG []))],3⟩) (fun _=>True) [] ac
  (zW (KF Z (fun _=> .kQ ..) Z (KF Z (fun _=> .v _) Z trivial))) fun i hi _=>?_
 refine gA Z (zI (fun h1=>?_) fun h1=>?_)
 ·exact absurd h1 (by decide)
 refine gA Z (zL ?_);exact .nil _ _
end Go.Proofs.YtflegjieadkonaaGreatDoor
