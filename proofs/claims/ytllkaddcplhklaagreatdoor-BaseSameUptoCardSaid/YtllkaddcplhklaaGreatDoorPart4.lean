/-
  What the proofs of the claims need: part 4 of 5.
-/
import Derived.Test.YtllkaddcplhklaaGreatDoorPart3
import Derived.KernelRfl
import Derived.Test.YtllkaddcplhklaaGreatDoorRows
import Derived.WalkKit
import Derived.ProofKit
import Derived.OpenShut
import Derived.Deep.DeepHandedRow
import Derived.Lib.LaidTab
import Derived.LaidSub
import Derived.MakeChecks
import Derived.Test.YtllkaddcplhklaaGreatDoorCards
import Derived.Test.YtllkaddcplhklaaGreatDoorTie
import Derived.Lib.Bytealg
import Derived.Laws.Externs
import Derived.Shelf.SlSortCmp.NoneTotal
import Derived.Shelf.SlMaps.Clone
open And renaming intro→Pm
open Array renaming eq_empty_of_size_eq_zero→Qw,toList_inj→Sr
open Bool renaming and_eq_true→Qc,eq_iff_iff→QJ,false_and→Q5,false_eq_true→Q7,not_eq_false→SP,not_eq_false'→Q8,not_eq_true'→Qp,or_eq_false_iff→RB,or_eq_true→Ry,true_and→RP
open ByteArray renaming empty→Pq
open Classical renaming byContradiction→QK
open Int renaming le_refl→RH,toNat_natCast→Po
open List.Nodup renaming length_le_of_subset→Qx
open List.Pairwise renaming filter→RD,imp→Sn,nil→R7
open List renaming all_eq_true→P4,any_eq_false→Qk,any_eq_true→Qz,append_assoc→PH,append_eq_nil_iff→R9,append_nil→Qm,concat_eq_append→SC,cons_append→QN,drop_eq_getElem_cons→Rf,drop_of_length_le→RL,eq_nil_of_length_eq_zero→Qe,ext_getElem?→RC,filter_congr→Rp,filter_cons→Ra,find?_eq_none→Rv,flatMap_append→R3,flatMap_cons→Qs,foldl_cons→Qd,getD_cons_zero→Rs,getD_eq_getElem?_getD→Pk,getElem?_cons_succ→R5,getElem?_eq_getElem→Pl,getElem?_eq_some_iff→Pj,getElem?_map→Pp,getElem?_set→Rb,getElem?_take→P8,getElem?_zipWith→SD,getElem_map→Q3,getElem_mem→P3,length_append→Pn,length_cons→PX,length_eq_zero_iff→QU,length_filter_le→QH,length_map→PS,length_nil→Q6,length_pos_iff→Qv,length_singleton→Qn,length_take→Qy,map_append→PF,map_congr_left→PK,map_cons→Py,map_map→PQ,map_nil→Qb,mem_append→PG,mem_append_left→P2,mem_append_right→Q4,mem_cons→Px,mem_cons_of_mem→Pu,mem_cons_self→Pv,mem_filter→PU,mem_flatMap→Sd,mem_iff_getElem→Ro,mem_map→PW,mem_map_of_mem→Sf,mem_of_getElem?→PY,mem_of_mem_take→SG,mem_range→QM,mem_reverse→SV,mem_singleton→Pw,mem_singleton_self→Rq,nil_append→Rc,nodup_append→QS,nodup_cons→P0,nodup_nil→P6,pairwise_append→RW,pairwise_cons→P5,pairwise_iff_getElem→Qu,pairwise_map→RT,pairwise_singleton→RG,perm_ext_iff_of_nodup→QX,range→PT,replicate→RU,singleton_append→SA,sum_cons→Qq,take_append_drop→RQ,take_length→Rk,take_of_length_le→Pz,take_succ_cons→QQ,zipWith→Sv,zipWith_cons_cons→Sw
open List.cons renaming injEq→Sx
open Nat renaming add_assoc→QY,beq→PJ,ble→Rw,ble_eq_true_of_le→Qh,blt→PI,le_of_ble_eq_true→Pf,le_of_eq→SQ,le_of_not_lt→Rj,le_refl→Ps,le_succ→QO,le_trans→Qa,lt_succ_iff_lt_or_eq→Rn,max_eq_right→SY,not_lt_zero→Rr,succ_le_succ→SU,zero_add→PO,zero_le→PA
open Option renaming bind_some→RF,getD_some→Qf,map_eq_none_iff→RJ,map_eq_some_iff→Pr
open Option.some renaming inj→P7,injEq→Ph
open Prod renaming fst→Qi
open Prod.mk renaming injEq→Pt
set_option maxRecDepth 100000
open Bool renaming false→kw,true→jp
open Decidable renaming decide→lc
open Inhabited renaming default→co
open Option renaming none→is,some→io
open Array renaming getD_eq_getD_getElem?→Pg
open Array renaming range→Sk
open Array renaming getElem?_map→RI
open Option renaming map_some→Qt
open Array renaming getElem?_eq_getElem→PR
open Nat renaming mul_le_mul_right→PL
open Nat renaming add_mul→Qo
open Array renaming getElem?_append_left→P1
open List renaming getElem?_append_right→PB
open Array renaming getElem?_append_right→RS
open Array renaming getElem?_toList→PN
namespace Go.Proofs.YtllkaddcplhklaaGreatDoor
open Go Go.Al Go.Proofs.Tryz
section
theorem jl:prog.cellsOf 3=1:=by kernel_rfl
theorem ot:prog.cellsOf 9=1:=by kernel_rfl
theorem rL:prog.cellsOf 72=3:=by kernel_rfl
theorem yA:prog.cellsOf 104=5:=by kernel_rfl
theorem Is:prog.cellsOf 94=1:=by kernel_rfl
theorem wL:prog.cellsOf 96=2:=by kernel_rfl
theorem Fu:prog.cellsOf 122=1:=by kernel_rfl
theorem mw:prog.cellsOf 124=7:=by kernel_rfl
theorem yz:prog.cellsOf 126=10:=by kernel_rfl
theorem Bx:prog.cellsOf 97=1:=by kernel_rfl
theorem tn:prog.cellsOf 128=30:=by kernel_rfl
theorem rM:prog.cellsOf 29=2:=by kernel_rfl
theorem Bw:prog.cellsOf 99=5:=by kernel_rfl
theorem Iy:prog.cellsOf 27=1:=by kernel_rfl
theorem BA:prog.cellsOf 31=4:=by kernel_rfl
theorem Ix:prog.cellsOf 32=1:=by kernel_rfl
theorem Iw:prog.cellsOf 33=1:=by kernel_rfl
theorem Iv:prog.cellsOf 35=2:=by kernel_rfl
theorem It:prog.cellsOf 37=1:=by kernel_rfl
theorem Bz:prog.cellsOf 39=2:=by kernel_rfl
section
variable {H:Type}
abbrev bk(d:DataW H):Nat:=Rows.uptoBulk d
theorem Aa(d:DataW H):1<=bk d:=by
 cases d with
 |lit l=>cases l<;>simp[bk,Rows.uptoBulk]
 |nil=>simp[bk,Rows.uptoBulk]
 |ptr d=>simp[bk,Rows.uptoBulk]
 |slice elems spare=>simp[bk,Rows.uptoBulk]
 |agg parts=>simp[bk,Rows.uptoBulk]
 |iface t d=>simp[bk,Rows.uptoBulk]
 |map entries=>simp[bk,Rows.uptoBulk]
 |held h=>simp[bk,Rows.uptoBulk]
theorem tv(s:ByteArray):bk (DataW.lit (H:=H) (.string s.data.toList))=s.size+1:=by
 simp[bk,Rows.uptoBulk]
theorem _root_.Go.Al.QL.sum{α:Type}{Q:α->DataW H->Prop}{l:List α}{d:DataW H}(h:QL Q l d){f:α->Nat}{c:Nat}(hf: ∀x e,Q x e->f x<=c*bk e):(l.map f).sum<=c*bk d:=by
 obtain⟨b,hd,j,u⟩:=h;have key: ∀(l:List α) (b:List (DataW H)),l.length=b.length->(∀(i:Nat) (x:α) (e:DataW H),l[i]? =io x->b[i]? =io e->Q x e)->(l.map f).sum<=c*Rows.uptoBulkAll b:=by
  intro l
  induction l with
  |nil=>intro b _ _;simp
  |cons x r ih=>
   intro b hl u;cases b with
   |nil=>simp at hl
   |cons e b=>
    have h1:=hf x e (u 0 x e Z Z);have B:=ih b (by simpa using hl) fun i x e A y=>u (i+1) x e (by simpa using A) (by simpa using y);simp only[Py,Qq,Rows.uptoBulkAll,Nat.mul_add];simp only[bk]at h1;omega
 have h1:=key l b j u;rcases hd with⟨rfl,rfl⟩|⟨sp,rfl⟩
 .simp[Rows.uptoBulkAll]at h1;omega
 .refine Qa h1 (Nat.mul_le_mul_left c ?_);simp only[bk,Rows.uptoBulk];omega
theorem xd{α:Type}: ∀l:List α,(l.map fun _=>1).sum=l.length
 | []=>rfl
 |x::r=>by simp only[Py,Qq,PX,xd r];omega
theorem _root_.Go.Al.QL.len{α:Type}{Q:α->DataW H->Prop}{l:List α}{d:DataW H}(h:QL Q l d):l.length<=bk d:=by
 have:=h.sum (f:=fun _=>1) (c:=1) fun x e _=>by have:=Aa e;omega
 have e:=xd l;omega
theorem _root_.Go.Al.QL.all{α:Type}{Q:α->DataW H->Prop}{l:List α}{d:DataW H}(h:QL Q l d): ∀x∈l,∃e,Q x e∧bk e<=bk d:=by
 intro x C;obtain⟨b,hd,u,B⟩:=h;obtain⟨i,A,rfl⟩:=Ro.1 C;have j:i<b.length:=by omega
 refine⟨b[i],B i _ _ (Pl A) (Pl j),?_⟩;have key: ∀(b:List (DataW H)),∀e∈b,bk e<=Rows.uptoBulkAll b:=by
  intro b
  induction b with
  |nil=>intro e he;cases he
  |cons y r ih=>
   intro e he;simp only[Rows.uptoBulkAll];rcases Px.1 he with rfl|he
   .simp only[bk];omega
   .have:=ih e he;omega
 have h1:=key b b[i] (P3 j);rcases hd with⟨rfl,rfl⟩|⟨sp,rfl⟩
 .simp at j
 .refine Qa h1 ?_;simp only[bk,Rows.uptoBulk];omega
end
theorem Expr.fb: ∀l:List Expr,Expr.aB l=(l.map Expr.size).sum
 | []=>rfl
 |e::r=>by simp only[Expr.aB,Py,Qq,Expr.fb r]
theorem Expr.oA: ∀l:List Expr,Expr.lD l=(l.map Expr.ts).sum
 | []=>rfl
 |e::r=>by simp only[Expr.lD,Py,Qq,Expr.oA r]
theorem Lit.fb: ∀l:List Lit,Lit.aB l=(l.map Lit.size).sum
 | []=>rfl
 |e::r=>by simp only[Lit.aB,Py,Qq,Lit.fb r]
theorem Lit.oA: ∀l:List Lit,Lit.lD l=(l.map Lit.ts).sum
 | []=>rfl
 |e::r=>by simp only[Lit.lD,Py,Qq,Lit.oA r]
section
variable {H:Type} {enc:TypeId×Value->H} {W:World} {hT:kJ W} {sp:Nat->Bool} {held:Bool}
def QV(v:dG)(d:DataW H):Prop:=v.sym.size<=bk d
def QT(t:Term)(d:DataW H):Prop:=t.ts<=400*bk d
def QA(a:Atom)(d:DataW H):Prop:=a.ts<=400*bk d∧a.ak.length<=bk d
def QE(e:Expr)(d:DataW H):Prop:=e.ts<=400*bk d∧e.size<=bk d
def QP(_:Pos)(_:DataW H):Prop:=True
def Pos.c(p:Pos):List IV:=[iI p.line,iI p.FP]
def QG(g:fw)(d:DataW H):Prop:=g.var.size+g.iD.ts+Lit.lD g.body<=400*bk d∧g.iD.size+Lit.aB g.body<=bk d
def QB(l:Lit)(d:DataW H):Prop:=l.ts<=400*bk d∧l.size<=bk d
theorem rd_val(n:Nat):Rd enc prog W hT sp held 72 dG.c QV n:=by
 intro m _ G y h;obtain⟨D,k,rfl,rfl,hl,B,j⟩:=DataW.trod_struct underlying72 h
 match D,B with
 | [x0,x1,x2],_=>
  obtain⟨a,u,I,_⟩:=iV (hT:=hT) underlying3 k k (Ps _) _ _ (lJ j 0 Z Z Z jl Z);obtain⟨b,x,J,_⟩:=iV (hT:=hT) underlying3 k k (Ps _) _ _ (lJ j 1 Z Z Z jl Z);obtain⟨c,A,C,_⟩:=gE (hT:=hT) underlying9 k k (Ps _) _ _ (lJ j 2 Z Z Z ot Z);refine⟨⟨a,b,c⟩,u.ef (o':=1) Z (x.ef (o':=2) Z (A.ef (o':=3) Z (.end_ (hl.trans rL)))),?_⟩;simp only[QV,bk,Py,Qb,Rows.uptoBulk,Rows.uptoBulkAll];have:=tv (H:=H) c;rw[<-C]at this;simp only[bk]at this;omega
theorem y5(n:Nat):Rd enc prog W hT sp held 29 Pos.c QP n:=by
 intro m _ C y h;obtain⟨B,k,rfl,rfl,hl,A,j⟩:=DataW.trod_struct underlying29 h
 match B,A with
 | [x0,x1],_=>
  obtain⟨a,u,D,_⟩:=iV (hT:=hT) underlying3 k k (Ps _) _ _ (lJ j 0 Z Z Z jl Z);obtain⟨b,x,G,_⟩:=iV (hT:=hT) underlying3 k k (Ps _) _ _ (lJ j 1 Z Z Z jl Z);exact⟨⟨a,b⟩,u.ef (o':=1) Z (x.ef (o':=2) Z (.end_ (hl.trans rM))),ac⟩
theorem Hp(n:Nat):Rd enc prog W hT sp held 104 Term.c QT n:=by
 intro m _ G y h;obtain⟨D,k,rfl,rfl,hl,B,j⟩:=DataW.trod_struct underlying104 h
 match D,B with
 | [x0,x1,x2],_=>
  obtain⟨a,u,I,_⟩:=iV (hT:=hT) underlying3 k k (Ps _) _ _ (lJ j 0 Z Z Z jl Z);obtain⟨b,x,C,_⟩:=gE (hT:=hT) underlying9 k k (Ps _) _ _ (lJ j 1 Z Z Z ot Z);obtain⟨c,A,J⟩:=rd_val (hT:=hT) k k (Ps _) _ _ (lJ j 2 Z Z Z rL Z);refine⟨⟨a,b,c⟩,u.ef (o':=1) Z (x.ef (o':=2) Z (A.ef (o':=5) Z (.end_ (hl.trans yA)))),?_⟩;simp only[QT,Term.ts,bk,Py,Qb,Rows.uptoBulk,Rows.uptoBulkAll];have:=tv (H:=H) b;rw[<-C]at this;simp only[bk]at this;omega
theorem AI(n:Nat):Rd enc prog W hT sp held 96 Atom.c QA n:=by
 intro m _ J y h;obtain⟨I,k,rfl,rfl,hl,D,j⟩:=DataW.trod_struct underlying96 h
 match I,D with
 | [x0,x1],_=>
  obtain⟨a,x,G,_⟩:=gE (hT:=hT) underlying9 k k (Ps _) _ _ (lJ j 0 Z Z Z ot Z);obtain⟨b,A,u⟩:=(fy (hT:=hT) underlying94 yA (by decide) (fun _=>rfl) (Hp k)).mono (QO k) k (Ps _) _ _ (lJ j 1 Z Z Z Is Z);refine⟨⟨a,b⟩,x.ef (o':=1) Z (A.ef (o':=2) Z (.end_ (hl.trans wL))),?_⟩;have h1:=tv (H:=H) a;rw[<-G]at h1;have B:=u.sum (f:=Term.ts) (c:=400) fun _ _ h=>h;have C:=u.len;simp only[bk]at h1 B C;simp only[QA,Atom.ts,bk,Py,Qb,Rows.uptoBulk,Rows.uptoBulkAll];omega
theorem rm: ∀n:Nat,Rd enc prog W hT sp held 124 Expr.c QE n
 |0=>fun m R J y h=>by
  obtain rfl:m=0:=by omega
  simp[DataW.trod]at h
 |n+1=>fun m R J y h=>by
  obtain⟨xs,k,rfl,rfl,hl,Y,j⟩:=DataW.trod_struct underlying124 h;have hs:=fy (hT:=hT) underlying122 mw (by decide) (fun _=>rfl) (rm n)
  match xs,Y with
  | [x0,x1,x2,x3,x4],_=>
   obtain⟨a,B,qa,_⟩:=iV (hT:=hT) underlying3 k k (Ps _) _ _ (lJ j 0 Z Z Z jl Z);obtain⟨b,C,qb,_⟩:=gE (hT:=hT) underlying9 k k (Ps _) _ _ (lJ j 1 Z Z Z ot Z);obtain⟨c,D,qc⟩:=rd_val (hT:=hT) k k (Ps _) _ _ (lJ j 2 Z Z Z rL Z);obtain⟨d,G,qd,_⟩:=iV (hT:=hT) underlying3 k k (Ps _) _ _ (lJ j 3 Z Z Z jl Z);obtain⟨e,I,A⟩:=hs k (by omega) _ _ (lJ j 4 Z Z Z Fu Z);refine⟨.mk a b c d e,B.ef (o':=1) Z (C.ef (o':=2) Z (D.ef (o':=5) Z (G.ef (o':=6) Z ((I.AZ (Bq (.mk a b c d e))).ef (o':=7) Z (.end_ (hl.trans mw)))))),?_⟩;have h1:=tv (H:=H) b;rw[<-qb]at h1;have u:=A.sum (f:=Expr.ts) (c:=400) fun _ _ h=>h.1;have x:=A.sum (f:=Expr.size) (c:=1) fun _ _ h=>by have:=h.2;omega
   rw[<-Expr.oA]at u;rw[<-Expr.fb]at x;simp only[bk]at h1 u x;simp only[QE,Expr.ts,Expr.size,bk,Py,Qb,Rows.uptoBulk,Rows.uptoBulkAll];omega
theorem Lp{n:Nat}(hb:Rd enc prog W hT sp held 97 (fun l:List Lit=> [bN 30 l Lit.c]) (QL QB) n):Rd enc prog W hT sp held 126 fw.c QG (n+1):=by
 intro m hm cs y h;obtain⟨xs,k,rfl,rfl,hl,R,j⟩:=DataW.trod_struct underlying126 h
 match xs,R with
 | [x0,x1,x2,x3],_=>
  obtain⟨a,B,qa,_⟩:=iV (hT:=hT) underlying3 k k (Ps _) _ _ (lJ j 0 Z Z Z jl Z);obtain⟨b,C,Y,_⟩:=gE (hT:=hT) underlying9 k k (Ps _) _ _ (lJ j 1 Z Z Z ot Z);obtain⟨c,D,qc⟩:=rm (hT:=hT) k k (Ps _) _ _ (lJ j 2 Z Z Z mw Z);obtain⟨d,G,A⟩:=hb k (by omega) _ _ (lJ j 3 Z Z Z Bx Z);refine⟨⟨a,b,c,d⟩,B.ef (o':=1) Z (C.ef (o':=2) Z (D.ef (o':=9) Z ((G.AZ (zg d)).ef (o':=10) Z (.end_ (hl.trans yz))))),?_⟩;have h1:=tv (H:=H) b;rw[<-Y]at h1;have u:=A.sum (f:=Lit.ts) (c:=400) fun _ _ h=>h.1;have x:=A.sum (f:=Lit.size) (c:=1) fun _ _ h=>by have:=h.2;omega
  rw[<-Lit.oA]at u;rw[<-Lit.fb]at x;obtain⟨I,J⟩:=qc;simp only[bk]at h1 u x I J;simp only[QG,bk,Py,Qb,Rows.uptoBulk,Rows.uptoBulkAll];omega
theorem D1: ∀n:Nat,Rd enc prog W hT sp held 128 Lit.c QB n
 |0=>fun m hm J y h=>by
  obtain rfl:m=0:=by omega
  simp[DataW.trod]at h
 |n+1=>fun m hm J y h=>by
  obtain⟨xs,k,rfl,rfl,hl,hx,j⟩:=DataW.trod_struct underlying128 h;have hs:=Lp (fy (hT:=hT) underlying97 tn (by decide) (fun _=>rfl) (D1 n))
  match xs,hx with
  | [x0,x1,x2,x3,x4,x5,x6],_=>
   obtain⟨a,x,qa,_⟩:=iV (hT:=hT) underlying3 k k (Ps _) _ _ (lJ j 0 Z Z Z jl Z);obtain⟨b,A,qb⟩:=AI (hT:=hT) k k (Ps _) _ _ (lJ j 1 Z Z Z wL Z);obtain⟨c,B,qc,_⟩:=iV (hT:=hT) underlying3 k k (Ps _) _ _ (lJ j 2 Z Z Z jl Z);obtain⟨d,C,qd⟩:=rm (hT:=hT) k k (Ps _) _ _ (lJ j 3 Z Z Z mw Z);obtain⟨e,D,qe⟩:=rm (hT:=hT) k k (Ps _) _ _ (lJ j 4 Z Z Z mw Z);obtain⟨g,G,qg⟩:=hs k (by omega) _ _ (lJ j 5 Z Z Z yz Z);obtain⟨p,I,_⟩:=y5 (hT:=hT) k k (Ps _) _ _ (lJ j 6 Z Z Z rM Z);refine⟨.mk a b c d e g.func g.var g.iD g.body p,x.ef (o':=1) Z (A.ef (o':=3) Z (B.ef (o':=4) Z (C.ef (o':=11) Z (D.ef (o':=18) Z (G.ef (o':=28) Z (I.ef (o':=30) Z (.end_ (hl.trans tn)))))))),?_⟩;obtain⟨h1,R⟩:=qb;obtain⟨Y,h4⟩:=qd;obtain⟨h5,h6⟩:=qe;obtain⟨h7,h8⟩:=qg;have h9:=Aa x0.1;have u:=Aa x2.1;simp only[bk]at h1 R Y h4 h5 h6 h7 h8 h9 u;simp only[QB,Lit.ts,Lit.size,bk,Py,Qb,Rows.uptoBulk,Rows.uptoBulkAll];omega
theorem Hr(n:Nat):Rd enc prog W hT sp held 97 (fun l:List Lit=> [lits l]) (QL QB) n:=
 (fy (hT:=hT) underlying97 tn (by decide) (fun _=>rfl) (D1 n)).mono (QO n)
end
end
end Go.Proofs.YtllkaddcplhklaaGreatDoor
namespace Go.Proofs.YtllkaddcplhklaaGreatDoor
open Go Go.Al Go.Proofs.Tryz Go.ChangeShapes Go.WideShapes Go.RowKit
theorem own:ownKnob prog.godebug=is:=by kernel_rfl
theorem NL:prog.globalNamed "internal/strconv.uint64pow10" =io 1:=by kernel_rfl
theorem EO:(prog.globals[1]?).map (·.type)=io 300:=by kernel_rfl
theorem Fs:prog.cellsOf 300=20:=by kernel_rfl
theorem Ft:prog.cellsOf 177=1:=by kernel_rfl
theorem Da:prog.underlying 300=io (.array 20 177):=by kernel_rfl
theorem Db:prog.underlying 177=io (.int .u64):=by kernel_rfl
abbrev Ey:List (String×DataW Unit):=[("math/bits.deBruijn32tab",Rows.laid_math_bits_deBruijn32tab),("math/bits.deBruijn64tab",Rows.laid_math_bits_deBruijn64tab),("internal/strconv.uint64pow10",Rows.laid_internal_strconv_uint64pow10)]
theorem Dj{W:World}(h:laidMetH prog Ey W):kJ W:=by
 have u:=laidMetH.filter (fun x=>x.1== "internal/strconv.uint64pow10") h;have A:laidMet prog [("internal/strconv.uint64pow10",Lib.tabData .u64 nT)] W:=by
  rw[show Ey.filter (fun x=>x.1== "internal/strconv.uint64pow10")=[("internal/strconv.uint64pow10",Lib.tabData .u64 nT)] by kernel_rfl]at u;rwa[MakeChecks.laidMetH_plain _ _ _ (by kernel_rfl)]at u
 have j:Lib.TabIs prog W "internal/strconv.uint64pow10" .u64 nT:=Lib.tabIs_of_head (rest:=[]) NL EO Da Db Ft Fs A;intro b c hb;unfold Lib.TabIs World.var? at j;rw[NL]at j
 match b with
 |0=>exact nomatch hb
 |1=>
  have B:(nT.map fun z=>Value.int .u64 z).toArray=c:=P7 hb;rw[B]at j;simp only[RF]at j;split at j
  .rename_i C T y e;exact⟨T,y,by rw[e,P7 j]⟩
  .cases j
 |b+2=>exact nomatch hb
theorem kids:Kids prog (· <prog.types.size):=kids_rows (by kernel_rfl) (by kernel_rfl)
theorem full: ∀{t e},t<prog.types.size->prog.underlying t=io (.slice e)->0<prog.cellsOf e:=fun{t e}=>slices_full_of prog (by kernel_rfl) t e
theorem vX{H:Type}{enc:TypeId×Value->H}{W:World}(hT:kJ W){k:FuncId}{f:Func}{s:ChangeSpec}{args:List PV}{vs:List Value}{B gs:List (DataW H)}{u:List MemPlace}
  (hp:Al.Pure prog k args (pB jp)) (D:args.length=vs.length) (hv: ∀(j:Nat) (p:PV),args[j]? =io p->VR (Mem.nW W hT) Md (· <0) p (vs.getD j undef))
  (G: ∀t∈f.params.toList,t<prog.types.size) (A:s.vars=[]) (y:f.resultTypes= #[4])
  (hW:DataW.Whole enc prog f.params.toList s.vars kw W vs.toArray.toList B gs u)
  (I:(s.fn H (B++gs)).results=[.lit (.bool jp)]) (J:(s.fn H (B++gs)).args=B) (R:(s.fn H (B++gs)).vars=[]):
  Calls prog k vs.toArray W fun e W'=> ∃v,e= .returned v∧s.post enc prog f kw jp kw kw W vs.toArray v W':=by
 refine(hp.2 (Mem.nW W hT) Md W vs (Ho W hT) D hv).mono ?_;rintro e W' ⟨x,M',N',r,h',n',rfl,⟨rfl,rfl,rfl⟩,hx,hr,hvr⟩;have Y:x= .bool jp:=by
  cases hvr with
  |iv _ _ h=>cases h;rfl
 subst Y;refine⟨_,rfl,vY kids full G A hW hx.os hx.output.out (fun b hb=>hx.fN b hb fun i o hi=>(nomatch hi)) (fun b sp hd=>?_) J R ?_⟩
 .rw[I,y];exact trodAll_cons_mk (shut_bool underlying4 _) trodAll_mk0
 .intro j t r h1 C;rw[y]at h1 C
  match j,h1,C with
  |0,h1,C=>
   cases h1;cases C;exact okWide_bool_mk underlying4 _
  |j+1,h1,C=>simp at h1
theorem bound{H:Type}{l:List (DataW H)}(hk:Rows.uptoSmall H l=jp):Rows.uptoBulkAll l<=1048576:=of_decide_eq_true hk
def Ex(b:Nat)(cs:Array Value)(h:Array Obj):Array Obj:=h.modify b fun
 | .cells _ t frozen=> .cells cs t frozen
 |o=>o
noncomputable def pT(os:Os):World:=
 {World.holding prog os ⟨#[], #[],[]⟩ with
  heap:=Ex 3 #[.int .u8 0,.int .u8 1,.int .u8 56,.int .u8 2,.int .u8 57,.int .u8 49,.int .u8 28,.int .u8 3,.int .u8 61,.int .u8 58,.int .u8 42,.int .u8 50,.int .u8 38,.int .u8 29,.int .u8 17,.int .u8 4,.int .u8 62,.int .u8 47,.int .u8 59,.int .u8 36,.int .u8 45,.int .u8 43,.int .u8 51,.int .u8 22,.int .u8 53,.int .u8 39,.int .u8 33,.int .u8 30,.int .u8 24,.int .u8 18,.int .u8 12,.int .u8 5,.int .u8 63,.int .u8 55,.int .u8 48,.int .u8 27,.int .u8 60,.int .u8 41,.int .u8 37,.int .u8 16,.int .u8 46,.int .u8 35,.int .u8 44,.int .u8 21,.int .u8 52,.int .u8 32,.int .u8 23,.int .u8 11,.int .u8 54,.int .u8 26,.int .u8 40,.int .u8 15,.int .u8 34,.int .u8 20,.int .u8 31,.int .u8 10,.int .u8 25,.int .u8 14,.int .u8 19,.int .u8 9,.int .u8 13,.int .u8 8,.int .u8 7,.int .u8 6] (Ex 2 #[.int .u8 0,.int .u8 1,.int .u8 28,.int .u8 2,.int .u8 29,.int .u8 14,.int .u8 24,.int .u8 3,.int .u8 30,.int .u8 22,.int .u8 20,.int .u8 15,.int .u8 25,.int .u8 17,.int .u8 4,.int .u8 8,.int .u8 31,.int .u8 27,.int .u8 13,.int .u8 23,.int .u8 21,.int .u8 19,.int .u8 16,.int .u8 7,.int .u8 26,.int .u8 12,.int .u8 18,.int .u8 6,.int .u8 11,.int .u8 5,.int .u8 10,.int .u8 9] (Ex 1 (nT.map fun z=>Value.int .u64 z).toArray (World.holding prog os ⟨#[], #[],[]⟩).heap))}
end Go.Proofs.YtllkaddcplhklaaGreatDoor
namespace Go.Proofs.YtllkaddcplhklaaGreatDoor
open Go Go.Al Go.Proofs.Tryz
def fh.z:fh:=(0,⟨0,0⟩)
theorem d64(d e:fh):bD prog 64 [ag d.c,.ptr 0 0] [aw e.c] (pB kw) [(0,io (aw d.c))] 1:=by
 refine au ab func64 Z (by decide) ntmps64 Z (by simp) ?_;refine gA Z (zD [] Z (zW (zO ac)))
def fc(p:Prog)(i:Nat):List an:=(p.aR.take i).map Decl.name
def fx(p:Prog)(i:Nat):Int:=nQ (p.aR.getD i co) i (dt .str (aD (fc p i)) (p.aR.getD i co).name 0)
def nP(p:Prog):Nat->List fh
 |0=> []
 |i+1=>nP p i++(if fx p i=0 then[] else[(fx p i,(p.aR.getD i co).at_)])
def sj(p:Prog)(i:Nat):fh:=uD p (p.rules.getD i co) ((i:Int)+1)
def oI(p:Prog):Nat->List fh
 |0=> []
 |i+1=>oI p i++(if(sj p i).1=0 then[] else[sj p i])
def jK(p:Prog):List fh:=nP p p.aR.length++oI p p.rules.length
def dR(p:Prog):fh:=(jK p).headD fh.z
theorem xA(p:Prog)(i:Nat): ∀k,∃t,nP p (i+k)=nP p i++t
 |0=>⟨[],by simp⟩
 |k+1=>by
  obtain⟨t,h⟩:=xA p i k;exact⟨_,by rw[<-QY,nP,h,PH]⟩
theorem xu(p:Prog)(i:Nat): ∀k,∃t,oI p (i+k)=oI p i++t
 |0=>⟨[],by simp⟩
 |k+1=>by
  obtain⟨t,h⟩:=xu p i k;exact⟨_,by rw[<-QY,oI,h,PH]⟩
theorem CK{p:Prog}{i:Nat}(j:nP p i=[])(hi:i<p.aR.length)(h: ¬fx p i=0):dR p=(fx p i,(p.aR.getD i co).at_):=by
 obtain⟨t,b⟩:=xA p (i+1) (p.aR.length-(i+1));have e:i+1+(p.aR.length-(i+1))=p.aR.length:=by omega
 rw[e,nP,j,be h]at b;rw[dR,jK,b];rfl
theorem CJ{p:Prog}{i:Nat}(h0:nP p p.aR.length=[])(j:oI p i=[])(hi:i<p.rules.length)(h: ¬(sj p i).1=0):dR p=sj p i:=by
 obtain⟨t,b⟩:=xu p (i+1) (p.rules.length-(i+1));have e:i+1+(p.rules.length-(i+1))=p.rules.length:=by omega
 rw[e,oI,j,be h]at b;rw[dR,jK,b,h0];rfl
theorem Fq{p:Prog}(h0:nP p p.aR.length=[])(h1:oI p p.rules.length=[]):dR p=fh.z:=by
 rw[dR,jK,h0,h1];rfl
theorem vV{p:Prog}{i:Nat}(h:i<p.aR.length):aD (fc p (i+1))=bump (aD (fc p i)) (p.aR.getD i co).name:=by
 rw[fc,cm h,PF];exact cY _ _
theorem y4(p:Prog)(i:Nat)(s:an):0<=dt .str (aD (fc p i)) s 0∧dt .str (aD (fc p i)) s 0<=i:=by
 have h:=fE (fc p i) s;have b:(fc p i).length<=i:=by simp[fc];omega
 rw[bz];omega
def Prog.fit(p:Prog):Prop:=p.aR.length<=1000000000∧p.rules.length<=1000000000∧ ∀r∈p.rules,r.fit
theorem ON(p:Prog)(hb:p.fit):bD prog 63 [ag p.c,.b5 (.func 64) [] [.ptr 0 0]] [aw fh.z.c] (.bq []) [(0,io (aw (dR p).c))] 1:=by
 obtain⟨A,B,y⟩:=hb;refine au ab func63 Z (by decide) ntmps63 Z (by simp) ?_;refine gA Z ?_;refine aJ 0 p.aR.length (PA _) (fun i=>⟨[(1,.b5 (.func 64) [] [.ptr 0 0]),(2,.ptr 1 0),(4,.mp 2),(13,.iv (bN 4 p.aR Decl.c)),(14,pI p.aR.length),(15,pI i)],[(0,io (aw fh.z.c)),(1,io (aw p.c)),(2,io (cG (aD (fc p i))))],3⟩) (fun i=>nP p i=[]) [] Z
  (zW ⟨⟨_,rfl,.of_eq Z⟩,Pf Z,rfl,⟨_,rfl,.of_eq Z⟩,Pf Z,rfl,LK Z eW Z trivial⟩) fun i C u=>?_
 refine zJ Z Z (fun h1=>?_) fun h1=>?_
 .have h1:i<p.aR.length:=zN h1;have hl:=y4 p i (p.aR.getD i co).name;have G:=vV h1;refine gA Z (zp (Pa (p.aR.getD i co) i (dt .str (aD (fc p i)) (p.aR.getD i co).name 0)) ?_);refine zJ Z Z (fun g=>?_) fun g=>?_
  .have g: ¬fx p i=0:=by
    have g:(!lc (fx p i=0))=jp:=g;simpa only[Qp,decide_eq_false_iff_not]using g
   rw[CK u h1 g];refine gA Z (zq [0] (d64 (fx p i,(p.aR.getD i co).at_) fh.z) ?_);refine zE Z Z (fun q=>?_) fun q=>?_
   .exact absurd (show jp=kw from q) (by decide)
   refine gA Z (zD [] Z (zW (zO ac)))
  .have g:fx p i=0:=by
    have g:(!lc (fx p i=0))=kw:=g;simpa only[Q8,decide_eq_true_eq]using g
   refine gA Z ⟨h1,by rw[nP,u,am g];rfl,[],zW (zO (zO (hM Z (by rw[G];rfl) Z trivial)))⟩
 have h1:p.aR.length<=i:=zG h1;have j:i=p.aR.length:=by omega
 subst j;refine gA Z (zq [] (d50 p (by omega)) ?_);refine gA Z ?_;refine H6 3 Z ?_;refine aJ 0 p.rules.length (PA _) (fun i=>⟨[(1,.b5 (.func 64) [] [.ptr 0 0]),(2,.ptr 1 0),(8,.iv (cD p)),(47,.iv (bN 5 p.rules ax.c)),(48,pI p.rules.length),(49,pI i)],[(0,io (aw fh.z.c)),(1,io (aw p.c))],4⟩) (fun i=>oI p i=[]) [] Z
  (zW (zO (zO trivial))) fun i C x=>?_
 refine zJ Z Z (fun b=>?_) fun b=>?_
 .have b:i<p.rules.length:=zN b;have D:p.rules.getD i co∈p.rules:=by rw[Pk,Pl b];exact P3 b
  refine gA Z (aE (c65 p (p.rules.getD i co) ((i:Int)+1) (y _ D)) Z Z Z Z Z Z ?_);refine zJ Z Z (fun g=>?_) fun g=>?_
  .have g: ¬(sj p i).1=0:=by
    have g:(!lc ((sj p i).1=0))=jp:=g;simpa only[Qp,decide_eq_false_iff_not]using g
   rw[CJ u x b g];refine gA Z (zq [0] (d64 (sj p i) fh.z) ?_);refine zE Z Z (fun q=>?_) fun q=>?_
   .exact absurd (show jp=kw from q) (by decide)
   refine gA Z (zD [] Z (zW (zO ac)))
  .have g:(sj p i).1=0:=by
    have g:(!lc ((sj p i).1=0))=kw:=g;simpa only[Q8,decide_eq_true_eq]using g
   refine gA Z ⟨b,by rw[oI,x,am g];rfl,[],zW (zO (zO trivial))⟩
 have b:p.rules.length<=i:=zG b;have j:i=p.rules.length:=by omega
 subst j;rw[Fq u x];refine gA Z (zD [] Z (zW (zO ac)))
theorem c24(p:Prog)(hb:p.fit):Pure prog 39 [ag p.c] (ag (dR p).c):=by
 refine ai ab func39 Z (by decide) ntmps39 Z (by simp) Z ?_;refine gA Z (zq [2] (ON p hb) ?_);exact zU Z
end Go.Proofs.YtllkaddcplhklaaGreatDoor
namespace Go.Proofs.YtllkaddcplhklaaGreatDoor
open Go Go.Al Go.Proofs.Tryz Go.ChangeShapes Go.WideShapes Go.RowKit
section
theorem xc{α:Type}(f:α->Nat): ∀l:List α,(l.map fun x=>f x+1).sum=(l.map f).sum+l.length
 | []=>rfl
 |x::r=>by simp only[Py,Qq,PX,xc f r];omega
section
variable {H:Type} {enc:TypeId×Value->H} {W:World} {hT:kJ W} {sp:Nat->Bool} {held:Bool}
def QD(x:Decl)(d:DataW H):Prop:=x.types.length+1<=bk d
def QR1(r:ax)(d:DataW H):Prop:=r.size+1<=bk d∧r.head.ts<=400*bk d∧ ∀l∈r.body,l.ts<=400*bk d
def Pd(p:Prog)(d:DataW H):Prop:=p.size<=bk d∧p.aR.length<=bk d∧p.rules.length<=bk d∧ ∀r∈p.rules,r.size<=bk d∧r.head.ts<=400*bk d∧ ∀l∈r.body,l.ts<=400*bk d
def QF(f:Fact)(d:DataW H):Prop:=f.args.length<=bk d
theorem DZ(n:Nat):Rd enc prog W hT sp held 99 ax.c QR1 n:=by
 intro m _ cs y h;obtain⟨xs,k,rfl,rfl,hl,R,j⟩:=DataW.trod_struct underlying99 h
 match xs,R with
 | [x0,x1,x2],_=>
  obtain⟨a,A,Y⟩:=AI (hT:=hT) k k (Ps _) _ _ (lJ j 0 Z Z Z wL Z);obtain⟨b,B,x⟩:=Hr (hT:=hT) k k (Ps _) _ _ (lJ j 1 Z Z Z Bx Z);obtain⟨c,C,qc⟩:=y5 (hT:=hT) k k (Ps _) _ _ (lJ j 2 Z Z Z rM Z);refine⟨⟨a,b,c⟩,A.ef (o':=2) Z (B.ef (o':=3) Z (C.ef (o':=5) Z (.end_ (hl.trans Bw)))),?_⟩;have u:=x.sum (f:=Lit.size) (c:=1) fun _ _ h=>by have:=h.2;omega
  rw[<-Lit.fb]at u;obtain⟨D,G⟩:=Y;simp only[bk]at u D G;refine⟨?_,?_,fun l hl=>?_⟩
  .simp only[ax.size,bk,Py,Qb,Rows.uptoBulk,Rows.uptoBulkAll];omega
  .simp only[bk,Py,Qb,Rows.uptoBulk,Rows.uptoBulkAll];omega
  .obtain⟨e,⟨I,_⟩,J⟩:=x.all l hl;simp only[bk]at I J;simp only[bk,Py,Qb,Rows.uptoBulk,Rows.uptoBulkAll];omega
theorem Hs(n:Nat):Rd enc prog W hT sp held 3 jV (fun _ _=>True) n:=by
 intro m j b y h;obtain⟨z,u,_⟩:=iV (hT:=hT) underlying3 n m j b y h;exact⟨z,u,ac⟩
theorem Ht(n:Nat):Rd enc prog W hT sp held 31 Decl.c QD n:=by
 intro m _ I y h;obtain⟨G,k,rfl,rfl,hl,C,j⟩:=DataW.trod_struct underlying31 h
 match G,C with
 | [x0,x1,x2],_=>
  obtain⟨a,u,J,_⟩:=gE (hT:=hT) underlying9 k k (Ps _) _ _ (lJ j 0 Z Z Z ot Z);obtain⟨b,x,D⟩:=(fy (hT:=hT) underlying27 jl (by decide) (fun _=>rfl) (Hs k)).mono (QO k) k (Ps _) _ _ (lJ j 1 Z Z Z Iy Z);obtain⟨c,A,R⟩:=y5 (hT:=hT) k k (Ps _) _ _ (lJ j 2 Z Z Z rM Z);refine⟨⟨a,b,c⟩,u.ef (o':=1) Z (x.ef (o':=2) Z (A.ef (o':=4) Z (.end_ (hl.trans BA)))),?_⟩;have B:=D.len;simp only[bk]at B;simp only[QD,bk,Py,Qb,Rows.uptoBulk,Rows.uptoBulkAll];omega
theorem Hq(n:Nat):Rd enc prog W hT sp held 35 Prog.c Pd n:=by
 intro m _ cs y h;obtain⟨xs,k,rfl,rfl,hl,R,x⟩:=DataW.trod_struct underlying35 h
 match xs,R with
 | [x0,x1],_=>
  obtain⟨a,B,Y⟩:=(fy (hT:=hT) underlying32 BA (by decide) (fun _=>rfl) (Ht k)).mono (QO k) k (Ps _) _ _ (lJ x 0 Z Z Z Ix Z);obtain⟨b,C,A⟩:=(fy (hT:=hT) underlying33 Bw (by decide) (fun _=>rfl) (DZ k)).mono (QO k) k (Ps _) _ _ (lJ x 1 Z Z Z Iw Z);refine⟨⟨a,b⟩,B.ef (o':=1) Z (C.ef (o':=2) Z (.end_ (hl.trans Iv))),?_⟩;have h1:=Y.sum (f:=fun d=>d.types.length+1) (c:=1) fun _ _ h=>by
   simp only[QD]at h;omega
  have j:=A.sum (f:=fun r=>r.size+1) (c:=1) fun _ _ h=>by have:=h.1;omega
  rw[xc]at h1 j;simp only[bk]at h1 j;refine⟨?_,?_,?_,fun r J=>?_⟩
  .simp only[Prog.size,bk,Py,Qb,Rows.uptoBulk,Rows.uptoBulkAll];omega
  .simp only[bk,Py,Qb,Rows.uptoBulk,Rows.uptoBulkAll];omega
  .simp only[bk,Py,Qb,Rows.uptoBulk,Rows.uptoBulkAll];omega
  .obtain⟨e,⟨D,G,u⟩,I⟩:=A.all r J;simp only[bk]at D G u I;refine⟨?_,?_,fun l hl=>?_⟩
   .simp only[bk,Py,Qb,Rows.uptoBulk,Rows.uptoBulkAll];omega
   .simp only[bk,Py,Qb,Rows.uptoBulk,Rows.uptoBulkAll];omega
   .have:=u l hl;simp only[bk,Py,Qb,Rows.uptoBulk,Rows.uptoBulkAll];omega
theorem AG(n:Nat):Rd enc prog W hT sp held 39 Fact.c QF n:=by
 intro m _ G y h;obtain⟨D,k,rfl,rfl,hl,B,j⟩:=DataW.trod_struct underlying39 h
 match D,B with
 | [x0,x1],_=>
  obtain⟨a,u,I,_⟩:=gE (hT:=hT) underlying9 k k (Ps _) _ _ (lJ j 0 Z Z Z ot Z);obtain⟨b,x,C⟩:=(fy (hT:=hT) underlying37 rL (by decide) (fun _=>rfl) (rd_val k)).mono (QO k) k (Ps _) _ _ (lJ j 1 Z Z Z It Z);refine⟨⟨a,b⟩,u.ef (o':=1) Z (x.ef (o':=2) Z (.end_ (hl.trans Bz))),?_⟩;have A:=C.len;simp only[bk]at A;simp only[QF,bk,Py,Qb,Rows.uptoBulk,Rows.uptoBulkAll];omega
end
theorem LQ{H:Type}{p:Prog}{d:DataW H}(h:Pd p d)(hb:bk d<=1048576):p.fit:=by
 obtain⟨h1,x,y,b⟩:=h;refine⟨by omega,by omega,fun r u=>?_⟩;obtain⟨A,B,j⟩:=b r u;exact⟨by omega,by omega,fun l hl=>by have:=j l hl;omega⟩
theorem Fz{H:Type}{enc:TypeId×Value->H}{W:World}(hT:kJ W){v:Value}{d:DataW H}{p:List MemPlace}(b: ∃base,Value.okWide prog W .any base 35 v)(h:DataW.Trod enc prog W 0 (fun _=>jp) jp 35 v d p):
  ∃x:Prog,Pd x d∧VR (Mem.nW W hT) Md (· <0) (ag x.c) v:=by
 obtain⟨base,b⟩:=b;obtain⟨y,rfl,_⟩:=okWide_struct underlying35 b;obtain⟨n,u⟩:=h;obtain⟨r,h1,j⟩:=Hq (hT:=hT) n n (Ps _) _ _ u;exact⟨r,j,h1.agg⟩
theorem Ke{M:Mem}{N:Nm}{U:Nat->Prop}{p:IV}{a:Option Addr}{l c:Nat}(h:CR M [p] (Value.slice a l c).cells.toList):VR M N U (.iv p) (.slice a l c):= .iv _ _ (h.2 0 p Z)
end
end Go.Proofs.YtllkaddcplhklaaGreatDoor
namespace Go.Bo
section
structure TO {α:Type} (c:α->α->Int):Prop where
 eq: ∀x y,c x y=0↔x=y
 neg: ∀x y,c y x<0↔0<c x y
 tr: ∀x y z,c x y<0->c y z<0->c x z<0
section
variable {α:Type} {c:α->α->Int} (h:TO c)
include h
theorem TO.refl(x:α):c x x=0:=(h.eq x x).2 Z
theorem TO.H2(x:α): ¬c x x<0:=by rw[h.refl];omega
theorem TO.asym{x y:α}(a:c x y<0): ¬c y x<0:=fun b=>by have:=(h.neg x y).1 b;omega
theorem TO.Mc{x y:α}(a: ¬c x y<0)(b: ¬c y x<0):x=y:=by
 refine(h.eq x y).1 ?_;have:=(h.neg x y).2;omega
theorem TO.Od{x y z:α}(a: ¬c x y<0)(b: ¬c y z<0): ¬c x z<0:=fun g=>by
 by_cases e:c y x<0
 .exact b (h.tr _ _ _ e g)
 .rw[h.Mc a e]at g;exact b g
end
def rn(a b:Int):Int:=if a=0 then b else a
theorem AK{a b j u:Int}(h1:j<0↔0<a)(x:a<0↔0<j)(y:u<0↔0<b):rn j u<0↔0<rn a b:=by
 unfold rn;split<;>split<;>omega
theorem TO.pair{α β:Type}{c:α->α->Int}{d:β->β->Int}(h:TO c)(g:TO d):TO fun(x y:α×β)=>rn (c x.1 y.1) (d x.2 y.2) where
 eq:=fun x y=>by
  unfold rn;constructor
  .intro e;split at e
   .rename_i a;exact Prod.ext ((h.eq _ _).1 a) ((g.eq _ _).1 e)
   .rename_i a;exact absurd e a
  .rintro rfl;rw[am (h.refl _)];exact g.refl _
 neg:=fun x y=>AK (h.neg _ _) (h.neg _ _) (g.neg _ _)
 tr:=fun x y z a b=>by
  unfold rn at*
  by_cases u:c x.1 y.1=0
  .rw[am u]at a;have A:=(h.eq _ _).1 u;rw[A];by_cases j:c y.1 z.1=0
   .rw[am j]at b ⊢;exact g.tr _ _ _ a b
   .rw[be j]at b ⊢;exact b
  .rw[be u]at a;by_cases j:c y.1 z.1=0
   .rw[<-(h.eq _ _).1 j,be u];exact a
   .rw[be j]at b;have:=h.tr _ _ _ a b;rw[be (by omega)];exact this
theorem TO.map{α β:Type}{c:β->β->Int}(h:TO c)(f:α->β)(hf: ∀x y,f x=f y->x=y):TO fun x y=>c (f x) (f y) where
 eq:=fun x y=>(h.eq _ _).trans ⟨hf x y,fun e=>by rw[e]⟩
 neg:=fun x y=>h.neg _ _
 tr:=fun x y z=>h.tr _ _ _
def cmpL{α:Type}(c:α->α->Int):List α->List α->Int
 | [],[]=>0
 | [],_::_=> -1
 |_::_,[]=>1
 |x::a,y::b=>rn (c x y) (cmpL c a b)
theorem TO.list{α:Type}{c:α->α->Int}(h:TO c):TO (cmpL c) where
 eq:=by
  intro x
  induction x with
  |nil=>intro y;cases y<;>simp[cmpL]
  |cons x a ih=>
   intro y;cases y with
   |nil=>simp[cmpL]
   |cons y b=>
    simp only[cmpL,rn,Sx];constructor
    .intro e;split at e
     .rename_i q;exact⟨(h.eq _ _).1 q,(ih b).1 e⟩
     .rename_i q;exact absurd e q
    .rintro⟨rfl,rfl⟩;rw[am (h.refl _)];exact(ih a).2 Z
 neg:=by
  intro x
  induction x with
  |nil=>intro y;cases y<;>simp[cmpL]
  |cons x a ih=>
   intro y;cases y with
   |nil=>simp[cmpL]
   |cons y b=>exact AK (h.neg _ _) (h.neg _ _) (ih b)
 tr:=by
  intro x
  induction x with
  |nil=>
   intro y z a b;cases y with
   |nil=>simp[cmpL]at a
   |cons y y'=>cases z with
    |nil=>simp[cmpL]at b
    |cons z z'=>simp[cmpL]
  |cons x x' ih=>
   intro y z a b;cases y with
   |nil=>simp[cmpL]at a
   |cons y y'=>cases z with
    |nil=>simp[cmpL]at b
    |cons z z'=>
     simp only[cmpL,rn] at*
     by_cases u:c x y=0
     .rw[am u]at a;rw[(h.eq _ _).1 u];by_cases j:c y z=0
      .rw[am j]at b ⊢;exact ih _ _ a b
      .rw[be j]at b ⊢;exact b
     .rw[be u]at a;by_cases j:c y z=0
      .rw[<-(h.eq _ _).1 j,be u];exact a
      .rw[be j]at b;have:=h.tr _ _ _ a b;rw[be (by omega)];exact this
def jZ(a b:Int):Int:=if a<b then-1 else if b<a then 1 else 0
theorem TO.int:TO jZ where
 eq:=fun x y=>by unfold jZ;split<;>(try split)<;>omega
 neg:=fun x y=>by unfold jZ;split<;>(try split)<;>(try split)<;>(try split)<;>omega
 tr:=fun x y z=>by unfold jZ;split<;>(try split)<;>(try split)<;>(try split)<;>(try split)<;>omega
section
variable {α:Type} (c:α->α->Int)
def pj(l:List α):Prop:=l.Pairwise fun x y=>c x y<0
def ins(x:α):List α->List α
 | []=> [x]
 |y::r=>if c x y<0 then x::y::r else if c y x<0 then y::ins x r else y::r
def qp(l:List α):List α:=l.foldr (ins c) []
theorem pj.filter{c:α->α->Int}{l:List α}(hs:pj c l)(p:α->Bool):pj c (l.filter p):=RD p hs
variable {c} (h:TO c)
include h
theorem kT{x y:α}: ∀{l:List α},y∈ins c x l↔y=x∨y∈l
 | []=>by simp[ins]
 |z::r=>by
  unfold ins;split
  .simp
  .split
   .simp only[Px,kT (l:=r)];constructor
    .rintro(a|a|a)<;>simp[a]
    .rintro(a|a|a)<;>simp[a]
   .rename_i a b;have:=h.Mc a b;subst this;simp
theorem Ao{x:α}: ∀{l:List α},pj c l->pj c (ins c x l)
 | [],_=>by simp[ins,pj]
 |z::r,hs=>by
  have j:=P5.1 hs;unfold ins;split
  .rename_i a;refine P5.2 ⟨fun y hy=>?_,hs⟩;rcases Px.1 hy with rfl|hy
   .exact a
   .exact h.tr _ _ _ a (j.1 y hy)
  .split
   .rename_i a b;refine P5.2 ⟨fun y hy=>?_,Ao j.2⟩;rcases(kT h).1 hy with rfl|hy
    .exact b
    .exact j.1 y hy
   .exact hs
theorem pN{y:α}: ∀{l:List α},y∈qp c l↔y∈l
 | []=>by simp[qp]
 |x::l=>by
  show y∈ins c x (qp c l)↔_;rw[kT h,pN,Px]
theorem pr: ∀(l:List α),pj c (qp c l)
 | []=>R7
 |x::l=>Ao h (pr l)
theorem Ap: ∀{a b:List α},pj c a->pj c b->(∀x,x∈a↔x∈b)->a=b
 | [],[],_,_,_=>rfl
 | [],y::b,_,_,e=>absurd ((e y).2 (Pv ..)) (by simp)
 |x::a,[],_,_,e=>absurd ((e x).1 (Pv ..)) (by simp)
 |x::a,y::b,ha,hb,e=>by
  have j:=P5.1 ha;have u:=P5.1 hb;have B:x=y:=by
   rcases Px.1 ((e x).1 (Pv ..)) with q|q
   .exact q
   .rcases Px.1 ((e y).2 (Pv ..)) with r|r
    .exact r.symm
    .exact absurd (u.1 x q) (h.asym (j.1 y r))
  subst B;have A: ∀{l:List α},(∀z∈l,c x z<0)->x∉l:=fun g m=>h.H2 x (g x m);rw[Ap j.2 u.2 fun z=>⟨fun m=>?_,fun m=>?_⟩]
  .rcases Px.1 ((e z).1 (Pu _ m)) with q|q
   .subst q;exact absurd m (A j.1)
   .exact q
  .rcases Px.1 ((e z).2 (Pu _ m)) with q|q
   .subst q;exact absurd m (A u.1)
   .exact q
theorem pj.nodup{l:List α}(hs:pj c l):l.Nodup:=Sn (fun a e=>by subst e;exact h.H2 _ a) hs
end
end
end Go.Bo
namespace Go.Proofs.YtllkaddcplhklaaGreatDoor
open Go Go.Al Go.Bo
deriving instance DecidableEq for Fact
def M3(s:an):List Int:=s.data.toList.map fun b=>(b.toNat:Int)
theorem GZ{a b:an}(h:M3 a=M3 b):a=b:=by
 have:a.data.toList=b.data.toList:=List.map_inj_right (fun x y e=>UInt8.toNat_inj.1 (Int.ofNat.inj e))|>.1 h;cases a;cases b;simp only[ByteArray.mk.injEq];exact Sr.1 this
def nV(a b:an):Int:=cmpL jZ (M3 a) (M3 b)
def wJ(a b:dG):Int:=rn (jZ a.kind b.kind) (rn (jZ a.num b.num) (nV a.sym b.sym))
def rh(a b:List dG):Int:=cmpL wJ a b
def bb(a b:Fact):Int:=rn (nV a.rel b.rel) (rh a.args b.args)
theorem Oc:TO nV:=TO.int.list.map M3 fun _ _=>GZ
theorem toV:TO wJ:=(TO.int.pair (TO.int.pair Oc)).map (fun v:dG=>(v.kind,v.num,v.sym)) fun x y e=>by
 cases x;cases y;simp only[Pt]at e;obtain⟨rfl,rfl,rfl⟩:=e;rfl
theorem mS:TO bb:=(Oc.pair toV.list).map (fun f:Fact=>(f.rel,f.args)) fun x y e=>by
 cases x;cases y;simp only[Pt]at e;obtain⟨rfl,rfl⟩:=e;rfl
def Kf:Nat->FS
 |0=> []
 |n+1=>io .i64::io .i64::is::Kf n
abbrev fz:FS:=is::io .i64::Kf 8
def wQ:(n:Nat)->List dG->FK (Kf n)
 |0,_=>()
 |n+1,[]=>(0,0,Pq,wQ n [])
 |n+1,v::r=>(v.kind,v.num,v.sym,wQ n r)
def bu(f:Fact):FK fz:=(f.rel,(f.args.length:Int),wQ 8 f.args)
theorem yE: ∀(n:Nat) (a b:List dG),a.length=b.length->a.length<=n->wQ n a=wQ n b->a=b
 |_,[],[],_,_,_=>rfl
 |_,[],_::_,h,_,_=>by simp at h
 |_,_::_,[],h,_,_=>by simp at h
 |0,_::_,_::_,_,h,_=>by simp at h
 |n+1,v::a,u::b,h,g,e=>by
  have j:(v.kind,v.num,v.sym,wQ n a)=(u.kind,u.num,u.sym,wQ n b):=e;rw[Pt,Pt,Pt]at j;obtain⟨x,y,A,B⟩:=j;rw[yE n a b (by simpa using h) (by simpa using g) B];cases v;cases u;simp only at x y A;subst x y A;rfl
theorem oV{f g:Fact}(hf:f.args.length<=8)(e:bu f=bu g):f=g:=by
 have b:(f.rel,(f.args.length:Int),wQ 8 f.args)=(g.rel,(g.args.length:Int),wQ 8 g.args):=e;rw[Pt,Pt]at b;obtain⟨j,x,u⟩:=b;have:=yE 8 f.args g.args (by omega) hf u;cases f;cases g;simp only at j this;subst j this;rfl
end Go.Proofs.YtllkaddcplhklaaGreatDoor
namespace Go.Bo
section
theorem AJ{α:Type}{R:α->α->Prop}(D: ∀x,¬R x x)(A: ∀x y,R x y-> ¬R y x): ∀{a b:List α},a.Pairwise R->b.Pairwise R->(∀x,x∈a↔x∈b)->a=b
 | [],[],_,_,_=>rfl
 | [],y::b,_,_,e=>absurd ((e y).2 (Pv ..)) (by simp)
 |x::a,[],_,_,e=>absurd ((e x).1 (Pv ..)) (by simp)
 |x::a,y::b,ha,hb,e=>by
  have j:=P5.1 ha;have u:=P5.1 hb;have C:x=y:=by
   rcases Px.1 ((e x).1 (Pv ..)) with q|q
   .exact q
   .rcases Px.1 ((e y).2 (Pv ..)) with r|r
    .exact r.symm
    .exact absurd (u.1 x q) (A _ _ (j.1 y r))
  subst C;have B: ∀{l:List α},(∀z∈l,R x z)->x∉l:=fun g m=>D x (g x m);rw[AJ D A j.2 u.2 fun z=>⟨fun m=>?_,fun m=>?_⟩]
  .rcases Px.1 ((e z).1 (Pu _ m)) with q|q
   .subst q;exact absurd m (B j.1)
   .exact q
  .rcases Px.1 ((e z).2 (Pu _ m)) with q|q
   .subst q;exact absurd m (B u.1)
   .exact q
abbrev bP(F:Type):=Bool×F
def qj{F:Type}(c:F->F->Int)(l:List (bP F)):Prop:=l.Pairwise fun x y=>c x.2 y.2<0
theorem G4{F:Type}{c:F->F->Int}{l:List F}(hl:pj c l)(g:F->Option (bP F))(hg: ∀f x,g f=io x->x.2=f):qj c (l.filterMap g):=by
 refine List.Pairwise.filterMap g (fun x y a u hu v b=>?_) hl;rw[hg _ _ hu,hg _ _ b];exact a
theorem qj.facts{F:Type}{c:F->F->Int}{l:List (bP F)}(hl:qj c l):pj c (l.map (·.2)):=RT.2 hl
theorem Ds{F:Type}{c:F->F->Int}(h:TO c){a b:List (bP F)}(ha:qj c a)(hb:qj c b)(e: ∀x f,(x,f)∈a↔(x,f)∈b):a=b:=
 AJ (R:=fun(x y:bP F)=>c x.2 y.2<0) (fun _=>h.H2 _) (fun _ _ q=>h.asym q) ha hb fun x=>e x.1 x.2
theorem uz{F:Type}{c:F->F->Int}: ∀(l:List F),(qp c l).length<=l.length
 | []=>Ps _
 |x::l=>by
  have key: ∀(m:List F),(ins c x m).length<=m.length+1:=by
   intro m
   induction m with
   |nil=>exact Ps _
   |cons y r ih=>
    unfold ins;split
    .exact Ps _
    .split
     .exact SU ih
     .exact QO _
  exact Qa (key _) (SU (uz l))
section
variable {F:Type} [DecidableEq F] (c:F->F->Int)
def df(l:List (bP F))(f:F):Option Bool:=(l.reverse.find? fun x=>lc (x.2=f)).map (·.1)
def c4(S:List F)(l:List (bP F)):List (bP F):=
 (qp c (l.map (·.2))).filterMap fun f=>(df l f).bind fun a=>if lc (f∈S)=a then is else io (a,f)
def hQ(S:List F)(l:List (bP F)):List F:=(qp c (S++l.map (·.2))).filter fun f=>(df l f).getD jp
variable {c}
theorem nZ{l:List (bP F)}{f:F}:df l f=is↔f∉l.map (·.2):=by
 unfold df;rw[RJ,Rv];simp only[SV,decide_eq_true_eq,PW,not_exists,not_and]
theorem fS{l:List (bP F)}{f:F}{a:Bool}(e:df l f=io a):(a,f)∈l:=by
 unfold df at e;rw[Pr]at e;obtain⟨x,h1,rfl⟩:=e;have b:=List.find?_some h1;have j:=List.mem_of_find?_eq_some h1;rw[decide_eq_true_eq]at b;rw[<-b];exact SV.1 j
theorem zk{l:List (bP F)}{f:F}(hm:f∈l.map (·.2)): ∃a,df l f=io a:=by
 cases e:df l f with
 |none=>exact absurd hm (nZ.1 e)
 |some a=>exact⟨a,rfl⟩
theorem gj(h:TO c){S:List F}{l:List (bP F)}{a:Bool}{f:F}:(a,f)∈c4 c S l↔df l f=io a∧lc (f∈S)≠a:=by
 unfold c4;rw[List.mem_filterMap];constructor
 .rintro⟨g,_,e⟩;cases e1:df l g with
  |none=>rw[e1]at e;cases e
  |some b=>
   rw[e1,RF]at e;split at e
   .cases e
   .rename_i q;cases e;exact⟨e1,q⟩
 .rintro⟨e1,e2⟩;refine⟨f,(pN h).2 (PW.2 ⟨_,fS e1,rfl⟩),?_⟩;rw[e1,RF,be e2]
theorem oS(h:TO c){S:List F}{l:List (bP F)}{f:F}:f∈hQ c S l↔(df l f=io jp∨df l f=is∧f∈S):=by
 unfold hQ;rw[PU,pN h,PG];cases e:df l f with
 |none=>have:=nZ.1 e;simp[this]
 |some a=>
  have:f∈l.map (·.2):=PW.2 ⟨_,fS e,rfl⟩;cases a<;>simp[this]
theorem oD(h:TO c)(S:List F)(l:List (bP F)):pj c (hQ c S l):=(pr h _).filter _
theorem j9(h:TO c)(S:List F)(l:List (bP F)):qj c (c4 c S l):=G4 (pr h _) _ fun f x e=>by
 cases e1:df l f with
 |none=>rw[e1]at e;cases e
 |some b=>
  rw[e1,RF]at e;split at e
  .cases e
  .cases e;rfl
theorem Dg(S:List F)(l:List (bP F)):(c4 c S l).length<=l.length:=by
 have:=List.length_filterMap_le (fun f=>(df l f).bind fun a=>if lc (f∈S)=a then is else io (a,f)) (qp c (l.map (·.2)));have b:=uz (c:=c) (l.map (·.2));rw[PS]at b;exact Qa this b
theorem Ef(h:TO c){S:List F}(hS:pj c S)(l:List (bP F)):
  (hQ c S l).length+((c4 c S l).filter fun x=>!x.1).length=S.length+((c4 c S l).filter fun x=>x.1).length:=by
 have hT:=j9 h S l;have B: ∀q:bP F->Bool,(((c4 c S l).filter q).map (·.2)).Nodup:=fun q=>
  (qj.facts (RD q hT)).nodup h
 have A:(S.filter fun f=>lc ((kw,f)∉c4 c S l)).Nodup:=(hS.filter _).nodup h;have j: ∀(b:Bool) (f:F),f∈((c4 c S l).filter fun x=>x.1==b).map (·.2)↔(b,f)∈c4 c S l:=fun b f=>by
  rw[PW];constructor
  .rintro⟨x,hx,rfl⟩;rw[PU,beq_iff_eq]at hx;rw[<-hx.2];exact hx.1
  .intro m;exact⟨_,PU.2 ⟨m,beq_self_eq_true b⟩,rfl⟩
 have G:(hQ c S l).Perm ((S.filter fun f=>lc ((kw,f)∉c4 c S l))++((c4 c S l).filter fun x=>x.1==jp).map (·.2)):=by
  refine(QX ((oD h S l).nodup h) ?_).2 fun f=>?_
  .refine QS.2 ⟨A,B _,fun f u g y e=>?_⟩;subst e;rw[PU]at u;have:=(gj h).1 ((j jp f).1 y);exact this.2 (decide_eq_true u.1)
  .rw[PG,PU,j,decide_eq_true_eq,gj h,gj h,oS h];by_cases m:f∈S<;>cases e:df l f with
   |none=>simp[m]
   |some b=>cases b<;>simp[m]
 have I:S.Perm ((S.filter fun f=>lc ((kw,f)∉c4 c S l))++((c4 c S l).filter fun x=>x.1==kw).map (·.2)):=by
  refine(QX (hS.nodup h) ?_).2 fun f=>?_
  .refine QS.2 ⟨A,B _,fun f u g y e=>?_⟩;subst e;rw[PU,decide_eq_true_eq]at u;exact u.2 ((j kw f).1 y)
  .rw[PG,PU,j,decide_eq_true_eq,gj h];by_cases m:f∈S<;>cases e:df l f with
   |none=>simp[m]
   |some b=>cases b<;>simp[m]
 have C:=G.length_eq;have D:=I.length_eq;rw[Pn,PS]at C D;have c1:((c4 c S l).filter fun x=>x.1==jp)=(c4 c S l).filter fun x=>x.1:=Rp fun x _=>by cases x.1<;>rfl
 have c2:((c4 c S l).filter fun x=>x.1==kw)=(c4 c S l).filter fun x=>!x.1:=Rp fun x _=>by cases x.1<;>rfl
 rw[c1]at C;rw[c2]at D;omega
theorem u2{B:List F}{f:F}{a:Bool}:df (B.map fun x=>(jp,x)) f=io a↔a=jp∧f∈B:=by
 constructor
 .intro e;obtain⟨x,j,b⟩:=PW.1 (fS e);cases b;exact⟨rfl,j⟩
 .rintro⟨rfl,m⟩;obtain⟨a,e⟩:=zk (l:=B.map fun x=>(jp,x)) (f:=f) (by rw[PQ];exact PW.2 ⟨f,m,rfl⟩);rw[e];obtain⟨x,_,b⟩:=PW.1 (fS e);cases b;rfl
theorem sR{B:List F}{f:F}:df (B.map fun x=>(jp,x)) f=is↔f∉B:=by
 rw[nZ,PQ];show f∉B.map id↔_;rw[List.map_id]
theorem BK(h:TO c){S B:List F}(j:pj c B)(hd: ∀f∈B,f∉S):c4 c S (B.map fun x=>(jp,x))=B.map fun x=>(jp,x):=
 Ds h (j9 h _ _) (RT.2 j) fun a f=>by
  rw[gj h,u2];constructor
  .rintro⟨⟨rfl,m⟩,_⟩;exact PW.2 ⟨f,m,rfl⟩
  .intro m;obtain⟨x,b,e⟩:=PW.1 m;cases e;exact⟨⟨rfl,b⟩,by simp[hd f b]⟩
theorem Ep(h:TO c){S B:List F}{f:F}:f∈hQ c S (B.map fun x=>(jp,x))↔f∈B∨f∈S:=by
 rw[oS h,u2,sR];by_cases m:f∈B<;>simp[m]
theorem uU(h:TO c){S:List F}{x:F}(hS:pj c (x::S)):hQ c S [(jp,x)]=x::S:=
 Ap h (oD h _ _) hS fun f=>by
  rw[show[(jp,x)]=[x].map fun x=>(jp,x) from rfl,Ep h];simp
theorem BJ(h:TO c){S:List F}{x:F}(hS:pj c (x::S)):c4 c S [(jp,x)]=[(jp,x)]:=
 BK h (B:=[x]) (RG _ _) fun f b m=>by
  rw[Pw.1 b]at m;exact h.H2 _ ((P5.1 hS).1 x m)
end
section
variable {F:Type} (c:F->F->Int)
def c9:List F->List F->List (bP F)
 | [],b=>b.map fun f=>(jp,f)
 |a,[]=>a.map fun f=>(kw,f)
 |x::a,y::b=>if c x y<0 then(kw,x)::c9 a (y::b) else if 0<c x y then(jp,y)::c9 (x::a) b else c9 a b
 termination_by a b=>a.length+b.length
variable {c}
theorem kS(b:List F):c9 c [] b=b.map fun f=>(jp,f):=by unfold c9;rfl
theorem qC(a:List F):c9 c a []=a.map fun f=>(kw,f):=by
 cases a with
 |nil=>unfold c9;rfl
 |cons=>unfold c9;rfl
theorem qD(x y:F)(a b:List F):c9 c (x::a) (y::b)=if c x y<0 then(kw,x)::c9 c a (y::b) else if 0<c x y then(jp,y)::c9 c (x::a) b else c9 c a b:=by
 rw[c9]
structure eF (c:F->F->Int) (ok:F->Bool) (S:List F):Prop where
 yQ:pj c S
 ok: ∀f∈S,ok f=jp
 Oe:S.length<=65536
theorem eF.nil(c:F->F->Int)(ok:F->Bool):eF c ok []:=⟨R7,fun _ m=>(nomatch m),PA _⟩
variable [DecidableEq F]
def jS(c:F->F->Int)(ok:F->Bool)(S:List F)(l:List (bP F)):Int:=
 if 4096<l.length then 2 else if(l.all fun x=>ok x.2)=kw then 5 else if 65536<(hQ c S l).length then 3 else 0
abbrev Ol(F:Type):=List F×Nat
def jk(c:F->F->Int)(ok:F->Bool)(s:Ol F)(l:List (bP F)):Ol F:=if jS c ok s.1 l=0 then(hQ c s.1 l,s.2+1) else s
theorem mL{ok:F->Bool}{S:List F}{l:List (bP F)}:jS c ok S l=0↔l.length<=4096∧(∀x∈l,ok x.2=jp)∧(hQ c S l).length<=65536:=by
 unfold jS;split
 .exact⟨fun e=>by simp at e,fun e=>by omega⟩
 .split
  .rename_i q r;refine⟨fun e=>by simp at e,fun e=>?_⟩;rw[P4.2 e.2.1]at r;cases r
  .split
   .exact⟨fun e=>by simp at e,fun e=>by omega⟩
   .rename_i q r t;refine⟨fun _=>⟨by omega,?_,by omega⟩,fun _=>rfl⟩;rw[SP]at r;exact P4.1 r
theorem eF.next(h:TO c){ok:F->Bool}{S:List F}{l:List (bP F)}(hS:eF c ok S)(e:jS c ok S l=0):eF c ok (hQ c S l):=by
 rw[mL]at e;refine⟨oD h S l,fun f m=>?_,e.2.2⟩;rcases(oS h).1 m with q|⟨_,q⟩
 .exact e.2.1 _ (fS q)
 .exact hS.ok f q
theorem eF.done(h:TO c){ok:F->Bool}{s:Ol F}(hS:eF c ok s.1)(l:List (bP F)):eF c ok (jk c ok s l).1:=by
 unfold jk;split
 .rename_i e;exact hS.next h e
 .exact hS
theorem Eh(h:TO c){ok:F->Bool}{S:List F}{x:F}(hS:eF c ok (x::S)):jS c ok S [(jp,x)]=0:=by
 rw[mL,uU h hS.yQ];refine⟨by simp,fun y m=>?_,hS.Oe⟩;rw[Pw.1 m];exact hS.ok x (Pv ..)
end
section
variable {F:Type} [DecidableEq F]
def ju:List (bP F)->bP F->List (bP F)
 | [],c=> [c]
 |x::r,c=>if x.2=c.2 then c::r else x::ju r c
def lH(l:List (bP F)):List (bP F):=l.foldl ju []
theorem xY{a:Bool}{f:F}: ∀{T:List (bP F)} {c:bP F},(T.map (·.2)).Nodup->((a,f)∈ju T c↔(a,f)=c∨(f≠c.2∧(a,f)∈T))
 | [],c,_=>by simp[ju]
 |x::r,c,hn=>by
  rw[Py,P0]at hn;unfold ju;split
  .rename_i e;rw[Px,Px];constructor
   .rintro(q|q)
    .exact .inl q
    .refine .inr ⟨fun b=>hn.1 (PW.2 ⟨_,q,?_⟩),.inr q⟩;show f=x.2;rw[b,e]
   .rintro(q|⟨q,r1|r1⟩)
    .exact .inl q
    .exact absurd (by rw[<-e,<-r1]) q
    .exact .inr r1
  .rename_i e;rw[Px,Px,xY hn.2];constructor
   .rintro(q|q|⟨q,r1⟩)
    .exact .inr ⟨fun b=>e (by rw[<-q];exact b),.inl q⟩
    .exact .inl q
    .exact .inr ⟨q,.inr r1⟩
   .rintro(q|⟨q,r1|r1⟩)
    .exact .inr (.inl q)
    .exact .inl r1
    .exact .inr (.inr ⟨q,r1⟩)
theorem tg{f:F}: ∀{T:List (bP F)} {c:bP F},f∈(ju T c).map (·.2)↔f=c.2∨f∈T.map (·.2)
 | [],c=>by simp[ju]
 |x::r,c=>by
  unfold ju;split
  .rename_i e;simp only[Py,Px];rw[e];constructor
   .rintro(q|q)
    .exact .inl q
    .exact .inr (.inr q)
   .rintro(q|q|q)
    .exact .inl q
    .exact .inl q
    .exact .inr q
  .simp only[Py,Px,tg (T:=r)];constructor
   .rintro(q|q|q)
    .exact .inr (.inl q)
    .exact .inl q
    .exact .inr (.inr q)
   .rintro(q|q|q)
    .exact .inr (.inl q)
    .exact .inl q
    .exact .inr (.inr q)
theorem sE: ∀{T:List (bP F)} {c:bP F},(T.map (·.2)).Nodup->((ju T c).map (·.2)).Nodup
 | [],c,_=>by simp[ju]
 |x::r,c,hn=>by
  rw[Py,P0]at hn;unfold ju;split
  .rename_i e;rw[Py,P0,<-e];exact hn
  .rename_i e;rw[Py,P0,tg];exact⟨fun q=>q.elim e hn.1,sE hn.2⟩
theorem zl(l:List (bP F))(c:bP F)(f:F):df (l++ [c]) f=if c.2=f then io c.1 else df l f:=by
 unfold df;rw[List.reverse_append,List.reverse_singleton,SA,List.find?_cons];by_cases e:c.2=f
 .rw[am e,decide_eq_true e];rfl
 .rw[be e,decide_eq_false e]
theorem n3(l:List (bP F)):((lH l).map (·.2)).Nodup∧ ∀(a:Bool) (f:F),(a,f)∈lH l↔df l f=io a:=by
 suffices key: ∀(m k:List (bP F)) (T:List (bP F)),(T.map (·.2)).Nodup->(∀(a:Bool) (f:F),(a,f)∈T↔df k f=io a)->
   ((m.foldl ju T).map (·.2)).Nodup∧ ∀(a:Bool) (f:F),(a,f)∈m.foldl ju T↔df (k++m) f=io a by
  have:=key l [] [] P6 fun a f=>by simp[df]
  exact this
 intro m
 induction m with
 |nil=>intro k T h1 b;rw[Qm];exact⟨h1,b⟩
 |cons c m ih=>
  intro k T h1 b;have:=ih (k++ [c]) (ju T c) (sE h1) fun a f=>by
   rw[xY h1,zl,b];by_cases e:c.2=f
   .rw[am e];constructor
    .rintro(q|⟨q,_⟩)
     .rw[<-q]
     .exact absurd e.symm q
    .intro q;left;have:=P7 q;rw[<-this,<-e]
   .rw[be e];constructor
    .rintro(q|⟨_,q⟩)
     .exact absurd (by rw[<-q]) e
     .exact q
    .intro q;exact .inr ⟨fun g=>e g.symm,q⟩
  rw[PH,SA]at this;exact this
theorem kZ{c:F->F->Int}(h:TO c)(S:List F)(l:List (bP F)):((lH l).filter fun x=>!(lc (x.2∈S)==x.1)).Perm (c4 c S l):=by
 obtain⟨h1,j⟩:=n3 l;have b: ∀{t:List (bP F)},(t.map (·.2)).Nodup->t.Nodup:=fun{t} q=>by
  have:=RT.1 q;exact this.imp fun a e=>a (by rw[e])
 refine(QX (RD _ (b h1)) (b ((qj.facts (j9 h S l)).nodup h))).2 fun x=>?_;obtain⟨a,f⟩:=x;rw[PU,j,gj h];simp
theorem B8{kc:Go.Al.KC}{key:F->kc.K}(T:List (bP F))(c:bP F)(b: ∀x∈T,key x.2=key c.2->x.2=c.2):
  Go.Al.cA kc (T.map fun x=>(key x.2,x)) (key c.2) c=(ju T c).map fun x=>(key x.2,x):=by
 induction T with
 |nil=>rfl
 |cons x r ih=>
  simp only[Py,Go.Al.cA,ju];by_cases e:key x.2=key c.2
  .rw[am e,am (b x (Pv ..) e),Py]
  .rw[be e,be (fun q=>e (by rw[q])),Py,ih fun u hu=>b u (Pu _ hu)]
end
end
end Go.Bo
namespace Go.Proofs.YtllkaddcplhklaaGreatDoor
open Go Go.Al Go.Proofs.Tryz Go.Bo
theorem vp: ∀a b:List UInt8,Lib.compareBytes a b=cmpL jZ (a.map fun x=>(x.toNat:Int)) (b.map fun x=>(x.toNat:Int))
 | [],[]=>rfl
 | [],_::_=>rfl
 |_::_,[]=>rfl
 |x::a,y::b=>by
  simp only[Lib.compareBytes,Py,cmpL,vp a b];have h1:(x<y)↔((x.toNat:Int)<(y.toNat:Int)):=by rw[UInt8.lt_iff_toNat_lt];omega
  have j:(y<x)↔((y.toNat:Int)<(x.toNat:Int)):=by rw[UInt8.lt_iff_toNat_lt];omega
  simp only[rn,jZ,h1,j];split
  .simp
  .split
   .simp
   .simp
theorem ug(a b:an)(w:World):(callFunc 114 #[.string a,.string b]).run prog w= .ok (.value (.int .i64 (nV a b))) w:=by
 rw[run_callFunc_extern func114 (by kernel_rfl) (by kernel_rfl) (by kernel_rfl) (e:=Extern.BytealgCompare.compare) (by kernel_rfl),Lib.run_compareString,vp];rfl
theorem DI(a b:an):Pure prog 79 [pS a,pS b] (pI (nV a b)):=by
 refine ai ab func79 Z (by decide) ntmps79 Z (by simp) Z ?_;refine gA Z (H7 (.int .i64 (nV a b)) Z Z Z Z (ug a b) Z ?_);refine gA Z (aQ (by first|exact .inr Z|exact .inl Z) Z (.of_eq ?_));rfl
theorem Ay(a b:an):Pure prog 60 [pS a,pS b] (pI (nV a b)):=by
 refine ai ab func60 Z (by decide) ntmps60 Z (by simp) Z ?_;refine gA Z (aE (DI a b) Z Z Z Z Z Z ?_);refine gA Z (aQ (by first|exact .inr Z|exact .inl Z) Z (.of_eq ?_));rfl
theorem Nh(n:Int):Pure prog 151 [pI n] (pB kw):=by
 refine ai ab func151 Z (by decide) ntmps151 Z (by simp) Z ?_;refine gA Z (aQ (by first|exact .inr Z|exact .inl Z) Z (.of_eq ?_));show pB (!lc (n=n))=pB kw;simp
theorem JU(a b:Int):Pure prog 115 [pI a,pI b] (pI (jZ a b)):=by
 refine ai ab func115 Z (by decide) ntmps115 Z (by simp) Z ?_;refine gA Z (aE (Nh a) Z Z Z Z Z Z ?_);refine gA Z (aE (Nh b) Z Z Z Z Z Z ?_);refine gA Z ?_;refine Pm (fun x=>?_) (fun x=>?_)
 .exact absurd x (by decide)
 refine gA Z ?_;refine Pm (fun y=>?_) (fun y=>?_)
 .exact absurd y (by decide)
 refine gA Z ?_;refine Pm (fun j=>?_) (fun j=>?_)
 .have j:a<b:=by simpa using j
  refine gA Z (aQ (by first|exact .inr Z|exact .inl Z) Z (.of_eq ?_));rw[jZ,am j];rfl
 have j: ¬a<b:=by simpa using j
 refine gA Z ?_;refine Pm (fun u=>?_) (fun u=>?_)
 .have u:b<a:=by simpa using u
  refine gA Z (aQ (by first|exact .inr Z|exact .inl Z) Z (.of_eq ?_));rw[jZ,be j,am u];rfl
 .have u: ¬b<a:=by simpa using u
  refine gA Z (aQ (by first|exact .inr Z|exact .inl Z) Z (.of_eq ?_));rw[jZ,be j,be u];rfl
def CX:List Int->Int
 | []=>0
 |x::r=>rn x (CX r)
theorem xR{l:List Int}{i:Nat}(h: ∀x∈l.take i,x=0):CX l=CX (l.drop i):=by
 induction i generalizing l with
 |zero=>rfl
 |succ i ih=>
  cases l with
  |nil=>rfl
  |cons x r=>
   have b:x=0:=h x (by simp);rw[CX,b,rn,am Z,List.drop_succ_cons];exact ih fun y j=>h y (by simp[j])
theorem sOr(l:List Int)(hl:l.length<=100):bD prog 59 [.sl 0 0 l.length 1] [aF 1 l jV] (pI (CX l)) [] 1:=by
 refine au ab func59 Z (by decide) ntmps59 Z (by simp) ?_;refine rD 0 (fun k=>jV (l.getD k co)) Z (fD Z) (show AF.qy 0 1 (l.map fun x=>(jV x).map PV.iv).length [(0,.sl 0 0 l.length 1)] from⟨by simp[PV.c6],ac⟩) ⟨AM _ _ _ _ _ _,ac⟩ ?_;refine gA Z ?_;refine aJ 0 l.length (PA _) (fun i=>⟨[(3,pI 0),(6,.iv (bN 1 l jV)),(7,pI l.length),(8,pI i)],[],1⟩) (fun i=> ∀x∈l.take i,x=0) [] (by simp)
  (wk Z Z Z (bi ⟨.ct Z (fun k _=>by rw[PO]),rfl,bi (bi trivial)⟩) trivial Z) fun i y j=>?_
 refine gA Z ?_;refine Pm (fun h1=>?_) (fun h1=>?_)
 .have h1:i<l.length:=by simpa using h1
  have hd:l.drop i=l.getD i co::l.drop (i+1):=by
   rw[Pk,Pl h1,Qf,Rf h1]
  refine gA Z ?_;refine Pm (fun b=>?_) (fun b=>?_)
  .have b: ¬l.getD i co=0:=by simpa using b
   have:CX l=l.getD i co:=by rw[xR j,hd,CX,rn,be b]
   rw[this];refine gA Z (aY [] (by first|exact .inr Z|exact .inl Z) Z (wk Z Z Z (bi ac) ac Z))
  .have b:l.getD i co=0:=by simpa using b
   refine gA Z ?_;refine⟨h1,fun x u=>?_,[],wk Z Z Z (bi (bi (bi (bi ac)))) ac Z⟩;rw[cm h1,PG,Pw]at u;exact u.elim (j x) fun e=>e.trans b
 .have h1:l.length<=i:=by simpa using h1
  have:CX l=0:=by rw[xR j,RL h1];rfl
  rw[this];refine gA Z (aY [] (by first|exact .inr Z|exact .inl Z) Z (wk Z Z Z (bi ac) ac Z))
theorem Np(a b:dG):Pure prog 81 [ag a.c,ag b.c] (pI (wJ a b)):=by
 have e:wJ a b=CX [jZ a.kind b.kind,jZ a.num b.num,nV a.sym b.sym]:=by
  simp only[wJ,CX];have:rn (nV a.sym b.sym) 0=nV a.sym b.sym:=by unfold rn;split<;>simp_all
  rw[this]
 rw[e];refine ai ab func81 Z (by decide) ntmps81 Z (by simp) Z ?_;refine gA Z (bh ab [] (Pure.rK (JU a.kind b.kind)) Z Z Z Z Z Z Z Z Z Z Z Z (by(repeat' (first|exact ac|exact rfl|exact ah.refl _|exact ah.bk (by assumption)|apply Pm))<;>first|omega|(simp only[Po];omega)|(simp;done)|(simp;omega)) Z (by(repeat' (first|exact ac|exact rfl|exact ah.refl _|exact ah.bk (by assumption)|apply Pm))<;>first|omega|(simp only[Po];omega)|(simp;done)|(simp;omega)) ?_);refine gA Z (bh ab [] (Pure.rK (JU a.num b.num)) Z Z Z Z Z Z Z Z Z Z Z Z (by(repeat' (first|exact ac|exact rfl|exact ah.refl _|exact ah.bk (by assumption)|apply Pm))<;>first|omega|(simp only[Po];omega)|(simp;done)|(simp;omega)) Z (by(repeat' (first|exact ac|exact rfl|exact ah.refl _|exact ah.bk (by assumption)|apply Pm))<;>first|omega|(simp only[Po];omega)|(simp;done)|(simp;omega)) ?_);refine gA Z (bh ab [] (Pure.rK (Ay a.sym b.sym)) Z Z Z Z Z Z Z Z Z Z Z Z (by(repeat' (first|exact ac|exact rfl|exact ah.refl _|exact ah.bk (by assumption)|apply Pm))<;>first|omega|(simp only[Po];omega)|(simp;done)|(simp;omega)) Z (by(repeat' (first|exact ac|exact rfl|exact ah.refl _|exact ah.bk (by assumption)|apply Pm))<;>first|omega|(simp only[Po];omega)|(simp;done)|(simp;omega)) ?_);refine gA Z (bh ab [2] (sOr [jZ a.kind b.kind,jZ a.num b.num,nV a.sym b.sym] (by simp)) Z Z Z Z Z Z Z Z Z Z Z Z (by(repeat' (first|exact ac|exact rfl|exact ah.refl _|exact ah.bk (by assumption)|apply Pm))<;>first|omega|(simp only[Po];omega)|(simp;done)|(simp;omega)) Z (by(repeat' (first|exact ac|exact rfl|exact ah.refl _|exact ah.bk (by assumption)|apply Pm))<;>first|omega|(simp only[Po];omega)|(simp;done)|(simp;omega)) ?_);refine gA Z (aQ (by first|exact .inr Z|exact .inl Z) Z (.of_eq ?_));rfl
theorem Lj(a b:List dG)(ha:a.length<=1000000000)(hb:b.length<=1000000000):Pure prog 80 [.iv (bN 3 a dG.c),.iv (bN 3 b dG.c),.b5 (.func 81) [] []] (pI (rh a b)):=by
 refine ai ab func80 Z (by decide) ntmps80 Z (by simp) Z ?_;refine gA Z ?_;refine aJ 0 a.length (PA _) (fun i=>⟨[(0,.iv (bN 3 a dG.c)),(1,.iv (bN 3 b dG.c)),(2,.b5 (.func 81) [] []),(11,.iv (bN 3 a dG.c)),(12,pI a.length),(13,pI i)],[],0⟩) (fun i=>i<=b.length∧rh a b=rh (a.drop i) (b.drop i)) [] ⟨PA _,rfl⟩
  (wk Z Z Z (bi (bi (bi (bi (bi (bi trivial)))))) trivial Z) fun i C x=>?_
 obtain⟨B,x⟩:=x;refine gA Z ?_;refine Pm (fun h1=>?_) (fun h1=>?_)
 .have h1:i<a.length:=by simpa using h1
  have hd:a.drop i=a.getD i co::a.drop (i+1):=by
   rw[Pk,Pl h1,Qf,Rf h1]
  refine gA Z ?_;refine Pm (fun j=>?_) (fun j=>?_)
  .have j:b.length<=i:=by simpa using j
   rw[x,hd,RL j];refine gA Z (aQ (by first|exact .inr Z|exact .inl Z) Z (.of_eq ?_));rfl
  .have j:i<b.length:=by simpa using j
   have A:b.drop i=b.getD i co::b.drop (i+1):=by
    rw[Pk,Pl j,Qf,Rf j]
   have hs:rh a b=rn (wJ (a.getD i co) (b.getD i co)) (rh (a.drop (i+1)) (b.drop (i+1))):=by rw[x,hd,A];rfl
   refine gA Z (aE (Np (a.getD i co) (b.getD i co)) Z Z Z Z Z Z ?_);refine gA Z ?_;refine Pm (fun u=>?_) (fun u=>?_)
   .have u: ¬wJ (a.getD i co) (b.getD i co)=0:=by simpa using u
    rw[hs,rn,be u];refine gA Z (aQ (by first|exact .inr Z|exact .inl Z) Z (.of_eq ?_));rfl
   .have u:wJ (a.getD i co) (b.getD i co)=0:=by simpa using u
    refine gA Z ⟨h1,⟨j,by rw[hs,u,rn,am Z]⟩,[],wk Z Z Z (bi (bi (bi (bi (bi (bi ac)))))) ac Z⟩
 .have h1:a.length<=i:=by simpa using h1
  have y:i=a.length:=by omega
  subst y;rw[x,RL (Ps a.length)];refine gA Z ?_;refine Pm (fun j=>?_) (fun j=>?_)
  .have j:a.length<b.length:=by simpa using j
   rw[Rf j];refine gA Z (aQ (by first|exact .inr Z|exact .inl Z) Z (.of_eq ?_));rfl
  .have j:b.length<=a.length:=by simpa using j
   rw[RL j];refine gA Z (aQ (by first|exact .inr Z|exact .inl Z) Z (.of_eq ?_));rfl
theorem Nq(a b:List dG)(ha:a.length<=1000000000)(hb:b.length<=1000000000):Pure prog 61 [.iv (bN 3 a dG.c),.iv (bN 3 b dG.c)] (pI (rh a b)):=by
 refine ai ab func61 Z (by decide) ntmps61 Z (by simp) Z ?_;refine gA Z (aE (Lj a b ha hb) Z Z Z Z Z Z ?_);refine gA Z (aQ (by first|exact .inr Z|exact .inl Z) Z (.of_eq ?_));rfl
theorem oH(a b:Fact)(ha:a.args.length<=1000000000)(hb:b.args.length<=1000000000):Pure prog 34 [ag a.c,ag b.c] (pI (bb a b)):=by
 have e:bb a b=CX [nV a.rel b.rel,rh a.args b.args]:=by
  simp only[bb,CX];have:rn (rh a.args b.args) 0=rh a.args b.args:=by unfold rn;split<;>simp_all
  rw[this]
 rw[e];refine ai ab func34 Z (by decide) ntmps34 Z (by simp) Z ?_;refine gA Z (bh ab [] (Pure.rK (Ay a.rel b.rel)) Z Z Z Z Z Z Z Z Z Z Z Z (by(repeat' (first|exact ac|exact rfl|exact ah.refl _|exact ah.bk (by assumption)|apply Pm))<;>first|omega|(simp only[Po];omega)|(simp;done)|(simp;omega)) Z (by(repeat' (first|exact ac|exact rfl|exact ah.refl _|exact ah.bk (by assumption)|apply Pm))<;>first|omega|(simp only[Po];omega)|(simp;done)|(simp;omega)) ?_);refine gA Z (bh ab [] (Pure.rK (Nq a.args b.args ha hb)) Z Z Z Z Z Z Z Z Z Z Z Z (by(repeat' (first|exact ac|exact rfl|exact ah.refl _|exact ah.bk (by assumption)|apply Pm))<;>first|omega|(simp only[Po];omega)|(simp;done)|(simp;omega)) Z (by(repeat' (first|exact ac|exact rfl|exact ah.refl _|exact ah.bk (by assumption)|apply Pm))<;>first|omega|(simp only[Po];omega)|(simp;done)|(simp;omega)) ?_);refine gA Z (bh ab [2] (sOr [nV a.rel b.rel,rh a.args b.args] (by simp)) Z Z Z Z Z Z Z Z Z Z Z Z (by(repeat' (first|exact ac|exact rfl|exact ah.refl _|exact ah.bk (by assumption)|apply Pm))<;>first|omega|(simp only[Po];omega)|(simp;done)|(simp;omega)) Z (by(repeat' (first|exact ac|exact rfl|exact ah.refl _|exact ah.bk (by assumption)|apply Pm))<;>first|omega|(simp only[Po];omega)|(simp;done)|(simp;omega)) ?_);refine gA Z (aQ (by first|exact .inr Z|exact .inl Z) Z (.of_eq ?_));rfl
def en(x:bP Fact):List IV:= .v (.bool x.1)::x.2.c
theorem Hk(a b:bP Fact)(ha:a.2.args.length<=1000000000)(hb:b.2.args.length<=1000000000):Pure prog 51 [ag (en a),ag (en b)] (pI (bb a.2 b.2)):=by
 refine ai ab func51 Z (by decide) ntmps51 Z (by simp) Z ?_;refine gA Z (aE (oH a.2 b.2 ha hb) Z Z Z Z Z Z ?_);refine gA Z (aQ (by first|exact .inr Z|exact .inl Z) Z (.of_eq ?_));rfl
section
theorem bt{a b:Int}(h:a=b):ah (pI a) (pI b):=h▸ .refl _
theorem eM{α:Type}[Inhabited α](l:List α)(f:α->List IV):((PT l.length).map fun k=>(f (l.getD k co)).map PV.iv)=l.map fun x=>(f x).map PV.iv:=by
 refine List.ext_getElem (by simp) fun i h1 b=>?_;simp only[PS]at b;simp[Pl b]
def Up(L:List Fact):Prop:= ∀i j,i<j->j<L.length-> ¬bb (L.getD j co) (L.getD i co)<0
theorem Mm{L:List Fact}(h:pj bb L):Up L:=fun i j b u=>by
 have:=(Qu.1 h) i j (by omega) u b;rw[Pk,Pk,Pl u,Pl (by omega:i<L.length)];exact mS.asym this
def tQ(L:List Fact):Prop:= ∀f∈L,f.args.length<=1000000000
theorem ve{L:List Fact}{i:Nat}(hi:i<L.length):L.getD i co∈L:=by
 rw[Pk,Pl hi];exact P3 hi
theorem tQ.at{L:List Fact}(h:tQ L){i:Nat}(hi:i<L.length):(L.getD i co).args.length<=1000000000:=h _ (ve hi)
abbrev aA:PV:= .b5 (.func 34) [] []
abbrev ba(L:List Fact):PV:= .iv (bN 2 L Fact.c)
theorem oX(i j:Nat)(h:i+j<=4000000000000):IntKind.i64.wrap (Int.fdiv (IntKind.u64.wrap ((i:Int)+(j:Int))) (2 ^ min (Int.toNat 1) IntKind.u64.bits))=(((i+j)/2:Nat):Int):=by
 have h1:IntKind.u64.wrap ((i:Int)+(j:Int))=((i+j:Nat):Int):=by simp[IntKind.wrap,IntKind.bits,IntKind.signed];omega
 rw[h1];have b:Int.fdiv (((i+j:Nat)):Int) (2 ^ min (Int.toNat 1) IntKind.u64.bits)=(((i+j)/2:Nat):Int):=by
  show Int.fdiv _ 2=_;rw[Int.fdiv_eq_ediv_of_nonneg _ (by decide)];omega
 rw[b];simp[IntKind.wrap,IntKind.bits,IntKind.signed];omega
section
variable {L:List Fact} (hu:Up L) (hF:tQ L) (hl:L.length<=1000000000000)
include hu hF hl
theorem Nk(a b:Nat)(j:a<=b)(hb:b<=L.length):Pure prog 105 [ba L,pI a,pI b,aA] (.bq []):=by
 refine ai ab func105 Z (by decide) ntmps105 Z (by simp) Z ?_;refine gA Z ?_;refine aJ (a+1) (max (a+1) b) (Nat.le_max_left _ _) (fun i=>⟨[(0,ba L),(1,pI a),(2,pI b),(3,aA),(8,pI i)],[],0⟩) (fun i=>a+1<=i) [] (Ps _)
  (wk Z Z Z (bi (bi (bi (bi (bi trivial))))) trivial Z) fun i x u=>?_
 refine gA Z ?_;refine Pm (fun h1=>?_) (fun h1=>?_)
 .have h1:i<b:=by simpa using h1
  refine gA Z (ob (n:=0) ?_);have e:((i:Int)-1).toNat=i-1:=by omega
  refine gA Z ?_;refine Pm (fun g1=>?_) (fun g1=>?_)
  .refine gA Z (bh ab [] (Pure.rK (oH (L.getD i co) (L.getD ((i:Int)-1).toNat co) (hF.at (by omega)) (hF.at (by omega)))) Z Z Z Z Z Z Z Z Z Z Z Z (by(repeat' (first|exact ac|exact rfl|exact ah.refl _|exact ah.bk (by assumption)|apply Pm))<;>first|omega|(simp only[Po];omega)|(simp;done)|(simp;omega)) Z (by(repeat' (first|exact ac|exact rfl|exact ah.refl _|exact ah.bk (by assumption)|apply Pm))<;>first|omega|(simp only[Po];omega)|(simp;done)|(simp;omega)) ?_);refine gA Z ?_;refine Pm (fun g2=>?_) (fun g2=>?_)
   .exact absurd (of_decide_eq_true g2) (by rw[e];exact hu (i-1) i (by omega) (by omega))
   .refine gA Z ?_;exact⟨by omega,by omega,[],wk Z Z Z (bi (bi (bi (bi (bi ac))))) ac Z⟩
  .exact absurd g1 (by simp;omega)
 .refine gA Z (aQ (by first|exact .inr Z|exact .inl Z) Z (.of_eq ?_));rfl
theorem Nd: ∀(n a m b:Nat),b-a<=n->a<m->m<b->b<=L.length->Pure prog 113 [ba L,pI a,pI m,pI b,aA] (.bq []):=by
 intro n
 induction n with
 |zero=>intro a m b h0 h1 R h3;omega
 |succ n ih=>
  intro a m b h0 h1 R h3;refine ai ab func113 Z (by decide) ntmps113 Z (by simp) Z ?_;refine gA Z ?_;refine Pm (fun I=>?_) (fun I=>?_)
  .have I:m=a+1:=by have:=of_decide_eq_true I;(try dsimp only at this);omega
   refine gA Z (gn (σ:={j:Nat//m<=j∧j<=b}) (fun j=>⟨[(0,ba L),(1,pI a),(2,pI m),(3,pI b),(4,aA),(10,pI m),(11,pI j.1)],[],0⟩) (fun j=>j.1-m) ⟨b,by omega,Ps _⟩ []
    (wk Z Z Z (bi (bi (bi (bi (bi (bi (bi ac))))))) ac Z) fun j=>?_)
   obtain⟨j,j1,j2⟩:=j;refine gA Z ?_;refine Pm (fun g1=>?_) (fun g1=>?_)
   .have g1:m<j:=by simpa using g1
    have x:=oX m j (by omega)
    first
     |(refine gM 1 Z ?_;refine ae (L:=[]) (t:=⟨[(0,ba L),(1,pI a),(2,pI m),(3,pI b),(4,aA),(10,pI m),(11,pI j),(12,pI ((m+j)/2:Nat))],[],0⟩) (wk Z Z Z (bi (bi (bi (bi (bi (bi (bi ⟨bt x,rfl,ac⟩))))))) ac Z) ?_)
     |(refine gM 2 Z ?_;refine ae (L:=[]) (t:=⟨[(0,ba L),(1,pI a),(2,pI m),(3,pI b),(4,aA),(10,pI m),(11,pI j),(12,pI ((m+j)/2:Nat))],[],0⟩) (wk Z Z Z (bi (bi (bi (bi (bi (bi (bi ⟨bt x,rfl,ac⟩))))))) ac Z) ?_)
     |(refine gM 3 Z ?_;refine ae (L:=[]) (t:=⟨[(0,ba L),(1,pI a),(2,pI m),(3,pI b),(4,aA),(10,pI m),(11,pI j),(12,pI ((m+j)/2:Nat))],[],0⟩) (wk Z Z Z (bi (bi (bi (bi (bi (bi (bi ⟨bt x,rfl,ac⟩))))))) ac Z) ?_)
     |(refine gM 4 Z ?_;refine ae (L:=[]) (t:=⟨[(0,ba L),(1,pI a),(2,pI m),(3,pI b),(4,aA),(10,pI m),(11,pI j),(12,pI ((m+j)/2:Nat))],[],0⟩) (wk Z Z Z (bi (bi (bi (bi (bi (bi (bi ⟨bt x,rfl,ac⟩))))))) ac Z) ?_)
     |(refine gM 5 Z ?_;refine ae (L:=[]) (t:=⟨[(0,ba L),(1,pI a),(2,pI m),(3,pI b),(4,aA),(10,pI m),(11,pI j),(12,pI ((m+j)/2:Nat))],[],0⟩) (wk Z Z Z (bi (bi (bi (bi (bi (bi (bi ⟨bt x,rfl,ac⟩))))))) ac Z) ?_)
     |(refine gM 6 Z ?_;refine ae (L:=[]) (t:=⟨[(0,ba L),(1,pI a),(2,pI m),(3,pI b),(4,aA),(10,pI m),(11,pI j),(12,pI ((m+j)/2:Nat))],[],0⟩) (wk Z Z Z (bi (bi (bi (bi (bi (bi (bi ⟨bt x,rfl,ac⟩))))))) ac Z) ?_)
     |(refine gM 7 Z ?_;refine ae (L:=[]) (t:=⟨[(0,ba L),(1,pI a),(2,pI m),(3,pI b),(4,aA),(10,pI m),(11,pI j),(12,pI ((m+j)/2:Nat))],[],0⟩) (wk Z Z Z (bi (bi (bi (bi (bi (bi (bi ⟨bt x,rfl,ac⟩))))))) ac Z) ?_)
     |(refine gM 8 Z ?_;refine ae (L:=[]) (t:=⟨[(0,ba L),(1,pI a),(2,pI m),(3,pI b),(4,aA),(10,pI m),(11,pI j),(12,pI ((m+j)/2:Nat))],[],0⟩) (wk Z Z Z (bi (bi (bi (bi (bi (bi (bi ⟨bt x,rfl,ac⟩))))))) ac Z) ?_)
     |(refine gM 9 Z ?_;refine ae (L:=[]) (t:=⟨[(0,ba L),(1,pI a),(2,pI m),(3,pI b),(4,aA),(10,pI m),(11,pI j),(12,pI ((m+j)/2:Nat))],[],0⟩) (wk Z Z Z (bi (bi (bi (bi (bi (bi (bi ⟨bt x,rfl,ac⟩))))))) ac Z) ?_)
     |(refine gM 10 Z ?_;refine ae (L:=[]) (t:=⟨[(0,ba L),(1,pI a),(2,pI m),(3,pI b),(4,aA),(10,pI m),(11,pI j),(12,pI ((m+j)/2:Nat))],[],0⟩) (wk Z Z Z (bi (bi (bi (bi (bi (bi (bi ⟨bt x,rfl,ac⟩))))))) ac Z) ?_)
     |(refine gM 11 Z ?_;refine ae (L:=[]) (t:=⟨[(0,ba L),(1,pI a),(2,pI m),(3,pI b),(4,aA),(10,pI m),(11,pI j),(12,pI ((m+j)/2:Nat))],[],0⟩) (wk Z Z Z (bi (bi (bi (bi (bi (bi (bi ⟨bt x,rfl,ac⟩))))))) ac Z) ?_)
     |(refine gM 12 Z ?_;refine ae (L:=[]) (t:=⟨[(0,ba L),(1,pI a),(2,pI m),(3,pI b),(4,aA),(10,pI m),(11,pI j),(12,pI ((m+j)/2:Nat))],[],0⟩) (wk Z Z Z (bi (bi (bi (bi (bi (bi (bi ⟨bt x,rfl,ac⟩))))))) ac Z) ?_)
     |(refine gM 13 Z ?_;refine ae (L:=[]) (t:=⟨[(0,ba L),(1,pI a),(2,pI m),(3,pI b),(4,aA),(10,pI m),(11,pI j),(12,pI ((m+j)/2:Nat))],[],0⟩) (wk Z Z Z (bi (bi (bi (bi (bi (bi (bi ⟨bt x,rfl,ac⟩))))))) ac Z) ?_)
     |(refine gM 14 Z ?_;refine ae (L:=[]) (t:=⟨[(0,ba L),(1,pI a),(2,pI m),(3,pI b),(4,aA),(10,pI m),(11,pI j),(12,pI ((m+j)/2:Nat))],[],0⟩) (wk Z Z Z (bi (bi (bi (bi (bi (bi (bi ⟨bt x,rfl,ac⟩))))))) ac Z) ?_)
     |(refine gM 15 Z ?_;refine ae (L:=[]) (t:=⟨[(0,ba L),(1,pI a),(2,pI m),(3,pI b),(4,aA),(10,pI m),(11,pI j),(12,pI ((m+j)/2:Nat))],[],0⟩) (wk Z Z Z (bi (bi (bi (bi (bi (bi (bi ⟨bt x,rfl,ac⟩))))))) ac Z) ?_)
     |(refine gM 16 Z ?_;refine ae (L:=[]) (t:=⟨[(0,ba L),(1,pI a),(2,pI m),(3,pI b),(4,aA),(10,pI m),(11,pI j),(12,pI ((m+j)/2:Nat))],[],0⟩) (wk Z Z Z (bi (bi (bi (bi (bi (bi (bi ⟨bt x,rfl,ac⟩))))))) ac Z) ?_)
     |(refine gM 17 Z ?_;refine ae (L:=[]) (t:=⟨[(0,ba L),(1,pI a),(2,pI m),(3,pI b),(4,aA),(10,pI m),(11,pI j),(12,pI ((m+j)/2:Nat))],[],0⟩) (wk Z Z Z (bi (bi (bi (bi (bi (bi (bi ⟨bt x,rfl,ac⟩))))))) ac Z) ?_)
     |(refine gM 18 Z ?_;refine ae (L:=[]) (t:=⟨[(0,ba L),(1,pI a),(2,pI m),(3,pI b),(4,aA),(10,pI m),(11,pI j),(12,pI ((m+j)/2:Nat))],[],0⟩) (wk Z Z Z (bi (bi (bi (bi (bi (bi (bi ⟨bt x,rfl,ac⟩))))))) ac Z) ?_)
     |(refine gM 19 Z ?_;refine ae (L:=[]) (t:=⟨[(0,ba L),(1,pI a),(2,pI m),(3,pI b),(4,aA),(10,pI m),(11,pI j),(12,pI ((m+j)/2:Nat))],[],0⟩) (wk Z Z Z (bi (bi (bi (bi (bi (bi (bi ⟨bt x,rfl,ac⟩))))))) ac Z) ?_)
     |(refine gM 20 Z ?_;refine ae (L:=[]) (t:=⟨[(0,ba L),(1,pI a),(2,pI m),(3,pI b),(4,aA),(10,pI m),(11,pI j),(12,pI ((m+j)/2:Nat))],[],0⟩) (wk Z Z Z (bi (bi (bi (bi (bi (bi (bi ⟨bt x,rfl,ac⟩))))))) ac Z) ?_)
     |(refine gM 21 Z ?_;refine ae (L:=[]) (t:=⟨[(0,ba L),(1,pI a),(2,pI m),(3,pI b),(4,aA),(10,pI m),(11,pI j),(12,pI ((m+j)/2:Nat))],[],0⟩) (wk Z Z Z (bi (bi (bi (bi (bi (bi (bi ⟨bt x,rfl,ac⟩))))))) ac Z) ?_)
     |(refine gM 22 Z ?_;refine ae (L:=[]) (t:=⟨[(0,ba L),(1,pI a),(2,pI m),(3,pI b),(4,aA),(10,pI m),(11,pI j),(12,pI ((m+j)/2:Nat))],[],0⟩) (wk Z Z Z (bi (bi (bi (bi (bi (bi (bi ⟨bt x,rfl,ac⟩))))))) ac Z) ?_)
     |(refine gM 23 Z ?_;refine ae (L:=[]) (t:=⟨[(0,ba L),(1,pI a),(2,pI m),(3,pI b),(4,aA),(10,pI m),(11,pI j),(12,pI ((m+j)/2:Nat))],[],0⟩) (wk Z Z Z (bi (bi (bi (bi (bi (bi (bi ⟨bt x,rfl,ac⟩))))))) ac Z) ?_)
     |(refine gM 24 Z ?_;refine ae (L:=[]) (t:=⟨[(0,ba L),(1,pI a),(2,pI m),(3,pI b),(4,aA),(10,pI m),(11,pI j),(12,pI ((m+j)/2:Nat))],[],0⟩) (wk Z Z Z (bi (bi (bi (bi (bi (bi (bi ⟨bt x,rfl,ac⟩))))))) ac Z) ?_)
     |(refine gM 25 Z ?_;refine ae (L:=[]) (t:=⟨[(0,ba L),(1,pI a),(2,pI m),(3,pI b),(4,aA),(10,pI m),(11,pI j),(12,pI ((m+j)/2:Nat))],[],0⟩) (wk Z Z Z (bi (bi (bi (bi (bi (bi (bi ⟨bt x,rfl,ac⟩))))))) ac Z) ?_)
     |(refine gM 26 Z ?_;refine ae (L:=[]) (t:=⟨[(0,ba L),(1,pI a),(2,pI m),(3,pI b),(4,aA),(10,pI m),(11,pI j),(12,pI ((m+j)/2:Nat))],[],0⟩) (wk Z Z Z (bi (bi (bi (bi (bi (bi (bi ⟨bt x,rfl,ac⟩))))))) ac Z) ?_)
     |(refine gM 27 Z ?_;refine ae (L:=[]) (t:=⟨[(0,ba L),(1,pI a),(2,pI m),(3,pI b),(4,aA),(10,pI m),(11,pI j),(12,pI ((m+j)/2:Nat))],[],0⟩) (wk Z Z Z (bi (bi (bi (bi (bi (bi (bi ⟨bt x,rfl,ac⟩))))))) ac Z) ?_)
     |(refine gM 28 Z ?_;refine ae (L:=[]) (t:=⟨[(0,ba L),(1,pI a),(2,pI m),(3,pI b),(4,aA),(10,pI m),(11,pI j),(12,pI ((m+j)/2:Nat))],[],0⟩) (wk Z Z Z (bi (bi (bi (bi (bi (bi (bi ⟨bt x,rfl,ac⟩))))))) ac Z) ?_)
     |(refine gM 29 Z ?_;refine ae (L:=[]) (t:=⟨[(0,ba L),(1,pI a),(2,pI m),(3,pI b),(4,aA),(10,pI m),(11,pI j),(12,pI ((m+j)/2:Nat))],[],0⟩) (wk Z Z Z (bi (bi (bi (bi (bi (bi (bi ⟨bt x,rfl,ac⟩))))))) ac Z) ?_)
    refine gA Z (bh ab [] (Pure.rK (oH (L.getD ((m+j)/2) co) (L.getD a co) (hF.at (by omega)) (hF.at (by omega)))) Z Z Z Z Z Z Z Z Z Z Z Z (by(repeat' (first|exact ac|exact rfl|exact ah.refl _|exact ah.bk (by assumption)|apply Pm))<;>first|omega|(simp only[Po];omega)|(simp;done)|(simp;omega)) Z (by(repeat' (first|exact ac|exact rfl|exact ah.refl _|exact ah.bk (by assumption)|apply Pm))<;>first|omega|(simp only[Po];omega)|(simp;done)|(simp;omega)) ?_);refine gA Z ?_;refine Pm (fun g2=>?_) (fun g2=>?_)
    .exact absurd (of_decide_eq_true g2) (hu a ((m+j)/2) (by omega) (by omega))
    .refine gA Z ?_;exact⟨⟨(m+j)/2,by omega,by omega⟩,[],by show(m+j)/2-m<j-m;omega,wk Z Z Z (bi (bi (bi (bi (bi (bi (bi ac))))))) ac Z⟩
   .refine gA Z (ob (n:=0) ?_);refine gA Z ?_;refine Pm (fun g3=>?_) (fun g3=>?_)
    .exact absurd g3 (by simp;omega)
    .refine gA Z (aQ (by first|exact .inr Z|exact .inl Z) Z (.of_eq ?_));rfl
  have I: ¬m=a+1:=by have:=of_decide_eq_false I;(try dsimp only at this);omega
  refine gA Z ?_;refine Pm (fun J=>?_) (fun J=>?_)
  .have J:b=m+1:=by have:=of_decide_eq_true J;(try dsimp only at this);omega
   refine gA Z (gn (σ:={i:Nat//a<=i∧i<=m}) (fun i=>⟨[(0,ba L),(1,pI a),(2,pI m),(3,pI b),(4,aA),(14,pI i.1),(15,pI m)],[],0⟩) (fun i=>m-i.1) ⟨a,Ps _,by omega⟩ []
    (wk Z Z Z (bi (bi (bi (bi (bi (bi (bi ac))))))) ac Z) fun i=>?_)
   obtain⟨i,i1,i2⟩:=i;refine gA Z ?_;refine Pm (fun g1=>?_) (fun g1=>?_)
   .have g1:i<m:=by simpa using g1
    have x:=oX i m (by omega)
    first
     |(refine gM 1 Z ?_;refine ae (L:=[]) (t:=⟨[(0,ba L),(1,pI a),(2,pI m),(3,pI b),(4,aA),(14,pI i),(15,pI m),(16,pI ((i+m)/2:Nat))],[],0⟩) (wk Z Z Z (bi (bi (bi (bi (bi (bi (bi ⟨bt x,rfl,ac⟩))))))) ac Z) ?_)
     |(refine gM 2 Z ?_;refine ae (L:=[]) (t:=⟨[(0,ba L),(1,pI a),(2,pI m),(3,pI b),(4,aA),(14,pI i),(15,pI m),(16,pI ((i+m)/2:Nat))],[],0⟩) (wk Z Z Z (bi (bi (bi (bi (bi (bi (bi ⟨bt x,rfl,ac⟩))))))) ac Z) ?_)
     |(refine gM 3 Z ?_;refine ae (L:=[]) (t:=⟨[(0,ba L),(1,pI a),(2,pI m),(3,pI b),(4,aA),(14,pI i),(15,pI m),(16,pI ((i+m)/2:Nat))],[],0⟩) (wk Z Z Z (bi (bi (bi (bi (bi (bi (bi ⟨bt x,rfl,ac⟩))))))) ac Z) ?_)
     |(refine gM 4 Z ?_;refine ae (L:=[]) (t:=⟨[(0,ba L),(1,pI a),(2,pI m),(3,pI b),(4,aA),(14,pI i),(15,pI m),(16,pI ((i+m)/2:Nat))],[],0⟩) (wk Z Z Z (bi (bi (bi (bi (bi (bi (bi ⟨bt x,rfl,ac⟩))))))) ac Z) ?_)
     |(refine gM 5 Z ?_;refine ae (L:=[]) (t:=⟨[(0,ba L),(1,pI a),(2,pI m),(3,pI b),(4,aA),(14,pI i),(15,pI m),(16,pI ((i+m)/2:Nat))],[],0⟩) (wk Z Z Z (bi (bi (bi (bi (bi (bi (bi ⟨bt x,rfl,ac⟩))))))) ac Z) ?_)
     |(refine gM 6 Z ?_;refine ae (L:=[]) (t:=⟨[(0,ba L),(1,pI a),(2,pI m),(3,pI b),(4,aA),(14,pI i),(15,pI m),(16,pI ((i+m)/2:Nat))],[],0⟩) (wk Z Z Z (bi (bi (bi (bi (bi (bi (bi ⟨bt x,rfl,ac⟩))))))) ac Z) ?_)
     |(refine gM 7 Z ?_;refine ae (L:=[]) (t:=⟨[(0,ba L),(1,pI a),(2,pI m),(3,pI b),(4,aA),(14,pI i),(15,pI m),(16,pI ((i+m)/2:Nat))],[],0⟩) (wk Z Z Z (bi (bi (bi (bi (bi (bi (bi ⟨bt x,rfl,ac⟩))))))) ac Z) ?_)
     |(refine gM 8 Z ?_;refine ae (L:=[]) (t:=⟨[(0,ba L),(1,pI a),(2,pI m),(3,pI b),(4,aA),(14,pI i),(15,pI m),(16,pI ((i+m)/2:Nat))],[],0⟩) (wk Z Z Z (bi (bi (bi (bi (bi (bi (bi ⟨bt x,rfl,ac⟩))))))) ac Z) ?_)
     |(refine gM 9 Z ?_;refine ae (L:=[]) (t:=⟨[(0,ba L),(1,pI a),(2,pI m),(3,pI b),(4,aA),(14,pI i),(15,pI m),(16,pI ((i+m)/2:Nat))],[],0⟩) (wk Z Z Z (bi (bi (bi (bi (bi (bi (bi ⟨bt x,rfl,ac⟩))))))) ac Z) ?_)
     |(refine gM 10 Z ?_;refine ae (L:=[]) (t:=⟨[(0,ba L),(1,pI a),(2,pI m),(3,pI b),(4,aA),(14,pI i),(15,pI m),(16,pI ((i+m)/2:Nat))],[],0⟩) (wk Z Z Z (bi (bi (bi (bi (bi (bi (bi ⟨bt x,rfl,ac⟩))))))) ac Z) ?_)
     |(refine gM 11 Z ?_;refine ae (L:=[]) (t:=⟨[(0,ba L),(1,pI a),(2,pI m),(3,pI b),(4,aA),(14,pI i),(15,pI m),(16,pI ((i+m)/2:Nat))],[],0⟩) (wk Z Z Z (bi (bi (bi (bi (bi (bi (bi ⟨bt x,rfl,ac⟩))))))) ac Z) ?_)
     |(refine gM 12 Z ?_;refine ae (L:=[]) (t:=⟨[(0,ba L),(1,pI a),(2,pI m),(3,pI b),(4,aA),(14,pI i),(15,pI m),(16,pI ((i+m)/2:Nat))],[],0⟩) (wk Z Z Z (bi (bi (bi (bi (bi (bi (bi ⟨bt x,rfl,ac⟩))))))) ac Z) ?_)
     |(refine gM 13 Z ?_;refine ae (L:=[]) (t:=⟨[(0,ba L),(1,pI a),(2,pI m),(3,pI b),(4,aA),(14,pI i),(15,pI m),(16,pI ((i+m)/2:Nat))],[],0⟩) (wk Z Z Z (bi (bi (bi (bi (bi (bi (bi ⟨bt x,rfl,ac⟩))))))) ac Z) ?_)
     |(refine gM 14 Z ?_;refine ae (L:=[]) (t:=⟨[(0,ba L),(1,pI a),(2,pI m),(3,pI b),(4,aA),(14,pI i),(15,pI m),(16,pI ((i+m)/2:Nat))],[],0⟩) (wk Z Z Z (bi (bi (bi (bi (bi (bi (bi ⟨bt x,rfl,ac⟩))))))) ac Z) ?_)
     |(refine gM 15 Z ?_;refine ae (L:=[]) (t:=⟨[(0,ba L),(1,pI a),(2,pI m),(3,pI b),(4,aA),(14,pI i),(15,pI m),(16,pI ((i+m)/2:Nat))],[],0⟩) (wk Z Z Z (bi (bi (bi (bi (bi (bi (bi ⟨bt x,rfl,ac⟩))))))) ac Z) ?_)
     |(refine gM 16 Z ?_;refine ae (L:=[]) (t:=⟨[(0,ba L),(1,pI a),(2,pI m),(3,pI b),(4,aA),(14,pI i),(15,pI m),(16,pI ((i+m)/2:Nat))],[],0⟩) (wk Z Z Z (bi (bi (bi (bi (bi (bi (bi ⟨bt x,rfl,ac⟩))))))) ac Z) ?_)
     |(refine gM 17 Z ?_;refine ae (L:=[]) (t:=⟨[(0,ba L),(1,pI a),(2,pI m),(3,pI b),(4,aA),(14,pI i),(15,pI m),(16,pI ((i+m)/2:Nat))],[],0⟩) (wk Z Z Z (bi (bi (bi (bi (bi (bi (bi ⟨bt x,rfl,ac⟩))))))) ac Z) ?_)
     |(refine gM 18 Z ?_;refine ae (L:=[]) (t:=⟨[(0,ba L),(1,pI a),(2,pI m),(3,pI b),(4,aA),(14,pI i),(15,pI m),(16,pI ((i+m)/2:Nat))],[],0⟩) (wk Z Z Z (bi (bi (bi (bi (bi (bi (bi ⟨bt x,rfl,ac⟩))))))) ac Z) ?_)
     |(refine gM 19 Z ?_;refine ae (L:=[]) (t:=⟨[(0,ba L),(1,pI a),(2,pI m),(3,pI b),(4,aA),(14,pI i),(15,pI m),(16,pI ((i+m)/2:Nat))],[],0⟩) (wk Z Z Z (bi (bi (bi (bi (bi (bi (bi ⟨bt x,rfl,ac⟩))))))) ac Z) ?_)
     |(refine gM 20 Z ?_;refine ae (L:=[]) (t:=⟨[(0,ba L),(1,pI a),(2,pI m),(3,pI b),(4,aA),(14,pI i),(15,pI m),(16,pI ((i+m)/2:Nat))],[],0⟩) (wk Z Z Z (bi (bi (bi (bi (bi (bi (bi ⟨bt x,rfl,ac⟩))))))) ac Z) ?_)
     |(refine gM 21 Z ?_;refine ae (L:=[]) (t:=⟨[(0,ba L),(1,pI a),(2,pI m),(3,pI b),(4,aA),(14,pI i),(15,pI m),(16,pI ((i+m)/2:Nat))],[],0⟩) (wk Z Z Z (bi (bi (bi (bi (bi (bi (bi ⟨bt x,rfl,ac⟩))))))) ac Z) ?_)
     |(refine gM 22 Z ?_;refine ae (L:=[]) (t:=⟨[(0,ba L),(1,pI a),(2,pI m),(3,pI b),(4,aA),(14,pI i),(15,pI m),(16,pI ((i+m)/2:Nat))],[],0⟩) (wk Z Z Z (bi (bi (bi (bi (bi (bi (bi ⟨bt x,rfl,ac⟩))))))) ac Z) ?_)
     |(refine gM 23 Z ?_;refine ae (L:=[]) (t:=⟨[(0,ba L),(1,pI a),(2,pI m),(3,pI b),(4,aA),(14,pI i),(15,pI m),(16,pI ((i+m)/2:Nat))],[],0⟩) (wk Z Z Z (bi (bi (bi (bi (bi (bi (bi ⟨bt x,rfl,ac⟩))))))) ac Z) ?_)
     |(refine gM 24 Z ?_;refine ae (L:=[]) (t:=⟨[(0,ba L),(1,pI a),(2,pI m),(3,pI b),(4,aA),(14,pI i),(15,pI m),(16,pI ((i+m)/2:Nat))],[],0⟩) (wk Z Z Z (bi (bi (bi (bi (bi (bi (bi ⟨bt x,rfl,ac⟩))))))) ac Z) ?_)
     |(refine gM 25 Z ?_;refine ae (L:=[]) (t:=⟨[(0,ba L),(1,pI a),(2,pI m),(3,pI b),(4,aA),(14,pI i),(15,pI m),(16,pI ((i+m)/2:Nat))],[],0⟩) (wk Z Z Z (bi (bi (bi (bi (bi (bi (bi ⟨bt x,rfl,ac⟩))))))) ac Z) ?_)
     |(refine gM 26 Z ?_;refine ae (L:=[]) (t:=⟨[(0,ba L),(1,pI a),(2,pI m),(3,pI b),(4,aA),(14,pI i),(15,pI m),(16,pI ((i+m)/2:Nat))],[],0⟩) (wk Z Z Z (bi (bi (bi (bi (bi (bi (bi ⟨bt x,rfl,ac⟩))))))) ac Z) ?_)
     |(refine gM 27 Z ?_;refine ae (L:=[]) (t:=⟨[(0,ba L),(1,pI a),(2,pI m),(3,pI b),(4,aA),(14,pI i),(15,pI m),(16,pI ((i+m)/2:Nat))],[],0⟩) (wk Z Z Z (bi (bi (bi (bi (bi (bi (bi ⟨bt x,rfl,ac⟩))))))) ac Z) ?_)
     |(refine gM 28 Z ?_;refine ae (L:=[]) (t:=⟨[(0,ba L),(1,pI a),(2,pI m),(3,pI b),(4,aA),(14,pI i),(15,pI m),(16,pI ((i+m)/2:Nat))],[],0⟩) (wk Z Z Z (bi (bi (bi (bi (bi (bi (bi ⟨bt x,rfl,ac⟩))))))) ac Z) ?_)
     |(refine gM 29 Z ?_;refine ae (L:=[]) (t:=⟨[(0,ba L),(1,pI a),(2,pI m),(3,pI b),(4,aA),(14,pI i),(15,pI m),(16,pI ((i+m)/2:Nat))],[],0⟩) (wk Z Z Z (bi (bi (bi (bi (bi (bi (bi ⟨bt x,rfl,ac⟩))))))) ac Z) ?_)
    refine gA Z (bh ab [] (Pure.rK (oH (L.getD m co) (L.getD ((i+m)/2) co) (hF.at (by omega)) (hF.at (by omega)))) Z Z Z Z Z Z Z Z Z Z Z Z (by(repeat' (first|exact ac|exact rfl|exact ah.refl _|exact ah.bk (by assumption)|apply Pm))<;>first|omega|(simp only[Po];omega)|(simp;done)|(simp;omega)) Z (by(repeat' (first|exact ac|exact rfl|exact ah.refl _|exact ah.bk (by assumption)|apply Pm))<;>first|omega|(simp only[Po];omega)|(simp;done)|(simp;omega)) ?_);refine gA Z ?_;refine Pm (fun g2=>?_) (fun g2=>?_)
    .refine gA Z ?_;exact⟨⟨(i+m)/2+1,by omega,by omega⟩,[],by show m-((i+m)/2+1)<m-i;omega,wk Z Z Z (bi (bi (bi (bi (bi (bi (bi ac))))))) ac Z⟩
    .have g2:bb (L.getD m co) (L.getD ((i+m)/2) co)<0:=by simpa using g2
     exact absurd g2 (hu ((i+m)/2) m (by omega) (by omega))
   .have g1:m<=i:=by simpa using g1
    have:i=m:=by omega
    subst this;refine gA Z (ob (n:=0) ?_);refine gA Z ?_;refine Pm (fun g3=>?_) (fun g3=>?_)
    .exact absurd g3 (by simp)
    .refine gA Z (aQ (by first|exact .inr Z|exact .inl Z) Z (.of_eq ?_));rfl
  have J: ¬b=m+1:=by have:=of_decide_eq_false J;(try dsimp only at this);omega
  have x:=oX a b (by omega);obtain⟨u,C⟩: ∃u,u=(a+b)/2:=⟨_,rfl⟩
  rw[<-C]at x
  first
   |(refine gM 1 Z ?_;refine ae (L:=[]) (t:=⟨[(0,ba L),(1,pI a),(2,pI m),(3,pI b),(4,aA),(18,pI u)],[],0⟩) (wk Z Z Z (bi (bi (bi (bi (bi ⟨bt x,rfl,ac⟩))))) ac Z) ?_)
   |(refine gM 2 Z ?_;refine ae (L:=[]) (t:=⟨[(0,ba L),(1,pI a),(2,pI m),(3,pI b),(4,aA),(18,pI u)],[],0⟩) (wk Z Z Z (bi (bi (bi (bi (bi ⟨bt x,rfl,ac⟩))))) ac Z) ?_)
   |(refine gM 3 Z ?_;refine ae (L:=[]) (t:=⟨[(0,ba L),(1,pI a),(2,pI m),(3,pI b),(4,aA),(18,pI u)],[],0⟩) (wk Z Z Z (bi (bi (bi (bi (bi ⟨bt x,rfl,ac⟩))))) ac Z) ?_)
   |(refine gM 4 Z ?_;refine ae (L:=[]) (t:=⟨[(0,ba L),(1,pI a),(2,pI m),(3,pI b),(4,aA),(18,pI u)],[],0⟩) (wk Z Z Z (bi (bi (bi (bi (bi ⟨bt x,rfl,ac⟩))))) ac Z) ?_)
   |(refine gM 5 Z ?_;refine ae (L:=[]) (t:=⟨[(0,ba L),(1,pI a),(2,pI m),(3,pI b),(4,aA),(18,pI u)],[],0⟩) (wk Z Z Z (bi (bi (bi (bi (bi ⟨bt x,rfl,ac⟩))))) ac Z) ?_)
   |(refine gM 6 Z ?_;refine ae (L:=[]) (t:=⟨[(0,ba L),(1,pI a),(2,pI m),(3,pI b),(4,aA),(18,pI u)],[],0⟩) (wk Z Z Z (bi (bi (bi (bi (bi ⟨bt x,rfl,ac⟩))))) ac Z) ?_)
   |(refine gM 7 Z ?_;refine ae (L:=[]) (t:=⟨[(0,ba L),(1,pI a),(2,pI m),(3,pI b),(4,aA),(18,pI u)],[],0⟩) (wk Z Z Z (bi (bi (bi (bi (bi ⟨bt x,rfl,ac⟩))))) ac Z) ?_)
   |(refine gM 8 Z ?_;refine ae (L:=[]) (t:=⟨[(0,ba L),(1,pI a),(2,pI m),(3,pI b),(4,aA),(18,pI u)],[],0⟩) (wk Z Z Z (bi (bi (bi (bi (bi ⟨bt x,rfl,ac⟩))))) ac Z) ?_)
   |(refine gM 9 Z ?_;refine ae (L:=[]) (t:=⟨[(0,ba L),(1,pI a),(2,pI m),(3,pI b),(4,aA),(18,pI u)],[],0⟩) (wk Z Z Z (bi (bi (bi (bi (bi ⟨bt x,rfl,ac⟩))))) ac Z) ?_)
   |(refine gM 10 Z ?_;refine ae (L:=[]) (t:=⟨[(0,ba L),(1,pI a),(2,pI m),(3,pI b),(4,aA),(18,pI u)],[],0⟩) (wk Z Z Z (bi (bi (bi (bi (bi ⟨bt x,rfl,ac⟩))))) ac Z) ?_)
   |(refine gM 11 Z ?_;refine ae (L:=[]) (t:=⟨[(0,ba L),(1,pI a),(2,pI m),(3,pI b),(4,aA),(18,pI u)],[],0⟩) (wk Z Z Z (bi (bi (bi (bi (bi ⟨bt x,rfl,ac⟩))))) ac Z) ?_)
  refine gA Z ?_;refine Pm (fun A=>?_) (fun A=>?_)
  .have A:u<m:=by simpa using A
   refine gA Z (gn (σ:={st:Nat//u+m-b<=st∧st<=u}) (fun st=>⟨[(0,ba L),(1,pI a),(2,pI m),(3,pI b),(4,aA),(18,pI u),(19,pI (u+m:Nat)),(20,pI st.1),(21,pI u),(22,pI (u+m-1:Nat))],[],0⟩) (fun st=>u-st.1) ⟨u+m-b,Ps _,by omega⟩ []
    (wk Z Z Z (bi (bi (bi (bi (bi (bi (bi ⟨bt (by(try dsimp only);omega),rfl,bi ⟨bt (by(try dsimp only);omega),rfl,ac⟩⟩))))))) ac Z) fun st=>?_)
   obtain⟨st,s1,s2⟩:=st;refine gA Z ?_;refine Pm (fun g1=>?_) (fun g1=>?_)
   .have g1:st<u:=by simpa using g1
    have x:=oX st u (by omega);obtain⟨c,Y⟩: ∃c,c=(st+u)/2:=⟨_,rfl⟩
    rw[<-Y]at x
    first
     |(refine gM 1 Z ?_;refine ae (L:=[]) (t:=⟨[(0,ba L),(1,pI a),(2,pI m),(3,pI b),(4,aA),(18,pI u),(19,pI (u+m:Nat)),(20,pI st),(21,pI u),(22,pI (u+m-1:Nat)),(23,pI c)],[],0⟩) (wk Z Z Z (bi (bi (bi (bi (bi (bi (bi (bi (bi (bi ⟨bt x,rfl,ac⟩)))))))))) ac Z) ?_)
     |(refine gM 2 Z ?_;refine ae (L:=[]) (t:=⟨[(0,ba L),(1,pI a),(2,pI m),(3,pI b),(4,aA),(18,pI u),(19,pI (u+m:Nat)),(20,pI st),(21,pI u),(22,pI (u+m-1:Nat)),(23,pI c)],[],0⟩) (wk Z Z Z (bi (bi (bi (bi (bi (bi (bi (bi (bi (bi ⟨bt x,rfl,ac⟩)))))))))) ac Z) ?_)
     |(refine gM 3 Z ?_;refine ae (L:=[]) (t:=⟨[(0,ba L),(1,pI a),(2,pI m),(3,pI b),(4,aA),(18,pI u),(19,pI (u+m:Nat)),(20,pI st),(21,pI u),(22,pI (u+m-1:Nat)),(23,pI c)],[],0⟩) (wk Z Z Z (bi (bi (bi (bi (bi (bi (bi (bi (bi (bi ⟨bt x,rfl,ac⟩)))))))))) ac Z) ?_)
     |(refine gM 4 Z ?_;refine ae (L:=[]) (t:=⟨[(0,ba L),(1,pI a),(2,pI m),(3,pI b),(4,aA),(18,pI u),(19,pI (u+m:Nat)),(20,pI st),(21,pI u),(22,pI (u+m-1:Nat)),(23,pI c)],[],0⟩) (wk Z Z Z (bi (bi (bi (bi (bi (bi (bi (bi (bi (bi ⟨bt x,rfl,ac⟩)))))))))) ac Z) ?_)
     |(refine gM 5 Z ?_;refine ae (L:=[]) (t:=⟨[(0,ba L),(1,pI a),(2,pI m),(3,pI b),(4,aA),(18,pI u),(19,pI (u+m:Nat)),(20,pI st),(21,pI u),(22,pI (u+m-1:Nat)),(23,pI c)],[],0⟩) (wk Z Z Z (bi (bi (bi (bi (bi (bi (bi (bi (bi (bi ⟨bt x,rfl,ac⟩)))))))))) ac Z) ?_)
     |(refine gM 6 Z ?_;refine ae (L:=[]) (t:=⟨[(0,ba L),(1,pI a),(2,pI m),(3,pI b),(4,aA),(18,pI u),(19,pI (u+m:Nat)),(20,pI st),(21,pI u),(22,pI (u+m-1:Nat)),(23,pI c)],[],0⟩) (wk Z Z Z (bi (bi (bi (bi (bi (bi (bi (bi (bi (bi ⟨bt x,rfl,ac⟩)))))))))) ac Z) ?_)
     |(refine gM 7 Z ?_;refine ae (L:=[]) (t:=⟨[(0,ba L),(1,pI a),(2,pI m),(3,pI b),(4,aA),(18,pI u),(19,pI (u+m:Nat)),(20,pI st),(21,pI u),(22,pI (u+m-1:Nat)),(23,pI c)],[],0⟩) (wk Z Z Z (bi (bi (bi (bi (bi (bi (bi (bi (bi (bi ⟨bt x,rfl,ac⟩)))))))))) ac Z) ?_)
     |(refine gM 8 Z ?_;refine ae (L:=[]) (t:=⟨[(0,ba L),(1,pI a),(2,pI m),(3,pI b),(4,aA),(18,pI u),(19,pI (u+m:Nat)),(20,pI st),(21,pI u),(22,pI (u+m-1:Nat)),(23,pI c)],[],0⟩) (wk Z Z Z (bi (bi (bi (bi (bi (bi (bi (bi (bi (bi ⟨bt x,rfl,ac⟩)))))))))) ac Z) ?_)
     |(refine gM 9 Z ?_;refine ae (L:=[]) (t:=⟨[(0,ba L),(1,pI a),(2,pI m),(3,pI b),(4,aA),(18,pI u),(19,pI (u+m:Nat)),(20,pI st),(21,pI u),(22,pI (u+m-1:Nat)),(23,pI c)],[],0⟩) (wk Z Z Z (bi (bi (bi (bi (bi (bi (bi (bi (bi (bi ⟨bt x,rfl,ac⟩)))))))))) ac Z) ?_)
     |(refine gM 10 Z ?_;refine ae (L:=[]) (t:=⟨[(0,ba L),(1,pI a),(2,pI m),(3,pI b),(4,aA),(18,pI u),(19,pI (u+m:Nat)),(20,pI st),(21,pI u),(22,pI (u+m-1:Nat)),(23,pI c)],[],0⟩) (wk Z Z Z (bi (bi (bi (bi (bi (bi (bi (bi (bi (bi ⟨bt x,rfl,ac⟩)))))))))) ac Z) ?_)
     |(refine gM 11 Z ?_;refine ae (L:=[]) (t:=⟨[(0,ba L),(1,pI a),(2,pI m),(3,pI b),(4,aA),(18,pI u),(19,pI (u+m:Nat)),(20,pI st),(21,pI u),(22,pI (u+m-1:Nat)),(23,pI c)],[],0⟩) (wk Z Z Z (bi (bi (bi (bi (bi (bi (bi (bi (bi (bi ⟨bt x,rfl,ac⟩)))))))))) ac Z) ?_)
     |(refine gM 12 Z ?_;refine ae (L:=[]) (t:=⟨[(0,ba L),(1,pI a),(2,pI m),(3,pI b),(4,aA),(18,pI u),(19,pI (u+m:Nat)),(20,pI st),(21,pI u),(22,pI (u+m-1:Nat)),(23,pI c)],[],0⟩) (wk Z Z Z (bi (bi (bi (bi (bi (bi (bi (bi (bi (bi ⟨bt x,rfl,ac⟩)))))))))) ac Z) ?_)
     |(refine gM 13 Z ?_;refine ae (L:=[]) (t:=⟨[(0,ba L),(1,pI a),(2,pI m),(3,pI b),(4,aA),(18,pI u),(19,pI (u+m:Nat)),(20,pI st),(21,pI u),(22,pI (u+m-1:Nat)),(23,pI c)],[],0⟩) (wk Z Z Z (bi (bi (bi (bi (bi (bi (bi (bi (bi (bi ⟨bt x,rfl,ac⟩)))))))))) ac Z) ?_)
     |(refine gM 14 Z ?_;refine ae (L:=[]) (t:=⟨[(0,ba L),(1,pI a),(2,pI m),(3,pI b),(4,aA),(18,pI u),(19,pI (u+m:Nat)),(20,pI st),(21,pI u),(22,pI (u+m-1:Nat)),(23,pI c)],[],0⟩) (wk Z Z Z (bi (bi (bi (bi (bi (bi (bi (bi (bi (bi ⟨bt x,rfl,ac⟩)))))))))) ac Z) ?_)
     |(refine gM 15 Z ?_;refine ae (L:=[]) (t:=⟨[(0,ba L),(1,pI a),(2,pI m),(3,pI b),(4,aA),(18,pI u),(19,pI (u+m:Nat)),(20,pI st),(21,pI u),(22,pI (u+m-1:Nat)),(23,pI c)],[],0⟩) (wk Z Z Z (bi (bi (bi (bi (bi (bi (bi (bi (bi (bi ⟨bt x,rfl,ac⟩)))))))))) ac Z) ?_)
     |(refine gM 16 Z ?_;refine ae (L:=[]) (t:=⟨[(0,ba L),(1,pI a),(2,pI m),(3,pI b),(4,aA),(18,pI u),(19,pI (u+m:Nat)),(20,pI st),(21,pI u),(22,pI (u+m-1:Nat)),(23,pI c)],[],0⟩) (wk Z Z Z (bi (bi (bi (bi (bi (bi (bi (bi (bi (bi ⟨bt x,rfl,ac⟩)))))))))) ac Z) ?_)
     |(refine gM 17 Z ?_;refine ae (L:=[]) (t:=⟨[(0,ba L),(1,pI a),(2,pI m),(3,pI b),(4,aA),(18,pI u),(19,pI (u+m:Nat)),(20,pI st),(21,pI u),(22,pI (u+m-1:Nat)),(23,pI c)],[],0⟩) (wk Z Z Z (bi (bi (bi (bi (bi (bi (bi (bi (bi (bi ⟨bt x,rfl,ac⟩)))))))))) ac Z) ?_)
     |(refine gM 18 Z ?_;refine ae (L:=[]) (t:=⟨[(0,ba L),(1,pI a),(2,pI m),(3,pI b),(4,aA),(18,pI u),(19,pI (u+m:Nat)),(20,pI st),(21,pI u),(22,pI (u+m-1:Nat)),(23,pI c)],[],0⟩) (wk Z Z Z (bi (bi (bi (bi (bi (bi (bi (bi (bi (bi ⟨bt x,rfl,ac⟩)))))))))) ac Z) ?_)
     |(refine gM 19 Z ?_;refine ae (L:=[]) (t:=⟨[(0,ba L),(1,pI a),(2,pI m),(3,pI b),(4,aA),(18,pI u),(19,pI (u+m:Nat)),(20,pI st),(21,pI u),(22,pI (u+m-1:Nat)),(23,pI c)],[],0⟩) (wk Z Z Z (bi (bi (bi (bi (bi (bi (bi (bi (bi (bi ⟨bt x,rfl,ac⟩)))))))))) ac Z) ?_)
     |(refine gM 20 Z ?_;refine ae (L:=[]) (t:=⟨[(0,ba L),(1,pI a),(2,pI m),(3,pI b),(4,aA),(18,pI u),(19,pI (u+m:Nat)),(20,pI st),(21,pI u),(22,pI (u+m-1:Nat)),(23,pI c)],[],0⟩) (wk Z Z Z (bi (bi (bi (bi (bi (bi (bi (bi (bi (bi ⟨bt x,rfl,ac⟩)))))))))) ac Z) ?_)
     |(refine gM 21 Z ?_;refine ae (L:=[]) (t:=⟨[(0,ba L),(1,pI a),(2,pI m),(3,pI b),(4,aA),(18,pI u),(19,pI (u+m:Nat)),(20,pI st),(21,pI u),(22,pI (u+m-1:Nat)),(23,pI c)],[],0⟩) (wk Z Z Z (bi (bi (bi (bi (bi (bi (bi (bi (bi (bi ⟨bt x,rfl,ac⟩)))))))))) ac Z) ?_)
     |(refine gM 22 Z ?_;refine ae (L:=[]) (t:=⟨[(0,ba L),(1,pI a),(2,pI m),(3,pI b),(4,aA),(18,pI u),(19,pI (u+m:Nat)),(20,pI st),(21,pI u),(22,pI (u+m-1:Nat)),(23,pI c)],[],0⟩) (wk Z Z Z (bi (bi (bi (bi (bi (bi (bi (bi (bi (bi ⟨bt x,rfl,ac⟩)))))))))) ac Z) ?_)
     |(refine gM 23 Z ?_;refine ae (L:=[]) (t:=⟨[(0,ba L),(1,pI a),(2,pI m),(3,pI b),(4,aA),(18,pI u),(19,pI (u+m:Nat)),(20,pI st),(21,pI u),(22,pI (u+m-1:Nat)),(23,pI c)],[],0⟩) (wk Z Z Z (bi (bi (bi (bi (bi (bi (bi (bi (bi (bi ⟨bt x,rfl,ac⟩)))))))))) ac Z) ?_)
     |(refine gM 24 Z ?_;refine ae (L:=[]) (t:=⟨[(0,ba L),(1,pI a),(2,pI m),(3,pI b),(4,aA),(18,pI u),(19,pI (u+m:Nat)),(20,pI st),(21,pI u),(22,pI (u+m-1:Nat)),(23,pI c)],[],0⟩) (wk Z Z Z (bi (bi (bi (bi (bi (bi (bi (bi (bi (bi ⟨bt x,rfl,ac⟩)))))))))) ac Z) ?_)
     |(refine gM 25 Z ?_;refine ae (L:=[]) (t:=⟨[(0,ba L),(1,pI a),(2,pI m),(3,pI b),(4,aA),(18,pI u),(19,pI (u+m:Nat)),(20,pI st),(21,pI u),(22,pI (u+m-1:Nat)),(23,pI c)],[],0⟩) (wk Z Z Z (bi (bi (bi (bi (bi (bi (bi (bi (bi (bi ⟨bt x,rfl,ac⟩)))))))))) ac Z) ?_)
     |(refine gM 26 Z ?_;refine ae (L:=[]) (t:=⟨[(0,ba L),(1,pI a),(2,pI m),(3,pI b),(4,aA),(18,pI u),(19,pI (u+m:Nat)),(20,pI st),(21,pI u),(22,pI (u+m-1:Nat)),(23,pI c)],[],0⟩) (wk Z Z Z (bi (bi (bi (bi (bi (bi (bi (bi (bi (bi ⟨bt x,rfl,ac⟩)))))))))) ac Z) ?_)
     |(refine gM 27 Z ?_;refine ae (L:=[]) (t:=⟨[(0,ba L),(1,pI a),(2,pI m),(3,pI b),(4,aA),(18,pI u),(19,pI (u+m:Nat)),(20,pI st),(21,pI u),(22,pI (u+m-1:Nat)),(23,pI c)],[],0⟩) (wk Z Z Z (bi (bi (bi (bi (bi (bi (bi (bi (bi (bi ⟨bt x,rfl,ac⟩)))))))))) ac Z) ?_)
     |(refine gM 28 Z ?_;refine ae (L:=[]) (t:=⟨[(0,ba L),(1,pI a),(2,pI m),(3,pI b),(4,aA),(18,pI u),(19,pI (u+m:Nat)),(20,pI st),(21,pI u),(22,pI (u+m-1:Nat)),(23,pI c)],[],0⟩) (wk Z Z Z (bi (bi (bi (bi (bi (bi (bi (bi (bi (bi ⟨bt x,rfl,ac⟩)))))))))) ac Z) ?_)
     |(refine gM 29 Z ?_;refine ae (L:=[]) (t:=⟨[(0,ba L),(1,pI a),(2,pI m),(3,pI b),(4,aA),(18,pI u),(19,pI (u+m:Nat)),(20,pI st),(21,pI u),(22,pI (u+m-1:Nat)),(23,pI c)],[],0⟩) (wk Z Z Z (bi (bi (bi (bi (bi (bi (bi (bi (bi (bi ⟨bt x,rfl,ac⟩)))))))))) ac Z) ?_)
    have e:(((u+m-1:Nat):Int)-(c:Int)).toNat=u+m-1-c:=by omega
    refine gA Z (bh ab [] (Pure.rK (oH (L.getD (((u+m-1:Nat):Int)-(c:Int)).toNat co) (L.getD c co) (hF.at (by omega)) (hF.at (by omega)))) Z Z Z Z Z Z Z Z Z Z Z Z (by(repeat' (first|exact ac|exact rfl|exact ah.refl _|exact ah.bk (by assumption)|apply Pm))<;>first|omega|(simp only[Po];omega)|(simp;done)|(simp;omega)) Z (by(repeat' (first|exact ac|exact rfl|exact ah.refl _|exact ah.bk (by assumption)|apply Pm))<;>first|omega|(simp only[Po];omega)|(simp;done)|(simp;omega)) ?_);refine gA Z ?_;refine Pm (fun g2=>?_) (fun g2=>?_)
    .refine gA Z ?_;exact⟨⟨c+1,by omega,by omega⟩,[],by show u-(c+1)<u-st;omega,wk Z Z Z (bi (bi (bi (bi (bi (bi (bi (bi (bi (bi ac)))))))))) ac Z⟩
    .have g2:bb (L.getD (((u+m-1:Nat):Int)-(c:Int)).toNat co) (L.getD c co)<0:=by simpa using g2
     rw[e]at g2;exact absurd g2 (hu c (u+m-1-c) (by omega) (by omega))
   .have g1:u<=st:=by simpa using g1
    have:st=u:=by omega
    subst this
    first
     |(refine gM 1 Z ?_;refine ae (L:=[]) (t:=⟨[(0,ba L),(1,pI a),(2,pI m),(3,pI b),(4,aA),(18,pI st),(20,pI st),(24,pI m)],[],0⟩) (wk Z Z Z (bi (bi (bi (bi (bi (bi (bi ⟨bt (by(try dsimp only);omega),rfl,ac⟩))))))) ac Z) ?_)
     |(refine gM 2 Z ?_;refine ae (L:=[]) (t:=⟨[(0,ba L),(1,pI a),(2,pI m),(3,pI b),(4,aA),(18,pI st),(20,pI st),(24,pI m)],[],0⟩) (wk Z Z Z (bi (bi (bi (bi (bi (bi (bi ⟨bt (by(try dsimp only);omega),rfl,ac⟩))))))) ac Z) ?_)
     |(refine gM 3 Z ?_;refine ae (L:=[]) (t:=⟨[(0,ba L),(1,pI a),(2,pI m),(3,pI b),(4,aA),(18,pI st),(20,pI st),(24,pI m)],[],0⟩) (wk Z Z Z (bi (bi (bi (bi (bi (bi (bi ⟨bt (by(try dsimp only);omega),rfl,ac⟩))))))) ac Z) ?_)
     |(refine gM 4 Z ?_;refine ae (L:=[]) (t:=⟨[(0,ba L),(1,pI a),(2,pI m),(3,pI b),(4,aA),(18,pI st),(20,pI st),(24,pI m)],[],0⟩) (wk Z Z Z (bi (bi (bi (bi (bi (bi (bi ⟨bt (by(try dsimp only);omega),rfl,ac⟩))))))) ac Z) ?_)
     |(refine gM 5 Z ?_;refine ae (L:=[]) (t:=⟨[(0,ba L),(1,pI a),(2,pI m),(3,pI b),(4,aA),(18,pI st),(20,pI st),(24,pI m)],[],0⟩) (wk Z Z Z (bi (bi (bi (bi (bi (bi (bi ⟨bt (by(try dsimp only);omega),rfl,ac⟩))))))) ac Z) ?_)
     |(refine gM 6 Z ?_;refine ae (L:=[]) (t:=⟨[(0,ba L),(1,pI a),(2,pI m),(3,pI b),(4,aA),(18,pI st),(20,pI st),(24,pI m)],[],0⟩) (wk Z Z Z (bi (bi (bi (bi (bi (bi (bi ⟨bt (by(try dsimp only);omega),rfl,ac⟩))))))) ac Z) ?_)
     |(refine gM 7 Z ?_;refine ae (L:=[]) (t:=⟨[(0,ba L),(1,pI a),(2,pI m),(3,pI b),(4,aA),(18,pI st),(20,pI st),(24,pI m)],[],0⟩) (wk Z Z Z (bi (bi (bi (bi (bi (bi (bi ⟨bt (by(try dsimp only);omega),rfl,ac⟩))))))) ac Z) ?_)
     |(refine gM 8 Z ?_;refine ae (L:=[]) (t:=⟨[(0,ba L),(1,pI a),(2,pI m),(3,pI b),(4,aA),(18,pI st),(20,pI st),(24,pI m)],[],0⟩) (wk Z Z Z (bi (bi (bi (bi (bi (bi (bi ⟨bt (by(try dsimp only);omega),rfl,ac⟩))))))) ac Z) ?_)
     |(refine gM 9 Z ?_;refine ae (L:=[]) (t:=⟨[(0,ba L),(1,pI a),(2,pI m),(3,pI b),(4,aA),(18,pI st),(20,pI st),(24,pI m)],[],0⟩) (wk Z Z Z (bi (bi (bi (bi (bi (bi (bi ⟨bt (by(try dsimp only);omega),rfl,ac⟩))))))) ac Z) ?_)
     |(refine gM 10 Z ?_;refine ae (L:=[]) (t:=⟨[(0,ba L),(1,pI a),(2,pI m),(3,pI b),(4,aA),(18,pI st),(20,pI st),(24,pI m)],[],0⟩) (wk Z Z Z (bi (bi (bi (bi (bi (bi (bi ⟨bt (by(try dsimp only);omega),rfl,ac⟩))))))) ac Z) ?_)
     |(refine gM 11 Z ?_;refine ae (L:=[]) (t:=⟨[(0,ba L),(1,pI a),(2,pI m),(3,pI b),(4,aA),(18,pI st),(20,pI st),(24,pI m)],[],0⟩) (wk Z Z Z (bi (bi (bi (bi (bi (bi (bi ⟨bt (by(try dsimp only);omega),rfl,ac⟩))))))) ac Z) ?_)
    refine gA Z ?_;refine Pm (fun D=>?_) (fun D=>?_);rotate_left
    .exact absurd A (by simpa using D)
    refine gA Z ?_;refine Pm (fun k2=>?_) (fun k2=>?_)
    .exact absurd k2 (by simp)
    refine gA Z ?_;refine Pm (fun G=>?_) (fun G=>?_);rotate_left
    .exact absurd (show a<st by omega) (by simpa using G)
    refine gA Z ?_;refine Pm (fun B=>?_) (fun B=>?_)
    .exact absurd B (by simp)
    refine gA Z ?_;refine Pm (fun y=>?_) (fun y=>?_);rotate_left
    .exact absurd A (by simpa using y)
    refine gA Z ?_;refine Pm (fun k6=>?_) (fun k6=>?_)
    .refine gA Z (aE (ih st m b (by omega) A R h3) Z Z Z Z Z Z ?_);refine gA Z (aQ (by first|exact .inr Z|exact .inl Z) Z (.of_eq ?_));rfl
    .exact absurd R (by simpa using k6)
  .have A:m<=u:=by simpa using A
   refine gA Z (gn (σ:={st:Nat//a<=st∧st<=m}) (fun st=>⟨[(0,ba L),(1,pI a),(2,pI m),(3,pI b),(4,aA),(18,pI u),(19,pI (u+m:Nat)),(20,pI st.1),(21,pI m),(22,pI (u+m-1:Nat))],[],0⟩) (fun st=>m-st.1) ⟨a,Ps _,by omega⟩ []
    (wk Z Z Z (bi (bi (bi (bi (bi (bi ⟨bt (by(try dsimp only);omega),rfl,bi (bi ⟨bt (by(try dsimp only);omega),rfl,ac⟩)⟩)))))) ac Z) fun st=>?_)
   obtain⟨st,s1,s2⟩:=st;refine gA Z ?_;refine Pm (fun g1=>?_) (fun g1=>?_)
   .have g1:st<m:=by simpa using g1
    have x:=oX st m (by omega);obtain⟨c,Y⟩: ∃c,c=(st+m)/2:=⟨_,rfl⟩
    rw[<-Y]at x
    first
     |(refine gM 1 Z ?_;refine ae (L:=[]) (t:=⟨[(0,ba L),(1,pI a),(2,pI m),(3,pI b),(4,aA),(18,pI u),(19,pI (u+m:Nat)),(20,pI st),(21,pI m),(22,pI (u+m-1:Nat)),(23,pI c)],[],0⟩) (wk Z Z Z (bi (bi (bi (bi (bi (bi (bi (bi (bi (bi ⟨bt x,rfl,ac⟩)))))))))) ac Z) ?_)
     |(refine gM 2 Z ?_;refine ae (L:=[]) (t:=⟨[(0,ba L),(1,pI a),(2,pI m),(3,pI b),(4,aA),(18,pI u),(19,pI (u+m:Nat)),(20,pI st),(21,pI m),(22,pI (u+m-1:Nat)),(23,pI c)],[],0⟩) (wk Z Z Z (bi (bi (bi (bi (bi (bi (bi (bi (bi (bi ⟨bt x,rfl,ac⟩)))))))))) ac Z) ?_)
     |(refine gM 3 Z ?_;refine ae (L:=[]) (t:=⟨[(0,ba L),(1,pI a),(2,pI m),(3,pI b),(4,aA),(18,pI u),(19,pI (u+m:Nat)),(20,pI st),(21,pI m),(22,pI (u+m-1:Nat)),(23,pI c)],[],0⟩) (wk Z Z Z (bi (bi (bi (bi (bi (bi (bi (bi (bi (bi ⟨bt x,rfl,ac⟩)))))))))) ac Z) ?_)
     |(refine gM 4 Z ?_;refine ae (L:=[]) (t:=⟨[(0,ba L),(1,pI a),(2,pI m),(3,pI b),(4,aA),(18,pI u),(19,pI (u+m:Nat)),(20,pI st),(21,pI m),(22,pI (u+m-1:Nat)),(23,pI c)],[],0⟩) (wk Z Z Z (bi (bi (bi (bi (bi (bi (bi (bi (bi (bi ⟨bt x,rfl,ac⟩)))))))))) ac Z) ?_)
     |(refine gM 5 Z ?_;refine ae (L:=[]) (t:=⟨[(0,ba L),(1,pI a),(2,pI m),(3,pI b),(4,aA),(18,pI u),(19,pI (u+m:Nat)),(20,pI st),(21,pI m),(22,pI (u+m-1:Nat)),(23,pI c)],[],0⟩) (wk Z Z Z (bi (bi (bi (bi (bi (bi (bi (bi (bi (bi ⟨bt x,rfl,ac⟩)))))))))) ac Z) ?_)
     |(refine gM 6 Z ?_;refine ae (L:=[]) (t:=⟨[(0,ba L),(1,pI a),(2,pI m),(3,pI b),(4,aA),(18,pI u),(19,pI (u+m:Nat)),(20,pI st),(21,pI m),(22,pI (u+m-1:Nat)),(23,pI c)],[],0⟩) (wk Z Z Z (bi (bi (bi (bi (bi (bi (bi (bi (bi (bi ⟨bt x,rfl,ac⟩)))))))))) ac Z) ?_)
     |(refine gM 7 Z ?_;refine ae (L:=[]) (t:=⟨[(0,ba L),(1,pI a),(2,pI m),(3,pI b),(4,aA),(18,pI u),(19,pI (u+m:Nat)),(20,pI st),(21,pI m),(22,pI (u+m-1:Nat)),(23,pI c)],[],0⟩) (wk Z Z Z (bi (bi (bi (bi (bi (bi (bi (bi (bi (bi ⟨bt x,rfl,ac⟩)))))))))) ac Z) ?_)
     |(refine gM 8 Z ?_;refine ae (L:=[]) (t:=⟨[(0,ba L),(1,pI a),(2,pI m),(3,pI b),(4,aA),(18,pI u),(19,pI (u+m:Nat)),(20,pI st),(21,pI m),(22,pI (u+m-1:Nat)),(23,pI c)],[],0⟩) (wk Z Z Z (bi (bi (bi (bi (bi (bi (bi (bi (bi (bi ⟨bt x,rfl,ac⟩)))))))))) ac Z) ?_)
     |(refine gM 9 Z ?_;refine ae (L:=[]) (t:=⟨[(0,ba L),(1,pI a),(2,pI m),(3,pI b),(4,aA),(18,pI u),(19,pI (u+m:Nat)),(20,pI st),(21,pI m),(22,pI (u+m-1:Nat)),(23,pI c)],[],0⟩) (wk Z Z Z (bi (bi (bi (bi (bi (bi (bi (bi (bi (bi ⟨bt x,rfl,ac⟩)))))))))) ac Z) ?_)
     |(refine gM 10 Z ?_;refine ae (L:=[]) (t:=⟨[(0,ba L),(1,pI a),(2,pI m),(3,pI b),(4,aA),(18,pI u),(19,pI (u+m:Nat)),(20,pI st),(21,pI m),(22,pI (u+m-1:Nat)),(23,pI c)],[],0⟩) (wk Z Z Z (bi (bi (bi (bi (bi (bi (bi (bi (bi (bi ⟨bt x,rfl,ac⟩)))))))))) ac Z) ?_)
     |(refine gM 11 Z ?_;refine ae (L:=[]) (t:=⟨[(0,ba L),(1,pI a),(2,pI m),(3,pI b),(4,aA),(18,pI u),(19,pI (u+m:Nat)),(20,pI st),(21,pI m),(22,pI (u+m-1:Nat)),(23,pI c)],[],0⟩) (wk Z Z Z (bi (bi (bi (bi (bi (bi (bi (bi (bi (bi ⟨bt x,rfl,ac⟩)))))))))) ac Z) ?_)
     |(refine gM 12 Z ?_;refine ae (L:=[]) (t:=⟨[(0,ba L),(1,pI a),(2,pI m),(3,pI b),(4,aA),(18,pI u),(19,pI (u+m:Nat)),(20,pI st),(21,pI m),(22,pI (u+m-1:Nat)),(23,pI c)],[],0⟩) (wk Z Z Z (bi (bi (bi (bi (bi (bi (bi (bi (bi (bi ⟨bt x,rfl,ac⟩)))))))))) ac Z) ?_)
     |(refine gM 13 Z ?_;refine ae (L:=[]) (t:=⟨[(0,ba L),(1,pI a),(2,pI m),(3,pI b),(4,aA),(18,pI u),(19,pI (u+m:Nat)),(20,pI st),(21,pI m),(22,pI (u+m-1:Nat)),(23,pI c)],[],0⟩) (wk Z Z Z (bi (bi (bi (bi (bi (bi (bi (bi (bi (bi ⟨bt x,rfl,ac⟩)))))))))) ac Z) ?_)
     |(refine gM 14 Z ?_;refine ae (L:=[]) (t:=⟨[(0,ba L),(1,pI a),(2,pI m),(3,pI b),(4,aA),(18,pI u),(19,pI (u+m:Nat)),(20,pI st),(21,pI m),(22,pI (u+m-1:Nat)),(23,pI c)],[],0⟩) (wk Z Z Z (bi (bi (bi (bi (bi (bi (bi (bi (bi (bi ⟨bt x,rfl,ac⟩)))))))))) ac Z) ?_)
     |(refine gM 15 Z ?_;refine ae (L:=[]) (t:=⟨[(0,ba L),(1,pI a),(2,pI m),(3,pI b),(4,aA),(18,pI u),(19,pI (u+m:Nat)),(20,pI st),(21,pI m),(22,pI (u+m-1:Nat)),(23,pI c)],[],0⟩) (wk Z Z Z (bi (bi (bi (bi (bi (bi (bi (bi (bi (bi ⟨bt x,rfl,ac⟩)))))))))) ac Z) ?_)
     |(refine gM 16 Z ?_;refine ae (L:=[]) (t:=⟨[(0,ba L),(1,pI a),(2,pI m),(3,pI b),(4,aA),(18,pI u),(19,pI (u+m:Nat)),(20,pI st),(21,pI m),(22,pI (u+m-1:Nat)),(23,pI c)],[],0⟩) (wk Z Z Z (bi (bi (bi (bi (bi (bi (bi (bi (bi (bi ⟨bt x,rfl,ac⟩)))))))))) ac Z) ?_)
     |(refine gM 17 Z ?_;refine ae (L:=[]) (t:=⟨[(0,ba L),(1,pI a),(2,pI m),(3,pI b),(4,aA),(18,pI u),(19,pI (u+m:Nat)),(20,pI st),(21,pI m),(22,pI (u+m-1:Nat)),(23,pI c)],[],0⟩) (wk Z Z Z (bi (bi (bi (bi (bi (bi (bi (bi (bi (bi ⟨bt x,rfl,ac⟩)))))))))) ac Z) ?_)
     |(refine gM 18 Z ?_;refine ae (L:=[]) (t:=⟨[(0,ba L),(1,pI a),(2,pI m),(3,pI b),(4,aA),(18,pI u),(19,pI (u+m:Nat)),(20,pI st),(21,pI m),(22,pI (u+m-1:Nat)),(23,pI c)],[],0⟩) (wk Z Z Z (bi (bi (bi (bi (bi (bi (bi (bi (bi (bi ⟨bt x,rfl,ac⟩)))))))))) ac Z) ?_)
     |(refine gM 19 Z ?_;refine ae (L:=[]) (t:=⟨[(0,ba L),(1,pI a),(2,pI m),(3,pI b),(4,aA),(18,pI u),(19,pI (u+m:Nat)),(20,pI st),(21,pI m),(22,pI (u+m-1:Nat)),(23,pI c)],[],0⟩) (wk Z Z Z (bi (bi (bi (bi (bi (bi (bi (bi (bi (bi ⟨bt x,rfl,ac⟩)))))))))) ac Z) ?_)
     |(refine gM 20 Z ?_;refine ae (L:=[]) (t:=⟨[(0,ba L),(1,pI a),(2,pI m),(3,pI b),(4,aA),(18,pI u),(19,pI (u+m:Nat)),(20,pI st),(21,pI m),(22,pI (u+m-1:Nat)),(23,pI c)],[],0⟩) (wk Z Z Z (bi (bi (bi (bi (bi (bi (bi (bi (bi (bi ⟨bt x,rfl,ac⟩)))))))))) ac Z) ?_)
     |(refine gM 21 Z ?_;refine ae (L:=[]) (t:=⟨[(0,ba L),(1,pI a),(2,pI m),(3,pI b),(4,aA),(18,pI u),(19,pI (u+m:Nat)),(20,pI st),(21,pI m),(22,pI (u+m-1:Nat)),(23,pI c)],[],0⟩) (wk Z Z Z (bi (bi (bi (bi (bi (bi (bi (bi (bi (bi ⟨bt x,rfl,ac⟩)))))))))) ac Z) ?_)
     |(refine gM 22 Z ?_;refine ae (L:=[]) (t:=⟨[(0,ba L),(1,pI a),(2,pI m),(3,pI b),(4,aA),(18,pI u),(19,pI (u+m:Nat)),(20,pI st),(21,pI m),(22,pI (u+m-1:Nat)),(23,pI c)],[],0⟩) (wk Z Z Z (bi (bi (bi (bi (bi (bi (bi (bi (bi (bi ⟨bt x,rfl,ac⟩)))))))))) ac Z) ?_)
     |(refine gM 23 Z ?_;refine ae (L:=[]) (t:=⟨[(0,ba L),(1,pI a),(2,pI m),(3,pI b),(4,aA),(18,pI u),(19,pI (u+m:Nat)),(20,pI st),(21,pI m),(22,pI (u+m-1:Nat)),(23,pI c)],[],0⟩) (wk Z Z Z (bi (bi (bi (bi (bi (bi (bi (bi (bi (bi ⟨bt x,rfl,ac⟩)))))))))) ac Z) ?_)
     |(refine gM 24 Z ?_;refine ae (L:=[]) (t:=⟨[(0,ba L),(1,pI a),(2,pI m),(3,pI b),(4,aA),(18,pI u),(19,pI (u+m:Nat)),(20,pI st),(21,pI m),(22,pI (u+m-1:Nat)),(23,pI c)],[],0⟩) (wk Z Z Z (bi (bi (bi (bi (bi (bi (bi (bi (bi (bi ⟨bt x,rfl,ac⟩)))))))))) ac Z) ?_)
     |(refine gM 25 Z ?_;refine ae (L:=[]) (t:=⟨[(0,ba L),(1,pI a),(2,pI m),(3,pI b),(4,aA),(18,pI u),(19,pI (u+m:Nat)),(20,pI st),(21,pI m),(22,pI (u+m-1:Nat)),(23,pI c)],[],0⟩) (wk Z Z Z (bi (bi (bi (bi (bi (bi (bi (bi (bi (bi ⟨bt x,rfl,ac⟩)))))))))) ac Z) ?_)
     |(refine gM 26 Z ?_;refine ae (L:=[]) (t:=⟨[(0,ba L),(1,pI a),(2,pI m),(3,pI b),(4,aA),(18,pI u),(19,pI (u+m:Nat)),(20,pI st),(21,pI m),(22,pI (u+m-1:Nat)),(23,pI c)],[],0⟩) (wk Z Z Z (bi (bi (bi (bi (bi (bi (bi (bi (bi (bi ⟨bt x,rfl,ac⟩)))))))))) ac Z) ?_)
     |(refine gM 27 Z ?_;refine ae (L:=[]) (t:=⟨[(0,ba L),(1,pI a),(2,pI m),(3,pI b),(4,aA),(18,pI u),(19,pI (u+m:Nat)),(20,pI st),(21,pI m),(22,pI (u+m-1:Nat)),(23,pI c)],[],0⟩) (wk Z Z Z (bi (bi (bi (bi (bi (bi (bi (bi (bi (bi ⟨bt x,rfl,ac⟩)))))))))) ac Z) ?_)
     |(refine gM 28 Z ?_;refine ae (L:=[]) (t:=⟨[(0,ba L),(1,pI a),(2,pI m),(3,pI b),(4,aA),(18,pI u),(19,pI (u+m:Nat)),(20,pI st),(21,pI m),(22,pI (u+m-1:Nat)),(23,pI c)],[],0⟩) (wk Z Z Z (bi (bi (bi (bi (bi (bi (bi (bi (bi (bi ⟨bt x,rfl,ac⟩)))))))))) ac Z) ?_)
     |(refine gM 29 Z ?_;refine ae (L:=[]) (t:=⟨[(0,ba L),(1,pI a),(2,pI m),(3,pI b),(4,aA),(18,pI u),(19,pI (u+m:Nat)),(20,pI st),(21,pI m),(22,pI (u+m-1:Nat)),(23,pI c)],[],0⟩) (wk Z Z Z (bi (bi (bi (bi (bi (bi (bi (bi (bi (bi ⟨bt x,rfl,ac⟩)))))))))) ac Z) ?_)
    have e:(((u+m-1:Nat):Int)-(c:Int)).toNat=u+m-1-c:=by omega
    refine gA Z (bh ab [] (Pure.rK (oH (L.getD (((u+m-1:Nat):Int)-(c:Int)).toNat co) (L.getD c co) (hF.at (by omega)) (hF.at (by omega)))) Z Z Z Z Z Z Z Z Z Z Z Z (by(repeat' (first|exact ac|exact rfl|exact ah.refl _|exact ah.bk (by assumption)|apply Pm))<;>first|omega|(simp only[Po];omega)|(simp;done)|(simp;omega)) Z (by(repeat' (first|exact ac|exact rfl|exact ah.refl _|exact ah.bk (by assumption)|apply Pm))<;>first|omega|(simp only[Po];omega)|(simp;done)|(simp;omega)) ?_);refine gA Z ?_;refine Pm (fun g2=>?_) (fun g2=>?_)
    .refine gA Z ?_;exact⟨⟨c+1,by omega,by omega⟩,[],by show m-(c+1)<m-st;omega,wk Z Z Z (bi (bi (bi (bi (bi (bi (bi (bi (bi (bi ac)))))))))) ac Z⟩
    .have g2:bb (L.getD (((u+m-1:Nat):Int)-(c:Int)).toNat co) (L.getD c co)<0:=by simpa using g2
     rw[e]at g2;exact absurd g2 (hu c (u+m-1-c) (by omega) (by omega))
   .have g1:m<=st:=by simpa using g1
    have:st=m:=by omega
    subst this
    first
     |(refine gM 1 Z ?_;refine ae (L:=[]) (t:=⟨[(0,ba L),(1,pI a),(2,pI st),(3,pI b),(4,aA),(18,pI u),(20,pI st),(24,pI u)],[],0⟩) (wk Z Z Z (bi (bi (bi (bi (bi (bi (bi ⟨bt (by(try dsimp only);omega),rfl,ac⟩))))))) ac Z) ?_)
     |(refine gM 2 Z ?_;refine ae (L:=[]) (t:=⟨[(0,ba L),(1,pI a),(2,pI st),(3,pI b),(4,aA),(18,pI u),(20,pI st),(24,pI u)],[],0⟩) (wk Z Z Z (bi (bi (bi (bi (bi (bi (bi ⟨bt (by(try dsimp only);omega),rfl,ac⟩))))))) ac Z) ?_)
     |(refine gM 3 Z ?_;refine ae (L:=[]) (t:=⟨[(0,ba L),(1,pI a),(2,pI st),(3,pI b),(4,aA),(18,pI u),(20,pI st),(24,pI u)],[],0⟩) (wk Z Z Z (bi (bi (bi (bi (bi (bi (bi ⟨bt (by(try dsimp only);omega),rfl,ac⟩))))))) ac Z) ?_)
     |(refine gM 4 Z ?_;refine ae (L:=[]) (t:=⟨[(0,ba L),(1,pI a),(2,pI st),(3,pI b),(4,aA),(18,pI u),(20,pI st),(24,pI u)],[],0⟩) (wk Z Z Z (bi (bi (bi (bi (bi (bi (bi ⟨bt (by(try dsimp only);omega),rfl,ac⟩))))))) ac Z) ?_)
     |(refine gM 5 Z ?_;refine ae (L:=[]) (t:=⟨[(0,ba L),(1,pI a),(2,pI st),(3,pI b),(4,aA),(18,pI u),(20,pI st),(24,pI u)],[],0⟩) (wk Z Z Z (bi (bi (bi (bi (bi (bi (bi ⟨bt (by(try dsimp only);omega),rfl,ac⟩))))))) ac Z) ?_)
     |(refine gM 6 Z ?_;refine ae (L:=[]) (t:=⟨[(0,ba L),(1,pI a),(2,pI st),(3,pI b),(4,aA),(18,pI u),(20,pI st),(24,pI u)],[],0⟩) (wk Z Z Z (bi (bi (bi (bi (bi (bi (bi ⟨bt (by(try dsimp only);omega),rfl,ac⟩))))))) ac Z) ?_)
     |(refine gM 7 Z ?_;refine ae (L:=[]) (t:=⟨[(0,ba L),(1,pI a),(2,pI st),(3,pI b),(4,aA),(18,pI u),(20,pI st),(24,pI u)],[],0⟩) (wk Z Z Z (bi (bi (bi (bi (bi (bi (bi ⟨bt (by(try dsimp only);omega),rfl,ac⟩))))))) ac Z) ?_)
     |(refine gM 8 Z ?_;refine ae (L:=[]) (t:=⟨[(0,ba L),(1,pI a),(2,pI st),(3,pI b),(4,aA),(18,pI u),(20,pI st),(24,pI u)],[],0⟩) (wk Z Z Z (bi (bi (bi (bi (bi (bi (bi ⟨bt (by(try dsimp only);omega),rfl,ac⟩))))))) ac Z) ?_)
     |(refine gM 9 Z ?_;refine ae (L:=[]) (t:=⟨[(0,ba L),(1,pI a),(2,pI st),(3,pI b),(4,aA),(18,pI u),(20,pI st),(24,pI u)],[],0⟩) (wk Z Z Z (bi (bi (bi (bi (bi (bi (bi ⟨bt (by(try dsimp only);omega),rfl,ac⟩))))))) ac Z) ?_)
     |(refine gM 10 Z ?_;refine ae (L:=[]) (t:=⟨[(0,ba L),(1,pI a),(2,pI st),(3,pI b),(4,aA),(18,pI u),(20,pI st),(24,pI u)],[],0⟩) (wk Z Z Z (bi (bi (bi (bi (bi (bi (bi ⟨bt (by(try dsimp only);omega),rfl,ac⟩))))))) ac Z) ?_)
     |(refine gM 11 Z ?_;refine ae (L:=[]) (t:=⟨[(0,ba L),(1,pI a),(2,pI st),(3,pI b),(4,aA),(18,pI u),(20,pI st),(24,pI u)],[],0⟩) (wk Z Z Z (bi (bi (bi (bi (bi (bi (bi ⟨bt (by(try dsimp only);omega),rfl,ac⟩))))))) ac Z) ?_)
    refine gA Z ?_;refine Pm (fun D=>?_) (fun D=>?_)
    .exact absurd D (by simp)
    refine gA Z ?_;refine Pm (fun G=>?_) (fun G=>?_);rotate_left
    .exact absurd h1 (by simpa using G)
    refine gA Z ?_;refine Pm (fun B=>?_) (fun B=>?_)
    .have B:st<u:=by simpa using B
     refine gA Z (aE (ih a st u (by omega) h1 B (by omega)) Z Z Z Z Z Z ?_);refine gA Z ?_;refine Pm (fun y=>?_) (fun y=>?_)
     .exact absurd y (by simp)
     refine gA Z (aQ (by first|exact .inr Z|exact .inl Z) Z (.of_eq ?_));rfl
    .refine gA Z ?_;refine Pm (fun y=>?_) (fun y=>?_)
     .exact absurd y (by simp)
     refine gA Z (aQ (by first|exact .inr Z|exact .inl Z) Z (.of_eq ?_));rfl
theorem Ha:Pure prog 78 [ba L,pI L.length,aA] (.bq []):=by
 refine ai ab func78 Z (by decide) ntmps78 Z (by simp) Z ?_
 refine gA Z (gn (σ:={i:Nat//i<=L.length}) (fun i=>⟨[(0,ba L),(1,pI L.length),(2,aA),(6,pI 20),(7,pI i.1),(8,pI (i.1+20:Nat))],[],0⟩) (fun i=>L.length-i.1) ⟨0,PA _⟩ []
  (wk Z Z Z (bi (bi (bi (bi (bi (bi ac)))))) ac Z) fun i=>?_)
 obtain⟨i,i1⟩:=i;refine gA Z ?_;refine Pm (fun g1=>?_) (fun g1=>?_)
 .have g1:i+20<=L.length:=by have:=of_decide_eq_true g1;(try dsimp only at this);omega
  refine gA Z (aE (Nk hu hF hl i (i+20) (by omega) g1) Z Z Z Z Z Z ?_);refine gA Z ⟨⟨i+20,g1⟩,[],by show L.length-(i+20)<L.length-i;omega,wk Z Z Z (bi (bi (bi (bi (bi ⟨bt (by(try dsimp only);omega),rfl,ac⟩))))) ac Z⟩
 .refine gA Z (aE (Nk hu hF hl i L.length (by omega) (Ps _)) Z Z Z Z Z Z ?_)
  refine gA Z (gn (σ:={bs:Nat//0<bs∧bs<=2*L.length+20}) (fun bs=>⟨[(0,ba L),(1,pI L.length),(2,aA),(6,pI bs.1)],[],0⟩) (fun bs=>2*L.length+20-bs.1) ⟨20,by omega,by omega⟩ []
   (wk Z Z Z (bi (bi (bi (bi ac)))) ac Z) fun bs=>?_)
  obtain⟨bs,b,j⟩:=bs;refine gA Z ?_;refine Pm (fun g2=>?_) (fun g2=>?_)
  .have g2:bs<L.length:=by simpa using g2
   refine gA Z (gn (σ:={i:Nat//i<=L.length}) (fun i=>⟨[(0,ba L),(1,pI L.length),(2,aA),(6,pI bs),(7,pI i.1),(8,pI (i.1+2*bs:Nat))],[],0⟩) (fun i=>L.length-i.1) ⟨0,PA _⟩ []
    (wk Z Z Z (bi (bi (bi (bi (bi ⟨bt (by(try dsimp only);omega),rfl,ac⟩))))) ac Z) fun i=>?_)
   obtain⟨i,i1⟩:=i;refine gA Z ?_;refine Pm (fun g3=>?_) (fun g3=>?_)
   .have g3:i+2*bs<=L.length:=by have:=of_decide_eq_true g3;(try dsimp only at this);omega
    refine gA Z (aE (Nd hu hF hl (2*bs) i (i+bs) (i+2*bs) (by omega) (by omega) (by omega) g3) Z Z Z Z Z Z ?_);refine gA Z ⟨⟨i+2*bs,g3⟩,[],by show L.length-(i+2*bs)<L.length-i;omega,wk Z Z Z (bi (bi (bi (bi (bi ⟨bt (by(try dsimp only);omega),rfl,ac⟩))))) ac Z⟩
   .refine gA Z ?_;refine Pm (fun g4=>?_) (fun g4=>?_)
    .have g4:i+bs<L.length:=by have:=of_decide_eq_true g4;(try dsimp only at this);omega
     refine gA Z (aE (Nd hu hF hl L.length i (i+bs) L.length (by omega) (by omega) g4 (Ps _)) Z Z Z Z Z Z ?_);refine gA Z ⟨⟨2*bs,by omega,by omega⟩,[],by show 2*L.length+20-2*bs<2*L.length+20-bs;omega,wk Z Z Z (bi (bi (bi ⟨bt (by(try dsimp only);omega),rfl,ac⟩))) ac Z⟩
    .refine gA Z ?_;exact⟨⟨2*bs,by omega,by omega⟩,[],by show 2*L.length+20-2*bs<2*L.length+20-bs;omega,wk Z Z Z (bi (bi (bi ⟨bt (by(try dsimp only);omega),rfl,ac⟩))) ac Z⟩
  .refine gA Z (aQ (by first|exact .inr Z|exact .inl Z) Z (.of_eq ?_));rfl
theorem Dy:Pure prog 55 [ba L,aA] (.bq []):=by
 refine ai ab func55 Z (by decide) ntmps55 Z (by simp) Z ?_;refine gA Z (aE (Ha hu hF hl) Z Z Z Z Z Z ?_);refine gA Z (aQ (by first|exact .inr Z|exact .inl Z) Z (.of_eq ?_));rfl
end
end
theorem Hh(l:List Int)(hb:l.length<=10000000000):Pure prog 42 [.iv (bN 1 l jV)] (.iv (bN 1 l jV)):=by
 refine ai ab func42 Z (by decide) ntmps42 Z (by simp) Z ?_;refine fj Z ac (ie Z Z Z Z underlying27 Z fun b u=>?_);refine gA Z ?_;refine Pm (fun x=>?_) (fun x=>?_)
 .have j:l=[]:=Qe (u x);subst j;refine gA Z (aQ (by first|exact .inr Z|exact .inl Z) Z ?_);exact .nil _ _
 refine fj Z ac (jI ab Z Z Z Z Z Z Z fun A=>?_);by_cases j:l=[]
 .subst j;refine fj Z ac (kA ab Z Z Z Z Z Z Z Z (el2:=fun k=>jV (([]:List Int).getD k co)) Z ?_);refine gA Z (aQ (by first|exact .inr Z|exact .inl Z) Z ?_);exact .refl _
 .have y:0<l.length:=Qv.2 j;refine fj Z ac (jJ ab Z Z Z Z Z Z Z Z (by decide) Z (gQ Z) (by simp;omega) (by show((PT l.length).map _).length*8<=_;simp;omega) (by simp;omega) Z ?_);refine gA Z (dq (by first|exact .inr Z|exact .inl Z) Z Z ((eM l jV)) ((by simp)))
theorem Az(l:List Term)(hb:l.length<=10000000000):Pure prog 43 [.iv (bN 5 l Term.c)] (.iv (bN 5 l Term.c)):=by
 refine ai ab func43 Z (by decide) ntmps43 Z (by simp) Z ?_;refine fj Z ac (ie Z Z Z Z underlying94 Z fun b u=>?_);refine gA Z ?_;refine Pm (fun x=>?_) (fun x=>?_)
 .have j:l=[]:=Qe (u x);subst j;refine gA Z (aQ (by first|exact .inr Z|exact .inl Z) Z ?_);exact .nil _ _
 refine fj Z ac (jI ab Z Z Z Z Z Z Z fun A=>?_);by_cases j:l=[]
 .subst j;refine fj Z ac (kA ab Z Z Z Z Z Z Z Z (el2:=fun k=>Term.c (([]:List Term).getD k co)) Z ?_);refine gA Z (aQ (by first|exact .inr Z|exact .inl Z) Z ?_);exact .refl _
 .have y:0<l.length:=Qv.2 j;refine fj Z ac (jJ ab Z Z Z Z Z Z Z Z (by decide) Z (gQ Z) (by simp;omega) (by show((PT l.length).map _).length*56<=_;simp;omega) (by simp;omega) Z ?_);refine gA Z (dq (by first|exact .inr Z|exact .inl Z) Z Z ((eM l Term.c)) ((by simp)))
theorem Hg(l:List Lit)(hb:l.length<=10000000000):Pure prog 71 [.iv (bN 30 l Lit.c)] (.iv (bN 30 l Lit.c)):=by
 refine ai ab func71 Z (by decide) ntmps71 Z (by simp) Z ?_;refine fj Z ac (ie Z Z Z Z underlying97 Z fun b u=>?_);refine gA Z ?_;refine Pm (fun x=>?_) (fun x=>?_)
 .have j:l=[]:=Qe (u x);subst j;refine gA Z (aQ (by first|exact .inr Z|exact .inl Z) Z ?_);exact .nil _ _
 refine fj Z ac (jI ab Z Z Z Z Z Z Z fun A=>?_);by_cases j:l=[]
 .subst j;refine fj Z ac (kA ab Z Z Z Z Z Z Z Z (el2:=fun k=>Lit.c (([]:List Lit).getD k co)) Z ?_);refine gA Z (aQ (by first|exact .inr Z|exact .inl Z) Z ?_);exact .refl _
 .have y:0<l.length:=Qv.2 j;refine fj Z ac (jJ ab Z Z Z Z Z Z Z Z (by decide) Z (gQ Z) (by simp;omega) (by show((PT l.length).map _).length*384<=_;simp;omega) (by simp;omega) Z ?_);refine gA Z (dq (by first|exact .inr Z|exact .inl Z) Z Z ((eM l Lit.c)) ((by simp)))
theorem DJ(l:List Lit)(hb:l.length<=10000000000)(h0:l≠ []):bD prog 71 [.iv (bN 30 l Lit.c)] [] (.sl 0 0 l.length 30) [(0,io (aF 30 l Lit.c))] 1:=by
 have x:0<l.length:=Qv.2 h0;refine au ab func71 Z (by decide) ntmps71 Z (by simp) ?_;refine fj Z ac (ie Z Z Z Z underlying97 Z fun b j=>?_);refine gA Z ?_;refine Pm (fun u=>?_) (fun u=>?_)
 .exact absurd (j u) (by omega)
 refine fj Z ac (jI ab Z Z Z Z Z Z Z fun y=>?_);refine fj Z ac (jJ ab Z Z Z Z Z Z Z Z (by decide) Z (gQ Z) (by simp;omega) (by show((PT l.length).map _).length*384<=_;simp;omega) (by simp;omega) Z ?_);refine gA Z (aY [1] (by first|exact .inr Z|exact .inl Z) Z (wk Z Z Z ⟨.row (by simp),rfl,ac⟩ (hR Z (eM l Lit.c) Z ac) Z))
theorem Hj(l:List Expr)(hb:l.length<=10000000000):Pure prog 92 [.iv (bN 7 l Expr.c)] (.iv (bN 7 l Expr.c)):=by
 refine ai ab func92 Z (by decide) ntmps92 Z (by simp) Z ?_;refine fj Z ac (ie Z Z Z Z underlying122 Z fun b u=>?_);refine gA Z ?_;refine Pm (fun x=>?_) (fun x=>?_)
 .have j:l=[]:=Qe (u x);subst j;refine gA Z (aQ (by first|exact .inr Z|exact .inl Z) Z ?_);exact .nil _ _
 refine fj Z ac (jI ab Z Z Z Z Z Z Z fun A=>?_);by_cases j:l=[]
 .subst j;refine fj Z ac (kA ab Z Z Z Z Z Z Z Z (el2:=fun k=>Expr.c (([]:List Expr).getD k co)) Z ?_);refine gA Z (aQ (by first|exact .inr Z|exact .inl Z) Z ?_);exact .refl _
 .have y:0<l.length:=Qv.2 j;refine fj Z ac (jJ ab Z Z Z Z Z Z Z Z (by decide) Z (gQ Z) (by simp;omega) (by show((PT l.length).map _).length*88<=_;simp;omega) (by simp;omega) Z ?_);refine gA Z (dq (by first|exact .inr Z|exact .inl Z) Z Z ((eM l Expr.c)) ((by simp)))
theorem DK(l:List Expr)(hb:l.length<=10000000000)(h0:l≠ []):bD prog 92 [.iv (bN 7 l Expr.c)] [] (.sl 0 0 l.length 7) [(0,io (aF 7 l Expr.c))] 1:=by
 have x:0<l.length:=Qv.2 h0;refine au ab func92 Z (by decide) ntmps92 Z (by simp) ?_;refine fj Z ac (ie Z Z Z Z underlying122 Z fun b j=>?_);refine gA Z ?_;refine Pm (fun u=>?_) (fun u=>?_)
 .exact absurd (j u) (by omega)
 refine fj Z ac (jI ab Z Z Z Z Z Z Z fun y=>?_);refine fj Z ac (jJ ab Z Z Z Z Z Z Z Z (by decide) Z (gQ Z) (by simp;omega) (by show((PT l.length).map _).length*88<=_;simp;omega) (by simp;omega) Z ?_);refine gA Z (aY [1] (by first|exact .inr Z|exact .inl Z) Z (wk Z Z Z ⟨.row (by simp),rfl,ac⟩ (hR Z (eM l Expr.c) Z ac) Z))
theorem Hf(l:List dG)(hb:l.length<=10000000000):Pure prog 49 [.iv (bN 3 l dG.c)] (.iv (bN 3 l dG.c)):=by
 refine ai ab func49 Z (by decide) ntmps49 Z (by simp) Z ?_;refine fj Z ac (ie Z Z Z Z underlying37 Z fun b u=>?_);refine gA Z ?_;refine Pm (fun x=>?_) (fun x=>?_)
 .have j:l=[]:=Qe (u x);subst j;refine gA Z (aQ (by first|exact .inr Z|exact .inl Z) Z ?_);exact .nil _ _
 refine fj Z ac (jI ab Z Z Z Z Z Z Z fun A=>?_);by_cases j:l=[]
 .subst j;refine fj Z ac (kA ab Z Z Z Z Z Z Z Z (el2:=fun k=>dG.c (([]:List dG).getD k co)) Z ?_);refine gA Z (aQ (by first|exact .inr Z|exact .inl Z) Z ?_);exact .refl _
 .have y:0<l.length:=Qv.2 j;refine fj Z ac (jJ ab Z Z Z Z Z Z Z Z (by decide) Z (gQ Z) (by simp;omega) (by show((PT l.length).map _).length*32<=_;simp;omega) (by simp;omega) Z ?_);refine gA Z (dq (by first|exact .inr Z|exact .inl Z) Z Z ((eM l dG.c)) ((by simp)))
theorem Hi(l:List Fact)(hb:l.length<=10000000000):Pure prog 54 [.iv (bN 2 l Fact.c)] (.iv (bN 2 l Fact.c)):=by
 refine ai ab func54 Z (by decide) ntmps54 Z (by simp) Z ?_;refine fj Z ac (ie Z Z Z Z underlying48 Z fun b u=>?_);refine gA Z ?_;refine Pm (fun x=>?_) (fun x=>?_)
 .have j:l=[]:=Qe (u x);subst j;refine gA Z (aQ (by first|exact .inr Z|exact .inl Z) Z ?_);exact .nil _ _
 refine fj Z ac (jI ab Z Z Z Z Z Z Z fun A=>?_);by_cases j:l=[]
 .subst j;refine fj Z ac (kA ab Z Z Z Z Z Z Z Z (el2:=fun k=>Fact.c (([]:List Fact).getD k co)) Z ?_);refine gA Z (aQ (by first|exact .inr Z|exact .inl Z) Z ?_);exact .refl _
 .have y:0<l.length:=Qv.2 j;refine fj Z ac (jJ ab Z Z Z Z Z Z Z Z (by decide) Z (gQ Z) (by simp;omega) (by show((PT l.length).map _).length*40<=_;simp;omega) (by simp;omega) Z ?_);refine gA Z (dq (by first|exact .inr Z|exact .inl Z) Z Z ((eM l Fact.c)) ((by simp)))
theorem DQ{α:Type}[Inhabited α]{l:List α}{g:α->List PV}{i:Nat}(hi:i<l.length):(l.map g).set (0+i) (g (l.getD i co))=l.map g:=by
 refine RC fun j=>?_;rw[PO,Rb];split
 .rename_i e;subst e;rw[am (by simpa using hi),Pp,Pk,Pl hi];rfl
 .rfl
theorem DR{α:Type}[Inhabited α]{l:List α}{g:α->List PV}{i:Nat}(hi:i<l.length):(l.map g)[0+i]? =io (g (l.getD i co)):=by
 rw[PO,Pp,Pk,Pl hi];rfl
theorem JT: ∀(n:Nat) (e:Expr),e.size<=n->e.size<=1000000000->Pure prog 72 [ag e.c] (ag e.c)
 |0,e,h,_=>absurd e.size_pos (by omega)
 |n+1,e,h,hb=>by
  have A:=e.size_eq;have y:=Expr.aG e.args;refine Al.Pure.le (aa:=[ag e.c]) (args:=[ag e.c1]) ?_ ⟨e.AZ,ac⟩;by_cases j:e.args=[]
  .refine ai ab func72 Z (by decide) ntmps72 Z (by simp) Z ?_;refine gA Z (aE (Hj e.args (by omega)) Z Z Z Z Z Z ?_);refine gA Z (ob (n:=0) ?_);refine gA Z ?_;refine Pm (fun u=>?_) (fun u=>?_)
   .exact absurd u (by simp[j])
   refine gA Z (aQ (by first|exact .inr Z|exact .inl Z) Z ?_);exact e.HV
  refine ai ab func72 Z (by decide) ntmps72 Z (by simp) Z ?_;refine gA Z (bQ [] (DK e.args (by omega) j) Z Z Z Z Z Z Z Z ?_);refine gA Z ?_;refine aJ 0 e.args.length (PA _) (fun i=>⟨[(1,.ptr 0 0),(2,.ptr 1 0),(10,pI e.args.length),(11,pI i)],[(0,io (.cells [.iv (iI e.kind),.iv (iS e.var),.iv (iI e.val.kind),.iv (iI e.val.num),.iv (iS e.val.sym),.iv (iI e.op),.sl 2 0 e.args.length 7])),(1,io (.cells [pI 0,pS Pq,pI 0,pI 0,pS Pq,pI 0,.iv (.v (.slice is 0 0))])),(2,io (aF 7 e.args Expr.c))],3⟩) (fun _=>True) [] ac
   (wk Z Z Z (bi (bi (bi (bi trivial)))) ⟨⟨_,rfl,.of_eq Z⟩,Pf Z,rfl,⟨⟨_,rfl,.of_eq Z⟩,Pf Z,rfl,hR Z (by rw[PQ];exact PK fun x _=>bd _ _) Z trivial⟩⟩ Z) fun i C _=>?_
  refine gA Z ?_;refine Pm (fun h1=>?_) (fun h1=>?_)
  .have h1:i<e.args.length:=by simpa using h1
   have B:=Expr.bT e.args i h1;have b:=DR (g:=fun x=>(Expr.c x).map PV.iv) h1;refine gM 16 Z (s5 (p:=ag (e.args.getD i co).c) 7 Z Z Z Z Z Z (ia ab Z Z Z Z b Z) ?_);refine gA Z (bh ab [] (Pure.rK (JT n (e.args.getD i co) (by omega) (by omega))) Z Z Z Z Z Z Z Z Z Z Z Z (by(repeat' (first|exact ac|exact rfl|exact ah.refl _|exact ah.bk (by assumption)|apply Pm))<;>first|omega|(simp only[Po];omega)|(simp;done)|(simp;omega)) Z (by(repeat' (first|exact ac|exact rfl|exact ah.refl _|exact ah.bk (by assumption)|apply Pm))<;>first|omega|(simp only[Po];omega)|(simp;done)|(simp;omega)) ?_);refine gA Z (lj ab Z Z Z Z Z (by first|trivial|(repeat' apply Pm)<;>trivial) (yO ab Z Z (i:=2) (sz:=7) (q:=0+i) Z Z Z Z (by simp;omega) Z Z Z) Z (by first|trivial|(repeat' apply Pm)<;>trivial) ?_);refine gA Z ⟨h1,ac,[],wk Z Z Z (bi (bi (bi (bi ac)))) ⟨⟨_,rfl,.of_eq Z⟩,Pf Z,rfl,⟨⟨_,rfl,.of_eq Z⟩,Pf Z,rfl,hR Z (DQ (g:=fun x=>(Expr.c x).map PV.iv) h1) Z ac⟩⟩ Z⟩
  .have h1:e.args.length<=i:=by simpa using h1
   refine gA Z (ln (.inr Z) Z (iC.DS 2 e.args Expr.c Z Z (by simp[PV.c6,dP]) (.done ?_)));have:ah (ag e.c1) (ag e.c):=e.HV;simp only[PV.dZ,p4,PO];exact this
theorem yX(e:Expr)(hb:e.size<=1000000000):Pure prog 72 [ag e.c] (ag e.c):=JT e.size e (Ps _) hb
theorem kN(f:Fact)(hb:f.args.length<=10000000000):Pure prog 26 [ag f.c] (ag f.c):=by
 refine ai ab func26 Z (by decide) ntmps26 Z (by simp) Z ?_;refine gA Z (bh ab [] (Pure.rK (Hf f.args hb)) Z Z Z Z Z Z Z Z Z Z Z Z (by(repeat' (first|exact ac|exact rfl|exact ah.refl _|exact ah.bk (by assumption)|apply Pm))<;>first|omega|(simp only[Po];omega)|(simp;done)|(simp;omega)) Z (by(repeat' (first|exact ac|exact rfl|exact ah.refl _|exact ah.bk (by assumption)|apply Pm))<;>first|omega|(simp only[Po];omega)|(simp;done)|(simp;omega)) ?_);refine gA Z (aQ (by first|exact .inr Z|exact .inl Z) Z (.of_eq ?_));rfl
abbrev kF:KC:= .fl fz
abbrev OC(f:Fact):PV:=kF.pk (bu f)
theorem aU(a0:an): ∀(args:List dG),args.length<=8->
  ([pS a0,pI args.length]++(aK fa.zero).drop 2).take 2++((PT args.length).map fun k=>(dG.c (args.getD k co)).map PV.iv).flatten++([pS a0,pI args.length]++(aK fa.zero).drop 2).drop (2+((PT args.length).map fun k=>(dG.c (args.getD k co)).map PV.iv).length*3)
   =(FK.vs fz (bu ⟨a0,args⟩)).map fun v=>PV.iv (.v v)
 | [],_=>rfl
 | [_],_=>rfl
 | [_,_],_=>rfl
 | [_,_,_],_=>rfl
 | [_,_,_,_],_=>rfl
 | [_,_,_,_,_],_=>rfl
 | [_,_,_,_,_,_],_=>rfl
 | [_,_,_,_,_,_,_],_=>rfl
 | [_,_,_,_,_,_,_,_],_=>rfl
 |_::_::_::_::_::_::_::_::_::_,h=>by simp at h
theorem DE(f:Fact)(hb:f.args.length<=8):Pure prog 46 [ag f.c] (.bq [OC f,pB jp]):=by
 refine ai ab func46 Z (by decide) ntmps46 Z (by simp) Z ?_;refine gA Z ?_;refine Pm (fun h1=>?_) (fun h1=>?_)
 .exact absurd h1 (by simp;omega)
 refine gA Z (s5 (p:= .mP 2 2 8) 1 Z Z Z Z Z Z (IG ab Z Z Z Z Z) ?_);refine gA Z (lj ab Z Z Z Z Z (by(repeat' (first|exact ac|exact rfl|exact ah.refl _|exact ah.bk (by assumption)|apply Pm))<;>first|omega|(simp only[Po];omega)|(simp;done)|(simp;omega)) (Fk ab Z Z Z Z Z Z Z (gQ Z) (fun e b=>by obtain⟨k,_,rfl⟩:=PW.1 b;rfl) (by simp;omega) (by show 2+_*3<=26;simp;omega) Z) Z (by(repeat' (first|exact ac|exact rfl|exact ah.refl _|exact ah.bk (by assumption)|apply Pm))<;>first|omega|(simp only[Po];omega)|(simp;done)|(simp;omega)) ?_)
 first
  |(refine gM 1 Z ?_;refine ae (L:=[]) (t:=⟨[(2,.ptr 1 0),(4,.ptr 2 0)],[(1,io (.cells (aK fa.zero))),(2,io (aw ((FK.vs fz (bu f)).map IV.v)))],3⟩) (wk Z Z Z (bi (bi ac)) ⟨⟨_,rfl,.of_eq Z⟩,Pf Z,rfl,hC Z (aU f.rel f.args hb) Z ac⟩ Z) ?_)
  |(refine gM 2 Z ?_;refine ae (L:=[]) (t:=⟨[(2,.ptr 1 0),(4,.ptr 2 0)],[(1,io (.cells (aK fa.zero))),(2,io (aw ((FK.vs fz (bu f)).map IV.v)))],3⟩) (wk Z Z Z (bi (bi ac)) ⟨⟨_,rfl,.of_eq Z⟩,Pf Z,rfl,hC Z (aU f.rel f.args hb) Z ac⟩ Z) ?_)
  |(refine gM 3 Z ?_;refine ae (L:=[]) (t:=⟨[(2,.ptr 1 0),(4,.ptr 2 0)],[(1,io (.cells (aK fa.zero))),(2,io (aw ((FK.vs fz (bu f)).map IV.v)))],3⟩) (wk Z Z Z (bi (bi ac)) ⟨⟨_,rfl,.of_eq Z⟩,Pf Z,rfl,hC Z (aU f.rel f.args hb) Z ac⟩ Z) ?_)
  |(refine gM 4 Z ?_;refine ae (L:=[]) (t:=⟨[(2,.ptr 1 0),(4,.ptr 2 0)],[(1,io (.cells (aK fa.zero))),(2,io (aw ((FK.vs fz (bu f)).map IV.v)))],3⟩) (wk Z Z Z (bi (bi ac)) ⟨⟨_,rfl,.of_eq Z⟩,Pf Z,rfl,hC Z (aU f.rel f.args hb) Z ac⟩ Z) ?_)
  |(refine gM 5 Z ?_;refine ae (L:=[]) (t:=⟨[(2,.ptr 1 0),(4,.ptr 2 0)],[(1,io (.cells (aK fa.zero))),(2,io (aw ((FK.vs fz (bu f)).map IV.v)))],3⟩) (wk Z Z Z (bi (bi ac)) ⟨⟨_,rfl,.of_eq Z⟩,Pf Z,rfl,hC Z (aU f.rel f.args hb) Z ac⟩ Z) ?_)
  |(refine gM 6 Z ?_;refine ae (L:=[]) (t:=⟨[(2,.ptr 1 0),(4,.ptr 2 0)],[(1,io (.cells (aK fa.zero))),(2,io (aw ((FK.vs fz (bu f)).map IV.v)))],3⟩) (wk Z Z Z (bi (bi ac)) ⟨⟨_,rfl,.of_eq Z⟩,Pf Z,rfl,hC Z (aU f.rel f.args hb) Z ac⟩ Z) ?_)
  |(refine gM 7 Z ?_;refine ae (L:=[]) (t:=⟨[(2,.ptr 1 0),(4,.ptr 2 0)],[(1,io (.cells (aK fa.zero))),(2,io (aw ((FK.vs fz (bu f)).map IV.v)))],3⟩) (wk Z Z Z (bi (bi ac)) ⟨⟨_,rfl,.of_eq Z⟩,Pf Z,rfl,hC Z (aU f.rel f.args hb) Z ac⟩ Z) ?_)
  |(refine gM 8 Z ?_;refine ae (L:=[]) (t:=⟨[(2,.ptr 1 0),(4,.ptr 2 0)],[(1,io (.cells (aK fa.zero))),(2,io (aw ((FK.vs fz (bu f)).map IV.v)))],3⟩) (wk Z Z Z (bi (bi ac)) ⟨⟨_,rfl,.of_eq Z⟩,Pf Z,rfl,hC Z (aU f.rel f.args hb) Z ac⟩ Z) ?_)
  |(refine gM 9 Z ?_;refine ae (L:=[]) (t:=⟨[(2,.ptr 1 0),(4,.ptr 2 0)],[(1,io (.cells (aK fa.zero))),(2,io (aw ((FK.vs fz (bu f)).map IV.v)))],3⟩) (wk Z Z Z (bi (bi ac)) ⟨⟨_,rfl,.of_eq Z⟩,Pf Z,rfl,hC Z (aU f.rel f.args hb) Z ac⟩ Z) ?_)
  |(refine gM 10 Z ?_;refine ae (L:=[]) (t:=⟨[(2,.ptr 1 0),(4,.ptr 2 0)],[(1,io (.cells (aK fa.zero))),(2,io (aw ((FK.vs fz (bu f)).map IV.v)))],3⟩) (wk Z Z Z (bi (bi ac)) ⟨⟨_,rfl,.of_eq Z⟩,Pf Z,rfl,hC Z (aU f.rel f.args hb) Z ac⟩ Z) ?_)
  |(refine gM 11 Z ?_;refine ae (L:=[]) (t:=⟨[(2,.ptr 1 0),(4,.ptr 2 0)],[(1,io (.cells (aK fa.zero))),(2,io (aw ((FK.vs fz (bu f)).map IV.v)))],3⟩) (wk Z Z Z (bi (bi ac)) ⟨⟨_,rfl,.of_eq Z⟩,Pf Z,rfl,hC Z (aU f.rel f.args hb) Z ac⟩ Z) ?_)
  |(refine gM 12 Z ?_;refine ae (L:=[]) (t:=⟨[(2,.ptr 1 0),(4,.ptr 2 0)],[(1,io (.cells (aK fa.zero))),(2,io (aw ((FK.vs fz (bu f)).map IV.v)))],3⟩) (wk Z Z Z (bi (bi ac)) ⟨⟨_,rfl,.of_eq Z⟩,Pf Z,rfl,hC Z (aU f.rel f.args hb) Z ac⟩ Z) ?_)
  |(refine gM 13 Z ?_;refine ae (L:=[]) (t:=⟨[(2,.ptr 1 0),(4,.ptr 2 0)],[(1,io (.cells (aK fa.zero))),(2,io (aw ((FK.vs fz (bu f)).map IV.v)))],3⟩) (wk Z Z Z (bi (bi ac)) ⟨⟨_,rfl,.of_eq Z⟩,Pf Z,rfl,hC Z (aU f.rel f.args hb) Z ac⟩ Z) ?_)
  |(refine gM 14 Z ?_;refine ae (L:=[]) (t:=⟨[(2,.ptr 1 0),(4,.ptr 2 0)],[(1,io (.cells (aK fa.zero))),(2,io (aw ((FK.vs fz (bu f)).map IV.v)))],3⟩) (wk Z Z Z (bi (bi ac)) ⟨⟨_,rfl,.of_eq Z⟩,Pf Z,rfl,hC Z (aU f.rel f.args hb) Z ac⟩ Z) ?_)
  |(refine gM 15 Z ?_;refine ae (L:=[]) (t:=⟨[(2,.ptr 1 0),(4,.ptr 2 0)],[(1,io (.cells (aK fa.zero))),(2,io (aw ((FK.vs fz (bu f)).map IV.v)))],3⟩) (wk Z Z Z (bi (bi ac)) ⟨⟨_,rfl,.of_eq Z⟩,Pf Z,rfl,hC Z (aU f.rel f.args hb) Z ac⟩ Z) ?_)
  |(refine gM 16 Z ?_;refine ae (L:=[]) (t:=⟨[(2,.ptr 1 0),(4,.ptr 2 0)],[(1,io (.cells (aK fa.zero))),(2,io (aw ((FK.vs fz (bu f)).map IV.v)))],3⟩) (wk Z Z Z (bi (bi ac)) ⟨⟨_,rfl,.of_eq Z⟩,Pf Z,rfl,hC Z (aU f.rel f.args hb) Z ac⟩ Z) ?_)
  |(refine gM 17 Z ?_;refine ae (L:=[]) (t:=⟨[(2,.ptr 1 0),(4,.ptr 2 0)],[(1,io (.cells (aK fa.zero))),(2,io (aw ((FK.vs fz (bu f)).map IV.v)))],3⟩) (wk Z Z Z (bi (bi ac)) ⟨⟨_,rfl,.of_eq Z⟩,Pf Z,rfl,hC Z (aU f.rel f.args hb) Z ac⟩ Z) ?_)
  |(refine gM 18 Z ?_;refine ae (L:=[]) (t:=⟨[(2,.ptr 1 0),(4,.ptr 2 0)],[(1,io (.cells (aK fa.zero))),(2,io (aw ((FK.vs fz (bu f)).map IV.v)))],3⟩) (wk Z Z Z (bi (bi ac)) ⟨⟨_,rfl,.of_eq Z⟩,Pf Z,rfl,hC Z (aU f.rel f.args hb) Z ac⟩ Z) ?_)
  |(refine gM 19 Z ?_;refine ae (L:=[]) (t:=⟨[(2,.ptr 1 0),(4,.ptr 2 0)],[(1,io (.cells (aK fa.zero))),(2,io (aw ((FK.vs fz (bu f)).map IV.v)))],3⟩) (wk Z Z Z (bi (bi ac)) ⟨⟨_,rfl,.of_eq Z⟩,Pf Z,rfl,hC Z (aU f.rel f.args hb) Z ac⟩ Z) ?_)
  |(refine gM 20 Z ?_;refine ae (L:=[]) (t:=⟨[(2,.ptr 1 0),(4,.ptr 2 0)],[(1,io (.cells (aK fa.zero))),(2,io (aw ((FK.vs fz (bu f)).map IV.v)))],3⟩) (wk Z Z Z (bi (bi ac)) ⟨⟨_,rfl,.of_eq Z⟩,Pf Z,rfl,hC Z (aU f.rel f.args hb) Z ac⟩ Z) ?_)
  |(refine gM 21 Z ?_;refine ae (L:=[]) (t:=⟨[(2,.ptr 1 0),(4,.ptr 2 0)],[(1,io (.cells (aK fa.zero))),(2,io (aw ((FK.vs fz (bu f)).map IV.v)))],3⟩) (wk Z Z Z (bi (bi ac)) ⟨⟨_,rfl,.of_eq Z⟩,Pf Z,rfl,hC Z (aU f.rel f.args hb) Z ac⟩ Z) ?_)
  |(refine gM 22 Z ?_;refine ae (L:=[]) (t:=⟨[(2,.ptr 1 0),(4,.ptr 2 0)],[(1,io (.cells (aK fa.zero))),(2,io (aw ((FK.vs fz (bu f)).map IV.v)))],3⟩) (wk Z Z Z (bi (bi ac)) ⟨⟨_,rfl,.of_eq Z⟩,Pf Z,rfl,hC Z (aU f.rel f.args hb) Z ac⟩ Z) ?_)
  |(refine gM 23 Z ?_;refine ae (L:=[]) (t:=⟨[(2,.ptr 1 0),(4,.ptr 2 0)],[(1,io (.cells (aK fa.zero))),(2,io (aw ((FK.vs fz (bu f)).map IV.v)))],3⟩) (wk Z Z Z (bi (bi ac)) ⟨⟨_,rfl,.of_eq Z⟩,Pf Z,rfl,hC Z (aU f.rel f.args hb) Z ac⟩ Z) ?_)
  |(refine gM 24 Z ?_;refine ae (L:=[]) (t:=⟨[(2,.ptr 1 0),(4,.ptr 2 0)],[(1,io (.cells (aK fa.zero))),(2,io (aw ((FK.vs fz (bu f)).map IV.v)))],3⟩) (wk Z Z Z (bi (bi ac)) ⟨⟨_,rfl,.of_eq Z⟩,Pf Z,rfl,hC Z (aU f.rel f.args hb) Z ac⟩ Z) ?_)
  |(refine gM 25 Z ?_;refine ae (L:=[]) (t:=⟨[(2,.ptr 1 0),(4,.ptr 2 0)],[(1,io (.cells (aK fa.zero))),(2,io (aw ((FK.vs fz (bu f)).map IV.v)))],3⟩) (wk Z Z Z (bi (bi ac)) ⟨⟨_,rfl,.of_eq Z⟩,Pf Z,rfl,hC Z (aU f.rel f.args hb) Z ac⟩ Z) ?_)
  |(refine gM 26 Z ?_;refine ae (L:=[]) (t:=⟨[(2,.ptr 1 0),(4,.ptr 2 0)],[(1,io (.cells (aK fa.zero))),(2,io (aw ((FK.vs fz (bu f)).map IV.v)))],3⟩) (wk Z Z Z (bi (bi ac)) ⟨⟨_,rfl,.of_eq Z⟩,Pf Z,rfl,hC Z (aU f.rel f.args hb) Z ac⟩ Z) ?_)
  |(refine gM 27 Z ?_;refine ae (L:=[]) (t:=⟨[(2,.ptr 1 0),(4,.ptr 2 0)],[(1,io (.cells (aK fa.zero))),(2,io (aw ((FK.vs fz (bu f)).map IV.v)))],3⟩) (wk Z Z Z (bi (bi ac)) ⟨⟨_,rfl,.of_eq Z⟩,Pf Z,rfl,hC Z (aU f.rel f.args hb) Z ac⟩ Z) ?_)
  |(refine gM 28 Z ?_;refine ae (L:=[]) (t:=⟨[(2,.ptr 1 0),(4,.ptr 2 0)],[(1,io (.cells (aK fa.zero))),(2,io (aw ((FK.vs fz (bu f)).map IV.v)))],3⟩) (wk Z Z Z (bi (bi ac)) ⟨⟨_,rfl,.of_eq Z⟩,Pf Z,rfl,hC Z (aU f.rel f.args hb) Z ac⟩ Z) ?_)
  |(refine gM 29 Z ?_;refine ae (L:=[]) (t:=⟨[(2,.ptr 1 0),(4,.ptr 2 0)],[(1,io (.cells (aK fa.zero))),(2,io (aw ((FK.vs fz (bu f)).map IV.v)))],3⟩) (wk Z Z Z (bi (bi ac)) ⟨⟨_,rfl,.of_eq Z⟩,Pf Z,rfl,hC Z (aU f.rel f.args hb) Z ac⟩ Z) ?_)
 refine gA Z (aQ (by first|exact .inr Z|exact .inl Z) Z (.of_eq ?_));rfl
theorem Lh(f:Fact)(hb:8<f.args.length):Pure prog 46 [ag f.c] (.bq [.agg (aK fa.zero),pB kw]):=by
 refine ai ab func46 Z (by decide) ntmps46 Z (by simp) Z ?_;refine gA Z ?_;refine Pm (fun h1=>?_) (fun h1=>?_)
 .refine gA Z (aQ (by first|exact .inr Z|exact .inl Z) Z (.of_eq ?_));rfl
 .exact absurd h1 (by simp;omega)
section
def Fact.z:Fact:=⟨Pq,[]⟩
def Bn(f:Fact):IV:= .agg f.c
def E0:Value:= .agg #[.string Pq,.slice is 0 0]
def valOf:List IV->dG
 | [.v (.int _ k),.v (.int _ n),.v (.string s)]=>⟨k,n,s⟩
 |_=>⟨0,0,Pq⟩
def Mg:PV->Fact
 | .agg [.iv (.v (.string s)),.iv (.ct _ n el)]=>⟨s,(PT n).map fun k=>valOf (el k)⟩
 |_=>Fact.z
def yy(x:bP Fact):IV:= .agg (en x)
def Iq:Value:= .agg #[.bool kw,.string Pq,.slice is 0 0]
def bP.z:bP Fact:=(kw,Fact.z)
def Og:PV->bP Fact
 | .agg [.iv (.v (.bool b)),p,q]=>(b,Mg (.agg [p,q]))
 |_=>bP.z
abbrev FM:=List (kF.K×Fact)
abbrev CM:=List (kF.K×bP Fact)
abbrev aS(m:FM):AO:= .map kF Bn Fact.z E0 Mg m
abbrev Fp(m:CM):AO:= .map kF yy bP.z Iq Og m
abbrev yx(m:CM):IV:= .dQ kF yy bP.z Iq m
theorem C7(l:List dG):(PT l.length).map (fun k=>valOf (dG.c (l.getD k co)))=l:=by
 apply RC;intro k;by_cases hk:k<l.length
 .simp[hk,valOf,dG.c]
 .simp[hk]
theorem E6(f:Fact):Mg (ag f.c)=f:=by
 show(⟨f.rel,(PT f.args.length).map fun k=>valOf (dG.c (f.args.getD k co))⟩:Fact)=f;rw[C7]
theorem J3(x:bP Fact):Og (ag (en x))=x:=by
 show(x.1,Mg (ag x.2.c))=x;rw[E6]
theorem E1(f:Fact):ah (ag f.c) (.iv (Bn (Mg (ag f.c)))):=by rw[E6];exact Oj _
theorem Ir(x:bP Fact):ah (ag (en x)) (.iv (yy (Og (ag (en x))))):=by rw[J3];exact Oj _
theorem EZ: ∀M,IR M (Bn Fact.z) E0:=fun M=>by
 refine .agg _ _ Z fun j p b=>?_
 match j,b with
 |0,b=>cases b;exact .v _
 |1,b=>cases b;exact .fp _ _ _ _
 |j+2,b=>simp[Fact.c]at b
theorem Ip: ∀M,IR M (yy bP.z) Iq:=fun M=>by
 refine .agg _ _ Z fun j p b=>?_
 match j,b with
 |0,b=>cases b;exact .v _
 |1,b=>cases b;exact .v _
 |2,b=>cases b;exact .fp _ _ _ _
 |j+3,b=>simp[en,Fact.c]at b
abbrev bj(p:Prog)(n:Nat)(i:Nat):AO:= .cells [.mp i,.iv (bN 4 p.aR Decl.c),.iv (bN 5 p.rules ax.c),pI n]
abbrev Oy:PV:= .iv (.v (.pointer is))
section
variable (p:Prog) (n:Nat) (m:FM)
abbrev bO:List AO:=[aS m,bj p n 0]
abbrev bH:AH:=[(0,io (aS m)),(1,io (bj p n 0))]
theorem DF:bD prog 28 [.ptr 1 0] (bO p n m) (.ptr 1 0) (bH p n m) 2:=by
 refine au ab func28 Z (by decide) ntmps28 Z (by simp) ?_;refine gA Z ?_;refine Pm (fun h1=>?_) (fun h1=>?_)
 .exact absurd h1 (by decide)
 refine gA Z (aY [] (by first|exact .inr Z|exact .inl Z) Z (wk Z Z Z (bi ac) (hM Z Z Z ⟨⟨_,rfl,.of_eq Z⟩,Pf Z,rfl,ac⟩) Z))
theorem Nj:bD prog 29 [.ptr 1 0] (bO p n m) (pI m.length) (bH p n m) 2:=by
 refine au ab func29 Z (by decide) ntmps29 Z (by simp) ?_;refine gA Z ?_;refine Pm (fun h1=>?_) (fun h1=>?_)
 .exact absurd h1 (by decide)
 refine gA Z (aY [] (by first|exact .inr Z|exact .inl Z) Z (wk Z Z Z (bi ac) (hM Z Z Z ⟨⟨_,rfl,.of_eq Z⟩,Pf Z,rfl,ac⟩) Z))
theorem iw:bD prog 12 [.ptr 1 0] (bO p n m) (pI m.length) (bH p n m) 2:=by
 refine au ab func12 Z (by decide) ntmps12 Z (by simp) ?_;refine gA Z (bQ [0,1] (DF p n m) Z Z Z Z Z Z Z Z ?_);refine gA Z (bQ [0,1] (Nj p n m) Z Z Z Z Z Z Z Z ?_);refine gA Z (aY [] (by first|exact .inr Z|exact .inl Z) Z (wk Z Z Z (bi ac) (hM Z Z Z ⟨⟨_,rfl,.of_eq Z⟩,Pf Z,rfl,ac⟩) Z))
theorem Aw:bD prog 13 [.ptr 1 0] (bO p n m) (pI n) (bH p n m) 2:=by
 refine au ab func13 Z (by decide) ntmps13 Z (by simp) ?_;refine gA Z ?_;refine Pm (fun h1=>?_) (fun h1=>?_)
 .exact absurd h1 (by decide)
 refine gA Z (aY [] (by first|exact .inr Z|exact .inl Z) Z (wk Z Z Z (bi ac) (hM Z Z Z ⟨⟨_,rfl,.of_eq Z⟩,Pf Z,rfl,ac⟩) Z))
def hasB(f:Fact):Bool:=lc (f.args.length<=8)&&cU kF m (bu f)
theorem Nn(f:Fact):bD prog 30 [.ptr 1 0,ag f.c] (bO p n m) (pB (hasB m f)) (bH p n m) 2:=by
 by_cases j:f.args.length<=8
 .have e:hasB m f=cU kF m (bu f):=by rw[hasB,decide_eq_true j,RP]
  rw[e];refine au ab func30 Z (by decide) ntmps30 Z (by simp) ?_;refine gA Z (aE (DE f j) Z Z Z Z Z Z ?_);refine gA Z ?_;refine Pm (fun h1=>?_) (fun h1=>?_);rotate_left
  .exact absurd h1 (by decide)
  refine gA Z ?_;refine Pm (fun b=>?_) (fun b=>?_)
  .exact absurd b (by decide)
  refine gA Z (aY [] (by first|exact .inr Z|exact .inl Z) Z (wk Z Z Z (bi ac) (hM Z Z Z ⟨⟨_,rfl,.of_eq Z⟩,Pf Z,rfl,ac⟩) Z))
 .have e:hasB m f=kw:=by rw[hasB,decide_eq_false j,Q5]
  rw[e];refine au ab func30 Z (by decide) ntmps30 Z (by simp) ?_;refine gA Z (aE (Lh f (by omega)) Z Z Z Z Z Z ?_);refine gA Z ?_;refine Pm (fun h1=>?_) (fun h1=>?_);rotate_left
  .exact absurd h1 (by decide)
  refine gA Z ?_;refine Pm (fun b=>?_) (fun b=>?_);rotate_left
  .exact absurd b (by decide)
  refine gA Z (aY [] (by first|exact .inr Z|exact .inl Z) Z (wk Z Z Z (bi ac) (hM Z Z Z ⟨⟨_,rfl,.of_eq Z⟩,Pf Z,rfl,ac⟩) Z))
theorem No(f:Fact):bD prog 14 [.ptr 1 0,ag f.c] (bO p n m) (pB (hasB m f)) (bH p n m) 2:=by
 refine au ab func14 Z (by decide) ntmps14 Z (by simp) ?_;refine gA Z (bh ab [0,1] (DF p n m) Z Z Z Z Z Z Z Z Z Z Z Z (by(repeat' (first|exact ac|exact rfl|exact ah.refl _|exact ah.bk (by assumption)|apply Pm))<;>first|omega|(simp only[Po];omega)|(simp;done)|(simp;omega)) Z (by(repeat' (first|exact ac|exact rfl|exact ah.refl _|exact ah.bk (by assumption)|apply Pm))<;>first|omega|(simp only[Po];omega)|(simp;done)|(simp;omega)) ?_);refine gA Z (bh ab [0,1] (Nn p n m f) Z Z Z Z Z Z Z Z Z Z Z Z (by(repeat' (first|exact ac|exact rfl|exact ah.refl _|exact ah.bk (by assumption)|apply Pm))<;>first|omega|(simp only[Po];omega)|(simp;done)|(simp;omega)) Z (by(repeat' (first|exact ac|exact rfl|exact ah.refl _|exact ah.bk (by assumption)|apply Pm))<;>first|omega|(simp only[Po];omega)|(simp;done)|(simp;omega)) ?_);refine gA Z (aY [] (by first|exact .inr Z|exact .inl Z) Z (wk Z Z Z (bi ac) (hM Z Z Z ⟨⟨_,rfl,.of_eq Z⟩,Pf Z,rfl,ac⟩) Z))
end
end
end Go.Proofs.YtllkaddcplhklaaGreatDoor
namespace Go.Proofs
open Go.Shelf
def Tryz.yc:Go.Shelf.Ren:=⟨fun|6=>50|15=>76|14=>75|28=>103|29=>104|20=>95|21=>96|22=>97|23=>98|24=>99|25=>100|26=>101|27=>102|46=>142|47=>143|48=>144|49=>145|50=>146|57=>182|n=>n,fun|22=>36|24=>42|25=>114|3=>3|39=>147|0=>0|53=>175|55=>177|4=>4|46=>168|45=>167|50=>172|5=>5|9=>9|66=>210|70=>214|76=>258|77=>259|n=>n,fun|n=>n⟩
theorem Tryz.A1:Go.Proofs.SlLaysF0.n6 Tryz.prog Tryz.yc:={
 mixed:=by kernel_rfl
 f6:=⟨Tryz.f50.name,by decide,Tryz.func50.trans (congrArg io (by kernel_rfl))⟩
 f14:=⟨Tryz.f75.name,by decide,Tryz.func75.trans (congrArg io (by kernel_rfl))⟩
 f15:=Tryz.func76.trans (congrArg io (by kernel_rfl))
 f20:=⟨Tryz.f95.name,by decide,Tryz.func95.trans (congrArg io (by kernel_rfl))⟩
 f21:=⟨Tryz.f96.name,by decide,Tryz.func96.trans (congrArg io (by kernel_rfl))⟩
 f22:=⟨Tryz.f97.name,by decide,Tryz.func97.trans (congrArg io (by kernel_rfl))⟩
 f23:=⟨Tryz.f98.name,by decide,Tryz.func98.trans (congrArg io (by kernel_rfl))⟩
 f24:=⟨Tryz.f99.name,by decide,Tryz.func99.trans (congrArg io (by kernel_rfl))⟩
 f25:=⟨Tryz.f100.name,by decide,Tryz.func100.trans (congrArg io (by kernel_rfl))⟩
 f26:=⟨Tryz.f101.name,by decide,Tryz.func101.trans (congrArg io (by kernel_rfl))⟩
 f27:=⟨Tryz.f102.name,by decide,Tryz.func102.trans (congrArg io (by kernel_rfl))⟩
 f28:=Tryz.func103.trans (congrArg io (by kernel_rfl))
 f29:=Tryz.func104.trans (congrArg io (by kernel_rfl))
 f46:=⟨Tryz.f142.name,by decide,Tryz.func142.trans (congrArg io (by kernel_rfl))⟩
 f47:=Tryz.func143.trans (congrArg io (by kernel_rfl))
 f48:=Tryz.func144.trans (congrArg io (by kernel_rfl))
 f49:=⟨Tryz.f145.name,by decide,Tryz.func145.trans (congrArg io (by kernel_rfl))⟩
 f50:=⟨Tryz.f146.name,by decide,Tryz.func146.trans (congrArg io (by kernel_rfl))⟩
 f57:=⟨Tryz.f182.name,by decide,Tryz.func182.trans (congrArg io (by kernel_rfl))⟩
 t0:=Tryz.underlying0
 a0:=Tryz.isAgg0
 z0:=Tryz.sizeOf0
 v0:=Tryz.zeroValue0
 t3:=Tryz.underlying3
 a3:=Tryz.isAgg3
 z3:=Tryz.sizeOf3
 v3:=Tryz.zeroValue3
 t4:=Tryz.underlying4
 a4:=Tryz.isAgg4
 z4:=Tryz.sizeOf4
 v4:=Tryz.zeroValue4
 t5:=Tryz.underlying5
 a5:=Tryz.isAgg5
 z5:=Tryz.sizeOf5
 v5:=Tryz.zeroValue5
 t9:=Tryz.underlying9
 a9:=Tryz.isAgg9
 z9:=Tryz.sizeOf9
 v9:=Tryz.zeroValue9
 t22:=Tryz.underlying36
 a22:=Tryz.isAgg36
 z22:=Tryz.sizeOf36
 v22:=Tryz.zeroValue36
 t25:=Tryz.underlying114
 a25:=Tryz.isAgg114
 z25:=Tryz.sizeOf114
 v25:=Tryz.zeroValue114
 t39:=Tryz.underlying147
 a39:=Tryz.isAgg147
 z39:=Tryz.sizeOf147
 v39:=Tryz.zeroValue147
 t45:=Tryz.underlying167
 a45:=Tryz.isAgg167
 z45:=Tryz.sizeOf167
 v45:=Tryz.zeroValue167
 t46:=Tryz.underlying168
 a46:=Tryz.isAgg168
 z46:=Tryz.sizeOf168
 v46:=Tryz.zeroValue168
 t50:=Tryz.underlying172
 a50:=Tryz.isAgg172
 z50:=Tryz.sizeOf172
 v50:=Tryz.zeroValue172
 t53:=Tryz.underlying175
 a53:=Tryz.isAgg175
 z53:=Tryz.sizeOf175
 v53:=Tryz.zeroValue175
 t55:=Tryz.underlying177
 a55:=Tryz.isAgg177
 z55:=Tryz.sizeOf177
 v55:=Tryz.zeroValue177
 t66:=Tryz.underlying210
 a66:=Tryz.isAgg210
 z66:=Tryz.sizeOf210
 v66:=Tryz.zeroValue210
 t70:=Tryz.underlying214
 a70:=Tryz.isAgg214
 z70:=Tryz.sizeOf214
 v70:=Tryz.zeroValue214
 t76:=Tryz.underlying258
 a76:=Tryz.isAgg258
 z76:=Tryz.sizeOf258
 v76:=Tryz.zeroValue258
 t77:=Tryz.underlying259
 a77:=Tryz.isAgg259
 z77:=Tryz.sizeOf259
 v77:=Tryz.zeroValue259}
def Tryz.yb:Go.Shelf.Ren:=⟨fun|6=>52|15=>76|14=>77|28=>103|29=>104|20=>105|21=>106|22=>107|23=>108|24=>109|25=>110|26=>111|27=>112|46=>147|47=>143|48=>144|49=>148|50=>149|57=>183|n=>n,fun|22=>48|24=>39|25=>85|3=>3|39=>147|0=>0|53=>175|55=>177|4=>4|46=>168|45=>167|50=>172|5=>5|9=>9|66=>210|70=>214|76=>258|77=>259|n=>n,fun|n=>n⟩
theorem Tryz.A0:Go.Proofs.SlLaysF0.n6 Tryz.prog Tryz.yb:={
 mixed:=by kernel_rfl
 f6:=⟨Tryz.f52.name,by decide,Tryz.func52.trans (congrArg io (by kernel_rfl))⟩
 f14:=⟨Tryz.f77.name,by decide,Tryz.func77.trans (congrArg io (by kernel_rfl))⟩
 f15:=Tryz.func76.trans (congrArg io (by kernel_rfl))
 f20:=⟨Tryz.f105.name,by decide,Tryz.func105.trans (congrArg io (by kernel_rfl))⟩
 f21:=⟨Tryz.f106.name,by decide,Tryz.func106.trans (congrArg io (by kernel_rfl))⟩
 f22:=⟨Tryz.f107.name,by decide,Tryz.func107.trans (congrArg io (by kernel_rfl))⟩
 f23:=⟨Tryz.f108.name,by decide,Tryz.func108.trans (congrArg io (by kernel_rfl))⟩
 f24:=⟨Tryz.f109.name,by decide,Tryz.func109.trans (congrArg io (by kernel_rfl))⟩
 f25:=⟨Tryz.f110.name,by decide,Tryz.func110.trans (congrArg io (by kernel_rfl))⟩
 f26:=⟨Tryz.f111.name,by decide,Tryz.func111.trans (congrArg io (by kernel_rfl))⟩
 f27:=⟨Tryz.f112.name,by decide,Tryz.func112.trans (congrArg io (by kernel_rfl))⟩
 f28:=Tryz.func103.trans (congrArg io (by kernel_rfl))
 f29:=Tryz.func104.trans (congrArg io (by kernel_rfl))
 f46:=⟨Tryz.f147.name,by decide,Tryz.func147.trans (congrArg io (by kernel_rfl))⟩
 f47:=Tryz.func143.trans (congrArg io (by kernel_rfl))
 f48:=Tryz.func144.trans (congrArg io (by kernel_rfl))
 f49:=⟨Tryz.f148.name,by decide,Tryz.func148.trans (congrArg io (by kernel_rfl))⟩
 f50:=⟨Tryz.f149.name,by decide,Tryz.func149.trans (congrArg io (by kernel_rfl))⟩
 f57:=⟨Tryz.f183.name,by decide,Tryz.func183.trans (congrArg io (by kernel_rfl))⟩
 t0:=Tryz.underlying0
 a0:=Tryz.isAgg0
 z0:=Tryz.sizeOf0
 v0:=Tryz.zeroValue0
 t3:=Tryz.underlying3
 a3:=Tryz.isAgg3
 z3:=Tryz.sizeOf3
 v3:=Tryz.zeroValue3
 t4:=Tryz.underlying4
 a4:=Tryz.isAgg4
 z4:=Tryz.sizeOf4
 v4:=Tryz.zeroValue4
 t5:=Tryz.underlying5
 a5:=Tryz.isAgg5
 z5:=Tryz.sizeOf5
 v5:=Tryz.zeroValue5
 t9:=Tryz.underlying9
 a9:=Tryz.isAgg9
 z9:=Tryz.sizeOf9
 v9:=Tryz.zeroValue9
 t22:=Tryz.underlying48
 a22:=Tryz.isAgg48
 z22:=Tryz.sizeOf48
 v22:=Tryz.zeroValue48
 t25:=Tryz.underlying85
 a25:=Tryz.isAgg85
 z25:=Tryz.sizeOf85
 v25:=Tryz.zeroValue85
 t39:=Tryz.underlying147
 a39:=Tryz.isAgg147
 z39:=Tryz.sizeOf147
 v39:=Tryz.zeroValue147
 t45:=Tryz.underlying167
 a45:=Tryz.isAgg167
 z45:=Tryz.sizeOf167
 v45:=Tryz.zeroValue167
 t46:=Tryz.underlying168
 a46:=Tryz.isAgg168
 z46:=Tryz.sizeOf168
 v46:=Tryz.zeroValue168
 t50:=Tryz.underlying172
 a50:=Tryz.isAgg172
 z50:=Tryz.sizeOf172
 v50:=Tryz.zeroValue172
 t53:=Tryz.underlying175
 a53:=Tryz.isAgg175
 z53:=Tryz.sizeOf175
 v53:=Tryz.zeroValue175
 t55:=Tryz.underlying177
 a55:=Tryz.isAgg177
 z55:=Tryz.sizeOf177
 v55:=Tryz.zeroValue177
 t66:=Tryz.underlying210
 a66:=Tryz.isAgg210
 z66:=Tryz.sizeOf210
 v66:=Tryz.zeroValue210
 t70:=Tryz.underlying214
 a70:=Tryz.isAgg214
 z70:=Tryz.sizeOf214
 v70:=Tryz.zeroValue214
 t76:=Tryz.underlying258
 a76:=Tryz.isAgg258
 z76:=Tryz.sizeOf258
 v76:=Tryz.zeroValue258
 t77:=Tryz.underlying259
 a77:=Tryz.isAgg259
 z77:=Tryz.sizeOf259
 v77:=Tryz.zeroValue259}
theorem YtllkaddcplhklaaGreatDoor.Nb:Go.Al.Ab Tryz.prog 50 3:=
 ⟨fun enc hk h1 A hO g y x b0 a0 d w eg j hH b u=>AnyQ.slices_SortFunc Tryz.A1 3 (fun _=>Go.Al.eK (YtllkaddcplhklaaGreatDoor.ab 42 _ Z)) (fun _=>Go.Al.aL (YtllkaddcplhklaaGreatDoor.ab 42 _ Z)) enc hk h1 A hO g y x b0 a0 d w eg j hH b u,
  fun p a0 B w=>AnyF.slices_SortFunc_none Tryz.A1 p a0 B w⟩
theorem YtllkaddcplhklaaGreatDoor.Na:Go.Al.Ab Tryz.prog 52 2:=
 ⟨fun enc hk h1 A hO g y x b0 a0 d w eg j hH b u=>AnyQ.slices_SortFunc Tryz.A0 2 (fun _=>Go.Al.eK (YtllkaddcplhklaaGreatDoor.ab 39 _ Z)) (fun _=>Go.Al.aL (YtllkaddcplhklaaGreatDoor.ab 39 _ Z)) enc hk h1 A hO g y x b0 a0 d w eg j hH b u,
  fun p a0 B w=>AnyF.slices_SortFunc_none Tryz.A0 p a0 B w⟩
end Go.Proofs
namespace Go.Proofs.YtllkaddcplhklaaGreatDoor
open Go Go.Al Go.Proofs.Tryz Go.Bo
theorem BR{l u:List Fact}(hF:tQ l)(hp:l.Perm u)(hs:pj bb u)(j:l.length<=1000000000000):bD prog 52 [.sl 0 0 l.length 2,aA] [aF 2 l Fact.c] (.bq []) [(0,io (aF 2 u Fact.c))] 1:=
 uA Na (bf func52 Z (by decide)) (bf func34 Z (by decide)) (by decide) Fact.c bb (fun f=>f.args.length<=1000000000) (fun x y B C=>oH x y B C) (fun _=>rfl)
  (fun x c A=>(Px.1 A).elim (fun e=>by subst e;rfl) fun A=>by rw[Pw.1 A];rfl)
  (fun x _=>mS.H2 x) (fun x y z _ _ _=>mS.tr x y z) (fun x y z _ _ _=>mS.Od) l u hF (fun x _ y _ a b=>mS.Mc a b) hp (hs.imp fun{a b} h=>mS.asym h) j aA (fun M N U v h=>by
   cases h with
   |b5 _ _ _ f' c' h1 h2=>simp at h1 h2;simp[Qw h1.symm,Qw h2.symm])
theorem Dt{l u:List (bP Fact)}(hF: ∀x∈l,x.2.args.length<=1000000000)(hn:(l.map (·.2)).Nodup)(hp:l.Perm u)(hs:qj bb u)(j:l.length<=1000000000000):bD prog 50 [.sl 0 0 l.length 3,.b5 (.func 51) [] []] [aF 3 l en] (.bq []) [(0,io (aF 3 u en))] 1:=
 uA Nb (bf func50 Z (by decide)) (bf func51 Z (by decide)) (by decide) en (fun a b=>bb a.2 b.2) (fun f=>f.2.args.length<=1000000000) (fun x y A B=>Hk x y A B) (fun _=>rfl)
  (fun x c hc=>by
   rcases Px.1 hc with rfl|hc
   .rfl
   rcases Px.1 hc with rfl|hc
   .rfl
   .rw[Pw.1 hc];rfl)
  (fun x _=>mS.H2 x.2) (fun x y z _ _ _=>mS.tr x.2 y.2 z.2) (fun x y z _ _ _=>mS.Od) l u hF (fun x A y B a b=>by
   have e:=mS.Mc a b;have key: ∀{l:List (bP Fact)},(l.map (·.2)).Nodup->x∈l->y∈l->x=y:=by
    intro l
    induction l with
    |nil=>intro _ m;cases m
    |cons z r ih=>
     intro hn m1 m2;rw[Py,P0]at hn;rcases Px.1 m1 with e1|e1<;>rcases Px.1 m2 with e2|e2
     .exact e1.trans e2.symm
     .exact absurd (PW.2 ⟨_,e2,by rw[<-e,e1]⟩) hn.1
     .exact absurd (PW.2 ⟨_,e1,by rw[e,e2]⟩) hn.1
     .exact ih hn.2 e1 e2
   exact key hn A B) hp (hs.imp fun{a b} h=>mS.asym h) j _ (fun M N U v h=>by
   cases h with
   |b5 _ _ _ f' c' h1 h2=>simp at h1 h2;simp[Qw h1.symm,Qw h2.symm])
abbrev E3(m:FM)(j:Nat):Fact:=(m.getD j (bu Fact.z,Fact.z)).2
theorem EY{l b:List Fact}(h:tQ b)(hp:l.Perm b):tQ l:=fun f j=>h f (hp.mem_iff.1 j)
theorem He(p:Prog)(n:Nat){m:FM}{S:List Fact}(hk:cE bu m S)(hs:pj bb S)(hF:tQ S)(hl:S.length<=100000000):bD prog 31 [.ptr 1 0] (bO p n m) (.iv (bN 2 S Fact.c)) (bH p n m) 2:=by
 have G:=hk.len;have u:=hk.w5;refine au ab func31 Z (by decide) ntmps31 Z (by simp) ?_;refine gA Z ?_;refine Pm (fun C=>?_) (fun C=>?_)
 .exact absurd C (by decide)
 refine gM 12 Z (cz Z (uH ab Z Z Z Z Z Z (by decide)) ?_);rintro t ⟨bs,clock,hbl,hbn,hbc,rfl⟩;refine gM 2 Z (lh 3 2 Z ?_)
 refine gA Z (Bf m.length (fun vs=>⟨[(3,.sl 4 0 (vs.map (E3 m)).length 2),(12,.ptr 2 0)],[(0,io (.gI kF Bn Fact.z E0 Mg m bs clock)),(1,io (bj p n 0)),(2,io (.dO (.mp 0) clock (jP bs vs))),(4,io (aF 2 (vs.map (E3 m)) Fact.c))],5⟩) (fun _=>True) [3] ac
  (wk Z Z Z (bi (bi ac)) ⟨⟨_,rfl,.of_eq Z⟩,Pf Z,ac,⟨⟨_,rfl,.of_eq Z⟩,Pf Z,rfl,⟨⟨_,rfl,.of_eq Z⟩,Pf Z,rfl,hR Z Z Z ac⟩⟩⟩ Z) fun vs D v2 _=>?_)
 have J:=yJ D v2;refine gM 2 Z (cz Z (xX Z Z Z Z Z (by decide)) ?_);rintro t (⟨hall,rfl⟩|⟨q,x,b,hx,hb,hns,rfl⟩)
 .have y:(vs.map (E3 m)).Perm S:=by
   have:=((Eo (d:=(bu Fact.z,Fact.z)) hbl hbn D v2 hall).map (·.2)).trans u;rwa[PQ]at this
  have j:=y.length_eq;refine gA Z (bQ [4] (BR (EY hF y) y hs (by omega)) Z Z Z Z Z (by show[_]=[io (AO.cv _ (aF _ _ _))];rw[b3];rfl) Z Z ?_)
  first
   |(refine gM 1 Z ?_;refine ae (L:=[]) (t:=⟨[(3,.sl 4 0 S.length 2)],[(0,io (aS m)),(1,io (bj p n 0)),(4,io (aF 2 S Fact.c))],5⟩) (wk Z Z Z ⟨.row j,rfl,ac⟩ (ow Z Z Z ⟨⟨_,rfl,.of_eq Z⟩,Pf Z,rfl,hR Z (by rw[PQ];exact PK fun x _=>bd _ _) Z ac⟩) Z) ?_)
   |(refine gM 2 Z ?_;refine ae (L:=[]) (t:=⟨[(3,.sl 4 0 S.length 2)],[(0,io (aS m)),(1,io (bj p n 0)),(4,io (aF 2 S Fact.c))],5⟩) (wk Z Z Z ⟨.row j,rfl,ac⟩ (ow Z Z Z ⟨⟨_,rfl,.of_eq Z⟩,Pf Z,rfl,hR Z (by rw[PQ];exact PK fun x _=>bd _ _) Z ac⟩) Z) ?_)
   |(refine gM 3 Z ?_;refine ae (L:=[]) (t:=⟨[(3,.sl 4 0 S.length 2)],[(0,io (aS m)),(1,io (bj p n 0)),(4,io (aF 2 S Fact.c))],5⟩) (wk Z Z Z ⟨.row j,rfl,ac⟩ (ow Z Z Z ⟨⟨_,rfl,.of_eq Z⟩,Pf Z,rfl,hR Z (by rw[PQ];exact PK fun x _=>bd _ _) Z ac⟩) Z) ?_)
   |(refine gM 4 Z ?_;refine ae (L:=[]) (t:=⟨[(3,.sl 4 0 S.length 2)],[(0,io (aS m)),(1,io (bj p n 0)),(4,io (aF 2 S Fact.c))],5⟩) (wk Z Z Z ⟨.row j,rfl,ac⟩ (ow Z Z Z ⟨⟨_,rfl,.of_eq Z⟩,Pf Z,rfl,hR Z (by rw[PQ];exact PK fun x _=>bd _ _) Z ac⟩) Z) ?_)
   |(refine gM 5 Z ?_;refine ae (L:=[]) (t:=⟨[(3,.sl 4 0 S.length 2)],[(0,io (aS m)),(1,io (bj p n 0)),(4,io (aF 2 S Fact.c))],5⟩) (wk Z Z Z ⟨.row j,rfl,ac⟩ (ow Z Z Z ⟨⟨_,rfl,.of_eq Z⟩,Pf Z,rfl,hR Z (by rw[PQ];exact PK fun x _=>bd _ _) Z ac⟩) Z) ?_)
   |(refine gM 6 Z ?_;refine ae (L:=[]) (t:=⟨[(3,.sl 4 0 S.length 2)],[(0,io (aS m)),(1,io (bj p n 0)),(4,io (aF 2 S Fact.c))],5⟩) (wk Z Z Z ⟨.row j,rfl,ac⟩ (ow Z Z Z ⟨⟨_,rfl,.of_eq Z⟩,Pf Z,rfl,hR Z (by rw[PQ];exact PK fun x _=>bd _ _) Z ac⟩) Z) ?_)
   |(refine gM 7 Z ?_;refine ae (L:=[]) (t:=⟨[(3,.sl 4 0 S.length 2)],[(0,io (aS m)),(1,io (bj p n 0)),(4,io (aF 2 S Fact.c))],5⟩) (wk Z Z Z ⟨.row j,rfl,ac⟩ (ow Z Z Z ⟨⟨_,rfl,.of_eq Z⟩,Pf Z,rfl,hR Z (by rw[PQ];exact PK fun x _=>bd _ _) Z ac⟩) Z) ?_)
   |(refine gM 8 Z ?_;refine ae (L:=[]) (t:=⟨[(3,.sl 4 0 S.length 2)],[(0,io (aS m)),(1,io (bj p n 0)),(4,io (aF 2 S Fact.c))],5⟩) (wk Z Z Z ⟨.row j,rfl,ac⟩ (ow Z Z Z ⟨⟨_,rfl,.of_eq Z⟩,Pf Z,rfl,hR Z (by rw[PQ];exact PK fun x _=>bd _ _) Z ac⟩) Z) ?_)
   |(refine gM 9 Z ?_;refine ae (L:=[]) (t:=⟨[(3,.sl 4 0 S.length 2)],[(0,io (aS m)),(1,io (bj p n 0)),(4,io (aF 2 S Fact.c))],5⟩) (wk Z Z Z ⟨.row j,rfl,ac⟩ (ow Z Z Z ⟨⟨_,rfl,.of_eq Z⟩,Pf Z,rfl,hR Z (by rw[PQ];exact PK fun x _=>bd _ _) Z ac⟩) Z) ?_)
   |(refine gM 10 Z ?_;refine ae (L:=[]) (t:=⟨[(3,.sl 4 0 S.length 2)],[(0,io (aS m)),(1,io (bj p n 0)),(4,io (aF 2 S Fact.c))],5⟩) (wk Z Z Z ⟨.row j,rfl,ac⟩ (ow Z Z Z ⟨⟨_,rfl,.of_eq Z⟩,Pf Z,rfl,hR Z (by rw[PQ];exact PK fun x _=>bd _ _) Z ac⟩) Z) ?_)
   |(refine gM 11 Z ?_;refine ae (L:=[]) (t:=⟨[(3,.sl 4 0 S.length 2)],[(0,io (aS m)),(1,io (bj p n 0)),(4,io (aF 2 S Fact.c))],5⟩) (wk Z Z Z ⟨.row j,rfl,ac⟩ (ow Z Z Z ⟨⟨_,rfl,.of_eq Z⟩,Pf Z,rfl,hR Z (by rw[PQ];exact PK fun x _=>bd _ _) Z ac⟩) Z) ?_)
   |(refine gM 12 Z ?_;refine ae (L:=[]) (t:=⟨[(3,.sl 4 0 S.length 2)],[(0,io (aS m)),(1,io (bj p n 0)),(4,io (aF 2 S Fact.c))],5⟩) (wk Z Z Z ⟨.row j,rfl,ac⟩ (ow Z Z Z ⟨⟨_,rfl,.of_eq Z⟩,Pf Z,rfl,hR Z (by rw[PQ];exact PK fun x _=>bd _ _) Z ac⟩) Z) ?_)
   |(refine gM 13 Z ?_;refine ae (L:=[]) (t:=⟨[(3,.sl 4 0 S.length 2)],[(0,io (aS m)),(1,io (bj p n 0)),(4,io (aF 2 S Fact.c))],5⟩) (wk Z Z Z ⟨.row j,rfl,ac⟩ (ow Z Z Z ⟨⟨_,rfl,.of_eq Z⟩,Pf Z,rfl,hR Z (by rw[PQ];exact PK fun x _=>bd _ _) Z ac⟩) Z) ?_)
   |(refine gM 14 Z ?_;refine ae (L:=[]) (t:=⟨[(3,.sl 4 0 S.length 2)],[(0,io (aS m)),(1,io (bj p n 0)),(4,io (aF 2 S Fact.c))],5⟩) (wk Z Z Z ⟨.row j,rfl,ac⟩ (ow Z Z Z ⟨⟨_,rfl,.of_eq Z⟩,Pf Z,rfl,hR Z (by rw[PQ];exact PK fun x _=>bd _ _) Z ac⟩) Z) ?_)
   |(refine gM 15 Z ?_;refine ae (L:=[]) (t:=⟨[(3,.sl 4 0 S.length 2)],[(0,io (aS m)),(1,io (bj p n 0)),(4,io (aF 2 S Fact.c))],5⟩) (wk Z Z Z ⟨.row j,rfl,ac⟩ (ow Z Z Z ⟨⟨_,rfl,.of_eq Z⟩,Pf Z,rfl,hR Z (by rw[PQ];exact PK fun x _=>bd _ _) Z ac⟩) Z) ?_)
   |(refine gM 16 Z ?_;refine ae (L:=[]) (t:=⟨[(3,.sl 4 0 S.length 2)],[(0,io (aS m)),(1,io (bj p n 0)),(4,io (aF 2 S Fact.c))],5⟩) (wk Z Z Z ⟨.row j,rfl,ac⟩ (ow Z Z Z ⟨⟨_,rfl,.of_eq Z⟩,Pf Z,rfl,hR Z (by rw[PQ];exact PK fun x _=>bd _ _) Z ac⟩) Z) ?_)
   |(refine gM 17 Z ?_;refine ae (L:=[]) (t:=⟨[(3,.sl 4 0 S.length 2)],[(0,io (aS m)),(1,io (bj p n 0)),(4,io (aF 2 S Fact.c))],5⟩) (wk Z Z Z ⟨.row j,rfl,ac⟩ (ow Z Z Z ⟨⟨_,rfl,.of_eq Z⟩,Pf Z,rfl,hR Z (by rw[PQ];exact PK fun x _=>bd _ _) Z ac⟩) Z) ?_)
   |(refine gM 18 Z ?_;refine ae (L:=[]) (t:=⟨[(3,.sl 4 0 S.length 2)],[(0,io (aS m)),(1,io (bj p n 0)),(4,io (aF 2 S Fact.c))],5⟩) (wk Z Z Z ⟨.row j,rfl,ac⟩ (ow Z Z Z ⟨⟨_,rfl,.of_eq Z⟩,Pf Z,rfl,hR Z (by rw[PQ];exact PK fun x _=>bd _ _) Z ac⟩) Z) ?_)
   |(refine gM 19 Z ?_;refine ae (L:=[]) (t:=⟨[(3,.sl 4 0 S.length 2)],[(0,io (aS m)),(1,io (bj p n 0)),(4,io (aF 2 S Fact.c))],5⟩) (wk Z Z Z ⟨.row j,rfl,ac⟩ (ow Z Z Z ⟨⟨_,rfl,.of_eq Z⟩,Pf Z,rfl,hR Z (by rw[PQ];exact PK fun x _=>bd _ _) Z ac⟩) Z) ?_)
   |(refine gM 20 Z ?_;refine ae (L:=[]) (t:=⟨[(3,.sl 4 0 S.length 2)],[(0,io (aS m)),(1,io (bj p n 0)),(4,io (aF 2 S Fact.c))],5⟩) (wk Z Z Z ⟨.row j,rfl,ac⟩ (ow Z Z Z ⟨⟨_,rfl,.of_eq Z⟩,Pf Z,rfl,hR Z (by rw[PQ];exact PK fun x _=>bd _ _) Z ac⟩) Z) ?_)
   |(refine gM 21 Z ?_;refine ae (L:=[]) (t:=⟨[(3,.sl 4 0 S.length 2)],[(0,io (aS m)),(1,io (bj p n 0)),(4,io (aF 2 S Fact.c))],5⟩) (wk Z Z Z ⟨.row j,rfl,ac⟩ (ow Z Z Z ⟨⟨_,rfl,.of_eq Z⟩,Pf Z,rfl,hR Z (by rw[PQ];exact PK fun x _=>bd _ _) Z ac⟩) Z) ?_)
   |(refine gM 22 Z ?_;refine ae (L:=[]) (t:=⟨[(3,.sl 4 0 S.length 2)],[(0,io (aS m)),(1,io (bj p n 0)),(4,io (aF 2 S Fact.c))],5⟩) (wk Z Z Z ⟨.row j,rfl,ac⟩ (ow Z Z Z ⟨⟨_,rfl,.of_eq Z⟩,Pf Z,rfl,hR Z (by rw[PQ];exact PK fun x _=>bd _ _) Z ac⟩) Z) ?_)
   |(refine gM 23 Z ?_;refine ae (L:=[]) (t:=⟨[(3,.sl 4 0 S.length 2)],[(0,io (aS m)),(1,io (bj p n 0)),(4,io (aF 2 S Fact.c))],5⟩) (wk Z Z Z ⟨.row j,rfl,ac⟩ (ow Z Z Z ⟨⟨_,rfl,.of_eq Z⟩,Pf Z,rfl,hR Z (by rw[PQ];exact PK fun x _=>bd _ _) Z ac⟩) Z) ?_)
   |(refine gM 24 Z ?_;refine ae (L:=[]) (t:=⟨[(3,.sl 4 0 S.length 2)],[(0,io (aS m)),(1,io (bj p n 0)),(4,io (aF 2 S Fact.c))],5⟩) (wk Z Z Z ⟨.row j,rfl,ac⟩ (ow Z Z Z ⟨⟨_,rfl,.of_eq Z⟩,Pf Z,rfl,hR Z (by rw[PQ];exact PK fun x _=>bd _ _) Z ac⟩) Z) ?_)
   |(refine gM 25 Z ?_;refine ae (L:=[]) (t:=⟨[(3,.sl 4 0 S.length 2)],[(0,io (aS m)),(1,io (bj p n 0)),(4,io (aF 2 S Fact.c))],5⟩) (wk Z Z Z ⟨.row j,rfl,ac⟩ (ow Z Z Z ⟨⟨_,rfl,.of_eq Z⟩,Pf Z,rfl,hR Z (by rw[PQ];exact PK fun x _=>bd _ _) Z ac⟩) Z) ?_)
   |(refine gM 26 Z ?_;refine ae (L:=[]) (t:=⟨[(3,.sl 4 0 S.length 2)],[(0,io (aS m)),(1,io (bj p n 0)),(4,io (aF 2 S Fact.c))],5⟩) (wk Z Z Z ⟨.row j,rfl,ac⟩ (ow Z Z Z ⟨⟨_,rfl,.of_eq Z⟩,Pf Z,rfl,hR Z (by rw[PQ];exact PK fun x _=>bd _ _) Z ac⟩) Z) ?_)
   |(refine gM 27 Z ?_;refine ae (L:=[]) (t:=⟨[(3,.sl 4 0 S.length 2)],[(0,io (aS m)),(1,io (bj p n 0)),(4,io (aF 2 S Fact.c))],5⟩) (wk Z Z Z ⟨.row j,rfl,ac⟩ (ow Z Z Z ⟨⟨_,rfl,.of_eq Z⟩,Pf Z,rfl,hR Z (by rw[PQ];exact PK fun x _=>bd _ _) Z ac⟩) Z) ?_)
   |(refine gM 28 Z ?_;refine ae (L:=[]) (t:=⟨[(3,.sl 4 0 S.length 2)],[(0,io (aS m)),(1,io (bj p n 0)),(4,io (aF 2 S Fact.c))],5⟩) (wk Z Z Z ⟨.row j,rfl,ac⟩ (ow Z Z Z ⟨⟨_,rfl,.of_eq Z⟩,Pf Z,rfl,hR Z (by rw[PQ];exact PK fun x _=>bd _ _) Z ac⟩) Z) ?_)
   |(refine gM 29 Z ?_;refine ae (L:=[]) (t:=⟨[(3,.sl 4 0 S.length 2)],[(0,io (aS m)),(1,io (bj p n 0)),(4,io (aF 2 S Fact.c))],5⟩) (wk Z Z Z ⟨.row j,rfl,ac⟩ (ow Z Z Z ⟨⟨_,rfl,.of_eq Z⟩,Pf Z,rfl,hR Z (by rw[PQ];exact PK fun x _=>bd _ _) Z ac⟩) Z) ?_)
  refine rD 4 (fun k=>Fact.c (S.getD k co)) Z (fD Z) ⟨by simp[PV.c6],ac⟩ ⟨ac,(by simp[AO.qy,dP,PV.c6]),AM _ _ _ _ _ _,ac⟩ ?_;refine gA Z (aY [] (by first|exact .inr Z|exact .inl Z) Z (wk Z Z Z ⟨.ct Z (fun k _=>by rw[PO]),rfl,ac⟩ (hM Z Z Z ⟨⟨_,rfl,.of_eq Z⟩,Pf Z,rfl,ac⟩) Z))
 .have I:q<m.length:=(Pj.1 hx).1;have B:x.2=E3 m q:=by rw[E3,Pk,hx];rfl
  have A:x.2∈S:=u.mem_iff.1 (PW.2 ⟨x,PY hx,rfl⟩);refine gM 8 Z (cz Z (vm Z Z Z Z uB hb hx Z) ?_);rintro t rfl;refine gA Z (aE (kN x.2 (by have:=hF _ A;omega)) Z Z Z Z Z Z ?_);refine gA Z ⟨q,I,sd hb hns,ac,[7],wk Z Z Z ⟨.row (by simp),rfl,bi ac⟩ ⟨⟨_,rfl,.of_eq Z⟩,Pf Z,ac,⟨⟨_,rfl,.of_eq Z⟩,Pf Z,rfl,⟨⟨_,rfl,.of_eq (by rw[px hb];rfl)⟩,Pf Z,rfl,hR Z (by rw[PF,PF,B];rfl) Z ac⟩⟩⟩ Z⟩
theorem DG(p:Prog)(n:Nat){m:FM}{S:List Fact}(hk:cE bu m S)(hs:pj bb S)(hF:tQ S)(hl:S.length<=100000000):bD prog 15 [.ptr 1 0] (bO p n m) (.iv (bN 2 S Fact.c)) (bH p n m) 2:=by
 refine au ab func15 Z (by decide) ntmps15 Z (by simp) ?_;refine gA Z (bQ [0,1] (DF p n m) Z Z Z Z Z Z Z Z ?_);refine gA Z (bQ [0,1] (He p n hk hs hF hl) Z Z Z Z Z Z Z Z ?_);refine gA Z (aY [] (by first|exact .inr Z|exact .inl Z) Z (wk Z Z Z (bi ac) (hM Z Z Z ⟨⟨_,rfl,.of_eq Z⟩,Pf Z,rfl,ac⟩) Z))
abbrev kI(m:CM)(j:Nat):bP Fact:=(m.getD j (bu Fact.z,bP.z)).2
theorem Cl{m:CM}{vs:List Nat}(hn:vs.Nodup)(u: ∀j∈vs,j<m.length)(h: ∀j,j<m.length->j∈vs):(vs.reverse.map (kI m)).Perm (m.map (·.2)):=by
 have h1:=(vG hn u h).map fun j=>m.getD j (bu Fact.z,bP.z);rw[fJ]at h1;have b:=h1.map (·.2);rw[PQ]at b;exact((List.reverse_perm vs).map _).trans b
theorem Nc{b:CM}{L:List (bP Fact)}(hp:(b.map (·.2)).Perm L)(hs:qj bb L)(hF: ∀x∈L,x.2.args.length<=1000000000)(hl:L.length<=100000000):Pure prog 27 [.iv (yx b)] (.iv (bN 3 L en)):=by
 have b0:b.length=L.length:=by have:=hp.length_eq;rwa[PS]at this
 refine ai ab func27 Z (by decide) ntmps27 Z (by simp) Z ?_;refine gA Z ?_;refine lh 3 3 Z ?_;refine eU b (fun vs=>⟨[(3,.sl 2 0 (vs.reverse.map (kI b)).length 3),(7,.ptr 0 0)],[(0,io (.bI kF yy b vs is)),(2,io (aF 3 (vs.reverse.map (kI b)) en))],3⟩) (fun vs=>vs.Nodup∧ ∀j∈vs,j<b.length) [1] ⟨P6,by simp⟩
  (wk Z Z Z (bi (bi trivial)) (hI Z Z (.inl Z) Z (hR Z Z Z trivial)) Z) fun vs Y=>?_
 obtain⟨y,A⟩:=Y;have c0:=yJ y A;refine fj Z ac (dm Z Z Z Z Z (by decide) (fun C=>?_) fun j x B R=>?_)
 .have D:=(Cl y A C).trans hp;have G:=D.length_eq;refine gA Z (bQ [2] (Dt (fun x B=>hF x (D.mem_iff.1 B)) (((D.map (·.2)).nodup_iff).2 ((qj.facts hs).nodup mS)) D hs (by omega)) Z Z Z Z Z (by show[_]=[io (AO.cv _ (aF _ _ _))];rw[b3];rfl) Z Z ?_);refine gA Z (dq (by first|exact .inr Z|exact .inl Z) Z Z ((by rw[PQ];exact PK fun x _=>bd _ _)) (G))
 .have J:x.2=kI b j:=by rw[kI,Pk,B];rfl
  have I:x.2∈L:=hp.mem_iff.1 (PW.2 ⟨x,PY B,rfl⟩);have a0: ∀u,u=j::vs->u.Nodup∧ ∀i∈u,i<b.length:=fun u e=>e▸⟨P0.2 ⟨R,y⟩,fun i hi=>(Px.1 hi).elim (fun h=>h▸(Pj.1 B).1) (A i)⟩;refine gA Z (bh ab [] (Pure.rK (kN x.2.2 (by have:=hF _ I;omega))) Z Z Z Z Z Z Z Z Z Z Z Z (by(repeat' (first|exact ac|exact rfl|exact ah.refl _|exact ah.bk (by assumption)|apply Pm))<;>first|omega|(simp only[Po];omega)|(simp;done)|(simp;omega)) Z (by(repeat' (first|exact ac|exact rfl|exact ah.refl _|exact ah.bk (by assumption)|apply Pm))<;>first|omega|(simp only[Po];omega)|(simp;done)|(simp;omega)) ?_);refine gA Z ⟨j,x,B,R,a0 _ Z,[5],wk Z Z Z ⟨.row (by simp),rfl,bi ac⟩ (hI Z Z (.inr Z) Z (hR Z (by rw[List.reverse_cons,PF,PF,List.map_singleton,<-J];rfl) Z ac)) Z⟩
abbrev BB:AO:= .cells [.ptr 1 0]
abbrev nO(p:Prog)(n:Nat)(m:FM):List AO:=[aS m,bj p n 0,BB]
abbrev nH(p:Prog)(n:Nat)(m:FM):AH:=[(0,io (aS m)),(1,io (bj p n 0)),(2,io BB)]
def lI(m:FM)(e:kF.K×bP Fact):Bool:=cU kF m e.1==e.2.1
theorem Nl(p:Prog)(n:Nat)(m:FM)(k:kF.K)(x:bP Fact):bD prog 48 [kF.pk k,ag (en x),.ptr 2 0] (nO p n m) (pB (lI m (k,x))) (nH p n m) 3:=by
 refine au ab func48 Z (by decide) ntmps48 Z (by simp) ?_;refine gA Z (aY [] (by first|exact .inr Z|exact .inl Z) Z (wk Z Z Z (bi ac) (hM Z Z Z ⟨⟨_,rfl,.of_eq Z⟩,Pf Z,rfl,⟨⟨_,rfl,.of_eq Z⟩,Pf Z,rfl,ac⟩⟩) Z))
theorem Ow(p:Prog)(n:Nat)(m:FM)(u:CM)(hn:(u.map (·.1)).Nodup)(hl:u.length<=1000000000):bD prog 47 [.mp 3,.b5 (.func 48) [] [.ptr 2 0]] (nO p n m++ [Fp u]) (.bq []) (nH p n m++ [(3,io (Fp (u.filter fun e=>!lI m e)))]) 4:=by
 refine au ab func47 Z (by decide) ntmps47 Z (by simp) ?_;refine gM 3 Z (cz Z (uH ab Z Z Z Z Z Z (by decide)) ?_);rintro t ⟨bs,clock,hbl,hbn,hbc,rfl⟩
 refine gA Z (Bf u.length (fun vs=>⟨[(0,.mp 3),(1,.b5 (.func 48) [] [.ptr 2 0]),(7,.ptr 4 0)],[(0,io (aS m)),(1,io (bj p n 0)),(2,io BB),(3,io (.gI kF yy bP.z Iq Og (ma u (bu Fact.z,bP.z) (fun j=>lI m (u.getD j (bu Fact.z,bP.z))) vs) (nj u.length bs (fun j=>lI m (u.getD j (bu Fact.z,bP.z))) vs) clock)),(4,io (.dO (.mp 3) clock (jP bs vs)))],5⟩) (fun _=>True) [] ac
  (wk Z Z Z (bi (bi (bi ac))) (hM Z Z Z ⟨⟨_,rfl,.of_eq Z⟩,Pf Z,rfl,⟨⟨_,rfl,.of_eq Z⟩,Pf Z,rfl,⟨⟨_,rfl,.of_eq (by rw[Cr,Cs hbl];rfl)⟩,Pf Z,ac,⟨⟨_,rfl,.of_eq Z⟩,Pf Z,rfl,ac⟩⟩⟩⟩) Z) fun vs R v2 _=>?_)
 refine gM 2 Z (cz Z (xX Z Z Z Z Z (by decide)) ?_);rintro t (⟨hall,rfl⟩|⟨q,x,b,hx,hb,hns,rfl⟩)
 .have hE:=Ev (d:=(bu Fact.z,bP.z)) hbl hbn v2 (lI m) (fun j=>rfl) hall;refine gA Z (aY [] (by first|exact .inr Z|exact .inl Z) Z (wk Z Z Z (bi ac) (hM Z Z Z ⟨⟨_,rfl,.of_eq Z⟩,Pf Z,rfl,⟨⟨_,rfl,.of_eq Z⟩,Pf Z,rfl,ow Z hE Z ac⟩⟩) Z))
 .obtain⟨j,B,C,y,I⟩:=left_at hbl hx hb;have D:u.getD j (bu Fact.z,bP.z)=x:=by rw[Pk,C];rfl
  refine gM 8 Z (cz Z (vm Z Z Z Z uB hb hx Z) ?_);rintro t rfl;refine gA Z (bQ [0,1,2] (Nl p n m x.1 x.2) Z Z Z Z Z Z Z Z ?_);have G:lI m (x.1,x.2)=lI m (u.getD j (bu Fact.z,bP.z)):=by rw[D]
  refine gA Z ?_;refine Pm (fun g1=>?_) (fun g1=>?_)
  .have g1:lI m (u.getD j (bu Fact.z,bP.z))=jp:=by rw[<-G];exact g1
   obtain⟨A,J⟩:=Eu (m:=u) (d:=(bu Fact.z,bP.z)) (bs:=bs) (dl:=fun j=>lI m (u.getD j (bu Fact.z,bP.z))) g1 B;refine gM 3 Z (cz Z (zY ab Z Z Z Z Z Z (rfl:kF.dk _=io x.1) (Bm ((Cq.map _).nodup hn) hx) Z) ?_);rintro t rfl;refine gA Z ⟨j,I,sd y hns,ac,[],wk Z Z Z (bi (bi (bi ac))) (hM Z Z Z ⟨⟨_,rfl,.of_eq Z⟩,Pf Z,rfl,⟨⟨_,rfl,.of_eq Z⟩,Pf Z,rfl,⟨⟨_,rfl,.of_eq (by rw[A,J];rfl)⟩,Pf Z,ac,⟨⟨_,rfl,.of_eq (by rw[px y];rfl)⟩,Pf Z,rfl,ac⟩⟩⟩⟩) Z⟩
  .have g1:lI m (u.getD j (bu Fact.z,bP.z))=kw:=by rw[<-G];exact g1
   have A:=zo (n:=u.length) (vs:=vs) (dl:=fun j=>lI m (u.getD j (bu Fact.z,bP.z))) g1;refine gA Z ⟨j,I,sd y hns,ac,[],wk Z Z Z (bi (bi (bi ac))) (hM Z Z Z ⟨⟨_,rfl,.of_eq Z⟩,Pf Z,rfl,⟨⟨_,rfl,.of_eq Z⟩,Pf Z,rfl,⟨⟨_,rfl,.of_eq (by unfold ma nj;rw[A];rfl)⟩,Pf Z,ac,⟨⟨_,rfl,.of_eq (by rw[px y];rfl)⟩,Pf Z,rfl,ac⟩⟩⟩⟩) Z⟩
end Go.Proofs.YtllkaddcplhklaaGreatDoor
namespace Go.Proofs.YtllkaddcplhklaaGreatDoor
open Go Go.Al
def CD(p:Prog)(f:Fact)(j:Nat):Bool:=lc ((f.args.getD j co).kind=(fO p f.rel).types.getD j co)
def pc(p:Prog)(f:Fact):Int:=
 if cU .str (qt p) f.rel=kw∨jX f=kw∨ ¬(f.args.length:Int)=((fO p f.rel).types.length:Int) then 5
 else if(PT f.args.length).all (CD p f)=jp then 0 else 5
theorem B7{q:Nat->Bool}{n:Nat}(h: ∀j,j<n->q j=jp):(PT n).all q=jp:=P4.2 fun j b=>h j (QM.1 b)
theorem B6{q:Nat->Bool}{n j:Nat}(h:j<n)(b:q j=kw): ¬(PT n).all q=jp:=fun e=>by
 have:=P4.1 e j (QM.2 h);rw[b]at this;cases this
theorem c16(p:Prog)(f:Fact)(hb:p.aR.length<=1000000000)(hf:f.args.length<=1000000000):Pure Tryz.prog 45 [ag p.c,ag f.c] (pI (pc p f)):=by
 refine ai ab Tryz.func45 Z (by decide) Tryz.ntmps45 Z (by simp) Z ?_;refine gA Z (zd [] (d50 p (by omega)) ?_);refine zE Z Z (fun g1=>?_) fun g1=>?_
 .have g1:cU .str (qt p) f.rel=kw:=by simpa using g1
  rw[pc,am (.inl g1)];exact zU Z
 have g1: ¬cU .str (qt p) f.rel=kw:=by
  have g:(!cU .str (qt p) f.rel)=kw:=g1;intro h;rw[h]at g;cases g
 refine gA Z (zp (c55 f) ?_);refine zE Z Z (fun g2=>?_) fun g2=>?_
 .have g2:jX f=kw:=by
   cases h:jX f with
   |false=>rfl
   |true=>
    have g:(!lc ((if jX f then(0:Int) else 20)=0))=jp:=g2;rw[h]at g;simp at g
  rw[pc,am (.inr (.inl g2))];exact zU Z
 have g2: ¬jX f=kw:=by
  intro h;have g:(!lc ((if jX f then(0:Int) else 20)=0))=kw:=g2;rw[h]at g;simp at g
 refine zJ Z Z (fun g3=>?_) fun g3=>?_
 .have g3: ¬(f.args.length:Int)=((fO p f.rel).types.length:Int):=by
   have g:(!lc ((f.args.length:Int)=((fO p f.rel).types.length:Int)))=jp:=g3;simpa only[Qp,decide_eq_false_iff_not]using g
  rw[pc,am (.inr (.inr g3))];exact zU Z
 have g3:(f.args.length:Int)=((fO p f.rel).types.length:Int):=by
  have g:(!lc ((f.args.length:Int)=((fO p f.rel).types.length:Int)))=kw:=g3;simpa only[Q8,decide_eq_true_eq]using g
 rw[pc,be (by rintro(h|h|h);exact g1 h;exact g2 h;exact h g3)];refine gA Z ?_;refine aJ 0 f.args.length (PA _) (fun i=>⟨[(5,.ptr 3 0),(34,.iv (bN 3 f.args dG.c)),(35,pI f.args.length),(36,pI i)],[(3,io (aw (fO p f.rel).c))],4⟩) (fun i=> ∀j,j<i->CD p f j=jp) [] (fun j u=>absurd u (Rr j))
  (zW (zO trivial)) fun i y x=>?_
 refine zJ Z Z (fun h1=>?_) fun h1=>?_
 .have h1:i<f.args.length:=zN h1;refine zJ Z Z (fun b=>?_) fun b=>?_
  .have b:CD p f i=kw:=by
    have g:(!CD p f i)=jp:=b;simpa using g
   rw[be (B6 h1 b)];exact zU Z
  .have b:CD p f i=jp:=by
    have g:(!CD p f i)=kw:=b;simpa using g
   refine gA Z ⟨h1,fun j u=>by rcases Rn.1 u with h|h;exact x j h;exact h▸b,[],zW (zO ac)⟩
 .have h1:f.args.length<=i:=zG h1;rw[am (B7 fun j u=>x j (by omega))];exact zU Z
end Go.Proofs.YtllkaddcplhklaaGreatDoor
namespace Go.Proofs.YtllkaddcplhklaaGreatDoor
open Go Go.Al Go.Proofs.Tryz Go.Bo
def okF(p:Prog)(f:Fact):Bool:=lc (pc p f=0)
theorem gh{p:Prog}{f:Fact}(h:okF p f=jp):f.args.length<=8:=by
 have h:=of_decide_eq_true h;unfold pc at h;split at h
 .cases h
 .rename_i g;have g2: ¬jX f=kw:=fun e=>g (.inr (.inl e));rw[SP]at g2;unfold jX at g2;simp only[Qc,decide_eq_true_eq]at g2;exact g2.2.1
abbrev mapOf(T:List (bP Fact)):CM:=T.map fun x=>(bu x.2,x)
theorem x7{T:List (bP Fact)}(hn:(T.map (·.2)).Nodup)(j: ∀x∈T,x.2.args.length<=8):((mapOf T).map (·.1)).Nodup:=by
 induction T with
 |nil=>exact P6
 |cons x r ih=>
  rw[Py,P0]at hn;rw[mapOf,Py,Py,P0];refine⟨fun m=>?_,ih hn.2 fun y b=>j y (Pu _ b)⟩;obtain⟨e,A,u⟩:=PW.1 m;obtain⟨y,b,rfl⟩:=PW.1 A;have:=oV (j y (Pu _ b)) u;exact hn.1 (PW.2 ⟨y,b,this⟩)
def bU(S:List Fact)(l:List (bP Fact)):List (bP Fact):=(lH l).filter fun x=>!(lc (x.2∈S)==x.1)
theorem u3{l:List (bP Fact)}{x:bP Fact}(h:x∈lH l):x∈l:=by
 have:=((n3 l).2 x.1 x.2).1 h;exact fS this
theorem u4{m:FM}{S:List Fact}(hk:cE bu m S)(b: ∀f∈S,f.args.length<=8)(f:Fact):cU kF m (bu f)=lc (f∈S):=by
 have:=hk.has (f:=f) fun u hu e=>oV (b u hu) e;by_cases h:f∈S
 .rw[decide_eq_true h,this.2 h]
 .rw[decide_eq_false h];cases e:cU kF m (bu f) with
  |false=>rfl
  |true=>exact absurd (this.1 e) h
theorem DY{m:FM}{S:List Fact}(hk:cE bu m S)(b: ∀f∈S,f.args.length<=8)(l:List (bP Fact)):((mapOf (lH l)).filter fun e=>!lI m e)=mapOf (bU S l):=by
 unfold bU mapOf;rw[List.filter_map];congr 1;refine Rp fun x _=>?_;show(!(cU kF m (bu x.2)==x.1))=_;rw[u4 hk b]
theorem xG: ∀(T:List (bP Fact)) (c:bP Fact),(ju T c).length<=T.length+1
 | [],_=>Ps _
 |x::r,c=>by
  have:=xG r c;unfold ju;split
  .simp
  .simp only[PX];omega
theorem Cu(l:List (bP Fact)):(lH l).length<=l.length:=by
 have key: ∀(l T:List (bP Fact)),(l.foldl ju T).length<=T.length+l.length:=by
  intro l
  induction l with
  |nil=>intro T;exact Ps _
  |cons c r ih=>
   intro T;have h1:=ih (ju T c);have b:=xG T c;rw[Qd,PX];omega
 have:=key l [];show(l.foldl ju []).length<=_;simpa using this
def wX(x:bP Fact):Int:=if x.1=jp then 1 else-1
theorem xN{a b:List Int}(h:a.Perm b):a.sum=b.sum:=by
 induction h with
 |nil=>rfl
 |cons x _ ih=>rw[Qq,Qq,ih]
 |swap x y l=>rw[Qq,Qq,Qq,Qq];omega
 |trans _ _ a b=>exact a.trans b
theorem As: ∀(T:List (bP Fact)),(T.map wX).sum=((T.filter fun x=>x.1).length:Int)-((T.filter fun x=>!x.1).length:Int)
 | []=>rfl
 |x::r=>by
  rw[Py,Qq,As r];cases h:x.1 with
  |true=>simp[wX,h];omega
  |false=>simp[wX,h];omega
theorem DX{S:List Fact}(hS:pj bb S)(l:List (bP Fact)):(S.length:Int)+((bU S l).map wX).sum=(hQ bb S l).length:=by
 have b:(bU S l).Perm (c4 bb S l):=kZ mS S l;rw[xN (b.map wX),As];have:=Ef mS hS l;omega
theorem BX(T:List (bP Fact)): -(T.length:Int)<=(T.map wX).sum∧(T.map wX).sum<=T.length:=by
 induction T with
 |nil=>simp
 |cons x r ih=>
  rw[Py,Qq,PX];unfold wX at*
  split<;>omega
def Ei(p:Prog)(S:List Fact)(l:List (bP Fact)):PV:=
 if jS bb (okF p) S l=0 then .bq [.iv (yx (mapOf (bU S l))),pI 0] else .bq [.iv (.v (.map is)),pI (jS bb (okF p) S l)]
theorem rr{p:Prog}{S:List Fact}{l:List (bP Fact)}{e:Int}(h:jS bb (okF p) S l=e)(h0:e≠0):Ei p S l= .bq [.iv (.v (.map is)),pI e]:=by
 unfold Ei;rw[h,be h0]
theorem AU{p:Prog}{S:List Fact}{l:List (bP Fact)}(h:jS bb (okF p) S l=0):Ei p S l= .bq [.iv (yx (mapOf (bU S l))),pI 0]:=by
 unfold Ei;rw[am h]
theorem Ou(p:Prog)(n:Nat){m:FM}{S:List Fact}(l:List (bP Fact))(hb:p.aR.length<=1000000000)(hk:cE bu m S)(hS:eF bb (okF p) S)(hF: ∀x∈l,x.2.args.length<=1000000000):
  bD prog 25 [.ptr 1 0,.iv (bN 3 l en)] (bO p n m) (Ei p S l) (bH p n m) 2:=by
 have s0:=hk.len;have i0:=hS.Oe;have f0: ∀f∈S,f.args.length<=8:=fun f hf=>gh (hS.ok f hf);refine au ab func25 Z (by decide) ntmps25 Z (by simp) ?_;refine gA Z ?_;refine Pm (fun k1=>?_) (fun k1=>?_)
 .exact absurd k1 (by decide)
 refine gA Z ?_;refine Pm (fun I=>?_) (fun I=>?_)
 .have I:4096<l.length:=by have:=of_decide_eq_true I;omega
  rw[rr (e:=2) (by unfold jS;rw[am I]) (by decide)];refine gA Z (aY [] (by first|exact .inr Z|exact .inl Z) Z (wk Z Z Z (bi ac) (hM Z Z Z ⟨⟨_,rfl,.of_eq Z⟩,Pf Z,rfl,ac⟩) Z))
 have I:l.length<=4096:=by have:=of_decide_eq_false I;omega
 refine gA Z ?_;refine aJ 0 l.length (PA _) (fun i=>⟨[(2,.ptr 2 0),(6,.mp 3),(20,.iv (bN 3 l en)),(21,pI l.length),(22,pI i)],[(0,io (aS m)),(1,io (bj p n 0)),(2,io BB),(3,io (Fp (mapOf (lH (l.take i)))))],4⟩) (fun i=> ∀x∈l.take i,okF p x.2=jp) [] (by simp)
  (wk Z Z Z (bi (bi (bi (bi (bi trivial))))) (hM Z Z Z ⟨⟨_,rfl,.of_eq Z⟩,Pf Z,rfl,⟨⟨_,rfl,.of_eq Z⟩,Pf Z,rfl,LK Z Ip Z trivial⟩⟩) Z) fun i hi J=>?_
 refine gA Z ?_;refine Pm (fun h1=>?_) (fun h1=>?_)
 .have h1:i<l.length:=by simpa using h1
  have d0:l.getD i co∈l:=by rw[Pk,Pl h1];exact P3 h1
  have R:=fU (g:=ju) (b:=([]:List (bP Fact))) h1;have p0:=cm (l:=l) h1;refine gA Z (bh ab [] (Pure.rK (c16 p (l.getD i co).2 hb (hF _ d0))) Z Z Z Z Z Z Z Z Z Z Z Z (by(repeat' (first|exact ac|exact rfl|exact ah.refl _|exact ah.bk (by assumption)|apply Pm))<;>first|omega|(simp only[Po];omega)|(simp;done)|(simp;omega)) Z (by(repeat' (first|exact ac|exact rfl|exact ah.refl _|exact ah.bk (by assumption)|apply Pm))<;>first|omega|(simp only[Po];omega)|(simp;done)|(simp;omega)) ?_);refine gA Z ?_;refine Pm (fun g1=>?_) (fun g1=>?_)
  .have g1:okF p (l.getD i co).2=kw:=by
    have g:(!lc (pc p (l.getD i co).2=0))=jp:=g1;rw[Qp]at g;exact g
   rw[rr (e:=5) (by
    unfold jS;rw[be (by omega),am]
    exact List.all_eq_false.2 ⟨_,d0,by rw[g1];decide⟩) (by decide)]
   refine gA Z (aY [] (by first|exact .inr Z|exact .inl Z) Z (wk Z Z Z (bi ac) (hM Z Z Z ⟨⟨_,rfl,.of_eq Z⟩,Pf Z,rfl,ac⟩) Z))
  .have g1:okF p (l.getD i co).2=jp:=by
    have g:(!lc (pc p (l.getD i co).2=0))=kw:=g1;rw[Q8]at g;exact g
   have r0:=gh g1;refine gA Z (aE (DE (l.getD i co).2 r0) Z Z Z Z Z Z ?_);have n0:=B8 (kc:=kF) (key:=bu) (lH (l.take i)) (l.getD i co) fun y hy e=>oV (gh (J y (u3 hy))) e;refine fj Z ?_ ?_
   .repeat' (first|exact ac|exact rfl|exact Ir _|exact ah.refl _|apply Pm)
    all_goals omega
   refine⟨h1,fun x u=>?_,[],wk Z Z Z (bi (bi (bi (bi (bi ac))))) (hM Z Z Z ⟨⟨_,rfl,.of_eq Z⟩,Pf Z,rfl,⟨⟨_,rfl,.of_eq Z⟩,Pf Z,rfl,hM Z ?_ Z ac⟩⟩) Z⟩
   .rw[p0,PG,Pw]at u;exact u.elim (J x) fun e=>e▸g1
   .show _=(lH (l.take (i+1))).map fun x=>(bu x.2,x)
    unfold lH at*
    rw[R,<-n0,<-J3 (l.getD i co)];rfl
 .have h1:l.length<=i:=by simpa using h1
  have j0:i=l.length:=by omega
  subst j0;rw[Pz (Ps _)]at J ⊢;have B:(l.all fun x=>okF p x.2)=jp:=P4.2 J;have m0:=x7 (n3 l).1 fun x u=>gh (J x (u3 u));have o0:=DY hk f0 l;have v0:=DX hS.yQ l;have k0:=Cu l;have t0:(bU S l).length<=l.length:=Qa (QH _ _) k0;refine gA Z (bQ [0,1,2,3] (Ow p n m (mapOf (lH l)) m0 (by rw[mapOf,PS];omega)) Z Z Z Z Z Z Z Z ?_);rw[o0];refine gA Z ?_
  refine eU (mapOf (bU S l)) (fun vs=>⟨[(6,.iv (yx (mapOf (bU S l)))),(11,pI ((m.length:Int)+(vs.map fun j=>wX (kI (mapOf (bU S l)) j)).sum)),(54,.ptr 4 0)],[(0,io (aS m)),(1,io (bj p n 0)),(4,io (.bI kF yy (mapOf (bU S l)) vs is))],5⟩) (fun vs=>vs.Nodup∧ ∀j∈vs,j<(mapOf (bU S l)).length) [] ⟨P6,by simp⟩
   (wk Z Z Z (bi ⟨bt (by simp),rfl,bi trivial⟩) (hM Z Z Z ⟨⟨_,rfl,.of_eq Z⟩,Pf Z,rfl,hI Z Z (.inl Z) Z trivial⟩) Z) fun vs e0=>?_
  obtain⟨v1,v2⟩:=e0;have q0:=yJ v1 v2;rw[PS]at q0;have G:=BX (vs.map (kI (mapOf (bU S l))));rw[PQ,PS]at G;have Y:=G.1;have a0:=G.2;have g0:(wX ∘ kI (mapOf (bU S l)))=fun j=>wX (kI (mapOf (bU S l)) j):=rfl;rw[g0]at Y a0;refine fj Z ac (dm Z Z Z Z Z (by decide) (fun C=>?_) fun j x u hj=>?_)
  .have hq:(vs.map fun j=>wX (kI (mapOf (bU S l)) j)).sum=((bU S l).map wX).sum:=by
    have h1:=((vG v1 v2 C).map fun j=>(mapOf (bU S l)).getD j (bu Fact.z,bP.z)).map fun e=>wX e.2;rw[fJ,PQ,PQ]at h1;exact xN h1
   rw[hq];refine gA Z ?_;refine Pm (fun g2=>?_) (fun g2=>?_)
   .have g2:65536<(hQ bb S l).length:=by have:=of_decide_eq_true g2;omega
    rw[rr (e:=3) (by unfold jS;rw[be (by omega),be (by rw[B];decide),am g2]) (by decide)];refine gA Z (aY [] (by first|exact .inr Z|exact .inl Z) Z (wk Z Z Z (bi ac) (hM Z Z Z ⟨⟨_,rfl,.of_eq Z⟩,Pf Z,rfl,ac⟩) Z))
   .have g2: ¬65536<(hQ bb S l).length:=by have:=of_decide_eq_false g2;omega
    rw[AU (by unfold jS;rw[be (by omega),be (by rw[B];decide),be g2])];refine gA Z (aY [] (by first|exact .inr Z|exact .inl Z) Z (wk Z Z Z (bi ac) (hM Z Z Z ⟨⟨_,rfl,.of_eq Z⟩,Pf Z,rfl,ac⟩) Z))
  .have c0:x.2=kI (mapOf (bU S l)) j:=by rw[kI,Pk,u];rfl
   have b0: ∀A,A=j::vs->A.Nodup∧ ∀i∈A,i<(mapOf (bU S l)).length:=fun A e=>e▸⟨P0.2 ⟨hj,v1⟩,fun i hi=>(Px.1 hi).elim (fun h=>h▸(Pj.1 u).1) (v2 i)⟩;refine gA Z ?_;refine Pm (fun g3=>?_) (fun g3=>?_)
   .have g3:x.2.1=jp:=g3;have D:wX (kI (mapOf (bU S l)) j)=1:=by rw[<-c0,wX,am g3]
    refine gA Z ⟨j,x,u,hj,b0 _ Z,[],wk Z Z Z (bi ⟨bt (by rw[Py,Qq,D];omega),rfl,bi ac⟩) (hM Z Z Z ⟨⟨_,rfl,.of_eq Z⟩,Pf Z,rfl,hI Z Z (.inr Z) Z ac⟩) Z⟩
   .have g3:x.2.1=kw:=g3;have D:wX (kI (mapOf (bU S l)) j)= -1:=by rw[<-c0,wX,be (by rw[g3];decide)]
    refine gA Z ⟨j,x,u,hj,b0 _ Z,[],wk Z Z Z (bi ⟨bt (by rw[Py,Qq,D];omega),rfl,bi ac⟩) (hM Z Z Z ⟨⟨_,rfl,.of_eq Z⟩,Pf Z,rfl,hI Z Z (.inr Z) Z ac⟩) Z⟩
theorem DD{y:IV}(u:jy (lits []) y):Pure prog 44 [.iv (lits [])] (.iv y):=by
 refine ai ab func44 Z (by decide) ntmps44 Z (by simp) Z ?_;refine gA Z (aE (Hg [] (by simp)) Z Z Z Z Z Z ?_);refine gA Z (ob (n:=0) ?_);refine gA Z ?_;refine Pm (fun b=>?_) (fun b=>?_)
 .exact absurd b (by simp)
 refine gA Z (aQ (by first|exact .inr Z|exact .inl Z) Z ?_);exact .iv (fun M x j=>u M x j)
set_option maxHeartbeats 2000000 in
theorem Ni: ∀(n:Nat) (l:List Lit) (y:IV),Lit.aB l<=n->Lit.aB l<=1000000000->jy (lits l) y->Pure prog 44 [.iv (lits l)] (.iv y):=by
 intro n
 induction n with
 |zero=>
  intro l y h hb u;have hl:=Lit.aG l;have j:l=[]:=QU.1 (by omega);subst j;exact DD u
 |succ n ih=>
  intro l y h hb u;have hl:=Lit.aG l;by_cases A:l=[]
  .subst A;exact DD u
  refine ai ab func44 Z (by decide) ntmps44 Z (by simp) Z ?_;refine gA Z (bQ [] (DJ l (by omega) A) Z Z Z Z Z Z Z Z ?_);refine gA Z ?_;refine aJ 0 l.length (PA _) (fun i=>⟨[(0,.iv (lits l)),(3,.sl 0 0 l.length 30),(9,pI l.length),(10,pI i)],[(0,io (aF 30 l Lit.c))],1⟩) (fun _=>True) [] ac
   (wk Z Z Z (bi (bi (bi (bi trivial)))) (hR Z (by rw[PQ];exact PK fun x _=>bd _ _) Z trivial) Z) fun i D _=>?_
  refine gA Z ?_;refine Pm (fun h1=>?_) (fun h1=>?_)
  .have h1:i<l.length:=by simpa using h1
   have C:=Lit.bT l i h1;have B:=(l.getD i co).size_eq;have b:=DR (g:=fun x=>(Lit.c x).map PV.iv) h1;refine gM 22 Z (oc ab Z Z Z Z Z (b) Z Z ?_);refine gA Z (aE (Az (l.getD i co).atom.ak (by omega)) Z Z Z Z Z Z ?_);refine gA Z (o5 ab Z Z Z Z (i:=0) (q:=0+i) (off:=2) Z Z b Z Z (by decide) Z Z ?_);refine gM 9 Z (s5 (p:=ag (l.getD i co).left.c) 6 Z Z Z Z Z Z (ia ab Z Z Z Z b Z) ?_);refine gM 3 Z (s5 (p:=ag (l.getD i co).right.c) 11 Z Z Z Z Z Z (ia ab Z Z Z Z b Z) ?_);refine gM 4 Z (s5 (p:=ag (l.getD i co).jx.c) 17 Z Z Z Z Z Z (ia ab Z Z Z Z b Z) ?_);refine gA Z (yp ab [11,17] [] (Pure.rK (yX (l.getD i co).left (by omega))) Z Z Z Z Z Z Z Z Z Z Z Z (by(repeat' (first|exact ac|exact rfl|exact ah.refl _|exact ah.bk (by assumption)|apply Pm))<;>first|omega|(simp only[Po];omega)|(simp;done)|(simp;omega)) Z (by(repeat' (first|exact ac|exact rfl|exact ah.refl _|exact ah.bk (by assumption)|apply Pm))<;>first|omega|(simp only[Po];omega)|(simp;done)|(simp;omega)) ⟨tF ab Z Z Z Z Z Z Z b Z (.refl _),⟨tF ab Z Z Z Z Z Z Z b Z (.refl _),ac⟩⟩ ?_);refine gA Z (yp ab [17] [] (Pure.rK (yX (l.getD i co).right (by omega))) Z Z Z Z Z Z Z Z Z Z Z Z (by(repeat' (first|exact ac|exact rfl|exact ah.refl _|exact ah.bk (by assumption)|apply Pm))<;>first|omega|(simp only[Po];omega)|(simp;done)|(simp;omega)) Z (by(repeat' (first|exact ac|exact rfl|exact ah.refl _|exact ah.bk (by assumption)|apply Pm))<;>first|omega|(simp only[Po];omega)|(simp;done)|(simp;omega)) ⟨tF ab Z Z Z Z Z Z Z b Z (.refl _),ac⟩ ?_);refine gA Z (bh ab [] (Pure.rK (yX (l.getD i co).jx (by omega))) Z Z Z Z Z Z Z Z Z Z Z Z (by(repeat' (first|exact ac|exact rfl|exact ah.refl _|exact ah.bk (by assumption)|apply Pm))<;>first|omega|(simp only[Po];omega)|(simp;done)|(simp;omega)) Z (by(repeat' (first|exact ac|exact rfl|exact ah.refl _|exact ah.bk (by assumption)|apply Pm))<;>first|omega|(simp only[Po];omega)|(simp;done)|(simp;omega)) ?_);refine gA Z (lj ab Z Z Z Z Z (by(repeat' (first|exact ac|exact rfl|exact ah.refl _|exact ah.bk (by assumption)|apply Pm))<;>first|omega|(simp only[Po];omega)|(simp;done)|(simp;omega)) (kL ab Z Z Z (i:=0) (q:=0+i) (off:=4) Z Z b Z Z (by decide) Z Z) Z (by(repeat' (first|exact ac|exact rfl|exact ah.refl _|exact ah.bk (by assumption)|apply Pm))<;>first|omega|(simp only[Po];omega)|(simp;done)|(simp;omega)) ?_);refine gA Z (lj ab Z Z Z Z Z (by(repeat' (first|exact ac|exact rfl|exact ah.refl _|exact ah.bk (by assumption)|apply Pm))<;>first|omega|(simp only[Po];omega)|(simp;done)|(simp;omega)) (kL ab Z Z Z (i:=0) (q:=0+i) (off:=11) Z Z b Z Z (by decide) Z Z) Z (by(repeat' (first|exact ac|exact rfl|exact ah.refl _|exact ah.bk (by assumption)|apply Pm))<;>first|omega|(simp only[Po];omega)|(simp;done)|(simp;omega)) ?_);refine gA Z (lj ab Z Z Z Z Z (by(repeat' (first|exact ac|exact rfl|exact ah.refl _|exact ah.bk (by assumption)|apply Pm))<;>first|omega|(simp only[Po];omega)|(simp;done)|(simp;omega)) (kL ab Z Z Z (i:=0) (q:=0+i) (off:=20) Z Z b Z Z (by decide) Z Z) Z (by(repeat' (first|exact ac|exact rfl|exact ah.refl _|exact ah.bk (by assumption)|apply Pm))<;>first|omega|(simp only[Po];omega)|(simp;done)|(simp;omega)) ?_);refine gM 7 Z (oc ab Z Z Z Z Z (b) Z Z ?_);refine gA Z (aE (Al.Pure.le (aa:=[.iv (tt (l.getD i co).ar)]) (ih (l.getD i co).ar (tt (l.getD i co).ar) (by omega) (by omega) (zg _)) ⟨.iv (l9 _),ac⟩) Z Z Z Z Z Z ?_);refine gA Z (o5 ab Z Z Z Z (i:=0) (q:=0+i) (off:=27) Z Z b Z Z (by decide) Z Z ?_);refine gA Z ⟨h1,ac,[],wk Z Z Z (bi (bi (bi (bi ac)))) (hR Z Z Z ac) Z⟩
  .have h1:l.length<=i:=by simpa using h1
   refine gA Z (ln (r0:= .sl 0 0 l.length 30) (.inr Z) Z (iC.DS 0 l Lit.c Z Z (by simp[PV.c6,dP]) (.done ?_)));have:ah (.iv (lits l)) (.iv y):= .iv u;simp only[PV.dZ,p4,PO];exact this
theorem Lg(l:List Lit)(hb:Lit.aB l<=1000000000):Pure prog 44 [.iv (lits l)] (.iv (lits l)):=Ni _ l _ (Ps _) hb (fun _ _ h=>h)
theorem Lf(p:Prog)(hb:p.size<=1000000000):Pure prog 24 [ag p.c] (ag p.c):=by
 unfold Prog.size at hb;refine ai ab func24 Z (by decide) ntmps24 Z (by simp) Z ?_;refine gM 9 Z ?_;refine oZ 2 0 4 Z Z ?_;refine oZ 2 1 5 Z Z ?_;refine gA Z ?_;refine aJ 0 p.aR.length (PA _) (fun i=>⟨[(1,.ptr 0 0),(2,.ptr 1 0),(3,.ptr 2 0),(9,.iv (bN 4 p.aR Decl.c)),(10,pI p.aR.length),(11,pI i)],[(0,io (aw p.c)),(1,io (.cells [.iv (.v (.slice is 0 0)),.iv (.v (.slice is 0 0))])),(2,io (.cells [.sl 5 0 i 4,.sl 4 0 0 5])),(4,io (aF 5 ([]:List ax) ax.c)),(5,io (aF 4 (p.aR.take i) Decl.c))],6⟩) (fun _=>True) [3] ac
  (wk Z Z Z (bi (bi (bi (bi (bi (bi trivial)))))) (hC Z Z Z ⟨⟨_,rfl,.of_eq Z⟩,Pf Z,rfl,⟨_,rfl,.of_eq Z⟩,Pf Z,rfl,hR Z Z Z (hR Z Z Z trivial)⟩) Z) fun i A _=>?_
 refine gA Z ?_;refine Pm (fun h1=>?_) (fun h1=>?_)
 .have h1:i<p.aR.length:=by simpa using h1
  have x:(p.aR.take i).length=i:=by rw[Qy];omega
  have u:=cm (l:=p.aR) h1;have y:=vM (fun d:Decl=>d.types.length) p.aR i h1;refine gA Z (aE (Hh (p.aR.getD i co).types (by omega)) Z Z Z Z Z Z ?_);refine gA Z ⟨h1,ac,[8],wk Z Z Z (bi (bi (bi (bi (bi (bi ac)))))) (hC Z Z Z ⟨⟨_,rfl,.of_eq Z⟩,Pf Z,rfl,⟨⟨_,rfl,.of_eq Z⟩,Pf Z,rfl,hR Z Z Z (hR Z (by rw[u,PF];rfl) Z ac)⟩⟩) Z⟩
 .have h1:p.aR.length<=i:=by simpa using h1
  have j:i=p.aR.length:=by omega
  subst j;rw[Pz (Ps _)];refine gA Z ?_;refine aJ 0 p.rules.length (PA _) (fun i=>⟨[(1,.ptr 0 0),(2,.ptr 1 0),(3,.ptr 2 0),(27,.iv (bN 5 p.rules ax.c)),(28,pI p.rules.length),(29,pI i)],[(0,io (aw p.c)),(1,io (.cells [.iv (.v (.slice is 0 0)),.iv (.v (.slice is 0 0))])),(2,io (.cells [.sl 5 0 p.aR.length 4,.sl 6 0 i 5])),(5,io (aF 4 p.aR Decl.c)),(6,io (aF 5 (p.rules.take i) ax.c))],7⟩) (fun _=>True) [4] ac
   (wk Z Z Z (bi (bi (bi (bi (bi (bi trivial)))))) (hC Z Z Z ⟨⟨_,rfl,.of_eq Z⟩,Pf Z,rfl,⟨⟨_,rfl,.of_eq Z⟩,Pf Z,rfl,hR Z Z Z (hR Z Z Z trivial)⟩⟩) Z) fun i A _=>?_
  refine gA Z ?_;refine Pm (fun b=>?_) (fun b=>?_)
  .have b:i<p.rules.length:=by simpa using b
   have x:(p.rules.take i).length=i:=by rw[Qy];omega
   have u:=cm (l:=p.rules) b;have y:=vM ax.size p.rules i b;have B:(p.rules.getD i co).size=(p.rules.getD i co).head.ak.length+Lit.aB (p.rules.getD i co).body:=rfl;refine gA Z (aE (Az (p.rules.getD i co).head.ak (by omega)) Z Z Z Z Z Z ?_);refine gA Z (aE (Lg (p.rules.getD i co).body (by omega)) Z Z Z Z Z Z ?_);refine gA Z ⟨b,ac,[9],wk Z Z Z (bi (bi (bi (bi (bi (bi ac)))))) (hC Z Z Z ⟨⟨_,rfl,.of_eq Z⟩,Pf Z,rfl,⟨⟨_,rfl,.of_eq Z⟩,Pf Z,rfl,hR Z Z Z (hR Z (by rw[u,PF];rfl) Z ac)⟩⟩) Z⟩
  .have b:p.rules.length<=i:=by simpa using b
   have j:i=p.rules.length:=by omega
   subst j;rw[Pz (Ps _)];refine gA Z (ln (r0:= .agg [.sl 5 0 p.aR.length 4,.sl 6 0 p.rules.length 5]) (.inr Z) Z (iC.DS 5 p.aR Decl.c Z Z (by simp[PV.c6,dP]) (iC.DS 6 p.rules ax.c Z Z (by simp[PV.c6,dP,PV.dZ,p4,show PJ 6 5=kw from rfl]) (.done (.of_eq (by simp only[PV.dZ,p4,PO,show PJ 6 5=kw from rfl,show PJ 5 5=jp from rfl,show PJ 6 6=jp from rfl,cond_true,cond_false];rfl))))))
end Go.Proofs.YtllkaddcplhklaaGreatDoor
namespace Go.Tj
section
section
variable {α:Type}
inductive lL (succ:α->List α):α->α->Prop
 |refl (a:α):lL succ a a
 |step {a b c:α}:lL succ a b->c∈succ b->lL succ a c
theorem lL.trans{succ:α->List α}{a b c:α}(h:lL succ a b)(g:lL succ b c):lL succ a c:=by
 induction g with
 |refl=>exact h
 |step _ he ih=>exact .step ih he
theorem lL.one{succ:α->List α}{a b:α}(h:b∈succ a):lL succ a b:= .step (.refl a) h
structure St (α:Type) where
 low:α->Int
 on:α->Int
 ring:α->Int
 n:Nat
 stack:List α
section
variable [DecidableEq α]
def vI(f:α->Int)(a:α)(v:Int):α->Int:=fun x=>if x=a then v else f x
theorem iT(f:α->Int)(a:α)(v:Int):vI f a v a=v:=am Z
theorem jN{f:α->Int}{a x:α}{v:Int}(h: ¬x=a):vI f a v x=f x:=be h
def push(s:St α)(a:α):St α:=⟨vI s.low a ((s.n:Int)+1),vI s.on a 1,s.ring,s.n+1,s.stack++ [a]⟩
def v7(j:Int)(s:St α):St α:=match s.stack.getLast? with
 |some b=>⟨s.low,vI s.on b 2,vI s.ring b j,s.n,s.stack.dropLast⟩
 |none=>s
def eS(a:α)(b:Int):Nat->St α->St α
 |0,s=>s
 |k+1,s=>if s.on a=1 then eS a b k (v7 b s) else s
def qo(j:α->St α->Int×St α)(q:Int×St α)(b:α):Int×St α:=
 if q.2.low b=0 then(min q.1 (j b q.2).1,(j b q.2).2) else if q.2.on b=1 then(min q.1 (q.2.low b),q.2) else q
def rf(a:α)(b:Int)(q:Int×St α):Int×St α:=if q.1=b then(q.1,eS a b q.2.stack.length q.2) else q
def dI(succ:α->List α):Nat->α->St α->Int×St α
 |0,_,s=>(0,s)
 |f+1,a,s=>rf a ((s.n:Int)+1) ((succ a).foldl (qo (dI succ f)) ((s.n:Int)+1,push s a))
def fH(succ:α->List α)(f:Nat)(V:List α)(s:St α):St α:=V.foldl (fun s a=>if s.low a=0 then(dI succ f a s).2 else s) s
end
def St.o:St α:=⟨fun _=>0,fun _=>0,fun _=>0,0,[]⟩
structure Inv (succ:α->List α) (path:List α) (s:St α):Prop where
 lG: ∀a,0<=s.low a∧s.low a<=s.n
 inj: ∀a b,s.low a=s.low b->s.low a≠0->a=b
 FO: ∀a,s.on a=0↔s.low a=0
 Cg: ∀a,s.on a=0∨s.on a=1∨s.on a=2
 uy: ∀a,s.on a=1↔a∈s.stack
 yQ:s.stack.Pairwise fun x y=>s.low x<s.low y
 Il: ∀a,s.on a=2-> ∀b∈succ a,s.on b=2
 Lt: ∀g∈path,s.on g=1
 up: ∀y,s.on y=1-> ∃g∈path,s.low g<=s.low y∧lL succ y g
 dn: ∀g∈path,∀y,s.on y=1->s.low g<=s.low y->lL succ g y
 az: ∀y,s.low y≠0->y∉path-> ∀z∈succ y,s.low z≠0
 Nt: ∀a,s.on a=2-> ∃r,s.on r=2∧s.low r=s.ring a∧lL succ a r∧lL succ r a
 cmp: ∀a b,s.on a=2->s.on b=2->lL succ a b->lL succ b a->s.ring a=s.ring b
structure Le (s s':St α):Prop where
 low: ∀x,s.low x≠0->s'.low x=s.low x
 Il: ∀x,s.on x=2->s'.on x=2
 n:s.n<=s'.n
theorem Le.refl(s:St α):Le s s:=⟨fun _ _=>rfl,fun _ h=>h,Ps _⟩
theorem Le.trans{s t u:St α}(h:Le s t)(g:Le t u):Le s u:=
 ⟨fun x b=>by rw[g.low x (by rw[h.low x b];exact b),h.low x b],fun x b=>g.Il x (h.Il x b),Qa h.n g.n⟩
structure L7 (succ:α->List α) (path:List α) (a:α) (s:St α) (least:Int) (s':St α) (t:List α):Prop where
 inv:Inv succ path s'
 le:Le s s'
 stack:s'.stack=s.stack++t
 new: ∀y∈t,s.low y=0
 at_:(s.n:Int)<s'.low a
 LD:least<=s'.low a
 l1: ∀y∈t,∀z∈succ y,s'.on z=1->least<=s'.low z
 l2:(s'.on a=2∧least=s'.low a)∨ ∃z∈s.stack,s'.low z=least∧lL succ a z
theorem sA{succ:α->List α}{path:List α}{s:St α}(h:Inv succ path s){x:α}(b:s.on x=1):s.low x≠0:=fun g=>by
 have:=(h.FO x).2 g;omega
theorem Ea{succ:α->List α}{p:List α}{s s':St α}(h:Inv succ p s)(hl:Le s s'){x:α}(b:s.low x≠0)(ho:s'.on x=1):s.on x=1:=by
 rcases h.Cg x with g|g|g
 .exact absurd ((h.FO x).1 g) b
 .exact g
 .have:=hl.Il x g;omega
section
variable [DecidableEq α]
theorem xH{succ:α->List α}{path:List α}{s:St α}{a:α}(h:Inv succ path s)(ha:s.low a=0)(hp: ∀g∈path,lL succ g a):Inv succ (path++ [a]) (push s a):=by
 have a0:s.on a=0:=(h.FO a).2 ha;have J:a∉s.stack:=fun g=>by have:=(h.uy a).2 g;omega
 have A: ∀x,¬x=a->(push s a).low x=s.low x:=fun x j=>jN j;have la:(push s a).low a=(s.n:Int)+1:=iT _ _ _;have D: ∀x,¬x=a->(push s a).on x=s.on x:=fun x j=>jN j;have G:(push s a).on a=1:=iT _ _ _;have hn:((push s a).n:Int)=(s.n:Int)+1:=by show((s.n+1:Nat):Int)=_;omega
 refine⟨fun x=>?_,fun x y C j=>?_,fun x=>?_,fun x=>?_,fun x=>?_,?_,fun x j b hb=>?_,fun g hg=>?_,fun y B=>?_,fun g hg y B I=>?_,fun y B R z hz=>?_,fun x j=>?_,fun x y j B h1 h2=>?_⟩
 .have:=h.lG x;by_cases e:x=a
  .subst e;rw[la,hn];omega
  .rw[A x e,hn];omega
 .have h1:=h.lG x;have h2:=h.lG y;by_cases e:x=a
  .by_cases u:y=a
   .rw[e,u]
   .rw[e,la,A y u]at C;omega
  .by_cases u:y=a
   .rw[u,la,A x e]at C;omega
   .rw[A x e,A y u]at C;rw[A x e]at j;exact h.inj x y C j
 .by_cases e:x=a
  .subst e;rw[G,la];constructor<;>intro g<;>omega
  .rw[D x e,A x e];exact h.FO x
 .by_cases e:x=a
  .subst e;exact .inr (.inl G)
  .rw[D x e];exact h.Cg x
 .show _↔x∈s.stack++ [a];rw[PG,Pw];by_cases e:x=a
  .subst e;simp[G]
  .rw[D x e,h.uy x];simp[e]
 .show(s.stack++ [a]).Pairwise _;rw[RW];refine⟨h.yQ.imp_of_mem ?_,RG _ _,fun x j y B=>?_⟩
  .intro x y j B C;rw[A x (fun e=>J (e▸j)),A y (fun e=>J (e▸B))];exact C
  .rw[Pw]at B;subst B;rw[la,A x (fun e=>J (e▸j))];have:=h.lG x;omega
 .have e: ¬x=a:=fun e=>by subst e;rw[G]at j;omega
  rw[D x e]at j;have Y:=h.Il x j b hb;have u: ¬b=a:=fun e=>by subst e;omega
  rw[D b u];exact Y
 .rcases PG.1 hg with g1|g1
  .have:=h.Lt g g1;rw[D g (fun e=>by subst e;omega)];exact this
  .rw[Pw]at g1;subst g1;exact G
 .by_cases e:y=a
  .subst e;exact⟨y,Q4 _ Pv,RH _,.refl _⟩
  .rw[D y e]at B;obtain⟨g,g1,g2,g3⟩:=h.up y B;have u: ¬g=a:=fun e=>by have:=h.Lt g g1;subst e;omega
   exact⟨g,P2 _ g1,by rw[A g u,A y e];exact g2,g3⟩
 .rcases PG.1 hg with g1|g1
  .have u: ¬g=a:=fun e=>by have:=h.Lt g g1;subst e;omega
   by_cases e:y=a
   .subst e;exact hp g g1
   .rw[A g u,A y e]at I;rw[D y e]at B;exact h.dn g g1 y B I
  .rw[Pw]at g1;subst g1;by_cases e:y=g
   .subst e;exact .refl _
   .rw[la,A y e]at I;have:=h.lG y;omega
 .have e: ¬y=a:=fun e=>R (Q4 _ (by rw[e];exact Pv))
  rw[A y e]at B;have:=h.az y B (fun g=>R (P2 _ g)) z hz;by_cases u:z=a
  .rw[u,la];omega
  .rw[A z u];exact this
 .have e: ¬x=a:=fun e=>by subst e;rw[G]at j;omega
  rw[D x e]at j;obtain⟨r,r1,r2,r3⟩:=h.Nt x j;have u: ¬r=a:=fun e=>by subst e;omega
  exact⟨r,by rw[D r u];exact r1,by rw[A r u];exact r2,r3⟩
 .have e: ¬x=a:=fun e=>by subst e;rw[G]at j;omega
  have u: ¬y=a:=fun e=>by subst e;rw[G]at B;omega
  rw[D x e]at j;rw[D y u]at B;exact h.cmp x y j B h1 h2
theorem HB{succ:α->List α}{path:List α}{s:St α}{a:α}(h:Inv succ path s)(ha:s.low a=0):Le s (push s a):=by
 have j:s.on a=0:=(h.FO a).2 ha;refine⟨fun x b=>jN fun e=>b (e▸ha),fun x b=>?_,by show s.n<=s.n+1;omega⟩;have: ¬x=a:=fun e=>by subst e;omega
 show vI s.on a 1 x=2;rw[jN this];exact b
def vZ(s:St α)(u c:List α)(b:Int):St α:=⟨s.low,fun x=>if x∈c then 2 else s.on x,fun x=>if x∈c then b else s.ring x,s.n,u⟩
theorem xI{a:α}{b:Int}{s:St α}(h: ¬s.on a=1): ∀k,eS a b k s=s
 |0=>rfl
 |k+1=>be h
theorem uK(a:α)(j:Int)(u:List α): ∀(k:Nat) (t:List α) (s:St α),t.length<k->s.stack=u++a::t->a∉t->s.on a=1->(eS a j k s).low=s.low∧(eS a j k s).n=s.n∧(eS a j k s).stack=u∧(∀x,(eS a j k s).on x=if x∈a::t then 2 else s.on x)∧ ∀x,(eS a j k s).ring x=if x∈a::t then j else s.ring x
 |0,t,s,h,_,_,_=>absurd h (Rr _)
 |k+1,t,s,hk,hs,hn,ho=>by
  rw[eS,am ho];rcases t.eq_nil_or_concat with e|⟨t0,b,e⟩
  .subst e;have hl:s.stack.getLast? =io a:=by rw[hs];simp
   have hd:s.stack.dropLast=u:=by rw[hs];simp
   have G:v7 j s=⟨s.low,vI s.on a 2,vI s.ring a j,s.n,u⟩:=by unfold v7;rw[hl,hd]
   rw[G,xI (by show¬vI s.on a 2 a=1;rw[iT];decide)];exact⟨rfl,rfl,rfl,fun x=>by simp[vI],fun x=>by simp[vI]⟩
  .rw[SC]at e;subst e;have B:s.stack=(u++a::t0)++ [b]:=by rw[hs];simp
   have hl:s.stack.getLast? =io b:=by rw[B];exact List.getLast?_concat
   have hd:s.stack.dropLast=u++a::t0:=by rw[B];exact List.dropLast_concat
   have G:v7 j s=⟨s.low,vI s.on b 2,vI s.ring b j,s.n,u++a::t0⟩:=by unfold v7;rw[hl,hd]
   have D: ¬a=b:=fun e=>hn (by rw[e];simp);have C:=uK a j u k t0 ⟨s.low,vI s.on b 2,vI s.ring b j,s.n,u++a::t0⟩ (by simp at hk;omega) Z (fun g=>hn (P2 _ g)) (by show vI s.on b 2 a=1;rw[jN D];exact ho);rw[G];refine⟨C.1,C.2.1,C.2.2.1,fun x=>?_,fun x=>?_⟩
   .rw[C.2.2.2.1 x];by_cases y:x∈a::t0
    .rw[am y,am (by rw[<-QN];exact P2 _ y)]
    .rw[be y];by_cases A:x=b
     .subst A;rw[am (by simp)];exact iT _ _ _
     .rw[be (by rw[<-QN,PG,Pw];exact fun g=>g.elim y A)];exact jN A
   .rw[C.2.2.2.2 x];by_cases y:x∈a::t0
    .rw[am y,am (by rw[<-QN];exact P2 _ y)]
    .rw[be y];by_cases A:x=b
     .subst A;rw[am (by simp)];exact iT _ _ _
     .rw[be (by rw[<-QN,PG,Pw];exact fun g=>g.elim y A)];exact jN A
theorem St.eq{β:Type}{s t:St β}(h1:s.low=t.low)(b:s.on=t.on)(j:s.ring=t.ring)(u:s.n=t.n)(x:s.stack=t.stack):s=t:=by
 cases s;cases t;simp_all
theorem pJ{a:α}{b:Int}{u t:List α}{k:Nat}{s:St α}(hk:t.length<k)(hs:s.stack=u++a::t)(hn:a∉t)(ho:s.on a=1):eS a b k s=vZ s u (a::t) b:=by
 obtain⟨h1,j,x,y,A⟩:=uK a b u k t s hk hs hn ho;exact St.eq h1 (funext y) (funext A) j x
theorem vn{β:Type}{succ:β->List β}{path:List β}{s:St β}(h:Inv succ path s){a b:β}(ha:s.on a=2)(hr:lL succ a b):s.on b=2:=by
 induction hr with
 |refl=>exact ha
 |step _ he ih=>exact h.Il _ ih _ he
theorem HC{succ:α->List α}{path:List α}{s:St α}{a:α}{u t:List α}(h:Inv succ (path++ [a]) s)(hs:s.stack=u++a::t)(R: ∀g∈path,s.low g<s.low a)(i0: ∀z∈succ a,s.low z≠0)
  (d0: ∀y∈a::t,∀z∈succ y,s.on z=1->s.low a<=s.low z):Inv succ path (vZ s u (a::t) (s.low a)):=by
 have I:=h.yQ;rw[hs,RW]at I;obtain⟨hu,hc,b0⟩:=I;have e0:=(P5.1 hc).1;have g0:s.on a=1:=(h.uy a).2 (by rw[hs];simp);have hC: ∀x,x∈a::t↔(s.on x=1∧s.low a<=s.low x):=by
  intro x;constructor
  .intro j;refine⟨(h.uy x).2 (by rw[hs];exact Q4 _ j),?_⟩;rcases Px.1 j with e|e
   .rw[e];exact RH _
   .have:=e0 x e;omega
  .rintro⟨h1,D⟩;have:=(h.uy x).1 h1;rw[hs]at this;rcases PG.1 this with g|g
   .have:=b0 x g a Pv;omega
   .exact g
 have Y:a∈a::t:=Pv;have A: ∀x,x∈a::t->(vZ s u (a::t) (s.low a)).on x=2:=fun x j=>am j;have no: ∀x,x∉a::t->(vZ s u (a::t) (s.low a)).on x=s.on x:=fun x j=>be j
 have J: ∀x,x∈a::t->lL succ x a:=by
  intro x j;obtain⟨h1,D⟩:=(hC x).1 j;obtain⟨g,g1,g2,g3⟩:=h.up x h1;refine g3.trans (h.dn g g1 a g0 ?_);rcases PG.1 g1 with e|e
  .have:=R g e;omega
  .rw[Pw]at e;rw[e];exact RH _
 have G: ∀x,x∈a::t->lL succ a x:=by
  intro x j;obtain⟨h1,D⟩:=(hC x).1 j;exact h.dn a (by simp) x h1 D
 have a0: ∀y,s.low y≠0->y∉path-> ∀z∈succ y,s.low z≠0:=by
  intro y B j0 z hz;by_cases e:y=a
  .rw[e]at hz;exact i0 z hz
  .exact h.az y B (by rw[PG,Pw];exact fun g=>g.elim j0 e) z hz
 refine⟨h.lG,h.inj,fun x=>?_,fun x=>?_,fun x=>?_,hu,fun x j b hb=>?_,fun g hg=>?_,fun y B=>?_,fun g hg y B f0=>?_,a0,fun x j=>?_,fun x y j B h1 D=>?_⟩
 .by_cases e:x∈a::t
  .rw[A x e];have:=sA h ((hC x).1 e).1;exact⟨fun g=>by omega,fun g=>absurd g this⟩
  .rw[no x e];exact h.FO x
 .by_cases e:x∈a::t
  .exact .inr (.inr (A x e))
  .rw[no x e];exact h.Cg x
 .show _↔x∈u;by_cases e:x∈a::t
  .rw[A x e];refine⟨fun g=>by omega,fun g=>?_⟩;have h1:=b0 x g a Y;have D:=((hC x).1 e).2;omega
  .rw[no x e,h.uy x,hs,PG];exact⟨fun g=>g.elim id fun q=>absurd q e,.inl⟩
 .by_cases e:x∈a::t
  .obtain⟨h1,D⟩:=(hC x).1 e;have c0:s.low b≠0:=a0 x (sA h h1) (fun g=>by have:=R x g;omega) b hb;rcases h.Cg b with g|g|g
   .exact absurd ((h.FO b).1 g) c0
   .exact A b ((hC b).2 ⟨g,d0 x e b hb g⟩)
   .by_cases C:b∈a::t
    .exact A b C
    .rw[no b C];exact g
  .rw[no x e]at j;have g:=h.Il x j b hb;by_cases C:b∈a::t
   .exact A b C
   .rw[no b C];exact g
 .have h1:=h.Lt g (P2 _ hg);have D:=R g hg;rw[no g (fun e=>by have:=((hC g).1 e).2;omega)];exact h1
 .by_cases e:y∈a::t
  .rw[A y e]at B;omega
  .rw[no y e]at B;obtain⟨g,g1,g2,g3⟩:=h.up y B;rcases PG.1 g1 with q|q
   .exact⟨g,q,g2,g3⟩
   .rw[Pw]at q;rw[q]at g2;exact absurd ((hC y).2 ⟨B,g2⟩) e
 .by_cases e:y∈a::t
  .rw[A y e]at B;omega
  .rw[no y e]at B;exact h.dn g (P2 _ hg) y B f0
 .by_cases e:x∈a::t
  .exact⟨a,A a Y,(am e).symm,J x e,G x e⟩
  .rw[no x e]at j;obtain⟨r,r1,r2,r3⟩:=h.Nt x j;have C:r∉a::t:=fun g=>by have:=((hC r).1 g).1;omega
   refine⟨r,by rw[no r C];exact r1,?_,r3⟩;show s.low r=if x∈a::t then s.low a else s.ring x;rw[be e];exact r2
 .show(if x∈a::t then s.low a else s.ring x)=if y∈a::t then s.low a else s.ring y;by_cases e:x∈a::t
  .by_cases C:y∈a::t
   .rw[am e,am C]
   .rw[no y C]at B;have:=vn h B D;have:=((hC x).1 e).1;omega
  .rw[no x e]at j;by_cases C:y∈a::t
   .have:=vn h j h1;have:=((hC y).1 C).1;omega
   .rw[no y C]at B;rw[be e,be C];exact h.cmp x y j B h1 D
theorem Ct{succ:α->List α}{path:List α}{s:St α}{a z:α}(h:Inv succ (path++ [a]) s)(j: ∀z∈succ a,s.low z≠0)(C:s.on z=1)(B:s.low z<s.low a)(hr:lL succ a z):Inv succ path s:=by
 refine⟨h.lG,h.inj,h.FO,h.Cg,h.uy,h.yQ,h.Il,fun g b=>h.Lt g (P2 _ b),fun y x=>?_,fun g b=>h.dn g (P2 _ b),fun y x A w u=>?_,h.Nt,h.cmp⟩
 .obtain⟨g,g1,g2,g3⟩:=h.up y x;rcases PG.1 g1 with q|q
  .exact⟨g,q,g2,g3⟩
  .rw[Pw]at q;subst q;obtain⟨k,D,I,G⟩:=h.up z C;rcases PG.1 D with q|q
   .exact⟨k,q,by omega,(g3.trans hr).trans G⟩
   .rw[Pw]at q;subst q;omega
 .by_cases e:y=a
  .rw[e]at u;exact j w u
  .exact h.az y x (by rw[PG,Pw];exact fun g=>g.elim A e) w u
def iR(V:List α)(s:St α):Nat:=(V.filter fun x=>lc (s.low x=0)).length
theorem filter_le{β:Type}{p q:β->Bool}: ∀(l:List β),(∀x∈l,p x=jp->q x=jp)->(l.filter p).length<=(l.filter q).length
 | [],_=>Ps _
 |x::r,h=>by
  have u:=filter_le r fun y j=>h y (Pu _ j);have b:=h x Pv;rw[Ra,Ra];split
  .rename_i g;rw[am (b g)];simp only[PX];omega
  .split
   .simp only[PX];omega
   .exact u
theorem filter_lt{β:Type}{p q:β->Bool}{a:β}: ∀(l:List β),(∀x∈l,p x=jp->q x=jp)->a∈l->p a=kw->q a=jp->(l.filter p).length<(l.filter q).length
 | [],_,h,_,_=>nomatch h
 |x::r,h,ha,h1,h2=>by
  have j:=filter_le r fun y b=>h y (Pu _ b);have u:=h x Pv;rw[Ra,Ra];rcases Px.1 ha with e|e
  .subst e;rw[h1,h2];simp only[Q7,if_false,if_true,PX];omega
  .have A:=filter_lt r (fun y b=>h y (Pu _ b)) e h1 h2;split
   .rename_i g;rw[am (u g)];simp only[PX];omega
   .split
    .simp only[PX];omega
    .exact A
theorem uo{β:Type}{V:List β}{s s':St β}(h:Le s s'):iR V s'<=iR V s:=
 filter_le V fun x _ b=>by
  refine decide_eq_true (QK fun g=>?_);have:=of_decide_eq_true b;rw[h.low x g]at this;exact g this
theorem jz{V:List α}{s:St α}{a:α}(hn: ∀x,0<=s.low x∧s.low x<=s.n)(ha:a∈V)(h0:s.low a=0):iR V (push s a)<iR V s:=by
 have la:(push s a).low a=(s.n:Int)+1:=iT _ _ _;refine filter_lt V (fun x _ b=>?_) ha (decide_eq_false (by rw[la];omega)) (decide_eq_true h0);have:=of_decide_eq_true b;by_cases e:x=a
 .rw[e];exact decide_eq_true h0
 .refine decide_eq_true ?_;rwa[show(push s a).low x=s.low x from jN e]at this
structure eD (succ:α->List α) (path:List α) (a:α) (s0:St α) (done:List α) (q:Int×St α) (t:List α):Prop where
 inv:Inv succ (path++ [a]) q.2
 le:Le (push s0 a) q.2
 stack:q.2.stack=s0.stack++a::t
 new: ∀y∈t,s0.low y=0
 LD:q.1<=(s0.n:Int)+1
 l1: ∀y∈t,∀z∈succ y,q.2.on z=1->q.1<=q.2.low z
 NB: ∀z∈done,q.2.on z=1->q.1<=q.2.low z
 proc: ∀z∈done,q.2.low z≠0
 l2: ∃z,q.2.on z=1∧q.2.low z=q.1∧lL succ a z
section
variable {succ:α->List α} {path:List α} {a:α} {s0:St α} {done:List α} {q:Int×St α} {t:List α}
theorem eD.la(h:eD succ path a s0 done q t):q.2.low a=(s0.n:Int)+1:=by
 have e:(push s0 a).low a=(s0.n:Int)+1:=iT _ _ _;rw[h.le.low a (by rw[e];omega),e]
theorem eD.pa(h:eD succ path a s0 done q t)(h0:Inv succ path s0)(ha:s0.low a=0): ∀g∈path,q.2.low g<q.2.low a:=by
 intro g j;have h1:=h0.Lt g j;have b:=sA h0 h1;have e:(push s0 a).low g=s0.low g:=jN fun e=>b (by rw[e];exact ha);rw[h.la,h.le.low g (by rw[e];exact b),e];have:=h0.lG g;omega
theorem eD.at_(h:eD succ path a s0 done q t):a∉t:=fun g=>by
 have:=h.inv.yQ;rw[h.stack,RW]at this;have:=(P5.1 this.2.1).1 a g;omega
theorem eD.step{V:List α}{u:α->St α->Int×St α}{f:Nat}(hV: ∀a∈V,∀b∈succ a,b∈V)
  (ih: ∀(path:List α) (b:α) (s:St α),Inv succ path s->s.low b=0->b∈V->(∀g∈path,lL succ g b)->iR V s<=f-> ∃t,L7 succ path b s (u b s).1 (u b s).2 t)
  (h:eD succ path a s0 done q t) (h0:Inv succ path s0) (ha:s0.low a=0) (a0:a∈V) {b:α} (hb:b∈succ a) (hw:iR V q.2<=f): ∃t',eD succ path a s0 (done++ [b]) (qo u q b) t':=by
 have i0:=h.la;have e0:=h.pa h0 ha;have b0:=h.at_;have d0:q.2.on a=1:=(h.inv.uy a).2 (by rw[h.stack];simp);unfold qo;by_cases G:q.2.low b=0
 .rw[am G];have J: ∀g∈path++ [a],lL succ g b:=by
   intro g hg;refine .step (h.inv.dn g hg a d0 ?_) hb;rcases PG.1 hg with e|e
   .have:=e0 g e;omega
   .rw[Pw]at e;rw[e];exact RH _
  obtain⟨tb,x⟩:=ih (path++ [a]) b q.2 h.inv G (hV a a0 b hb) J hw;generalize u b q.2=w at x ⊢;obtain⟨I,s'⟩:=w;have C: ∀z,q.2.on z=1->s'.on z=1:=fun z j=>(x.inv.uy z).2 (by rw[x.stack];exact P2 _ ((h.inv.uy z).1 j));have k0:=h.le.n;have j0:(push s0 a).n=s0.n+1:=rfl;refine⟨t++tb,x.inv,h.le.trans x.le,?_,fun y R=>?_,?_,fun y R z j D=>?_,fun z j D=>?_,fun z j=>?_,?_⟩
  .show s'.stack=_;rw[x.stack,h.stack];simp
  .rcases PG.1 R with g|g
   .exact h.new y g
   .refine QK fun hc=>?_
    have e:(push s0 a).low y=s0.low y:=jN fun e=>hc (by rw[e];exact ha);have:=h.le.low y (by rw[e];exact hc);rw[x.new y g,e]at this;exact hc this.symm
  .have:=h.LD;show min q.1 I<=_;omega
  .show min q.1 I<=s'.low z;rcases PG.1 R with g|g
   .have g0:q.2.on y=1:=(h.inv.uy y).2 (by rw[h.stack];simp[g]);have f0:y∉path++ [a]:=by
     rw[PG,Pw];rintro(e|e)
     .have h1:=sA h0 (h0.Lt y e);exact h1 (h.new y g)
     .rw[e]at g;exact b0 g
    have A:=h.inv.az y (sA h.inv g0) f0 z j;have B:=Ea h.inv x.le A D;have:=h.l1 y g z j B;rw[x.le.low z A];omega
   .have:I<=s'.low z:=x.l1 y g z j D;omega
  .show min q.1 I<=s'.low z;rcases PG.1 j with g|g
   .have A:=h.proc z g;have:=h.NB z g (Ea h.inv x.le A D);rw[x.le.low z A];omega
   .rw[Pw]at g;subst g;have:I<=s'.low z:=x.LD;omega
  .show s'.low z≠0;rcases PG.1 j with g|g
   .have A:=h.proc z g;rw[x.le.low z A];exact A
   .rw[Pw]at g;subst g;have:(q.2.n:Int)<s'.low z:=x.at_;omega
  .obtain⟨z,Y,z2,z3⟩:=h.l2;by_cases c0:q.1<=I
   .exact⟨z,C z Y,by show s'.low z=min q.1 I;rw[x.le.low z (sA h.inv Y)];omega,z3⟩
   .rcases x.l2 with⟨_,g⟩|⟨w,w1,w2,w3⟩
    .have h1:I=s'.low b:=g;have h2:(q.2.n:Int)<s'.low b:=x.at_;have h3:=h.LD;omega
    .have w2:s'.low w=I:=w2;exact⟨w,C w ((h.inv.uy w).2 w1),by show s'.low w=min q.1 I;omega,(lL.one hb).trans w3⟩
 .rw[be G];by_cases B:q.2.on b=1
  .rw[am B];refine⟨t,h.inv,h.le,h.stack,h.new,?_,fun y R z j D=>?_,fun z j D=>?_,fun z j=>?_,?_⟩
   .have:=h.LD;show min q.1 (q.2.low b)<=_;omega
   .have:=h.l1 y R z j D;show min q.1 (q.2.low b)<=q.2.low z;omega
   .show min q.1 (q.2.low b)<=q.2.low z;rcases PG.1 j with g|g
    .have:=h.NB z g D;omega
    .rw[Pw]at g;subst g;omega
   .rcases PG.1 j with g|g
    .exact h.proc z g
    .rw[Pw]at g;subst g;exact G
   .obtain⟨z,Y,z2,z3⟩:=h.l2;by_cases c0:q.1<=q.2.low b
    .exact⟨z,Y,by show q.2.low z=min q.1 (q.2.low b);omega,z3⟩
    .exact⟨b,B,by show q.2.low b=min q.1 (q.2.low b);omega,.one hb⟩
  .rw[be B];refine⟨t,h.inv,h.le,h.stack,h.new,h.LD,h.l1,fun z j D=>?_,fun z j=>?_,h.l2⟩
   .rcases PG.1 j with g|g
    .exact h.NB z g D
    .rw[Pw]at g;subst g;exact absurd D B
   .rcases PG.1 j with g|g
    .exact h.proc z g
    .rw[Pw]at g;subst g;exact G
end
theorem pO{succ:α->List α}{path:List α}{a:α}{s0:St α}{V:List α}{j:α->St α->Int×St α}{f:Nat}(B: ∀a∈V,∀b∈succ a,b∈V)
  (C: ∀(path:List α) (b:α) (s:St α),Inv succ path s->s.low b=0->b∈V->(∀g∈path,lL succ g b)->iR V s<=f-> ∃t,L7 succ path b s (j b s).1 (j b s).2 t)
  (h0:Inv succ path s0) (ha:s0.low a=0) (u:a∈V) (y:iR V (push s0 a)<=f):
  ∀(l done:List α) (q:Int×St α) (t:List α),eD succ path a s0 done q t->(∀b∈l,b∈succ a)-> ∃G,eD succ path a s0 (done++l) (l.foldl (qo j) q) G
 | [],done,q,t,h,_=>⟨t,by rw[Qm];exact h⟩
 |b::l,done,q,t,h,hl=>by
  obtain⟨t1,h1⟩:=h.step B C h0 ha u (hl b Pv) (Qa (uo h.le) y);obtain⟨t2,A⟩:=pO B C h0 ha u y l (done++ [b]) _ t1 h1 fun x D=>hl x (Pu _ D);exact⟨t2,by rw[PH]at A;exact A⟩
theorem nC{succ:α->List α}{V:List α}(hV: ∀a∈V,∀b∈succ a,b∈V): ∀(f:Nat) (path:List α) (a:α) (s:St α),Inv succ path s->s.low a=0->a∈V->(∀g∈path,lL succ g a)->iR V s<=f-> ∃t,L7 succ path a s (dI succ f a s).1 (dI succ f a s).2 t
 |0,path,a,s,h,ha,haV,_,hw=>by
  have:=jz h.lG haV ha;omega
 |f+1,path,a,s,h,ha,haV,hp,hw=>by
  have d0:=jz h.lG haV ha;have hi:=xH h ha hp;have la:(push s a).low a=(s.n:Int)+1:=iT _ _ _;have oa:(push s a).on a=1:=iT _ _ _;have J:eD succ path a s [] ((s.n:Int)+1,push s a) []:=
   ⟨hi,.refl _,rfl,fun y u=>(nomatch u),RH _,fun y u=>(nomatch u),fun z C=>(nomatch C),fun z C=>(nomatch C),⟨a,oa,la,.refl _⟩⟩
  obtain⟨t,j⟩:=pO hV (fun p b s'=>nC hV f p b s') h ha haV (by omega) (succ a) [] _ [] J fun b hb=>hb;rw[Rc]at j;rw[dI];generalize(succ a).foldl (qo (dI succ f)) ((s.n:Int)+1,push s a)=q at j ⊢;have D:=j.la;have b0:=j.pa h ha;have R:=j.at_;have a0:q.2.on a=1:=(j.inv.uy a).2 (by rw[j.stack];simp);have A:Le s q.2:=(HB h ha).trans j.le;unfold rf;by_cases Y:q.1=(s.n:Int)+1
  .rw[am Y,pJ (by rw[j.stack];simp;omega) j.stack R a0,<-D];refine⟨[],HC j.inv j.stack b0 j.proc fun y u z C G=>?_,⟨A.low,fun x hx=>?_,A.n⟩,by rw[Qm];rfl,fun y u=>(nomatch u),?_,?_,fun y u=>(nomatch u),.inl ⟨am Pv,?_⟩⟩
   .rw[D,<-Y];rcases Px.1 u with e|e
    .rw[e]at C;exact j.NB z C G
    .exact j.l1 y e z C G
   .show(if x∈a::t then(2:Int) else q.2.on x)=2;split
    .rfl
    .exact A.Il x hx
   .show(s.n:Int)<q.2.low a;omega
   .show q.1<=q.2.low a;omega
   .show q.1=q.2.low a;omega
  .rw[be Y];have c0:q.1<q.2.low a:=by have:=j.LD;omega
   obtain⟨z,z1,z2,z3⟩:=j.l2;have I:=j.inv.yQ;rw[j.stack,RW]at I;refine⟨a::t,Ct j.inv j.proc z1 (by omega) z3,A,j.stack,fun y u=>?_,by omega,by omega,fun y u w B G=>?_,.inr ⟨z,?_,z2,z3⟩⟩
   .rcases Px.1 u with e|e
    .rw[e];exact ha
    .exact j.new y e
   .rcases Px.1 u with e|e
    .rw[e]at B;exact j.NB w B G
    .exact j.l1 y e w B G
   .have:=(j.inv.uy z).1 z1;rw[j.stack]at this;rcases PG.1 this with g|g
    .exact g
    .rcases Px.1 g with e|e
     .rw[e]at z2;omega
     .have:=(P5.1 I.2.1).1 z e;omega
theorem JV{β:Type}(succ:β->List β):Inv succ [] (St.o:St β):=
 ⟨fun _=>⟨RH _,RH _⟩,fun _ _ _ h=>absurd Z h,fun _=>Iff.rfl,fun _=> .inl Z,fun _=>⟨fun h=>(nomatch h),fun h=>(nomatch h)⟩,.nil,fun _ h=>(nomatch h),fun _ h=>(nomatch h),fun _ h=>(nomatch h),fun _ h=>(nomatch h),fun _ h=>absurd Z h,fun _ h=>(nomatch h),fun _ _ h=>(nomatch h)⟩
theorem pF{succ:α->List α}{V:List α}(A: ∀a∈V,∀b∈succ a,b∈V){f:Nat}(hf:V.length<=f): ∀(l:List α) (s:St α),(∀a∈l,a∈V)->Inv succ [] s->Inv succ [] (fH succ f l s)∧(∀x,s.low x≠0->(fH succ f l s).low x≠0)∧ ∀a∈l,(fH succ f l s).low a≠0
 | [],s,_,h=>⟨h,fun _ j=>j,fun _ u=>(nomatch u)⟩
 |b::l,s,hl,h=>by
  have key: ∃s',(if s.low b=0 then(dI succ f b s).2 else s)=s'∧Inv succ [] s'∧(∀x,s.low x≠0->s'.low x≠0)∧s'.low b≠0:=by
   by_cases e:s.low b=0
   .obtain⟨t,y⟩:=nC A f [] b s h e (hl b Pv) (fun g C=>nomatch C) (Qa (QH _ _) hf);refine⟨_,am e,y.inv,fun x j=>by rw[y.le.low x j];exact j,?_⟩;have:=y.at_;omega
   .exact⟨s,be e,h,fun _ j=>j,e⟩
  obtain⟨s',e,D,G,I⟩:=key;obtain⟨i1,i2,i3⟩:=pF A hf l s' (fun a u=>hl a (Pu _ u)) D;have B:fH succ f (b::l) s=fH succ f l s':=by
   show fH succ f l (if s.low b=0 then(dI succ f b s).2 else s)=_;rw[e]
  rw[B];refine⟨i1,fun x j=>i2 x (G x j),fun a u=>?_⟩;rcases Px.1 u with q|q
  .rw[q];exact i2 b I
  .exact i3 a q
theorem B3{succ:α->List α}{V:List α}(A: ∀a∈V,∀b∈succ a,b∈V){f:Nat}(hf:V.length<=f){a b:α}(ha:a∈V)(hb:b∈V):
  (fH succ f V St.o).ring a=(fH succ f V St.o).ring b↔lL succ a b∧lL succ b a:=by
 obtain⟨h,_,y⟩:=pF A hf V St.o (fun _ h=>h) (JV succ);generalize fH succ f V St.o=s at h y ⊢;have j: ∀x∈V,s.on x=2:=by
  intro x B;rcases h.Cg x with g|g|g
  .exact absurd ((h.FO x).1 g) (y x B)
  .obtain⟨k,C,_⟩:=h.up x g;exact nomatch C
  .exact g
 constructor
 .intro e;obtain⟨r,r1,r2,I,J⟩:=h.Nt a (j a ha);obtain⟨q,R,Y,D,G⟩:=h.Nt b (j b hb);have u:s.low r≠0:=fun g=>by have:=(h.FO r).2 g;omega
  have:r=q:=h.inj r q (by omega) u;subst this;exact⟨I.trans G,D.trans J⟩
 .rintro⟨h1,h2⟩;exact h.cmp a b (j a ha) (j b hb) h1 h2
end
end
end
end Go.Tj
namespace Go.Wa
section
inductive tI (R:Nat->Nat->Prop):Nat->Nat->Prop
 |refl (a:Nat):tI R a a
 |step {a b c:Nat} (h:R a b) (t:tI R b c):tI R a c
theorem tI.trans{R:Nat->Nat->Prop}{a b c:Nat}(h:tI R a b)(k:tI R b c):tI R a c:=by
 induction h with
 |refl=>exact k
 |step h _ ih=>exact .step h (ih k)
def W(E:Nat->Nat->Bool):Nat->Nat->Nat->Bool
 |0,a,b=>E a b||a==b
 |m+1,a,b=>W E m a b||(W E m a m&&W E m m b)
variable {E:Nat->Nat->Bool}
theorem W.mono(m a b:Nat)(h:W E m a b=jp):W E (m+1) a b=jp:=by simp[W,h]
theorem W.JW{m k a b:Nat}(hk:m<=k)(h:W E m a b=jp):W E k a b=jp:=by
 induction hk with
 |refl=>exact h
 |step _ ih=>exact W.mono _ _ _ ih
theorem W.self(m a:Nat):W E m a a=jp:=W.JW (PA m) (by simp[W])
theorem W.trans: ∀(m a k b:Nat),k<m->W E m a k=jp->W E m k b=jp->W E m a b=jp
 |m+1,a,k,b,hk,h1,j=>by
  simp only[W,Ry,Qc]at h1 j ⊢;by_cases A:k=m
  .subst A;have B:W E k a k=jp:=by rcases h1 with h|h;exact h;exact h.1
   have C:W E k k b=jp:=by rcases j with h|h;exact h;exact h.2
   exact .inr ⟨B,C⟩
  .have u:k<m:=by omega
   rcases h1 with h1|⟨h1,y⟩<;>rcases j with j|⟨j,x⟩
   .exact .inl (W.trans m a k b u h1 j)
   .exact .inr ⟨W.trans m a k m u h1 j,x⟩
   .exact .inr ⟨h1,W.trans m m k b u y j⟩
   .exact .inr ⟨h1,x⟩
theorem W.sound: ∀(m a b:Nat),W E m a b=jp->tI (fun a b=>E a b=jp) a b
 |0,a,b,h=>by
  simp only[W,Ry,beq_iff_eq]at h;rcases h with h|h
  .exact .step h (.refl _)
  .subst h;exact .refl _
 |m+1,a,b,h=>by
  simp only[W,Ry,Qc]at h;rcases h with h|⟨h1,j⟩
  .exact W.sound m a b h
  .exact(W.sound m a m h1).trans (W.sound m m b j)
theorem W.iff{n:Nat}(hE: ∀a b,a<n->E a b=jp->b<n){a b:Nat}(ha:a<n):W E n a b=jp↔tI (fun a b=>E a b=jp) a b:=by
 refine⟨W.sound n a b,fun h=>?_⟩
 induction h with
 |refl a=>exact W.self n a
 |step h _ ih=>
  have hb:=hE _ _ ha h;exact W.trans n _ _ _ hb (W.JW (PA n) (by simp[W,h])) (ih hb)
def V(E:Nat->Nat->Bool)(m a b x y:Nat):Bool:=if x<a∨x=a∧y<b then W E (m+1) x y else W E m x y
theorem V.row(m a b y:Nat):V E m a b m y=W E m m y:=by
 unfold V;split
 .simp only[W];cases W E m m y<;>simp
 .rfl
end
end Go.Wa
namespace Go.Co
section
section
variable {n:Nat} {tM:Nat->Nat->Bool} {e:Nat->Nat->Bool}
structure Far (n:Nat) (e tM:Nat->Nat->Bool):Prop where
 refl: ∀a,a<n->tM a a=jp
 trans: ∀a b c,tM a b=jp->tM b c=jp->tM a c=jp
 edge: ∀a b,a<n->e a b=jp->tM a b=jp
 lt: ∀a b,a<n->tM a b=jp->b<n
 elt: ∀a b,a<n->e a b=jp->b<n
 split: ∀a b (p:Nat->Prop),a<n->tM a b=jp->p a-> ¬p b-> ∃x y,x<n∧tM a x=jp∧p x∧e x y=jp∧ ¬p y∧tM y b=jp
def cls(tM:Nat->Nat->Bool)(a b:Nat):Bool:=tM a b&&tM b a
end
end
end Go.Co
namespace Go.Rg
open Go.Wa Go.Co Go.Tj
section
section
variable {α:Type} [Inhabited α]
def ed(V:List α)(g:α->α->Bool)(i j:Nat):Bool:=lc (i<V.length)&&lc (j<V.length)&&g (V.getD i co) (V.getD j co)
def tM(V:List α)(g:α->α->Bool):Nat->Nat->Bool:=W (ed V g) V.length
theorem zV{V:List α}{g:α->α->Bool}{i j:Nat}:ed V g i j=jp↔i<V.length∧j<V.length∧g (V.getD i co) (V.getD j co)=jp:=by
 simp[ed,and_assoc]
theorem wj{V:List α}{a:α}(h:a∈V): ∃i,i<V.length∧V.getD i co=a:=by
 obtain⟨i,b,rfl⟩:=Ro.1 h;exact⟨i,b,by simp[Pk,b]⟩
theorem get_mem{V:List α}{i:Nat}(h:i<V.length):V.getD i co∈V:=by
 rw[Pk,Pl h];exact P3 h
theorem Ah{V:List α}(hn:V.Nodup){g:α->α->Bool}{succ:α->List α}(hs: ∀a∈V,∀b,b∈succ a↔b∈V∧g a b=jp){i j:Nat}(hi:i<V.length)(hj:j<V.length):
  tM V g i j=jp↔lL succ (V.getD i co) (V.getD j co):=by
 have B: ∀{x y:Nat},x<V.length->y<V.length->V.getD x co=V.getD y co->x=y:=by
  intro x y C u h;rw[Pk,Pk,Pl C,Pl u]at h;exact(List.getElem_inj hn).1 h
 rw[tM,W.iff (n:=V.length) (fun a b _ h=>(zV.1 h).2.1) hi];constructor
 .intro h;clear hj;have: ∀{a b:Nat},tI (fun a b=>ed V g a b=jp) a b->lL succ (V.getD a co) (V.getD b co):=by
   intro a b h
   induction h with
   |refl a=>exact .refl _
   |step h _ ih=>
    obtain⟨h1,A,D⟩:=zV.1 h;exact(lL.step (.refl _) ((hs _ (get_mem h1) _).2 ⟨get_mem A,D⟩)).trans ih
  exact this h
 .intro h;have key: ∀{a b:α},lL succ a b-> ∀x,x<V.length->V.getD x co=a-> ∃y,y<V.length∧V.getD y co=b∧tI (fun a b=>ed V g a b=jp) x y:=by
   intro a b h
   induction h with
   |refl=>exact fun x C G=>⟨x,C,G,.refl _⟩
   |step _ hc ih=>
    intro x C G;obtain⟨y,u,h1,A⟩:=ih x C G;subst h1;obtain⟨D,J⟩:=(hs _ (get_mem u) _).1 hc;obtain⟨z,I,rfl⟩:=wj D;exact⟨z,I,rfl,A.trans (.step (zV.2 ⟨u,I,J⟩) (.refl _))⟩
  obtain⟨y,u,h1,A⟩:=key h i hi Z;have:=B u hj h1;subst this;exact A
def tJ(V:List α)(g:α->α->Bool)(b:α->Int):Prop:= ∀i j,i<V.length->j<V.length->(b (V.getD i co)=b (V.getD j co)↔tM V g i j=jp∧tM V g j i=jp)
theorem DV[DecidableEq α]{V:List α}(hn:V.Nodup){g:α->α->Bool}{succ:α->List α}(hs: ∀a∈V,∀b,b∈succ a↔b∈V∧g a b=jp){f:Nat}(hf:V.length<=f):tJ V g (fH succ f V St.o).ring:=by
 intro i j u x;rw[B3 (fun a y b hb=>((hs a y b).1 hb).1) hf (get_mem u) (get_mem x),Ah hn hs u x,Ah hn hs x u]
end
end
end Go.Rg
namespace Go.Proofs.YtllkaddcplhklaaGreatDoor
open Go Go.Al
mutual
def named:Lit->List an
 | .mk k a _ _ _ _ _ _ b _=>if k=1∨k=2 then[a.rel] else if k=4 then fL b else[]
def fL:List Lit->List an
 | []=> []
 |l::r=>named l++fL r
end
def Ek(l:Lit):List an:=if l.kind=1∨l.kind=2 then[l.atom.rel] else if l.kind=4 then(l.ar.filter fun x=>lc (x.kind=1∨x.kind=2)).map fun x=>x.atom.rel else[]
theorem lX: ∀l:List Lit,fL l=l.flatMap named
 | []=>rfl
 |x::r=>by simp only[fL,Qs,lX r]
theorem uV: ∀(b:List Lit),(∀x∈b,x.kind≠4)->fL b=(b.filter fun x=>lc (x.kind=1∨x.kind=2)).map fun x=>x.atom.rel
 | [],_=>rfl
 | .mk k' a' op' le' ri' af' av' ao' b' at'::b,h=>by
  have j:k'≠4:=h (.mk k' a' op' le' ri' af' av' ao' b' at') (Pv ..);rw[fL,uV b fun y u=>h y (Pu _ u),Ra];by_cases hk:k'=1∨k'=2
  .have:lc ((Lit.mk k' a' op' le' ri' af' av' ao' b' at').kind=1∨(Lit.mk k' a' op' le' ri' af' av' ao' b' at').kind=2)=jp:=decide_eq_true hk;rw[this,named,am hk];rfl
  .have:lc ((Lit.mk k' a' op' le' ri' af' av' ao' b' at').kind=1∨(Lit.mk k' a' op' le' ri' af' av' ao' b' at').kind=2)=kw:=decide_eq_false hk;rw[this,named,be hk,be j];rfl
theorem Ej(l:Lit)(h:l.kind=4-> ∀x∈l.ar,x.kind≠4):named l=Ek l:=by
 obtain⟨k,a,op,le,B,u,A,y,b,at_⟩:=l;show(if k=1∨k=2 then[a.rel] else if k=4 then fL b else[])=if k=1∨k=2 then[a.rel] else if k=4 then(b.filter fun x=>lc (x.kind=1∨x.kind=2)).map fun x=>x.atom.rel else[];by_cases j:k=4
 .rw[uV b (h j)]
 .rw[be j,be j]
def lg(l:Lit):Nat:=if l.kind=1 then 1 else 2
def cI(p:Prog):List (an×an×Nat):=p.rules.flatMap fun r=>r.body.flatMap fun l=>(named l).map fun t=>(r.head.rel,t,lg l)
def gD(hs:List (an×an×Nat))(a b:an):Nat:=hs.foldl (fun m x=>if x.1=a∧x.2.1=b then max m x.2.2 else m) 0
theorem wF(a b:an): ∀(hs:List (an×an×Nat)) (m:Nat),m<=hs.foldl (fun m x=>if x.1=a∧x.2.1=b then max m x.2.2 else m) m∧(∀k,(a,b,k)∈hs->k<=hs.foldl (fun m x=>if x.1=a∧x.2.1=b then max m x.2.2 else m) m)∧
  (hs.foldl (fun m x=>if x.1=a∧x.2.1=b then max m x.2.2 else m) m=m∨(a,b,hs.foldl (fun m x=>if x.1=a∧x.2.1=b then max m x.2.2 else m) m)∈hs)
 | [],m=>⟨Ps _,fun _ h=>(nomatch h),.inl Z⟩
 |(x,y,k)::hs,m=>by
  obtain⟨h1,u,h3⟩:=wF a b hs (if x=a∧y=b then max m k else m);rw[Qd];refine⟨Qa ?_ h1,fun A hk=>?_,?_⟩
  .split<;>omega
  .rcases Px.1 hk with h|h
   .cases h;refine Qa ?_ h1;rw[am ⟨rfl,rfl⟩];exact Nat.le_max_right _ _
   .exact u A h
  .rcases h3 with h3|h3
   .by_cases j:x=a∧y=b
    .rw[am j]at h3;rcases Nat.le_total m k with h4|h4
     .right;rw[SY h4]at h3;obtain⟨rfl,rfl⟩:=j;simp only[and_self,if_true,SY h4]at h3 ⊢;rw[h3];simp
     .left;rw[Nat.max_eq_left h4]at h3;simp only[j,and_self,if_true,Nat.max_eq_left h4]at h3 ⊢;exact h3
    .rw[be j]at h3;left;simp only[be j];exact h3
   .exact .inr (Pu _ h3)
theorem NO{hs:List (an×an×Nat)}{a b:an}{k:Nat}(h:(a,b,k)∈hs):k<=gD hs a b:=(wF a b hs 0).2.1 k h
theorem NN(hs:List (an×an×Nat))(a b:an):gD hs a b=0∨(a,b,gD hs a b)∈hs:=(wF a b hs 0).2.2
def ns(p:Prog):List an:=de (p.aR.map Decl.name)
theorem vD.Lz{l:List an}(h:vD l):l.Nodup:=by
 refine Sn ?_ h;intro a b j e;subst e;exact kU _ j
def eg(p:Prog)(a b:an):Bool:=lc (gD (cI p) a b≠0)
def LS(p:Prog):Nat->Nat->Bool:=Go.Rg.tM (ns p) (eg p)
theorem DW{p:Prog}(hn:(p.aR.map Decl.name).Nodup){f:Nat}(hf:(ns p).length<=f):Go.Rg.tJ (ns p) (eg p) (Go.Tj.fH (fun a=>(ns p).filter (eg p a)) f (ns p) Go.Tj.St.o).ring:=
 Go.Rg.DV (V:=ns p) (vD.Lz (iF hn)) (fun a _ b=>by rw[PU]) hf
def ringEq(p:Prog)(a b:an):Bool:=(PT (ns p).length).any fun i=>(PT (ns p).length).any fun j=>lc ((ns p).getD i co=a)&&lc ((ns p).getD j co=b)&&Go.Co.cls (LS p) i j
theorem y1{p:Prog}{a b:an}:ringEq p a b=jp↔ ∃i j,i<(ns p).length∧j<(ns p).length∧(ns p).getD i co=a∧(ns p).getD j co=b∧LS p i j=jp∧LS p j i=jp:=by
 simp only[ringEq,Qz,QM,Qc,decide_eq_true_eq,Go.Co.cls];constructor
 .rintro⟨i,hi,j,hj,⟨h1,h2⟩,h3,h4⟩;exact⟨i,j,hi,hj,h1,h2,h3,h4⟩
 .rintro⟨i,j,hi,hj,h1,h2,h3,h4⟩;exact⟨i,hi,j,hj,⟨h1,h2⟩,h3,h4⟩
theorem qs{p:Prog}{u:an->Int}(hr:Go.Rg.tJ (ns p) (eg p) u){a b:an}(ha:a∈ns p)(hb:b∈ns p):ringEq p a b=lc (u a=u b):=by
 rw[QJ,y1,decide_eq_true_eq];constructor
 .rintro⟨i,j,x,y,rfl,rfl,A,B⟩;exact(hr i j x y).2 ⟨A,B⟩
 .intro h;obtain⟨i,x,rfl⟩:=Go.Rg.wj ha;obtain⟨j,y,rfl⟩:=Go.Rg.wj hb;obtain⟨A,B⟩:=(hr i j x y).1 h;exact⟨i,j,x,y,rfl,rfl,A,B⟩
def y0(p:Prog)(r:ax):Bool:=r.body.any fun l=>lc (l.kind=1)&&ringEq p l.atom.rel r.head.rel
def vN(p:Prog)(r:ax):Option Lit:=r.body.find? fun l=>lc (l.kind≠1)&&(named l).any fun t=>ringEq p t r.head.rel
def p8(r:ax):Bool:=r.head.ak.any fun t=>lc (t.kind=1)&&!du (jR r) t.var
def vE(p:Prog)(r:ax):fh:=match vN p r with
 |some l=>(70,l.at)
 |none=>if p8 r=jp∧y0 p r=jp then(71,r.at_) else fh.z
def oq(p:Prog):fh:=if(dR p).1≠0 then dR p else((p.rules.map (vE p)).find? fun d=>lc (d.1≠0)).getD fh.z
end Go.Proofs.YtllkaddcplhklaaGreatDoor
namespace Go.Re
open Go.Tj
section
variable {α:Type}
structure Mid (succ:α->List α) (S T:α->Prop) (a:α) (l:List α):Prop where
 Ny: ∀x,S x->T x
 here:T a
 new: ∀x,T x->S x∨lL succ a x
 next: ∀x,T x->S x∨x=a∨ ∀y∈succ x,T y
 done: ∀y∈l,T y
structure Top (succ:α->List α) (V:α->Prop) (T:α->Prop) (l:List α):Prop where
 new: ∀x,T x-> ∃r∈l,V r∧lL succ r x
 next: ∀x,T x-> ∀y∈succ x,T y
 done: ∀r∈l,V r->T r
end
end Go.Re
namespace Go.Proofs.YtllkaddcplhklaaGreatDoor
open Go Go.Al
section
section
variable {r t:ax} (hh:t.head=r.head) (hb: ∀x,x∈t.body↔x∈r.body)
include hh hb
end
section
variable {r t:ax} (hh:t.head=r.head) (hb: ∀x,x∈t.body↔x∈r.body)
include hh hb
end
structure Pc (r t u:ax) (i k:Int):Prop where
 OA: ∀x∈eC (aD (bK r)),x∈eC (aD (aC r))
 Nw: ∀x∈eC (aD (nf r)),x∈eC (aD (bK r))
 outer:eC (aD (aC t))=eC (aD (aC r))
 lim:eC (aD (bK t))=eC (aD (bK r))
 plain:eC (aD (nf t))=eC (aD (nf r))
 loc:wq t i=wq r k
 wq: ∀x∈wq r k,x∉eC (aD (aC r))
 more: ∀x∈eC (aD (bK r)),x∈eC (aD (bK u))
 hasX:Lx [88]∈eC (aD (bK u))
end
theorem Hl{n sz:Nat}{es:List (List PV)}(h:es.all (bm n)=jp):(AO.row sz es).low n:=fun _ e b=>P4.1 h e (PY b)
def tL:List IV->List IV->Prop
 | [],[]=>True
 |p::r,q::s=>jy p q∧tL r s
 |_,_=>False
theorem tL.length: ∀{a b:List IV},tL a b->a.length=b.length
 | [],[],_=>rfl
 |_::_,_::_,h=>congrArg (· +1) (tL.length h.2)
 | [],_::_,h=>h.elim
 |_::_,[],h=>h.elim
theorem tL.get: ∀{a b:List IV},tL a b-> ∀(j:Nat) (q:IV),b[j]? =io q-> ∃p,a[j]? =io p∧jy p q
 | [],[],_,j,q,h=>by simp at h
 |p::r,q0::s,hh,j,q,h=>by
  cases j with
  |zero=>simp at h;subst h;exact⟨p,rfl,hh.1⟩
  |succ j=>simpa using tL.get hh.2 j q (by simpa using h)
 | [],_::_,hh,_,_,_=>hh.elim
 |_::_,[],hh,_,_,_=>hh.elim
theorem AE(p:Prog): ∀i,∀d∈nP p i,¬d.1=0
 |0,d,h=>by cases h
 |i+1,d,h=>by
  rw[nP]at h;rcases PG.1 h with h|h
  .exact AE p i d h
  .split at h
   .cases h
   .rename_i g;rw[Pw]at h;subst h;exact g
theorem AA(p:Prog): ∀i,∀d∈oI p i,¬d.1=0
 |0,d,h=>by cases h
 |i+1,d,h=>by
  rw[oI]at h;rcases PG.1 h with h|h
  .exact AA p i d h
  .split at h
   .cases h
   .rename_i g;rw[Pw]at h;subst h;exact g
theorem CE(p:Prog): ∀d∈jK p,¬d.1=0:=fun d h=>by
 rcases PG.1 h with h|h
 .exact AE p _ d h
 .exact AA p _ d h
theorem zZ(p:Prog):(dR p).1=0↔jK p=[]:=by
 unfold dR;cases h:jK p with
 |nil=>exact⟨fun _=>rfl,fun _=>rfl⟩
 |cons d l=>exact⟨fun e=>absurd e (CE p d (by rw[h];exact Pv)),fun e=>nomatch e⟩
theorem xv(p:Prog): ∀n,oI p n=[]↔ ∀i,i<n->(sj p i).1=0
 |0=>⟨fun _ i h=>absurd h (Rr i),fun _=>rfl⟩
 |n+1=>by
  rw[oI,R9,xv p n];constructor
  .rintro⟨h1,h2⟩ i b;rcases Rn.1 b with h|h
   .exact h1 i h
   .subst h;by_cases g:(sj p i).1=0
    .exact g
    .rw[be g]at h2;cases h2
  .intro h;exact⟨fun i b=>h i (by omega),am (h n (by omega))⟩
theorem kB{α:Type}[Inhabited α]{l:List α}{i:Nat}(hi:i<l.length):l.getD i co∈l:=by rw[Pk,Pl hi];exact P3 hi
structure eF (p:Prog):Prop where
 nodup:(p.aR.map Decl.name).Nodup
 len:p.aR.length<=64
 Ba: ∀r∈p.rules,r.head.rel∈p.aR.map Decl.name
 lits: ∀r∈p.rules,∀l∈r.body,∀t∈named l,t∈p.aR.map Decl.name
 flat: ∀r∈p.rules,∀l∈r.body,l.kind=4-> ∀x∈l.ar,x.kind≠4
theorem xB(p:Prog): ∀n,nP p n=[]-> ∀i,i<n->fx p i=0
 |0,_,i,h=>absurd h (Rr _)
 |n+1,h,i,hi=>by
  rw[nP]at h;obtain⟨h1,b⟩:=R9.1 h;rcases Rn.1 hi with h3|h3
  .exact xB p n h1 i h3
  .subst h3;exact Decidable.byContradiction fun j=>by rw[be j]at b;cases b
theorem qu{d:Decl}{i k:Int}(h:nQ d i k=0): ¬i>=64∧ ¬k>0:=by
 unfold nQ at h;split at h
 .cases h
 .split at h
  .cases h
  .rename_i b;split at h
   .cases h
   .rename_i j;exact⟨fun g=>b (.inl g),j⟩
theorem sD{α:Type}[Inhabited α]: ∀(n:Nat) (l:List α),l.length=n->(∀i,i<l.length->l.getD i co∉l.take i)->l.Nodup
 |0,l,hn,_=>by rw[QU.1 hn];exact P6
 |n+1,l,hn,h=>by
  have hd:l=l.take n++ [l.getD n co]:=by rw[<-cm (by omega),Pz (by omega)]
  have h1:=sD n (l.take n) (by rw[Qy];omega) fun i u=>by
   rw[Qy]at u;have:=h i (by omega);rw[List.take_take,Nat.min_eq_left (by omega),Pk,P8,am (by omega),<-Pk];exact this
  rw[hd,QS];refine⟨h1,by simp,fun a j b hb e=>?_⟩;rw[Pw]at hb;subst e;subst hb;exact h n (by omega) j
theorem xz{s:an}: ∀(l:List Decl) (m:DM),cU .str (l.foldl iJ m) s=jp->s∈m.map Qi∨s∈l.map Decl.name
 | [],m,h=> .inl (yj.1 h)
 |d::l,m,h=>by
  rw[Qd]at h;rcases xz l _ h with h1|h1
  .unfold iJ at h1;split at h1
   .exact .inl h1
   .rename_i b;rw[dA (fun g=>b (yj.2 g))]at h1;rcases PG.1 h1 with h3|h3
    .exact .inl h3
    .rw[Pw]at h3;subst h3;exact .inr Pv
  .exact .inr (Pu _ h1)
theorem IM{p:Prog}{a:Atom}(h:tG p a=kw):a.rel∈p.aR.map Decl.name:=by
 unfold tG at h;rw[Q8]at h;rcases xz p.aR [] h with h1|h1
 .cases h1
 .exact h1
theorem kV{r:ax}{e:Int}(he:e≠0){f:Int->Bool}{k:fh}(h:(l4 r e f k).1=0):(∀lit∈gB r.body.length,f lit=kw)∧k.1=0:=by
 unfold l4 at h;split at h
 .exact absurd h he
 .rename_i h1;refine⟨fun lit hl=>?_,h⟩;have:=Rv.1 h1 lit hl;simpa using this
theorem yZ{p:Prog}{r:ax}{n:Int}(h:(uD p r n).1=0):(wo p r).1=0:=by
 unfold uD at h;split at h
 .cases h
 .split at h
  .cases h
  .split at h
   .cases h
   .split at h
    .cases h
    .split at h
     .cases h
     .exact h
theorem HR(n:Nat):(-1:Int)∈gB n:=PW.2 ⟨0,by simp,by simp⟩
theorem AV{n i:Nat}(h:i<n):(i:Int)∈gB n:=PW.2 ⟨i+1,by simp;omega,by simp⟩
theorem Ck{l:Lit}{t:an}(hf:l.kind=4-> ∀x∈l.ar,x.kind≠4)(h:t∈named l): ∃a∈(if l.kind=4 then l.ar else[l]).flatMap cB,a.rel=t:=by
 rw[Ej l hf]at h;unfold Ek at h;split at h
 .rename_i hk;rw[Pw]at h;have b: ¬l.kind=4:=by omega
  refine⟨l.atom,?_,h.symm⟩;rw[be b,Sd];exact⟨l,Rq _,by rw[cB,am hk];exact Rq _⟩
 .split at h
  .rename_i b;obtain⟨x,y,rfl⟩:=PW.1 h;obtain⟨j,u⟩:=PU.1 y;refine⟨x.atom,?_,rfl⟩;rw[am b,Sd];exact⟨x,j,by rw[cB,am (zT u)];exact Rq _⟩
  .cases h
theorem Bk{p:Prog}(h:(dR p).1=0):eF p:=by
 have hF:=(zZ p).1 h;unfold jK at hF;obtain⟨h1,B⟩:=R9.1 hF;have h1:=xB p _ h1;have B:=(xv p _).1 B;have u: ∀r∈p.rules,(wo p r).1=0:=by
  intro r y;obtain⟨i,b,rfl⟩:=Ro.1 y;have:=yZ (B i b);rwa[Pk,Pl b]at this
 have A: ∀r∈p.rules,∀lit∈gB r.body.length,∀a∈eA r lit,a.rel∈p.aR.map Decl.name:=by
  intro r y lit hl a C;have:=(kV (by decide) (u r y)).1 lit hl;exact IM (by simpa using Qk.1 this a C)
 have j: ∀r∈p.rules,∀l∈r.body,l.kind=4-> ∀x∈l.ar,x.kind≠4:=by
  intro r y l hl I x Y;obtain⟨i,b,rfl⟩:=Ro.1 hl;have:=(kV (by decide) (kV (by decide) (kV (by decide) (u r y)).2).2).1 _ (AV b);have e:aq r (i:Int)=r.body[i]:=by unfold aq;simp[Pk,b]
  unfold kM at this;rw[be (by omega),e,am I,RB]at this;simpa using Qk.1 this.1 x Y
 refine⟨sD _ _ Z fun i b G=>?_,?_,fun r y=>?_,fun r y l hl t R=>?_,j⟩
 .rw[PS]at b;have:=(qu (h1 i b)).2;rw[bz]at this;have D:om (fc p i) (p.aR.getD i co).name=0:=by omega
  rw[qh]at D;apply D;unfold fc;rw[Pk,Pp,Pl b,<-List.map_take]at G;rw[Pk,Pl b];exact G
 .refine Rj fun J=>?_
  have:=(qu (h1 64 J)).1;omega
 .exact A r y (-1) (HR _) r.head (by unfold eA;simp)
 .obtain⟨i,b,rfl⟩:=Ro.1 hl;obtain⟨a,C,rfl⟩:=Ck (j r y _ hl) R;refine A r y _ (AV b) a ?_;have e:aq r (i:Int)=r.body[i]:=by unfold aq;simp[Pk,b]
  unfold eA wu;rw[be (by omega),e];exact C
theorem eF.cI{p:Prog}(h:eF p){x:an×an×Nat}(j:x∈cI p):x.1∈p.aR.map Decl.name∧x.2.1∈p.aR.map Decl.name∧0<x.2.2:=by
 simp only[_root_.Go.Proofs.YtllkaddcplhklaaGreatDoor.cI,Sd,PW]at j;obtain⟨r,b,l,hl,t,u,rfl⟩:=j;refine⟨h.Ba r b,h.lits r b l hl t u,?_⟩;show 0<lg l;unfold lg;split<;>omega
abbrev GM:=List ((KC.str).K×Option NM)
def Ce:Option NM->IV
 |none=> .v (.map is)
 |some r=>xW r
abbrev vd(m:GM):IV:= .dQ .str Ce is (.map is) m
def CQ(row:NM)(t:an)(b:Int):NM:=cA .str row t (max (dt .str row t 0) b)
def iH(hs:List (an×an×Nat))(a:an):NM:=hs.foldl (fun row x=>if x.1=a then CQ row x.2.1 x.2.2 else row) []
def bZ(p:Prog)(hs:List (an×an×Nat)):GM:=p.aR.map fun r=>(r.name,io (iH hs r.name))
def sY(p:Prog):IV:=if(dR p).1=0 then vd (bZ p (cI p)) else .v (.map is)
theorem mJ(hs:List (an×an×Nat))(x:an×an×Nat)(a:an):iH (hs++ [x]) a=if x.1=a then CQ (iH hs a) x.2.1 x.2.2 else iH hs a:=by
 simp[iH,List.foldl_append]
theorem uF(hs:List (an×an×Nat))(a:an):((iH hs a).map Qi).Nodup∧ ∀b:an,b∈(iH hs a).map Qi↔ ∃k,(a,b,k)∈hs:=by
 induction hs using oE with
 |h0=>exact⟨P6,fun b=>by simp[iH]⟩
 |h1 hs x ih=>
  obtain⟨B,A⟩:=ih;obtain⟨y,z,k⟩:=x;rw[mJ];by_cases h:y=a
  .rw[am h,CQ];by_cases C:z∈(iH hs a).map Qi
   .rw[oU C];refine⟨B,fun b=>?_⟩;rw[A];constructor
    .rintro⟨j,hj⟩;exact⟨j,P2 _ hj⟩
    .rintro⟨j,hj⟩;rcases PG.1 hj with hj|hj
     .exact⟨j,hj⟩
     .rw[Pw]at hj;cases hj;exact(A z).1 C
   .rw[dA C];refine⟨QS.2 ⟨B,by simp,fun u hu v D e=>?_⟩,fun b=>?_⟩
    .rw[Pw]at D;subst e;subst D;exact C hu
    .rw[PG,A,Pw];constructor
     .rintro(⟨j,hj⟩|rfl)
      .exact⟨j,P2 _ hj⟩
      .exact⟨k,Q4 _ (by rw[h];exact Rq _)⟩
     .rintro⟨j,hj⟩;rcases PG.1 hj with hj|hj
      .exact .inl ⟨j,hj⟩
      .rw[Pw]at hj;cases hj;exact .inr Z
  .rw[be h];refine⟨B,fun b=>?_⟩;rw[A];constructor
   .rintro⟨j,hj⟩;exact⟨j,P2 _ hj⟩
   .rintro⟨j,hj⟩;rcases PG.1 hj with hj|hj
    .exact⟨j,hj⟩
    .rw[Pw]at hj;cases hj;exact absurd Z h
theorem DT(hs:List (an×an×Nat))(a:an):(iH hs a).length<=hs.length:=by
 induction hs using oE with
 |h0=>exact Ps _
 |h1 hs x ih=>
  rw[mJ,Pn,Qn];split
  .have:=sv (iH hs a) x.2.1 (max (dt .str (iH hs a) x.2.1 0) x.2.2);unfold CQ;omega
  .omega
def bc(p:Prog)(a:an):List an:=(ns p).filter (eg p a)
theorem xe{p:Prog}(h:eF p)(a:an):de ((iH (cI p) a).map Qi)=bc p a:=by
 refine nJ (iF (uF _ _).1) (RD _ (iF h.nodup)) fun b=>?_;rw[kn,(uF _ _).2,bc,PU,ns,kn,eg,decide_eq_true_eq];constructor
 .rintro⟨k,hk⟩;have h1:=h.cI hk;refine⟨h1.2.1,?_⟩;have:=NO hk;have h2:0<k:=h1.2.2;omega
 .rintro⟨_,h1⟩;rcases NN (cI p) a b with h2|h2
  .exact absurd h2 h1
  .exact⟨_,h2⟩
theorem EG(p:Prog)(hs:List (an×an×Nat)){a:an}(h:a∈p.aR.map Decl.name):dt .str (bZ p hs) a is=io (iH hs a):=by
 unfold bZ
 revert h
 generalize p.aR=l
 induction l with
 |nil=>intro h;cases h
 |cons d l ih=>
  intro h;simp only[Py,dt];by_cases e:d.name=a
  .rw[am e,e]
  .rw[be e];rw[Py,Px]at h;exact ih (h.resolve_left fun g=>e g.symm)
theorem zu(p:Prog)(hs:List (an×an×Nat)):(bZ p hs).map Qi=p.aR.map Decl.name:=by
 simp[bZ]
theorem qA{b:List Lit}{i:Nat}(h:i<b.length):fL (b.take (i+1))=fL (b.take i)++named (b.getD i co):=by
 rw[lX,lX,cm h,R3];simp
mutual
theorem km: ∀l:Lit,(named l).length<=l.size
 | .mk k a op le ri af av ao b at_=>by
  have:=nX b;unfold named Lit.size;split
  .simp;omega
  .split
   .omega
   .simp
theorem nX: ∀l:List Lit,(fL l).length<=Lit.aB l
 | []=>Ps _
 |l::r=>by
  have h1:=km l;have b:=nX r;simp only[fL,Lit.aB,Pn];omega
end
theorem Cj(b:List Lit)(i:Nat):(fL (b.take i)).length<=Lit.aB b:=by
 have h1:=nX (b.take i);have j: ∀(b:List Lit) (i:Nat),Lit.aB (b.take i)<=Lit.aB b:=by
  intro b
  induction b with
  |nil=>intro i;simp[Lit.aB]
  |cons x r ih=>
   intro i;cases i with
   |zero=>simp[Lit.aB]
   |succ i=>have:=ih i;simp only[QQ,Lit.aB];omega
 exact Qa h1 (j b i)
def Ma(n:Nat):Prop:= ∀l:Lit,l.size<=n->Pure Tryz.prog 62 [ag l.c] (.iv (strs (named l)))
theorem oP(l:Lit):named l=if l.kind=1∨l.kind=2 then[l.atom.rel] else if l.kind=4 then fL l.ar else[]:=by cases l;rfl
theorem DC: ∀n:Nat,n<=100000000000->Ma n
 |0,_=>fun l h=>absurd l.size_pos (by omega)
 |n+1,hn=>fun l h=>by
  have C:=l.size_eq;refine Al.Pure.le (aa:=[ag l.c]) (args:=[ag l.c1]) ?_ ⟨l.AZ,ac⟩;refine ai ab Tryz.func62 Z (by decide) Tryz.ntmps62 Z (by simp) Z ?_;refine zJ Z Z (fun b=>?_) fun b=>?_
  .have b:l.kind=1:=by simpa using b
   rw[oP,am (.inl b)];refine gA Z (dq (by first|exact .inr Z|exact .inl Z) Z Z (rfl) (rfl))
  have b: ¬l.kind=1:=by simpa using b
  refine zJ Z Z (fun j=>?_) fun j=>?_
  .have j:l.kind=2:=by simpa using j
   rw[oP,am (.inr j)];refine gA Z (dq (by first|exact .inr Z|exact .inl Z) Z Z (rfl) (rfl))
  have j: ¬l.kind=2:=by simpa using j
  rw[oP,be (by rintro(g|g);exact b g;exact j g)];refine zE Z Z (fun u=>?_) fun u=>?_
  .have u: ¬l.kind=4:=by simpa using u
   rw[be u];refine gA Z (zL ?_);exact .nil _ _
  have u:l.kind=4:=by simpa using u
  rw[am u];refine gA Z ?_;refine lh 3 1 Z ?_;refine aJ 0 l.ar.length (PA _) (fun i=>⟨[(3,.sl 2 0 (fL (l.ar.take i)).length 1),(19,.iv (lits l.ar)),(20,pI l.ar.length),(21,pI i)],[(2,io (aF 1 (fL (l.ar.take i)) cS))],3⟩) (fun _=>True) [1] ac
   (zW (zS trivial)) fun i D _=>?_
  have y:=Cj l.ar i;have x:=Lit.aG l.ar;refine zJ Z Z (fun h1=>?_) fun h1=>?_
  .have h1:i<l.ar.length:=by simpa using h1
   have A:=Lit.bT l.ar i h1;have B:=km (l.ar.getD i co);refine gA Z (zp (DC n (by omega) (l.ar.getD i co) (by omega)) ?_);refine gA Z ⟨h1,ac,[4],zM ⟨.row (by rw[qA h1,Pn]),rfl,bi (bi (bi ac))⟩ (hR Z (by rw[vP,qA h1,PF]) Z ac)⟩
  .have h1:l.ar.length<=i:=by simpa using h1
   rw[Pz h1];refine gA Z (dq (by first|exact .inr Z|exact .inl Z) Z Z (rfl) (rfl))
theorem Ax(l:Lit)(h:l.size<=100000000000):Pure Tryz.prog 62 [ag l.c] (.iv (strs (named l))):=DC l.size h l (Ps _)
end Go.Proofs.YtllkaddcplhklaaGreatDoor
namespace Go.Proofs.YtllkaddcplhklaaGreatDoor
open Go Go.Al Go.Proofs.Tryz
section
theorem JQ(hS:fC)(el:Nat->List IV):Pure prog 84 [.iv (.ct 1 0 el)] (.bq []):=by
 refine⟨bf func84 Z (by decide),fun M N w vs x j y=>?_⟩;obtain⟨v,rfl⟩: ∃v,vs=[v]:=by
  cases vs with
  |nil=>cases j
  |cons v r=>cases r with
   |nil=>exact⟨v,rfl⟩
   |cons a b=>simp at j
 have u:=y 0 _ Z;simp only[Rs]at u;obtain⟨a,a0,rfl⟩: ∃a a0,v= .slice a 0 a0:=by
  cases u with
  |iv _ _ h=>cases h with
   |fp _ _ a a0=>exact⟨a,a0,rfl⟩
   |ct _ _ _ b off a0=>exact⟨_,a0,rfl⟩
 refine(hS.2 a a0 w).mono ?_;rintro e A ⟨rfl,rfl⟩;exact⟨_,M,N,.bq [],_,_,rfl,⟨rfl,rfl,rfl⟩,.refl _ _ _ _ _,x,.bq [] #[] Z (by simp)⟩
section
variable {V:Type}
def A6(m:List ((KC.str).K×V))(vs:List Nat):List an:=fM (m.map fun x=>(x.1,0)) vs
theorem yh(m:List ((KC.str).K×V))(vs:List Nat)(j:Nat)(x:(KC.str).K×V)(h:m[j]? =io x):A6 m (j::vs)=A6 m vs++ [x.1]:=
 jG _ _ _ (x.1,0) (by rw[Pp,h];rfl)
theorem A5(m:List ((KC.str).K×V))(vs:List Nat)(hn:vs.Nodup)(hb: ∀j∈vs,j<m.length)(b: ∀j,j<m.length->j∈vs):(A6 m vs).Perm (m.map (·.1)):=by
 have:=iY (m.map fun x=>(x.1,(0:Int))) vs hn (by simpa using hb) (by simpa using b);rw[PQ]at this;exact this
theorem A4(m:List ((KC.str).K×V))(vs:List Nat):(A6 m vs).length<=vs.length:=sS _ _
end
def Cd(i:Nat):List an->PV
 | []=> .sl i 1 0 1
 |x::r=> .sl i 0 (x::r).length 1
def tY(n:Nat):List an->AO
 | []=> .row 1 (RU n [pS Pq])
 |x::r=>aF 1 (x::r) cS
theorem uQ(i:Nat)(l:List an)(s:an):Cd i (l++ [s])= .sl i 0 (l.length+1) 1:=by cases l<;>simp[Cd]
theorem uR(n:Nat)(l:List an)(s:an):tY n (l++ [s])=aF 1 (l++ [s]) cS:=by cases l<;>rfl
theorem xP{i:Nat}{l:List an}(h:l≠ []):Cd i l= .sl i 0 l.length 1:=by cases l with
 |nil=>exact absurd Z h
 |cons=>rfl
theorem xQ{n:Nat}{l:List an}(h:l≠ []):tY n l=aF 1 l cS:=by cases l with
 |nil=>exact absurd Z h
 |cons=>rfl
theorem D8(n:Nat)(l:List an)(k:Nat):(tY n l).low k:=by
 cases l with
 |nil=>
  intro j e b;rw[List.getElem?_replicate]at b;split at b
  .cases b;rfl
  .cases b
 |cons x r=>exact dK k
theorem D7(n:Nat)(l:List an)(σ:Nat->Nat):(tY n l).cv σ=tY n l:=by
 cases l with
 |nil=>simp only[tY,AO.cv];rw[List.map_replicate];rfl
 |cons x r=>exact b3 σ
theorem hO{h r:AH}{σ:Nat->Nat}{i n m:Nat}{o:AO}{l:List an}(ho:h.get (σ i)=io o)(he:o=tY m l)(hi:PI i n=jp)(hr:mG n σ h r):mG n σ h ((i,io (tY m l))::r):=
 ⟨⟨_,ho,.of_eq (by rw[D7,he])⟩,Pf hi,D8 m l n,hr⟩
theorem oL(i:Nat)(l:List an){n:Nat}(h:PI i n=jp):(Cd i l).low n=jp:=by cases l<;>exact h
theorem Dz(hS:fC)(m:NM)(hm:m.length<=100000000):Pure prog 66 [.iv (xW m)] (.iv (strs (de (m.map (·.1))))):=by
 refine ai ab func66 Z (by decide) ntmps66 Z (by simp) Z ?_;rcases Nat.eq_zero_or_pos m.length with h0|h0
 .have h0:=QU.1 h0;subst h0;refine gA Z (EI ab 1 (fun k=>cS (([]:List an).getD k co)) Z Z Z Z Z Z Z Z Z Z ?_);refine gA Z ?_;refine eU ([]:List ((KC.str).K×Int)) (fun _=>⟨[(3,.iv (.ct 1 0 (fun k=>cS (([]:List an).getD k co)))),(9,.ptr 1 0)],[(1,io (.bI .str wY ([]:List ((KC.str).K×Int)) [] is))],2⟩) (fun _=>True) [] ac
   (zW (hI Z Z (.inl Z) Z trivial)) fun vs _=>?_
  refine fj Z ac (dm Z Z Z Z Z (by decide) (fun _=>?_) fun j x A _=>?_)
  .refine gA Z (aE (JQ hS _) Z Z Z Z Z Z ?_);refine gA Z (zL ?_);exact .of_eq (show _=PV.iv (strs (de [])) by rw[mI];rfl)
  .cases A
 refine gA Z (J0 ab m.length 0 Z Z Z Z Z Z Z Z Z h0 (by omega) (by show 16*m.length<=_;omega) Z (by decide) Z (.inl ⟨rfl,rfl⟩) Z ?_);refine gA Z ?_;refine eU m (fun vs=>⟨[(3,Cd 2 (A6 m vs)),(9,.ptr 1 0)],[(1,io (.bI .str wY m vs is)),(2,io (tY m.length (A6 m vs)))],3⟩) (fun vs=>vs.Nodup∧ ∀j∈vs,j<m.length) [0] ⟨P6,by simp⟩
  (zW (hI Z Z (.inl Z) Z (hO Z Z Z trivial))) fun vs Y=>?_
 obtain⟨u,y⟩:=Y;have J:=sF u y;have C:=A4 m vs;refine fj Z ac (dm Z Z Z Z Z (by decide) (fun B=>?_) fun j x A G=>?_)
 .have I:=A5 m vs u y B;have D:A6 m vs≠ []:=fun e=>by
   have:=I.length_eq;rw[e,PS]at this;simp at this;omega
  rw[xP D,xQ D];refine fj Z ac (bQ [2] (Fw hS (A6 m vs) (by omega)) Z Z Z Z Z (congrArg (fun o=> [io o]) (b3 _).symm) Z Z ?_);refine fj Z ac (dq (.inr Z) Z Z ((sk _ _).trans (by rw[nK I])) ?_);rw[iO,<-I.length_eq]
 .have hk:=yh m vs j x A;have a0: ∀b,b=j::vs->b.Nodup∧ ∀i∈b,i<m.length:=fun b e=>e▸⟨P0.2 ⟨G,u⟩,fun i hi=>(Px.1 hi).elim (fun h=>h▸(Pj.1 A).1) (y i)⟩
  cases hl:A6 m vs with
  |nil=>
   rw[hl,Rc]at hk;refine gA Z (wD ab Z Z Z Z Z Z Z Z Z (by simp;omega) (by simp) (jq Z) Z ?_);refine gA Z ?_;exact⟨j,x,A,G,a0 _ Z,[4],zM ⟨.of_eq (by rw[hk];rfl),oL 2 _ Z,.refl _,rfl,ac⟩ (hI Z Z (.inr Z) Z (hO Z (by rw[hk];rfl) Z ac))⟩
  |cons a r=>
   rw[hl]at hk C;have R:(r.length+1)<=m.length:=by simpa using Qa C J
   refine gA Z ⟨j,x,A,G,a0 _ Z,[4],zM ⟨.of_eq (by rw[hk,uQ];rfl),oL 2 _ Z,.refl _,rfl,ac⟩ (hI Z Z (.inr Z) Z (hO Z (by rw[hk,uR,aF,PF];rfl) Z ac))⟩
theorem DA(hS:fC)(m:GM)(hm:m.length<=100000000):Pure prog 67 [.iv (vd m)] (.iv (strs (de (m.map (·.1))))):=by
 refine ai ab func67 Z (by decide) ntmps67 Z (by simp) Z ?_;rcases Nat.eq_zero_or_pos m.length with h0|h0
 .have h0:=QU.1 h0;subst h0;refine gA Z (EI ab 1 (fun k=>cS (([]:List an).getD k co)) Z Z Z Z Z Z Z Z Z Z ?_);refine gA Z ?_;refine eU ([]:List ((KC.str).K×Option NM)) (fun _=>⟨[(3,.iv (.ct 1 0 (fun k=>cS (([]:List an).getD k co)))),(9,.ptr 1 0)],[(1,io (.bI .str Ce ([]:List ((KC.str).K×Option NM)) [] is))],2⟩) (fun _=>True) [] ac
   (zW (hI Z Z (.inl Z) Z trivial)) fun vs _=>?_
  refine fj Z ac (dm Z Z Z Z Z (by decide) (fun _=>?_) fun j x A _=>?_)
  .refine gA Z (aE (JQ hS _) Z Z Z Z Z Z ?_);refine gA Z (zL ?_);exact .of_eq (show _=PV.iv (strs (de [])) by rw[mI];rfl)
  .cases A
 refine gA Z (J0 ab m.length 0 Z Z Z Z Z Z Z Z Z h0 (by omega) (by show 16*m.length<=_;omega) Z (by decide) Z (.inl ⟨rfl,rfl⟩) Z ?_);refine gA Z ?_;refine eU m (fun vs=>⟨[(3,Cd 2 (A6 m vs)),(9,.ptr 1 0)],[(1,io (.bI .str Ce m vs is)),(2,io (tY m.length (A6 m vs)))],3⟩) (fun vs=>vs.Nodup∧ ∀j∈vs,j<m.length) [0] ⟨P6,by simp⟩
  (zW (hI Z Z (.inl Z) Z (hO Z Z Z trivial))) fun vs Y=>?_
 obtain⟨u,y⟩:=Y;have J:=sF u y;have C:=A4 m vs;refine fj Z ac (dm Z Z Z Z Z (by decide) (fun B=>?_) fun j x A G=>?_)
 .have I:=A5 m vs u y B;have D:A6 m vs≠ []:=fun e=>by
   have:=I.length_eq;rw[e,PS]at this;simp at this;omega
  rw[xP D,xQ D];refine fj Z ac (bQ [2] (Fw hS (A6 m vs) (by omega)) Z Z Z Z Z (congrArg (fun o=> [io o]) (b3 _).symm) Z Z ?_);refine fj Z ac (dq (.inr Z) Z Z ((sk _ _).trans (by rw[nK I])) ?_);rw[iO,<-I.length_eq]
 .have hk:=yh m vs j x A;have a0: ∀b,b=j::vs->b.Nodup∧ ∀i∈b,i<m.length:=fun b e=>e▸⟨P0.2 ⟨G,u⟩,fun i hi=>(Px.1 hi).elim (fun h=>h▸(Pj.1 A).1) (y i)⟩
  cases hl:A6 m vs with
  |nil=>
   rw[hl,Rc]at hk;refine gA Z (wD ab Z Z Z Z Z Z Z Z Z (by simp;omega) (by simp) (jq Z) Z ?_);refine gA Z ?_;exact⟨j,x,A,G,a0 _ Z,[4],zM ⟨.of_eq (by rw[hk];rfl),oL 2 _ Z,.refl _,rfl,ac⟩ (hI Z Z (.inr Z) Z (hO Z (by rw[hk];rfl) Z ac))⟩
  |cons a r=>
   rw[hl]at hk C;have R:(r.length+1)<=m.length:=by simpa using Qa C J
   refine gA Z ⟨j,x,A,G,a0 _ Z,[4],zM ⟨.of_eq (by rw[hk,uQ];rfl),oL 2 _ Z,.refl _,rfl,ac⟩ (hI Z Z (.inr Z) Z (hO Z (by rw[hk,uR,aF,PF];rfl) Z ac))⟩
end
end Go.Proofs.YtllkaddcplhklaaGreatDoor
namespace Go.Proofs.YtllkaddcplhklaaGreatDoor
open Go Go.Al
def Ox(b:Option Nat):IV:= .v (.map b)
def dvR(p:PV):Option Nat:=match p with
 | .iv (.v (.map b))=>b
 |_=>is
abbrev RM:=List ((KC.str).K×Option Nat)
abbrev gO(m:RM):AO:= .map .str Ox is (.map is) dvR m
abbrev wZ:=Nat×Nat
def iW(l:List Decl)(B:List wZ):RM:=Sv (fun d b=>(d.name,io b.1)) l B
def dx(L:List (Nat×Nat×NM)):bn:=fun b=>(L.find? fun y=>y.1==b).map fun y=> .obj (cG y.2.2) y.2.1
theorem fZ(L:List (Nat×Nat×NM)):(dx L).still:=by
 intro b i e h;unfold dx at h;cases hf:L.find? fun y=>y.1==b<;>rw[hf]at h<;>cases h
def rowsOf(l:List Decl)(B:List wZ)(hs:List (an×an×Nat)):List (Nat×Nat×NM):=Sv (fun d b=>(b.1,b.2,iH hs d.name)) l B
theorem Cm{V:Type}{kc:KC}{ev:V->IV}{z:V}{b:Value}{u:PV->V}(y: ∀M,IR M (ev z) b):dT .ff (.map kc ev z b u []):=
 ⟨id,fun M N U w j x=>⟨#[],0,x,⟨rfl,by simp,by simp,by simp,by simp⟩,y M⟩⟩
structure BOK (l:List Decl) (i:Nat) (B:List wZ):Prop where
 len:B.length=i
 nd:(B.map Qi).Nodup
theorem xD(l:List Decl):iW l []=[]:=by cases l<;>rfl
theorem sq(l:List Decl)(hs:List (an×an×Nat)):rowsOf l [] hs=[]:=by cases l<;>rfl
theorem yS(l:List Decl)(hs:List (an×an×Nat)):dx (rowsOf l [] hs)=bn.nil:=by rw[sq];rfl
theorem rO{α β γ:Type}[Inhabited α](f:α->β->γ): ∀(l:List α) (B:List β) (x:β),B.length<l.length->Sv f l (B++ [x])=Sv f l B++ [f (l.getD B.length co) x]
 |a::l,[],x,_=>by simp
 |a::l,b::B,x,h=>by
  have:=rO f l B x (by simpa using h);simp[this]
 | [],B,x,h=>absurd h (Rr _)
theorem HI{B:List wZ}{b e:Nat}(h:(B.map Qi).Nodup)(hb:b∉B.map Qi):((B++ [(b,e)]).map Qi).Nodup:=by
 rw[PF,QS];exact⟨h,by simp,fun u hu v j g=>hb (by simp at j;subst g;subst j;exact hu)⟩
theorem lT(hs:List (an×an×Nat)): ∀(l:List Decl) (B:List wZ),B.length<=l.length->(rowsOf l B hs).map Qi=B.map Qi
 |_,[],_=>by simp[sq]
 |d::l,b::B,h=>by
  have:=lT hs l B (by simpa using h);simp only[rowsOf,Sw,Py]at this ⊢;rw[this]
 | [],b::B,h=>absurd h (by simp)
theorem BW{l:List Decl}{B:List wZ}{hs:List (an×an×Nat)}{b:Nat}(hl:B.length<=l.length)(h:dx (rowsOf l B hs) b=is):b∉B.map Qi:=by
 rw[<-lT hs l B hl];intro j;obtain⟨y,u,rfl⟩:=PW.1 j;unfold dx at h;rw[RJ,Rv]at h;exact h y u (by simp)
theorem xp(L:List (Nat×Nat×NM))(y:Nat×Nat×NM)(h:y.1∉L.map Qi):dx (L++ [y])=(dx L).put y.1 (.obj (cG y.2.2) y.2.1):=by
 funext c
 unfold dx bn.put;rw[List.find?_append];by_cases b:c=y.1
 .subst b;rw[am Z];have:L.find? (fun z=>z.1==y.1)=is:=Rv.2 fun z j=>by
   simp only[beq_iff_eq];exact fun e=>h (e▸Sf j)
  rw[this];simp
 .rw[be b];have: ¬y.1=c:=fun e=>b e.symm;cases hf:L.find? (fun z=>z.1==c)<;>simp[this,hf]
theorem BV{l:List Decl}{B:List wZ}{b e:Nat}(hl:B.length<l.length)(hb:b∉B.map Qi):dx (rowsOf l (B++ [(b,e)]) [])=(dx (rowsOf l B [])).put b (.obj (cG []) e):=by
 have h:rowsOf l (B++ [(b,e)]) []=rowsOf l B []++ [(b,e,[])]:=rO _ l B (b,e) hl;rw[h];exact xp _ _ (by rw[lT _ _ _ (Nat.le_of_lt hl)];exact hb)
theorem xC: ∀(l:List Decl) (B:List wZ),B.length<=l.length->(iW l B).map Qi=(l.take B.length).map Decl.name
 |_,[],_=>by simp[xD]
 |d::l,b::B,h=>by
  have:=xC l B (by simpa using h);simp only[iW,Sw,Py,PX,QQ]at this ⊢;rw[this]
 | [],b::B,h=>absurd h (by simp)
theorem Hy{V:Type}{m:List ((KC.str).K×V)}{s:an}{v:V}(h:s∉m.map Qi):cA .str m s v=m++ [(s,v)]:=by
 induction m with
 |nil=>rfl
 |cons x r ih=>
  obtain⟨a,c⟩:=x;simp only[Py,Px,not_or]at h;have: ¬a=s:=fun e=>h.1 e.symm;simp only[cA,be this,ih h.2];rfl
theorem D2{l:List Decl}{B:List wZ}{i b e:Nat}(hn:(l.map Decl.name).Nodup)(hi:B.length=i)(hl:i<l.length):cA .str (iW l B) (l.getD i co).name (io b)=iW l (B++ [(b,e)]):=by
 subst hi;have h:iW l (B++ [(b,e)])=iW l B++ [((l.getD B.length co).name,io b)]:=rO _ l B (b,e) hl;rw[h];apply Hy;rw[xC l B (Nat.le_of_lt hl)];intro u;have j:l.map Decl.name=(l.take B.length).map Decl.name++(l.drop B.length).map Decl.name:=by rw[<-PF,RQ]
 rw[j,QS]at hn;refine hn.2.2 _ u _ (PW.2 ⟨l.getD B.length co,?_,rfl⟩) Z;rw[Pk,Pl hl];exact List.mem_drop_iff_getElem.2 ⟨0,by simpa using hl,by simp⟩
def oY(r:ax)(l:Lit):List (an×an×Nat):=(named l).map fun t=>(r.head.rel,t,lg l)
def Bc(r:ax):List (an×an×Nat):=r.body.flatMap (oY r)
theorem Bl: ∀{L:List (Nat×Nat×NM)} {j:Nat} {y:Nat×Nat×NM},(L.map Qi).Nodup->L[j]? =io y->L.find? (fun z=>z.1==y.1)=io y
 | [],_,_,_,h=>by simp at h
 |x::L,0,y,_,h=>by
  simp only[List.getElem?_cons_zero,Ph]at h;subst h;simp
 |x::L,j+1,y,hn,h=>by
  rw[R5]at h;rw[Py,P0]at hn;have b: ¬x.1=y.1:=fun e=>hn.1 (e▸Sf (PY h));rw[List.find?_cons_of_neg (by simpa using b)];exact Bl hn.2 h
theorem oF{l:List Decl}{B:List wZ}{hs:List (an×an×Nat)}{j:Nat}{d:Decl}{b:wZ}(hl:B.length=l.length)(hn:(B.map Qi).Nodup)(hd:l[j]? =io d)(hb:B[j]? =io b):dx (rowsOf l B hs) b.1=io (.obj (cG (iH hs d.name)) b.2):=by
 have h:(rowsOf l B hs)[j]? =io (b.1,b.2,iH hs d.name):=by
  unfold rowsOf;rw[SD,hd,hb]
 have u:=Bl (by rw[lT hs l B (SQ hl)];exact hn) h;unfold dx;rw[u];rfl
theorem xo{l:List Decl}{B:List wZ}{hs:List (an×an×Nat)}{c:Nat}(hl:B.length<=l.length)(h:c∉B.map Qi):dx (rowsOf l B hs) c=is:=by
 rw[<-lT hs l B hl]at h;unfold dx;rw[RJ,Rv];intro y b;simp only[beq_iff_eq];exact fun e=>h (e▸Sf b)
theorem BU{l:List Decl}{B:List wZ}{hs:List (an×an×Nat)}{j h:Nat}{d:Decl}{b:wZ}{t:an}(hl:B.length=l.length)(hn:(B.map Qi).Nodup)(J:(l.map Decl.name).Nodup)(hd:l[j]? =io d)(hb:B[j]? =io b):
  (dx (rowsOf l B hs)).put b.1 (.obj (cG (CQ (iH hs d.name) t h)) b.2)=dx (rowsOf l B (hs++ [(d.name,t,h)])):=by
 funext c
 unfold bn.put;by_cases y:c=b.1
 .subst y;rw[am Z,oF hl hn hd hb,mJ,am Z]
 .rw[be y];by_cases I:c∈B.map Qi
  .obtain⟨Y,x,rfl⟩:=PW.1 I;obtain⟨i,A,rfl⟩:=Ro.1 x;have u:i<l.length:=by omega
   have C:i≠j:=fun e=>y (by subst e;rw[Pl A]at hb;cases hb;rfl);rw[oF hl hn (Pl u) (Pl A),oF hl hn (Pl u) (Pl A),mJ,be];intro e;have R:=(Pj.1 hd)
   obtain⟨D,G⟩:=R;apply C;refine(List.getElem_inj J (h₀:=by simpa using u) (h₁:=by simpa using D)).1 ?_;rw[Q3,Q3,G];exact e.symm
  .rw[xo (SQ hl) I,xo (SQ hl) I]
theorem Lq{l:List Decl}{B:List wZ}{a:an}(hl:B.length=l.length)(u:(l.map Decl.name).Nodup)(ha:a∈l.map Decl.name): ∃(j:Nat) (d:Decl) (b:wZ),l[j]? =io d∧B[j]? =io b∧d.name=a∧dt .str (iW l B) a is=io b.1:=by
 induction l generalizing B with
 |nil=>cases ha
 |cons d l ih=>
  cases B with
  |nil=>cases hl
  |cons b B=>
   by_cases h:d.name=a
   .exact⟨0,d,b,rfl,rfl,h,by simp[iW,dt,h]⟩
   .rw[Py,P0]at u;rw[Py,Px]at ha;obtain⟨j,y,x,h1,A,C,D⟩:=ih (by simpa using hl) u.2 (ha.resolve_left fun e=>h e.symm);exact⟨j+1,y,x,h1,A,C,by simpa[iW,dt,h]using D⟩
def dvG(_:PV):Option NM:=is
theorem C8{p:Prog}{B:List wZ}(hl:B.length=p.aR.length)(hn:(B.map Qi).Nodup){hs:List (an×an×Nat)}:Ka (dx (rowsOf p.aR B hs)) (gO (iW p.aR B)) (.map .str Ce is (.map is) dvG (bZ p hs)):=by
 refine .map _ _ _ _ _ _ _ _ _ _ (by simp[bZ,iW,hl]) (fun j y u=>?_) fun M=> .v _
 obtain⟨d,hd,rfl⟩: ∃d,p.aR[j]? =io d∧y=(d.name,io (iH hs d.name)):=by
  unfold bZ at u;rw[Pp,Pr]at u;obtain⟨d,h1,x⟩:=u;exact⟨d,h1,x.symm⟩
 have b:j<B.length:=by rw[hl];exact(Pj.1 hd).1
 refine⟨(d.name,io B[j].1),.map (io B[j].1),?_,rfl,rfl,?_⟩
 .unfold iW;rw[SD,hd,Pl b]
 .refine .map B[j].1 B[j].2 .str wY 0 (.int .i64 0) OF (iH hs d.name) ?_;exact oF hl hn hd (Pl b)
theorem JS(hS:fC)(p:Prog)(hb:p.fit):Pure Tryz.prog 38 [ag p.c] (.bq [.iv (sY p),pB (lc ((dR p).1=0))]):=by
 refine ai ab Tryz.func38 Z (by decide) Tryz.ntmps38 Z (by simp) Z ?_;refine gA Z (zp (c24 p hb) ?_);refine zJ Z Z (fun I=>?_) fun I=>?_
 .have I: ¬(dR p).1=0:=by simpa using I
  rw[sY,be I,decide_eq_false I];exact zU Z
 have I:(dR p).1=0:=by simpa using I
 have hf:=Bk I;have w0:=hf.len;rw[sY,am I,decide_eq_true I];refine gM 1 Z ?_;refine NI ?_;refine cP (jb ?_);refine gA Z ?_;refine cP (cP (sX ⟨[(1,.ptr 0 0),(4,.mp 2),(20,.iv (bN 4 p.aR Decl.c)),(21,pI p.aR.length),(22,pI 0)],[(0,io (aw p.c)),(2,io (gO []))],3⟩ ?_ ?_))
 .refine gA Z (u9 [1] ?_);exact zW (zK (LK Z (fun _=> .v _) Z ac))
 refine ib (wA 0 p.aR.length (PA _) (fun i (x:ULift.{1} (List wZ))=>⟨[(1,.ptr 0 0),(4,.mp 2),(20,.iv (bN 4 p.aR Decl.c)),(21,pI p.aR.length),(22,pI i)],[(0,io (aw p.c)),(2,io (gO (iW p.aR x.down)))],3⟩)
  (fun i x Y=>BOK p.aR i x.down∧Y=dx (rowsOf p.aR x.down [])) ⟨[]⟩ [] ⟨⟨rfl,P6⟩,(yS p.aR []).symm⟩
  (zW (zK (hM Z (xD p.aR).symm Z ac))) (fun _ _ _ h=>h.2▸fZ _) fun i x Y hi hJ=>?_)
 obtain⟨hB,rfl⟩:=hJ;obtain⟨B⟩:=x;refine cP (jb ?_);refine gA Z ?_;refine cP (rB Z (fun h1=>ry ?_) (fun h1=>rA ?_))
 .have h1:i<p.aR.length:=by simpa using h1
  refine cP (ib (cP (jb ?_)));refine gA Z ?_;refine u7 (rz 4 ?_);refine gA Z ?_;refine wz (K2 (i:=4) (o':=cG []) Z (Cm eW)) fun t Y C=>?_;obtain⟨rfl,rfl⟩:=C;refine wz (BN (i:=4) (d:=29) (fZ _) Z Z ac Z) fun t Y C=>?_;obtain⟨b,e,p0,rfl,rfl⟩:=C;refine rz 1 ?_;refine gA Z ?_;refine sW (EE (jb ?_));refine gA Z ?_;have a0:=BW (by rw[hB.len];exact hi) p0;exact⟨h1,⟨B++ [(b,e)]⟩,[],⟨⟨by rw[Pn,hB.len];rfl,HI hB.nd a0⟩,(BV (by rw[hB.len];exact h1) a0).symm⟩,zW (zK (hM Z (D2 hf.nodup hB.len h1) Z ac))⟩
 have h1:p.aR.length<=i:=by simpa using h1
 have J:B.length=p.aR.length:=by have:B.length=i:=hB.len;omega
 have d0:=hB.nd;clear hB;have z0:p.rules.length<=1000000000:=hb.2.1
 let G:Nat->List (an×an×Nat):=fun r=>(p.rules.take r).flatMap Bc
 change GX _ _ [.code _] _ _ _;refine cP (cP (sX ⟨[(1,.ptr 0 0),(4,.mp 2),(32,.iv (bN 5 p.rules ax.c)),(33,pI p.rules.length),(34,pI 0)],[(0,io (aw p.c)),(2,io (gO (iW p.aR B)))],3⟩ ?_ ?_))
 .refine gA Z (u9 [] ?_);exact zW (zK (zC ac))
 refine ib (wA 0 p.rules.length (PA _) (fun i (_:PUnit.{2})=>⟨[(1,.ptr 0 0),(4,.mp 2),(32,.iv (bN 5 p.rules ax.c)),(33,pI p.rules.length),(34,pI i)],[(0,io (aw p.c)),(2,io (gO (iW p.aR B)))],3⟩)
  (fun i _ Y=>Y=dx (rowsOf p.aR B (G i))) ⟨⟩ [] Z (zW (zK (zC ac))) (fun _ _ _ h=>h▸fZ _) fun n _ Y hn hJ=>?_)
 subst hJ;refine cP (jb ?_);refine gA Z ?_;refine cP (rB Z (fun h1=>ry ?_) (fun h1=>rA ?_));rotate_left
 .have h1:p.rules.length<=n:=by simpa using h1
  have m0:G n=cI p:=by show((p.rules.take n).flatMap Bc)=_;rw[Pz h1];rfl
  rw[m0];change GX _ _ [.code _] _ _ _;refine JZ (K3 (i:=2) (o':= .map .str Ce is (.map is) dvG (bZ p (cI p))) Z (C8 J d0)) fun t Y C=>?_;obtain⟨rfl,rfl⟩:=C;refine jb ?_;refine gA Z (ln (.inr Z) Z (iC.map 2 Z (.done (.refl _))))
 have h1:n<p.rules.length:=by simpa using h1
 have hR:p.rules.getD n co∈p.rules:=kB h1;have g0:G (n+1)=G n++Bc (p.rules.getD n co):=by show((p.rules.take (n+1)).flatMap Bc)=_;rw[cm h1,R3];simp;rfl
 have b0:=hb.2.2 _ hR;have A:=b0.1;have u:=hf.Ba _ hR;have y:=hf.lits _ hR;generalize n0:p.rules.getD n co=R at hR g0 b0 A u y;refine cP (ib (cP (jb ?_)));refine gA Z ?_;refine cP (sX ⟨[(1,.ptr 0 0),(4,.mp 2),(8,.ptr 3 0),(32,.iv (bN 5 p.rules ax.c)),(33,pI p.rules.length),(34,pI n),(39,.iv (lits R.body)),(40,pI R.body.length),(41,pI 0)],[(0,io (aw p.c)),(2,io (gO (iW p.aR B))),(3,io (aw R.c))],4⟩ ?_ ?_)
 .refine gA Z (u9 [] ?_);subst n0;exact zW (zK (zC (zK ac)))
 have t0:R.body.length<=10000000:=by have:=Lit.aG R.body;unfold ax.size at A;omega
 refine ib (wA 0 R.body.length (PA _) (fun i (_:PUnit.{2})=>⟨[(1,.ptr 0 0),(4,.mp 2),(8,.ptr 3 0),(32,.iv (bN 5 p.rules ax.c)),(33,pI p.rules.length),(34,pI n),(39,.iv (lits R.body)),(40,pI R.body.length),(41,pI i)],[(0,io (aw p.c)),(2,io (gO (iW p.aR B))),(3,io (aw R.c))],4⟩)
  (fun i _ Y=>Y=dx (rowsOf p.aR B (G n++(R.body.take i).flatMap (oY R)))) ⟨⟩ [] (by simp) (zW (zK (zC (zK ac)))) (fun _ _ _ h=>h▸fZ _) fun i _ Y v0 hJ=>?_)
 subst hJ;refine cP (jb ?_);refine gA Z ?_;refine cP (rB Z (fun D=>ry ?_) (fun D=>rA ?_));rotate_left
 .have D:R.body.length<=i:=by simpa using D
  rw[Pz D,show G n++R.body.flatMap (oY R)=G (n+1) from g0.symm];change GX _ _ (.code _::_) _ _ _;refine jb ?_;refine gA Z ⟨h1,⟨⟩,[],rfl,zW (zK (zC ac))⟩
 have D:i<R.body.length:=by simpa using D
 have hl:R.body.getD i co∈R.body:=kB D;have i0:(R.body.take (i+1)).flatMap (oY R)=(R.body.take i).flatMap (oY R)++oY R (R.body.getD i co):=by rw[cm D,R3];simp
 have f0:(R.body.getD i co).size<=10000000:=by have:=Lit.bT R.body i D;unfold ax.size at A;omega
 have e0:=y _ hl;generalize r0:R.body.getD i co=l at hl i0 f0 e0;refine cP (ib (cP (jb ?_)));refine gA Z ?_;refine cP (sX ⟨[(1,.ptr 0 0),(4,.mp 2),(8,.ptr 3 0),(10,.ptr 4 0),(32,.iv (bN 5 p.rules ax.c)),(33,pI p.rules.length),(34,pI n),(39,.iv (lits R.body)),(40,pI R.body.length),(41,pI i),(46,.iv (strs (named l))),(47,pI (named l).length),(48,pI 0)],[(0,io (aw p.c)),(2,io (gO (iW p.aR B))),(3,io (aw R.c)),(4,io (aw l.c))],5⟩ ?_ ?_)
 .subst r0;refine gA Z (zp (Ax (R.body.getD i co) (by omega)) ?_);refine gA Z (u9 [] ?_);exact zW (zK (zC (zK (zK ac))))
 have x0:=km l
 refine ib (wA 0 (named l).length (PA _) (fun k (_:PUnit.{2})=>⟨[(1,.ptr 0 0),(4,.mp 2),(8,.ptr 3 0),(10,.ptr 4 0),(32,.iv (bN 5 p.rules ax.c)),(33,pI p.rules.length),(34,pI n),(39,.iv (lits R.body)),(40,pI R.body.length),(41,pI i),(46,.iv (strs (named l))),(47,pI (named l).length),(48,pI k)],[(0,io (aw p.c)),(2,io (gO (iW p.aR B))),(3,io (aw R.c)),(4,io (aw l.c))],5⟩)
  (fun k _ Y=>Y=dx (rowsOf p.aR B ((G n++(R.body.take i).flatMap (oY R))++((named l).take k).map fun t=>(R.head.rel,t,lg l)))) ⟨⟩ [] (by simp) (zW (zK (zC (zK (zK ac))))) (fun _ _ _ h=>h▸fZ _) fun k _ Y hk hJ=>?_)
 subst hJ;refine cP (jb ?_);refine gA Z ?_;refine cP (rB Z (fun h3=>ry ?_) (fun h3=>rA ?_));rotate_left
 .have h3:(named l).length<=k:=by simpa using h3
  have eX:(G n++(R.body.take i).flatMap (oY R))++(named l).map (fun t=>(R.head.rel,t,lg l))=G n++(R.body.take (i+1)).flatMap (oY R):=by rw[PH,i0];rfl
  rw[Pz h3,eX];change GX _ _ (.code _::_) _ _ _;refine jb ?_;refine gA Z ⟨D,⟨⟩,[],rfl,zW (zK (zC (zK ac)))⟩
 have h3:k<(named l).length:=by simpa using h3
 obtain⟨j,d,b,hd,j0,q0,k0⟩:=Lq J hf.nodup u;have hX:=oF (hs:=(G n++(R.body.take i).flatMap (oY R))++((named l).take k).map fun t=>(R.head.rel,t,lg l)) J d0 hd j0;have c0:=BU (hs:=(G n++(R.body.take i).flatMap (oY R))++((named l).take k).map fun t=>(R.head.rel,t,lg l)) (t:=(named l).getD k co) (h:=lg l) J d0 hf.nodup hd j0;rw[q0]at hX c0;have s0:((G n++(R.body.take i).flatMap (oY R))++((named l).take k).map fun t=>(R.head.rel,t,lg l))++ [(R.head.rel,(named l).getD k co,lg l)]=(G n++(R.body.take i).flatMap (oY R))++((named l).take (k+1)).map fun t=>(R.head.rel,t,lg l):=by
  rw[cm h3,PF,PH];rfl
 rw[s0]at c0;generalize(G n++(R.body.take i).flatMap (oY R))++((named l).take k).map (fun t=>(R.head.rel,t,lg l))=hs at hX c0;refine cP (ib (cP (jb ?_)));refine gA Z ?_;refine cP (jb ?_);refine gA Z ?_;refine cP (sX ⟨[(1,.ptr 0 0),(4,.mp 2),(8,.ptr 3 0),(10,.ptr 4 0),(32,.iv (bN 5 p.rules ax.c)),(33,pI p.rules.length),(34,pI n),(39,.iv (lits R.body)),(40,pI R.body.length),(41,pI i),(46,.iv (strs (named l))),(47,pI (named l).length),(48,pI k),(12,pS ((named l).getD k co)),(13,pI (lg l))],[(0,io (aw p.c)),(2,io (gO (iW p.aR B))),(3,io (aw R.c)),(4,io (aw l.c))],5⟩ ?_ ?_)
 .refine zJ Z Z (fun h4=>?_) fun h4=>?_
  .have h4:l.kind=1:=zT h4;refine gA Z (u9 [] ?_);exact zM (bi (bi (bi (bi (bi (bi (bi (bi (bi (bi (bi (bi (bi (bi ⟨.of_eq (by rw[lg,am h4];rfl),rfl,ac⟩)))))))))))))) (zK (zC (zK (zK ac))))
  .have h4: ¬l.kind=1:=zF h4;refine gA Z (u9 [] ?_);exact zM (bi (bi (bi (bi (bi (bi (bi (bi (bi (bi (bi (bi (bi (bi ⟨.of_eq (by rw[lg,be h4];rfl),rfl,ac⟩)))))))))))))) (zK (zC (zK (zK ac))))
 refine u7 (rz 12 ?_);refine gA Z ?_;refine wz (BM (d:=65) hX (show PV.iv (.v (.map (dt .str (iW p.aR B) R.head.rel is)))=_ by rw[k0])) fun t Y C=>?_;obtain⟨rfl,rfl⟩:=C;refine wz (Dk (b:=b.1) (j:=5) (e:=b.2) (d:=59) (p:= .mp 5) (bn.eO _ _ _) fun M N U x hu o0 _ hv=>?_) fun t Y C=>?_
 .have hv:VR M N U (PV.iv (.v (.map (dt .str (iW p.aR B) R.head.rel is)))) x:=hv;rw[k0]at hv;cases hv with
  |iv _ _ hi=>cases hi with
   |v=>rw[<-o0];exact .mp 5 hu
 obtain⟨rfl,rfl⟩:=C;refine rz 4 ?_;refine gA Z ?_;refine sW (EE (JZ (M7 (b:=b.1) (e:=b.2) (i:=5) (o:=cG (CQ (iH hs R.head.rel) ((named l).getD k co) (lg l))) (bn.eO _ _ _) Z Z ac) fun t Y C=>?_));obtain⟨rfl,rfl⟩:=C;rw[bn.Hx];refine jb ?_;refine gA Z ⟨h3,⟨⟩,[],c0,zW (zK (zC (zK (zK ac))))⟩
end Go.Proofs.YtllkaddcplhklaaGreatDoor
namespace Go.Proofs.YtllkaddcplhklaaGreatDoor
open Go Go.Al Go.Proofs.Tryz Go.Tj
def nG(e:Option an)(i:Nat)(l:List an):PV:=match e,l with
 |some _,[]=> .sl i 1 0 1
 |_,l=> .sl i 0 l.length 1
def nI(e:Option an)(l:List an):AO:=match e,l with
 |some y,[]=> .row 1 [[pS y]]
 |_,l=>aF 1 l cS
theorem j7(σ:Nat->Nat)(e:Option an)(i:Nat)(l:List an):(nG e i l).cv σ=nG e (σ i) l:=by cases e<;>cases l<;>rfl
theorem j8(σ:Nat->Nat)(e:Option an)(l:List an):(nI e l).cv σ=nI e l:=by
 cases e<;>cases l<;>first|rfl|exact b3 σ
theorem xh{n i:Nat}(h:PI i n=jp)(e:Option an)(l:List an):(nG e i l).low n=jp:=by cases e<;>cases l<;>exact h
theorem xk(n:Nat)(e:Option an)(l:List an):(nI e l).low n:=by
 cases e with
 |none=>exact dK n
 |some y=>
  cases l with
  |nil=>
   intro k e b;cases k with
   |zero=>cases b;rfl
   |succ k=>cases b
  |cons=>exact dK n
theorem xg{e:Option an}{i:Nat}{l:List an}(h:e=is∨l≠ []):nG e i l= .sl i 0 l.length 1:=by
 cases e with
 |none=>rfl
 |some y=>cases l with
  |nil=>exact absurd Z (h.resolve_left (by simp))
  |cons=>rfl
theorem xi{e:Option an}{l:List an}(h:e=is∨l≠ []):nI e l=aF 1 l cS:=by
 cases e with
 |none=>rfl
 |some y=>cases l with
  |nil=>exact absurd Z (h.resolve_left (by simp))
  |cons=>rfl
structure TW where
 low:NM
 on:NM
 ring:NM
 stack:List an
 q8:Option an
def TW.st(w:TW):St an:=⟨fun a=>dt .str w.low a 0,fun a=>dt .str w.on a 0,fun a=>dt .str w.ring a 0,w.low.length,w.stack⟩
structure TW.Ok (V:List an) (w:TW):Prop where
 nz: ∀a∈w.low.map Qi,dt .str w.low a 0≠0
 nd:(w.low.map Qi).Nodup
 sub: ∀a∈w.low.map Qi,a∈V
abbrev w8:PV:= .b5 (.func 65) [] [.ptr 0 0,.ptr 1 0,.ptr 2 0,.ptr 3 0,.ptr 4 0,.ptr 5 0]
abbrev tO(G:IV)(w:TW):List AO:=[.cells [.mp 6],.cells [.mp 7],.cells [nG w.q8 9 w.stack],.cells [.iv G],.cells [w8],.cells [.mp 8],cG w.low,cG w.on,cG w.ring,nI w.q8 w.stack]
abbrev tH(G:IV)(w:TW)(k:Nat):AH:=[(0,io (.cells [.mp 6])),(1,io (.cells [.mp 7])),(2,io (.cells [nG w.q8 k w.stack])),(3,io (.cells [.iv G])),(4,io (.cells [w8])),(5,io (.cells [.mp 8])),
 (6,io (cG w.low)),(7,io (cG w.on)),(8,io (cG w.ring)),(k,io (nI w.q8 w.stack))]
theorem rS{n k:Nat}{σ:Nat->Nat}{h:AH}{G:IV}{w:TW}{C:PV}{y A B:NM}{o:AO}(b:Rw 9 n=jp)(bk:PI k n=jp)(hs: ∀i,i<9->σ i=i)
  (g0:h.get 0=io (.cells [.mp 6])) (g1:h.get 1=io (.cells [.mp 7])) (g2:h.get 2=io (.cells [C])) (g3:h.get 3=io (.cells [.iv G])) (g4:h.get 4=io (.cells [w8])) (g5:h.get 5=io (.cells [.mp 8]))
  (g6:h.get 6=io (cG y)) (g7:h.get 7=io (cG A)) (g8:h.get 8=io (cG B)) (g9:h.get (σ k)=io o)
  (D:C=nG w.q8 (σ k) w.stack) (I:y=w.low) (J:A=w.on) (R:B=w.ring) (Y:dT o (nI w.q8 w.stack)):mG n σ h (tH G w k):=by
 have b9:=Pf b;have bk:=Pf bk;have hb: ∀i,i<9->PI i n=jp:=fun i j=>Qh (by omega);subst D I J R;have r: ∀i,i<9->PV.mp (σ i)=PV.mp i:=fun i j=>by rw[hs i j]
 have u: ∀i,i<9->PV.ptr (σ i) 0=PV.ptr i 0:=fun i j=>by rw[hs i j]
 have x: ∀i,i<9->bm n [PV.mp i]=jp:=fun i j=>by simp only[bm,PV.low,hb i j]
 refine⟨⟨_,by rw[hs 0 (by omega)];exact g0,.of_eq (by simp only[AO.cv,dy,PV.cv,r 6 (by omega)])⟩,by omega,x 6 (by omega),
  ⟨_,by rw[hs 1 (by omega)];exact g1,.of_eq (by simp only[AO.cv,dy,PV.cv,r 7 (by omega)])⟩,by omega,x 7 (by omega),
  ⟨_,by rw[hs 2 (by omega)];exact g2,.of_eq (by simp only[AO.cv,dy,j7])⟩,by omega,by simp only[AO.low,bm,xh (Qh bk)],
  ⟨_,by rw[hs 3 (by omega)];exact g3,.of_eq Z⟩,by omega,rfl,
  ⟨_,by rw[hs 4 (by omega)];exact g4,.of_eq (by simp only[AO.cv,dy,PV.cv,u 0 (by omega),u 1 (by omega),u 2 (by omega),u 3 (by omega),u 4 (by omega),u 5 (by omega)])⟩,by omega,by simp only[AO.low,bm,PV.low,hb 0 (by omega),hb 1 (by omega),hb 2 (by omega),hb 3 (by omega),hb 4 (by omega),hb 5 (by omega)],
  ⟨_,by rw[hs 5 (by omega)];exact g5,.of_eq (by simp only[AO.cv,dy,PV.cv,r 8 (by omega)])⟩,by omega,x 8 (by omega),
  ⟨_,by rw[hs 6 (by omega)];exact g6,.of_eq Z⟩,by omega,ac,
  ⟨_,by rw[hs 7 (by omega)];exact g7,.of_eq Z⟩,by omega,ac,
  ⟨_,by rw[hs 8 (by omega)];exact g8,.of_eq Z⟩,by omega,ac,
  ⟨_,g9,by rw[j8];exact Y⟩,bk,xk _ _ _,ac⟩
theorem vO(m:NM)(b:an)(v:Int):(fun x=>dt .str (cA .str m b v) x 0)=vI (fun x=>dt .str m x 0) b v:=by
 funext x
 rw[kv,vI];by_cases h:b=x
 .rw[am h,am h.symm]
 .rw[be h,be fun e=>h e.symm]
def TW.push(w:TW)(a:an):TW:=⟨cA .str w.low a ((w.low.length:Int)+1),cA .str w.on a 1,w.ring,w.stack++ [a],is⟩
theorem TW.key{V:List an}{w:TW}(h:w.Ok V){a:an}(h0:w.st.low a=0):a∉w.low.map Qi:=fun g=>h.nz a g h0
theorem qw{m:NM}{a:an}{v:Int}(h:a∉m.map Qi):(cA .str m a v).length=m.length+1:=by
 have:=congrArg List.length (dA (v:=v) h);simpa using this
theorem TW.Hz{V:List an}{w:TW}(h:w.Ok V){a:an}(h0:w.st.low a=0):(w.push a).st=Go.Tj.push w.st a:=
 St.eq (vO _ _ _) (vO _ _ _) Z (qw (TW.key h h0)) Z
theorem TW.HA{V:List an}{w:TW}(h:w.Ok V){a:an}(h0:w.st.low a=0)(ha:a∈V):(w.push a).Ok V:=by
 have hk:=TW.key h h0;refine⟨fun x b=>?_,?_,fun x b=>?_⟩
 .show dt .str (cA .str w.low a _) x 0≠0;rw[kv];split
  .omega
  .rename_i j;have b:x∈(cA .str w.low a ((w.low.length:Int)+1)).map Qi:=b;rw[dA hk,PG,Pw]at b;exact h.nz x (b.resolve_right fun e=>j e.symm)
 .show((cA .str w.low a _).map Qi).Nodup;rw[dA hk,QS];exact⟨h.nd,by simp,fun u hu v y e=>hk (by rw[Pw]at y;subst e;subst y;exact hu)⟩
 .have b:x∈(cA .str w.low a ((w.low.length:Int)+1)).map Qi:=b;rw[dA hk,PG,Pw]at b;rcases b with b|rfl
  .exact h.sub x b
  .exact ha
theorem TW.len{V:List an}{w:TW}(h:w.Ok V):w.low.length<=V.length:=by
 have:=Qx h.nd (l₂:=V) h.sub;simpa using this
theorem TW.uy{V:List an}{w:TW}(h:w.Ok V){succ:an->List an}{path:List an}(hI:Inv succ path w.st):w.stack.length<=V.length:=by
 refine Qx (l₂:=V) ?_ fun y A=>?_
 .refine Sn ?_ hI.yQ;intro x y u e;subst e;omega
 .have h1:=(hI.uy y).2 A;have b:w.st.low y≠0:=sA hI h1;refine h.sub y (QK fun j=>b (zf j))
def TW.pop(w:TW)(u:List an)(b:an)(j:Int):TW:=⟨w.low,cA .str w.on b 2,cA .str w.ring b j,u,io b⟩
theorem TW.D5{w:TW}{u:List an}{b:an}(h:w.stack=u++ [b])(j:Int):(w.pop u b j).st=v7 j w.st:=by
 have h1:w.st.stack.getLast? =io b:=by show w.stack.getLast? =_;rw[h];simp
 have x:w.st.stack.dropLast=u:=by show w.stack.dropLast=_;rw[h];simp
 unfold v7;rw[h1];exact St.eq Z (vO _ _ _) (vO _ _ _) Z x.symm
theorem TW.Lu{V:List an}{w:TW}(h:w.Ok V)(u:List an)(b:an)(j:Int):(w.pop u b j).Ok V:=⟨h.nz,h.nd,h.sub⟩
theorem Nf(hS:fC){p:Prog}(hf:eF p)(hl:(cI p).length<=100000000)(a:an):Pure prog 66 [.iv (xW (iH (cI p) a))] (.iv (strs (bc p a))):=by
 rw[<-xe hf];exact Dz hS _ (Qa (DT _ _) hl)
abbrev Ml(a:an):List PV:=[pS a,.ptr 0 0,.ptr 1 0,.ptr 2 0,.ptr 3 0,.ptr 4 0,.ptr 5 0]
abbrev vF(a:an):AF:=[(0,pS a),(1,.ptr 0 0),(2,.ptr 1 0),(3,.ptr 2 0),(4,.ptr 3 0),(5,.ptr 4 0),(6,.ptr 5 0)]
def L6(p:Prog)(f:Nat):Prop:= ∀(path:List an) (a:an) (w:TW),w.Ok (ns p)->Inv (bc p) path w.st->w.st.low a=0->a∈ns p->(∀g∈path,lL (bc p) g a)->iR (ns p) w.st<=f->
 Go.Al.Fn prog 65 (Ml a) (tO (vd (bZ p (cI p))) w) fun r h n=> ∃b:TW,b.Ok (ns p)∧b.st=(dI (bc p) f a w.st).2∧r=pI (dI (bc p) f a w.st).1∧h=tH (vd (bZ p (cI p))) b 10∧n=11
theorem EF(p:Prog)(hs:List (an×an×Nat)){a:an}(h:a∈p.aR.map Decl.name):(Ce (dt .str (bZ p hs) a is)).pv= .iv (xW (iH hs a)):=by rw[EG p hs h];rfl
theorem KY(G:IV)(w:TW){n:Nat}:[io (AO.cells [PV.mp 6]),io (.cells [.mp 7]),io (.cells [nG w.q8 11 w.stack]),io (.cells [.iv G]),io (.cells [w8]),io (.cells [.mp 8]),io (cG w.low),io (cG w.on),io (cG w.ring),io (nI w.q8 w.stack)]=
  (tO G w).map fun o=>io (o.cv (sig [0,1,2,3,4,5,6,7,8,11] n)):=by
 have h1:=j7 (sig [0,1,2,3,4,5,6,7,8,11] n) w.q8 9 w.stack;have b:=j8 (sig [0,1,2,3,4,5,6,7,8,11] n) w.q8 w.stack;show _=[io (AO.cells [PV.mp 6]),io (.cells [.mp 7]),io (.cells [(nG w.q8 9 w.stack).cv (sig [0,1,2,3,4,5,6,7,8,11] n)]),io (.cells [.iv G]),io (.cells [w8]),io (.cells [.mp 8]),io (cG w.low),io (cG w.on),io (cG w.ring),io ((nI w.q8 w.stack).cv (sig [0,1,2,3,4,5,6,7,8,11] n))]
 rw[h1,b];rfl
theorem Dm(u:List an)(b:an):((u++ [b]).map fun x=>(cS x).map PV.iv)[0+((((u.length+1:Nat):Int)-1).toNat)]? =io [pS b]:=by
 rw[PO,show(((u.length+1:Nat):Int)-1).toNat=u.length by omega];simp[cS]
theorem Dn(i:Nat)(u:List an)(b:an):(u.length=0∧nG (io b) i u= .sl i 1 0 1)∨(0<u.length∧nG (io b) i u= .sl i 0 u.length 1):=by
 cases u with
 |nil=>exact .inl ⟨rfl,rfl⟩
 |cons x r=>exact .inr ⟨by simp,rfl⟩
theorem xj(u:List an)(b:an):dT (aF 1 (u++ [b]) cS) (nI (io b) u):=by
 cases u with
 |nil=>exact .of_eq Z
 |cons x r=>
  have e:nI (io b) (x::r)= .row 1 (((x::r++ [b]).map fun y=>(cS y).map PV.iv).take (x::r).length):=by
   rw[<-List.map_take,List.take_left];rfl
  rw[e];exact .take
theorem rj{p:Prog}: ∀a∈ns p,∀b∈bc p a,b∈ns p:=fun _ _ _ h=>(PU.1 h).1
theorem Ee{p:Prog}(hf:eF p):(ns p).length<=64:=by
 have:=hf.len;rw[ns,iO,PS];exact this
theorem C5(hS:fC){p:Prog}(hf:eF p)(hl:(cI p).length<=100000000)(f:Nat)(ih:L6 p f):L6 p (f+1):=by
 intro path a w hok hI h0 R hp hw;have i0:=Ee hf;have e1:=jz hI.lG R h0;have l1:=TW.len hok;have o1:=TW.uy hok hI;have q0:a∈p.aR.map Decl.name:=by rw[ns,kn]at R;exact R
 have D:=TW.Hz hok h0;have t0:=TW.HA hok h0 R;have n1:=QH (eg p a) (ns p);refine oe ab func65 Z (by decide) ntmps65 Z (by simp) ?_;refine go_cut 6 (fun _:Unit=>⟨(9,pI ((w.low.length:Int)+1))::(10,pI ((w.low.length:Int)+1))::vF a,tH (vd (bZ p (cI p))) (w.push a) 10,11⟩) Z ?_ ?_
 .have o0:dt .str (cA .str w.low a ((w.low.length:Int)+1)) a 0=(w.low.length:Int)+1:=by rw[kv,am Z]
  by_cases hu:w.q8=is∨w.stack≠ []
  .rw[show tO (vd (bZ p (cI p))) w=[.cells [.mp 6],.cells [.mp 7],.cells [.sl 9 0 w.stack.length 1],.cells [.iv (vd (bZ p (cI p)))],.cells [w8],.cells [.mp 8],cG w.low,cG w.on,cG w.ring,aF 1 w.stack cS] by
    unfold tO;rw[xg hu,xi hu]]
   refine gA Z (Fi () [11] ?_);exact wk Z Z Z ⟨.of_eq (congrArg pI o0),rfl,.of_eq (congrArg pI o0),rfl,bi (bi (bi (bi (bi (bi (bi ac))))))⟩
    (rS (w:=w.push a) Z Z (fun i Y=>fi (by show i<10;omega)) Z Z Z Z Z Z Z Z Z Z (by show _=PV.sl 11 0 (w.stack++ [a]).length 1;rw[Pn];rfl) Z Z Z (.of_eq (by show _=aF 1 (w.stack++ [a]) cS;rw[aF,PF];rfl))) Z
  .obtain⟨y,hy,v0⟩: ∃y,w.q8=io y∧w.stack=[]:=by
    cases hg:w.q8 with
    |none=>exact absurd (.inl hg) hu
    |some y=>exact⟨y,rfl,QK fun h=>hu (.inr h)⟩
   rw[show tO (vd (bZ p (cI p))) w=[.cells [.mp 6],.cells [.mp 7],.cells [.sl 9 1 0 1],.cells [.iv (vd (bZ p (cI p)))],.cells [w8],.cells [.mp 8],cG w.low,cG w.on,cG w.ring,.row 1 [[pS y]]] by
    unfold tO;rw[hy,v0];rfl]
   refine gA Z (wD ab Z Z Z Z Z Z Z Z Z (by simp) (by simp) (jq Z) Z ?_);refine gA Z (Fi () [11] ?_);exact wk Z Z Z ⟨.of_eq (congrArg pI o0),rfl,.of_eq (congrArg pI o0),rfl,bi (bi (bi (bi (bi (bi (bi ac))))))⟩
    (rS (w:=w.push a) Z Z (fun i Y=>fi (by show i<10;omega)) Z Z Z Z Z Z Z Z Z Z (by show _=PV.sl 11 0 (w.stack++ [a]).length 1;rw[v0];rfl) Z Z Z (.of_eq (by show _=aF 1 (w.stack++ [a]) cS;rw[v0];rfl))) Z
 intro _;have Y:=xH hI h0 hp;rw[<-D]at e1 Y;have hm:((w.push a).low.length:Int)=(w.low.length:Int)+1:=by
  have:=qw (v:=(w.low.length:Int)+1) (TW.key hok h0);show(((cA .str w.low a _).length:Nat):Int)=_;rw[this];omega
 have la:(w.push a).st.low a=(w.st.n:Int)+1:=by rw[D];exact iT _ _ _
 have oa:(w.push a).st.on a=1:=by rw[D];exact iT _ _ _
 have g1:eD (bc p) path a w.st [] ((w.st.n:Int)+1,Go.Tj.push w.st a) []:=
  ⟨D▸Y,.refl _,rfl,fun y hy=>(nomatch hy),RH _,fun y hy=>(nomatch hy),fun z hz=>(nomatch hz),fun z hz=>(nomatch hz),⟨a,D▸oa,D▸la,.refl _⟩⟩
 have k0:=fun pa b s=>nC (succ:=bc p) rj f pa b s
 let I:Nat->Int×St an:=fun i=>((bc p a).take i).foldl (Go.Tj.qo (dI (bc p) f)) ((w.st.n:Int)+1,Go.Tj.push w.st a)
 have g0: ∀i,∃t,eD (bc p) path a w.st ((bc p a).take i) (I i) t:=fun i=>by
  have:=pO rj k0 hI h0 R (by rw[<-D];omega) ((bc p a).take i) [] _ [] g1 fun b hb=>SG hb;rwa[Rc]at this
 refine gM 5 Z (H5 ab (.iv (xW (iH (cI p) a))) Z Z Z Z (EF p _ q0) Z ?_);refine gA Z (zp (Nf hS hf hl a) ?_);refine gA Z ?_;refine rE 0 (bc p a).length (PA _) (fun i B=>⟨(9,pI ((w.low.length:Int)+1))::(10,pI (I i).1)::(32,.iv (strs (bc p a)))::(33,pI (bc p a).length)::(34,pI i)::vF a,tH (vd (bZ p (cI p))) B 11,12⟩)
  (fun i B=>B.Ok (ns p)∧B.st=(I i).2) (w.push a) [10] ⟨t0,D⟩
  (wk Z Z Z (bi (bi (bi (bi (bi (bi (bi (bi (bi (bi (bi (bi trivial))))))))))))
   (rS Z Z (fun i Y=>fi (by show i<11;omega)) Z Z Z Z Z Z Z Z Z Z Z Z Z Z (.refl _)) Z) fun i B r1 hJ=>?_
 obtain⟨C,A⟩:=hJ;obtain⟨t2,x⟩:=g0 i;have m1:(bc p a).length<=64:=Qa n1 i0;refine zJ Z Z (fun h1=>?_) fun h1=>?_
 .have h1:i<(bc p a).length:=by simpa using h1
  have d0:I (i+1)=Go.Tj.qo (dI (bc p) f) (I i) ((bc p a).getD i co):=fU h1;have hb:((bc p a).getD i co)∈bc p a:=kB h1;have j:Go.Tj.qo (dI (bc p) f) (I i) ((bc p a).getD i co)=if B.st.low ((bc p a).getD i co)=0 then(min (I i).1 (dI (bc p) f ((bc p a).getD i co) B.st).1,(dI (bc p) f ((bc p a).getD i co) B.st).2)
    else if B.st.on ((bc p a).getD i co)=1 then(min (I i).1 (B.st.low ((bc p a).getD i co)),B.st) else(I i):=by rw[A];rfl
  refine zJ Z Z (fun h2=>?_) fun h2=>?_
  .have h2:B.st.low ((bc p a).getD i co)=0:=zT h2;rw[am h2]at j;have b0: ∀g∈path++ [a],lL (bc p) g ((bc p a).getD i co):=by
    intro g hg;have G:(I i).2.on a=1:=(x.inv.uy a).2 (by rw[x.stack];simp);refine .step (x.inv.dn g hg a G ?_) hb;rcases PG.1 hg with e|e
    .have:=x.pa hI h0 g e;omega
    .rw[Pw]at e;rw[e];exact RH _
   have q1:iR (ns p) B.st<=f:=by
    have:=uo (V:=ns p) x.le;rw[A];rw[D]at e1;omega
   refine gA Z (sZ [0,1,2,3,4,5,6,7,8,11] (ih (path++ [a]) ((bc p a).getD i co) B C (A▸x.inv) h2 (rj a R ((bc p a).getD i co) hb) b0 q1) Z Z Z Z Z (KY _ _) Z ?_);rintro r h' n' ⟨w3,hok3,hst3,rfl,rfl,rfl⟩;refine⟨_,rfl,?_⟩;refine gA Z ⟨h1,w3,[12],⟨hok3,by rw[d0,j];exact hst3⟩,zM (bi ⟨.of_eq (by rw[d0,j];rfl),rfl,bi (bi (bi (bi (bi (bi (bi (bi (bi (bi ac)))))))))⟩) (rS Z Z (fun i Y=>fi (by show i<11;omega)) Z Z Z Z Z Z Z Z Z Z (j7 _ _ _ _) Z Z Z (.of_eq (j8 _ _ _)))⟩
  .have h2: ¬B.st.low ((bc p a).getD i co)=0:=zF h2;rw[be h2]at j;refine zJ Z Z (fun h3=>?_) fun h3=>?_
   .have h3:B.st.on ((bc p a).getD i co)=1:=zT h3;rw[am h3]at j;refine gA Z ⟨h1,B,[11],⟨C,by rw[d0,j]⟩,zM (bi ⟨.of_eq (by rw[d0,j];rfl),rfl,bi (bi (bi (bi (bi (bi (bi (bi (bi (bi ac)))))))))⟩) (rS Z Z (fun i Y=>fi (by show i<11;omega)) Z Z Z Z Z Z Z Z Z Z Z Z Z Z (.refl _))⟩
   .have h3: ¬B.st.on ((bc p a).getD i co)=1:=zF h3;rw[be h3]at j;refine gA Z ⟨h1,B,[11],⟨C,by rw[d0,j];exact A⟩,zM (bi ⟨.of_eq (by rw[d0,j];rfl),rfl,bi (bi (bi (bi (bi (bi (bi (bi (bi (bi ac)))))))))⟩) (rS Z Z (fun i Y=>fi (by show i<11;omega)) Z Z Z Z Z Z Z Z Z Z Z Z Z Z (.refl _))⟩
 .have h1:(bc p a).length<=i:=by simpa using h1
  have j1:i=(bc p a).length:=by omega
  subst j1;have n0:dI (bc p) (f+1) a w.st=rf a ((w.st.n:Int)+1) (I (bc p a).length):=by
   show rf a _ ((bc p a).foldl _ _)=rf a _ (((bc p a).take (bc p a).length).foldl _ _);rw[Rk]
  have a0: ∀(w':TW) (k:Nat) (u:AS) (e:Exit),e= .normal∨e= .ret->10<=k->k<u.nx->iU nD u f65.results.toList=io (pI (I (bc p a).length).1)->w'.Ok (ns p)->w'.st=(rf a ((w.st.n:Int)+1) (I (bc p a).length)).2->
    mG 11 (sg 10 [k]) u.h (tH (vd (bZ p (cI p))) w' 10)->IQ nD f65.results.toList 10 (fun r h n=> ∃w':TW,w'.Ok (ns p)∧w'.st=(dI (bc p) (f+1) a w.st).2∧r=pI (dI (bc p) (f+1) a w.st).1∧h=tH (vd (bZ p (cI p))) w' 10∧n=11) e u:=by
   intro w' k u e he hk k1 hr s0 w0 hh;refine rG [k] he hr ⟨w',s0,by rw[n0];exact w0,rfl,rfl,rfl⟩ ⟨rfl,by show 10<=u.nx;omega,by simpa using k1,⟨.of_eq ?_,rfl,ac⟩,hh,?_⟩
   .show pI (I (bc p a).length).1=pI (dI (bc p) (f+1) a w.st).1;rw[n0];unfold rf;split<;>rfl
   .show[0,1,2,3,4,5,6,7,8,k].Nodup;simp;omega
  generalize I (bc p a).length=q at*
  refine zE Z Z (fun h4=>?_) fun h4=>?_
  .have h4: ¬q.1=(w.st.n:Int)+1:=zF h4;refine gA Z (a0 B 11 _ _ (.inr Z) (by omega) (by show 11<12;omega) Z C (by rw[rf,be h4];exact A) ?_);exact rS Z Z (fun i Y=>fi (by omega)) Z Z Z Z Z Z Z Z Z Z Z Z Z Z (.refl _)
  have h4:q.1=(w.st.n:Int)+1:=zT h4;have hE:(rf a ((w.st.n:Int)+1) q).2=eS a ((w.st.n:Int)+1) q.2.stack.length q.2:=by rw[rf,am h4]
  have G:q.2.on a=1:=(x.inv.uy a).2 (by rw[x.stack];simp);have hF:eS a ((w.st.n:Int)+1) (t2.length+1) q.2=(rf a ((w.st.n:Int)+1) q).2:=by
   rw[hE,pJ (by omega) x.stack x.at_ G,pJ (by rw[x.stack];simp;omega) x.stack x.at_ G]
  generalize(rf a ((w.st.n:Int)+1) q).2=F at hF a0;refine gA Z ?_;refine gn (σ:={v:TW//v.Ok (ns p)∧((∃t,v.stack=w.stack++a::t∧a∉t∧v.stack.length<=64∧v.st.on a=1∧eS a ((w.st.n:Int)+1) (t.length+1) v.st=F)∨(v.st.on a≠1∧v.st=F))})
   (fun v=>⟨(9,pI ((w.low.length:Int)+1))::(10,pI q.1)::vF a,tH (vd (bZ p (cI p))) v.1 12,13⟩) (fun v=>v.1.stack.length) ⟨B,C,.inl ⟨t2,by rw[show B.stack=B.st.stack from rfl,A];exact x.stack,x.at_,Qa (TW.uy C (A▸x.inv)) i0,by rw[A];exact G,by rw[A];exact hF⟩⟩ [11]
   (zW (rS Z Z (fun i Y=>fi (by show i<12;omega)) Z Z Z Z Z Z Z Z Z Z Z Z Z Z (.refl _))) fun v=>?_
  obtain⟨v,j0,hJ⟩:=v;rcases hJ with⟨t,hs,a1,m0,c0,J⟩|⟨c0,f1⟩
  rotate_left
  .refine zJ Z Z (fun h5=>?_) fun h5=>?_
   .exact absurd (zT h5) c0
   refine gA Z (a0 v 12 _ _ (.inr Z) (by omega) (by show 12<13;omega) Z j0 f1 ?_);exact rS Z Z (fun i Y=>fi (by omega)) Z Z Z Z Z Z Z Z Z Z Z Z Z Z (.refl _)
  have key: ∃u b,v.stack=u++ [b]∧((b=a∧v7 ((w.st.n:Int)+1) v.st=F)∨ ∃t',u=w.stack++a::t'∧a∉t'∧b≠a∧eS a ((w.st.n:Int)+1) (t'.length+1) (v7 ((w.st.n:Int)+1) v.st)=F):=by
   rcases t.eq_nil_or_concat with e|⟨t',b,e⟩
   .subst e;refine⟨w.stack,a,hs,.inl ⟨rfl,?_⟩⟩;rw[Q6,eS,am c0]at J;exact J
   .rw[SC]at e;subst e;refine⟨w.stack++a::t',b,by rw[hs];simp,.inr ⟨t',rfl,fun h=>a1 (by simp[h]),fun h=>a1 (by simp[h]),?_⟩⟩;rw[eS,am c0,Pn]at J;exact J
  obtain⟨u,b,e0,f0⟩:=key;have s1:u.length+1<=64:=by rw[e0,Pn]at m0;exact m0
  have d1:v.stack≠ []:=by rw[e0];simp
  have x0:v.stack.length=u.length+1:=by rw[e0,Pn];rfl
  have p1:tH (vd (bZ p (cI p))) v 12=[(0,io (.cells [.mp 6])),(1,io (.cells [.mp 7])),(2,io (.cells [.sl 12 0 (u.length+1) 1])),(3,io (.cells [.iv (vd (bZ p (cI p)))])),(4,io (.cells [w8])),(5,io (.cells [.mp 8])),
    (6,io (cG v.low)),(7,io (cG v.on)),(8,io (cG v.ring)),(12,io (aF 1 (u++ [b]) cS))]:=by
   unfold tH;rw[xg (.inr d1),xi (.inr d1),x0,e0]
  show GO prog _ _ _ ⟨_,tH (vd (bZ p (cI p))) v 12,_⟩;rw[p1];refine zE Z Z (fun h5=>?_) fun h5=>?_
  .exact absurd c0 (zF h5)
  refine gM 9 Z (oc ab Z Z Z Z Z (Dm u b) Z Z ?_);have z0:(v.pop u b ((w.st.n:Int)+1)).Ok (ns p)∧((∃t,(v.pop u b ((w.st.n:Int)+1)).stack=w.stack++a::t∧a∉t∧(v.pop u b ((w.st.n:Int)+1)).stack.length<=64∧(v.pop u b ((w.st.n:Int)+1)).st.on a=1∧eS a ((w.st.n:Int)+1) (t.length+1) (v.pop u b ((w.st.n:Int)+1)).st=F)∨((v.pop u b ((w.st.n:Int)+1)).st.on a≠1∧(v.pop u b ((w.st.n:Int)+1)).st=F)):=by
   refine⟨TW.Lu j0 u b _,?_⟩;rcases f0 with⟨rfl,p0⟩|⟨t',hu,r0,i1,p0⟩
   .refine .inr ⟨?_,by rw[TW.D5 e0];exact p0⟩;show dt .str (cA .str v.on b 2) b 0≠1;rw[kv,am Z];decide
   .refine .inl ⟨t',hu,r0,by show u.length<=64;omega,?_,by rw[TW.D5 e0];exact p0⟩;show dt .str (cA .str v.on b 2) a 0=1;rw[kv,be i1];exact c0
  have b1:(v.pop u b ((w.st.n:Int)+1)).stack.length<v.stack.length:=by show u.length<v.stack.length;omega
  rcases Dn 12 u b with hc|hc
  .refine gA Z (Bh ab u.length Z Z Z Z Z Z Z (by omega) (by omega) (by omega) (.inl ⟨hc.1,rfl⟩) Z ?_);refine gA Z ⟨⟨v.pop u b ((w.st.n:Int)+1),z0⟩,[12],b1,zW (rS Z Z (fun i Y=>fi (by show i<12;omega)) Z Z Z Z Z Z Z Z Z Z hc.2.symm Z Z Z (xj u b))⟩
  .refine gA Z (Bh ab u.length Z Z Z Z Z Z Z (by omega) (by omega) (by omega) (.inr ⟨hc.1,rfl⟩) Z ?_);refine gA Z ⟨⟨v.pop u b ((w.st.n:Int)+1),z0⟩,[12],b1,zW (rS Z Z (fun i Y=>fi (by show i<12;omega)) Z Z Z Z Z Z Z Z Z Z hc.2.symm Z Z Z (xj u b))⟩
theorem Mk(hS:fC){p:Prog}(hf:eF p)(hl:(cI p).length<=100000000): ∀f,L6 p f
 |0=>fun path a w hok hI j b u x=>by
  have:=jz hI.lG b j;omega
 |f+1=>C5 hS hf hl f (Mk hS hf hl f)
theorem BZ(hS:fC){p:Prog}(hf:eF p)(hs:List (an×an×Nat)):Pure prog 67 [.iv (vd (bZ p hs))] (.iv (strs (ns p))):=by
 have h:=DA hS (bZ p hs) (by have:=hf.len;simp[bZ];omega);rw[show(bZ p hs).map (·.1)=p.aR.map Decl.name from zu p hs]at h;exact h
abbrev Hw:PV:= .b5 (.func 65) [] [.ptr 4 0,.ptr 5 0,.ptr 7 0,.ptr 0 0,.ptr 8 0,.ptr 6 0]
abbrev rH(G:IV)(w:TW)(k:Nat):AH:=[(0,io (.cells [.iv G])),(1,io (cG w.low)),(2,io (cG w.on)),(3,io (cG w.ring)),(4,io (.cells [.mp 1])),(5,io (.cells [.mp 2])),(6,io (.cells [.mp 3])),(7,io (.cells [nG w.q8 k w.stack])),(8,io (.cells [Hw])),(k,io (nI w.q8 w.stack))]
theorem Kc{n k:Nat}{σ:Nat->Nat}{h:AH}{G:IV}{w:TW}{C:PV}{y A B o:AO}(b:Rw 9 n=jp)(bk:PI k n=jp)(hs: ∀i,i<9->σ i=i)
  (g0:h.get 0=io (.cells [.iv G])) (g1:h.get 1=io y) (g2:h.get 2=io A) (g3:h.get 3=io B)
  (g4:h.get 4=io (.cells [.mp 1])) (g5:h.get 5=io (.cells [.mp 2])) (g6:h.get 6=io (.cells [.mp 3])) (g7:h.get 7=io (.cells [C])) (g8:h.get 8=io (.cells [Hw])) (g9:h.get (σ k)=io o)
  (D:dT y (cG w.low)) (I:dT A (cG w.on)) (J:dT B (cG w.ring)) (R:C=nG w.q8 (σ k) w.stack) (Y:dT o (nI w.q8 w.stack)):mG n σ h (rH G w k):=by
 have b9:=Pf b;have bk:=Pf bk;have hb: ∀i,i<9->PI i n=jp:=fun i j=>Qh (by omega);subst R;have r: ∀i,i<9->PV.mp (σ i)=PV.mp i:=fun i j=>by rw[hs i j]
 have u: ∀i,i<9->PV.ptr (σ i) 0=PV.ptr i 0:=fun i j=>by rw[hs i j]
 have x: ∀i,i<9->bm n [PV.mp i]=jp:=fun i j=>by simp only[bm,PV.low,hb i j]
 refine⟨⟨_,by rw[hs 0 (by omega)];exact g0,.of_eq Z⟩,by omega,rfl,
  ⟨_,by rw[hs 1 (by omega)];exact g1,D⟩,by omega,ac,
  ⟨_,by rw[hs 2 (by omega)];exact g2,I⟩,by omega,ac,
  ⟨_,by rw[hs 3 (by omega)];exact g3,J⟩,by omega,ac,
  ⟨_,by rw[hs 4 (by omega)];exact g4,.of_eq (by simp only[AO.cv,dy,PV.cv,r 1 (by omega)])⟩,by omega,x 1 (by omega),
  ⟨_,by rw[hs 5 (by omega)];exact g5,.of_eq (by simp only[AO.cv,dy,PV.cv,r 2 (by omega)])⟩,by omega,x 2 (by omega),
  ⟨_,by rw[hs 6 (by omega)];exact g6,.of_eq (by simp only[AO.cv,dy,PV.cv,r 3 (by omega)])⟩,by omega,x 3 (by omega),
  ⟨_,by rw[hs 7 (by omega)];exact g7,.of_eq (by simp only[AO.cv,dy,j7])⟩,by omega,by simp only[AO.low,bm,xh (Qh bk)],
  ⟨_,by rw[hs 8 (by omega)];exact g8,.of_eq (by simp only[AO.cv,dy,PV.cv,u 0 (by omega),u 4 (by omega),u 5 (by omega),u 6 (by omega),u 7 (by omega),u 8 (by omega)])⟩,by omega,by simp only[AO.low,bm,PV.low,hb 0 (by omega),hb 4 (by omega),hb 5 (by omega),hb 6 (by omega),hb 7 (by omega),hb 8 (by omega)],
  ⟨_,g9,by rw[j8];exact Y⟩,bk,xk _ _ _,ac⟩
theorem sK{V:Type}{kc:KC}{ev:V->IV}{z:V}{b:Value}{u:PV->V}(y: ∀M,IR M (ev z) b):dT .ff (.map kc ev z b u []):=
 ⟨id,fun M N U w j x=>⟨#[],0,x,⟨rfl,by simp,by simp,by simp,by simp⟩,y M⟩⟩
def TW.o:TW:=⟨[],[],[],[],is⟩
theorem Lr(G:IV)(w:TW){n:Nat}:[io (AO.cells [PV.mp 1]),io (.cells [.mp 2]),io (.cells [nG w.q8 10 w.stack]),io (.cells [.iv G]),io (.cells [Hw]),io (.cells [.mp 3]),io (cG w.low),io (cG w.on),io (cG w.ring),io (nI w.q8 w.stack)]=
  (tO G w).map fun o=>io (o.cv (sig [4,5,7,0,8,6,1,2,3,10] n)):=by
 have h1:=j7 (sig [4,5,7,0,8,6,1,2,3,10] n) w.q8 9 w.stack;have b:=j8 (sig [4,5,7,0,8,6,1,2,3,10] n) w.q8 w.stack;show _=[io (AO.cells [PV.mp 1]),io (.cells [.mp 2]),io (.cells [(nG w.q8 9 w.stack).cv (sig [4,5,7,0,8,6,1,2,3,10] n)]),io (.cells [.iv G]),io (.cells [Hw]),io (.cells [.mp 3]),io (cG w.low),io (cG w.on),io (cG w.ring),io ((nI w.q8 w.stack).cv (sig [4,5,7,0,8,6,1,2,3,10] n))]
 rw[h1,b];rfl
theorem Lb(hS:fC){p:Prog}(hf:eF p)(hl:(cI p).length<=100000000):Go.Al.Fn prog 40 [.iv (vd (bZ p (cI p)))] [] fun r h n=> ∃m:NM,Go.Rg.tJ (ns p) (eg p) (fun a=>dt .str m a 0)∧r= .iv (xW m)∧h=[]∧n=0:=by
 have B:=Ee hf;refine oe ab func40 Z (by decide) ntmps40 Z (by simp) ?_;refine gA Z (zp (BZ hS hf (cI p)) ?_);refine gA Z ?_;refine oZ 7 0 1 Z Z ?_
 let x:Nat->St an:=fun i=>fH (bc p) (ns p).length ((ns p).take i) St.o
 have y: ∀i,Inv (bc p) [] (x i):=fun i=>(pF rj (Ps _) ((ns p).take i) St.o (fun a h=>SG h) (JV _)).1
 refine rE 0 (ns p).length (PA _) (fun i w=>⟨[(3,.ptr 4 0),(4,.ptr 5 0),(5,.ptr 6 0),(6,.ptr 7 0),(7,.ptr 8 0),(15,.iv (strs (ns p))),(16,pI (ns p).length),(17,pI i)],rH (vd (bZ p (cI p))) w 10,11⟩)
  (fun i w=>w.Ok (ns p)∧w.st=x i) TW.o [9] ⟨⟨fun a h=>(nomatch h),P6,fun a h=>(nomatch h)⟩,rfl⟩
  (wk Z Z Z (bi (bi (bi (bi (bi (bi (bi (bi trivial))))))))
   (Kc Z Z (fun i A=>fi (by show i<10;omega)) Z Z Z Z Z Z Z Z Z Z (sK eW) (sK eW) (sK eW) Z (.of_eq Z)) Z) fun i w A G=>?_
 obtain⟨hok,u⟩:=G;refine zJ Z Z (fun h1=>?_) fun h1=>?_
 .have h1:i<(ns p).length:=by simpa using h1
  have j:x (i+1)=if(x i).low ((ns p).getD i co)=0 then(dI (bc p) (ns p).length ((ns p).getD i co) (x i)).2 else x i:=fU h1;refine zJ Z Z (fun b=>?_) fun b=>?_
  .have b:w.st.low ((ns p).getD i co)=0:=zT b;rw[<-u,am b]at j;refine gA Z (sZ [4,5,7,0,8,6,1,2,3,10] (Mk hS hf hl (ns p).length [] ((ns p).getD i co) w hok (u▸y i) b (kB h1) (fun g I=>nomatch I) (QH _ _)) Z Z Z Z Z (Lr _ _) Z ?_);rintro r R Y ⟨w3,hok3,hst3,rfl,rfl,rfl⟩;refine⟨_,rfl,?_⟩;refine gA Z ?_
   exact⟨h1,w3,[11],⟨hok3,by rw[j];exact hst3⟩,wk Z Z Z (bi (bi (bi (bi (bi (bi (bi (bi ac))))))))
    (Kc Z Z (fun i A=>fi (by show i<10;omega)) Z Z Z Z Z Z Z Z Z Z (.refl _) (.refl _) (.refl _) (j7 _ _ _ _) (.of_eq (j8 _ _ _))) Z⟩
  .have b: ¬w.st.low ((ns p).getD i co)=0:=zF b;rw[<-u,be b]at j;refine gA Z ?_
   exact⟨h1,w,[10],⟨hok,j.symm⟩,wk Z Z Z (bi (bi (bi (bi (bi (bi (bi (bi ac))))))))
    (Kc Z Z (fun i A=>fi (by show i<10;omega)) Z Z Z Z Z Z Z Z Z Z (.refl _) (.refl _) (.refl _) Z (.refl _)) Z⟩
 .have h1:(ns p).length<=i:=by simpa using h1
  have J:Go.Rg.tJ (ns p) (eg p) (fun a=>dt .str w.ring a 0):=by
   have b:=DW hf.nodup (Ps (ns p).length);have C:x i=fH (bc p) (ns p).length (ns p) St.o:=by show fH _ _ ((ns p).take i) _=_;rw[Pz h1]
   have D:(fun a=>dt .str w.ring a 0)=(fH (bc p) (ns p).length (ns p) St.o).ring:=by rw[<-C,<-u];rfl
   rw[D];exact b
  refine gA Z ⟨.inr Z,_,rfl,iC.map 3 Z (.done ⟨.iv (xW w.ring),[],0,[],⟨w.ring,J,rfl,rfl,rfl⟩,?_⟩)⟩;exact⟨rfl,PA _,by simp,⟨.of_eq Z,rfl,ac⟩,ac,P6⟩
end Go.Proofs.YtllkaddcplhklaaGreatDoor
