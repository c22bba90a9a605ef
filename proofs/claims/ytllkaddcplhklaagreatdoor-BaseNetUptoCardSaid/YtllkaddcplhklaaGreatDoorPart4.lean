/-
  What the proofs of the claims need: part 4 of 5.
-/
import Derived.Test.YtllkaddcplhklaaGreatDoorPart3
import Derived.KernelRfl
import Derived.Test.YtllkaddcplhklaaGreatDoorRows
import Derived.WalkKit
import Derived.ProofKit
import Derived.OpenShut
import Derived.Deep.DeepHandedRow
import Derived.Lib.LaidTab
import Derived.LaidSub
import Derived.MakeChecks
import Derived.Test.YtllkaddcplhklaaGreatDoorCards
import Derived.Test.YtllkaddcplhklaaGreatDoorTie
import Derived.Lib.Bytealg
import Derived.Laws.Externs
import Derived.Shelf.SlSortCmp.NoneTotal
import Derived.Shelf.SlMaps.Clone
open And renaming intro→Pq
open Array renaming eq_empty_of_size_eq_zero→Qz,toList_inj→Sv
open Bool renaming and_eq_true→Qf,eq_iff_iff→QN,false_eq_true→Rb,not_eq_false→SU,not_eq_false'→Q5,not_eq_true'→Qs,or_eq_false_iff→RE,or_eq_true→RB
open ByteArray renaming empty→Pt
open Classical renaming byContradiction→QO
open Int renaming le_refl→RK,toNat_natCast→Pr
open List.Nodup renaming length_le_of_subset→QH
open List.Pairwise renaming filter→RH,imp→Sr,nil→R9
open List renaming all_eq_true→P8,any_eq_false→Qm,any_eq_true→QJ,append_assoc→PK,append_eq_nil_iff→Sb,append_nil→Qp,concat_eq_append→SF,cons_append→QR,drop_eq_getElem_cons→Rz,drop_of_length_le→RP,eq_nil_of_length_eq_zero→Qh,ext_getElem?→RF,filter_congr→Rt,filter_cons→Rf,find?_eq_none→Rx,flatMap_append→R3,flatMap_cons→Qv,foldl_cons→Qg,getD_cons_zero→Rj,getD_eq_getElem?_getD→Pn,getElem?_cons_succ→R6,getElem?_eq_getElem→Po,getElem?_eq_some_iff→Pm,getElem?_map→Ps,getElem?_set→Rh,getElem?_take→Qc,getElem?_zipWith→SG,getElem_map→Q8,getElem_mem→P7,length_append→Pp,length_cons→PO,length_eq_zero_iff→QY,length_filter_le→QK,length_map→PX,length_nil→Ra,length_pos_iff→Qy,length_singleton→Qq,length_take→QI,map_append→PH,map_congr_left→PN,map_cons→PB,map_map→PW,map_nil→Qe,mem_append→PI,mem_append_left→P6,mem_append_right→QU,mem_cons→Px,mem_cons_of_mem→Py,mem_cons_self→Pz,mem_filter→PZ,mem_filterMap→Sj,mem_flatMap→Sf,mem_iff_getElem→Rs,mem_map→P1,mem_map_of_mem→Sh,mem_of_getElem?→P0,mem_of_mem_take→SJ,mem_range→QQ,mem_reverse→S1,mem_singleton→PA,mem_singleton_self→Ru,nil_append→Rk,nodup_append→QX,nodup_cons→P2,nodup_nil→Qa,pairwise_append→RX,pairwise_cons→P3,pairwise_iff_getElem→Qx,pairwise_map→RG,perm_ext_iff_of_nodup→Q4,range→PY,replicate→RV,singleton_append→SE,sum_cons→Qt,take_append_drop→RS,take_length→Rp,take_of_length_le→PJ,take_succ_cons→QS,zipWith→Sy,zipWith_cons_cons→Sz
open List.cons renaming injEq→SA
open Nat renaming add_assoc→Q6,beq→PM,ble→Ry,ble_eq_true_of_le→Qj,blt→PL,le_of_ble_eq_true→Pj,le_of_eq→SV,le_of_not_lt→Ro,le_refl→Pv,le_succ→QZ,le_trans→P9,lt_succ_iff_lt_or_eq→Q9,max_eq_right→S3,not_lt_zero→Rl,succ_le_succ→S0,zero_add→PT,zero_le→PC
open Option renaming bind_some→RJ,getD_some→Qn,map_eq_none_iff→RN,map_eq_some_iff→Pu
open Option.some renaming inj→Qb,injEq→Pl
open Prod renaming fst→Qk
open Prod.mk renaming injEq→Pw
set_option maxRecDepth 100000
open Bool renaming false→kw,true→jp
open Decidable renaming decide→lc
open Inhabited renaming default→co
open Option renaming none→is,some→io
open Array renaming getD_eq_getD_getElem?→Pk
open Array renaming range→Sn
open Array renaming getElem?_map→RL
open Option renaming map_some→Qw
open Array renaming getElem?_eq_getElem→PU
open Nat renaming mul_le_mul_right→PQ
open Nat renaming add_mul→Qr
open Array renaming getElem?_append_left→P5
open List renaming getElem?_append_right→PD
open Array renaming getElem?_append_right→RU
open Array renaming getElem?_toList→PS
namespace Go.Proofs.YtllkaddcplhklaaGreatDoor
open Go Go.Al Go.Proofs.Tryz
section
theorem jq:prog.cellsOf 3=1:=by kernel_rfl
theorem oB:prog.cellsOf 9=1:=by kernel_rfl
theorem rO:prog.cellsOf 72=3:=by kernel_rfl
theorem yH:prog.cellsOf 104=5:=by kernel_rfl
theorem Iv:prog.cellsOf 94=1:=by kernel_rfl
theorem wP:prog.cellsOf 96=2:=by kernel_rfl
theorem Fx:prog.cellsOf 122=1:=by kernel_rfl
theorem mH:prog.cellsOf 124=7:=by kernel_rfl
theorem yG:prog.cellsOf 126=10:=by kernel_rfl
theorem BF:prog.cellsOf 97=1:=by kernel_rfl
theorem tw:prog.cellsOf 128=30:=by kernel_rfl
theorem rP:prog.cellsOf 29=2:=by kernel_rfl
theorem BE:prog.cellsOf 99=5:=by kernel_rfl
theorem IA:prog.cellsOf 27=1:=by kernel_rfl
theorem BI:prog.cellsOf 31=4:=by kernel_rfl
theorem Iz:prog.cellsOf 32=1:=by kernel_rfl
theorem Iy:prog.cellsOf 33=1:=by kernel_rfl
theorem Ix:prog.cellsOf 35=2:=by kernel_rfl
theorem Iw:prog.cellsOf 37=1:=by kernel_rfl
theorem BH:prog.cellsOf 39=2:=by kernel_rfl
section
variable {H:Type}
abbrev bk(d:DataW H):Nat:=Rows.uptoBulk d
theorem Ah(d:DataW H):1<=bk d:=by
 cases d with
 |lit l=>cases l<;>simp[bk,Rows.uptoBulk]
 |nil=>simp[bk,Rows.uptoBulk]
 |ptr d=>simp[bk,Rows.uptoBulk]
 |slice elems spare=>simp[bk,Rows.uptoBulk]
 |agg parts=>simp[bk,Rows.uptoBulk]
 |iface t d=>simp[bk,Rows.uptoBulk]
 |map entries=>simp[bk,Rows.uptoBulk]
 |held h=>simp[bk,Rows.uptoBulk]
theorem tB(s:ByteArray):bk (DataW.lit (H:=H) (.string s.data.toList))=s.size+1:=by
 simp[bk,Rows.uptoBulk]
theorem _root_.Go.Al.QL.sum{α:Type}{Q:α->DataW H->Prop}{l:List α}{d:DataW H}(h:QL Q l d){f:α->Nat}{c:Nat}(hf: ∀x e,Q x e->f x<=c*bk e):(l.map f).sum<=c*bk d:=by
 obtain⟨b,hd,j,u⟩:=h;have key: ∀(l:List α) (b:List (DataW H)),l.length=b.length->(∀(i:Nat) (x:α) (e:DataW H),l[i]? =io x->b[i]? =io e->Q x e)->(l.map f).sum<=c*Rows.uptoBulkAll b:=by
  intro l
  induction l with
  |nil=>intro b _ _;simp
  |cons x r ih=>
   intro b hl u;cases b with
   |nil=>simp at hl
   |cons e b=>
    have h1:=hf x e (u 0 x e Z Z);have B:=ih b (by simpa using hl) fun i x e A y=>u (i+1) x e (by simpa using A) (by simpa using y);simp only[PB,Qt,Rows.uptoBulkAll,Nat.mul_add];simp only[bk]at h1;omega
 have h1:=key l b j u;rcases hd with⟨rfl,rfl⟩|⟨sp,rfl⟩
 .simp[Rows.uptoBulkAll]at h1;omega
 .refine P9 h1 (Nat.mul_le_mul_left c ?_);simp only[bk,Rows.uptoBulk];omega
theorem xf{α:Type}: ∀l:List α,(l.map fun _=>1).sum=l.length
 | []=>rfl
 |x::r=>by simp only[PB,Qt,PO,xf r];omega
theorem _root_.Go.Al.QL.len{α:Type}{Q:α->DataW H->Prop}{l:List α}{d:DataW H}(h:QL Q l d):l.length<=bk d:=by
 have:=h.sum (f:=fun _=>1) (c:=1) fun x e _=>by have:=Ah e;omega
 have e:=xf l;omega
theorem _root_.Go.Al.QL.all{α:Type}{Q:α->DataW H->Prop}{l:List α}{d:DataW H}(h:QL Q l d): ∀x∈l,∃e,Q x e∧bk e<=bk d:=by
 intro x C;obtain⟨b,hd,u,B⟩:=h;obtain⟨i,A,rfl⟩:=Rs.1 C;have j:i<b.length:=by omega
 refine⟨b[i],B i _ _ (Po A) (Po j),?_⟩;have key: ∀(b:List (DataW H)),∀e∈b,bk e<=Rows.uptoBulkAll b:=by
  intro b
  induction b with
  |nil=>intro e he;cases he
  |cons y r ih=>
   intro e he;simp only[Rows.uptoBulkAll];rcases Px.1 he with rfl|he
   .simp only[bk];omega
   .have:=ih e he;omega
 have h1:=key b b[i] (P7 j);rcases hd with⟨rfl,rfl⟩|⟨sp,rfl⟩
 .simp at j
 .refine P9 h1 ?_;simp only[bk,Rows.uptoBulk];omega
end
theorem Expr.fe: ∀l:List Expr,Expr.aB l=(l.map Expr.size).sum
 | []=>rfl
 |e::r=>by simp only[Expr.aB,PB,Qt,Expr.fe r]
theorem Expr.oK: ∀l:List Expr,Expr.lI l=(l.map Expr.ts).sum
 | []=>rfl
 |e::r=>by simp only[Expr.lI,PB,Qt,Expr.oK r]
theorem Lit.fe: ∀l:List Lit,Lit.aB l=(l.map Lit.size).sum
 | []=>rfl
 |e::r=>by simp only[Lit.aB,PB,Qt,Lit.fe r]
theorem Lit.oK: ∀l:List Lit,Lit.lI l=(l.map Lit.ts).sum
 | []=>rfl
 |e::r=>by simp only[Lit.lI,PB,Qt,Lit.oK r]
section
variable {H:Type} {enc:TypeId×Value->H} {W:World} {hT:lP W} {sp:Nat->Bool} {held:Bool}
def QV(v:dU)(d:DataW H):Prop:=v.sym.size<=bk d
def QT(t:Term)(d:DataW H):Prop:=t.ts<=400*bk d
def QA(a:Atom)(d:DataW H):Prop:=a.ts<=400*bk d∧a.aj.length<=bk d
def QE(e:Expr)(d:DataW H):Prop:=e.ts<=400*bk d∧e.size<=bk d
def QP(_:Pos)(_:DataW H):Prop:=True
def Pos.c(p:Pos):List IV:=[iI p.line,iI p.FT]
def QG(g:fC)(d:DataW H):Prop:=g.var.size+g.iF.ts+Lit.lI g.body<=400*bk d∧g.iF.size+Lit.aB g.body<=bk d
def QB(l:Lit)(d:DataW H):Prop:=l.ts<=400*bk d∧l.size<=bk d
theorem rd_val(n:Nat):Rd enc prog W hT sp held 72 dU.c QV n:=by
 intro m _ G y h;obtain⟨D,k,rfl,rfl,hl,B,j⟩:=DataW.trod_struct underlying72 h
 match D,B with
 | [x0,x1,x2],_=>
  obtain⟨a,u,I,_⟩:=ja (hT:=hT) underlying3 k k (Pv _) _ _ (lO j 0 Z Z Z jq Z);obtain⟨b,x,J,_⟩:=ja (hT:=hT) underlying3 k k (Pv _) _ _ (lO j 1 Z Z Z jq Z);obtain⟨c,A,C,_⟩:=gJ (hT:=hT) underlying9 k k (Pv _) _ _ (lO j 2 Z Z Z oB Z);refine⟨⟨a,b,c⟩,u.ei (o':=1) Z (x.ei (o':=2) Z (A.ei (o':=3) Z (.end_ (hl.trans rO)))),?_⟩;simp only[QV,bk,PB,Qe,Rows.uptoBulk,Rows.uptoBulkAll];have:=tB (H:=H) c;rw[<-C]at this;simp only[bk]at this;omega
theorem zb(n:Nat):Rd enc prog W hT sp held 29 Pos.c QP n:=by
 intro m _ C y h;obtain⟨B,k,rfl,rfl,hl,A,j⟩:=DataW.trod_struct underlying29 h
 match B,A with
 | [x0,x1],_=>
  obtain⟨a,u,D,_⟩:=ja (hT:=hT) underlying3 k k (Pv _) _ _ (lO j 0 Z Z Z jq Z);obtain⟨b,x,G,_⟩:=ja (hT:=hT) underlying3 k k (Pv _) _ _ (lO j 1 Z Z Z jq Z);exact⟨⟨a,b⟩,u.ei (o':=1) Z (x.ei (o':=2) Z (.end_ (hl.trans rP))),ac⟩
theorem Hq(n:Nat):Rd enc prog W hT sp held 104 Term.c QT n:=by
 intro m _ G y h;obtain⟨D,k,rfl,rfl,hl,B,j⟩:=DataW.trod_struct underlying104 h
 match D,B with
 | [x0,x1,x2],_=>
  obtain⟨a,u,I,_⟩:=ja (hT:=hT) underlying3 k k (Pv _) _ _ (lO j 0 Z Z Z jq Z);obtain⟨b,x,C,_⟩:=gJ (hT:=hT) underlying9 k k (Pv _) _ _ (lO j 1 Z Z Z oB Z);obtain⟨c,A,J⟩:=rd_val (hT:=hT) k k (Pv _) _ _ (lO j 2 Z Z Z rO Z);refine⟨⟨a,b,c⟩,u.ei (o':=1) Z (x.ei (o':=2) Z (A.ei (o':=5) Z (.end_ (hl.trans yH)))),?_⟩;simp only[QT,Term.ts,bk,PB,Qe,Rows.uptoBulk,Rows.uptoBulkAll];have:=tB (H:=H) b;rw[<-C]at this;simp only[bk]at this;omega
theorem AR(n:Nat):Rd enc prog W hT sp held 96 Atom.c QA n:=by
 intro m _ J y h;obtain⟨I,k,rfl,rfl,hl,D,j⟩:=DataW.trod_struct underlying96 h
 match I,D with
 | [x0,x1],_=>
  obtain⟨a,x,G,_⟩:=gJ (hT:=hT) underlying9 k k (Pv _) _ _ (lO j 0 Z Z Z oB Z);obtain⟨b,A,u⟩:=(gl (hT:=hT) underlying94 yH (by decide) (fun _=>rfl) (Hq k)).mono (QZ k) k (Pv _) _ _ (lO j 1 Z Z Z Iv Z);refine⟨⟨a,b⟩,x.ei (o':=1) Z (A.ei (o':=2) Z (.end_ (hl.trans wP))),?_⟩;have h1:=tB (H:=H) a;rw[<-G]at h1;have B:=u.sum (f:=Term.ts) (c:=400) fun _ _ h=>h;have C:=u.len;simp only[bk]at h1 B C;simp only[QA,Atom.ts,bk,PB,Qe,Rows.uptoBulk,Rows.uptoBulkAll];omega
theorem rv: ∀n:Nat,Rd enc prog W hT sp held 124 Expr.c QE n
 |0=>fun m R J y h=>by
  obtain rfl:m=0:=by omega
  simp[DataW.trod]at h
 |n+1=>fun m R J y h=>by
  obtain⟨xs,k,rfl,rfl,hl,Y,j⟩:=DataW.trod_struct underlying124 h;have hs:=gl (hT:=hT) underlying122 mH (by decide) (fun _=>rfl) (rv n)
  match xs,Y with
  | [x0,x1,x2,x3,x4],_=>
   obtain⟨a,B,qa,_⟩:=ja (hT:=hT) underlying3 k k (Pv _) _ _ (lO j 0 Z Z Z jq Z);obtain⟨b,C,qb,_⟩:=gJ (hT:=hT) underlying9 k k (Pv _) _ _ (lO j 1 Z Z Z oB Z);obtain⟨c,D,qc⟩:=rd_val (hT:=hT) k k (Pv _) _ _ (lO j 2 Z Z Z rO Z);obtain⟨d,G,qd,_⟩:=ja (hT:=hT) underlying3 k k (Pv _) _ _ (lO j 3 Z Z Z jq Z);obtain⟨e,I,A⟩:=hs k (by omega) _ _ (lO j 4 Z Z Z Fx Z);refine⟨.mk a b c d e,B.ei (o':=1) Z (C.ei (o':=2) Z (D.ei (o':=5) Z (G.ei (o':=6) Z ((I.A4 (Bx (.mk a b c d e))).ei (o':=7) Z (.end_ (hl.trans mH)))))),?_⟩;have h1:=tB (H:=H) b;rw[<-qb]at h1;have u:=A.sum (f:=Expr.ts) (c:=400) fun _ _ h=>h.1;have x:=A.sum (f:=Expr.size) (c:=1) fun _ _ h=>by have:=h.2;omega
   rw[<-Expr.oK]at u;rw[<-Expr.fe]at x;simp only[bk]at h1 u x;simp only[QE,Expr.ts,Expr.size,bk,PB,Qe,Rows.uptoBulk,Rows.uptoBulkAll];omega
theorem Lu{n:Nat}(hb:Rd enc prog W hT sp held 97 (fun l:List Lit=> [bu 30 l Lit.c]) (QL QB) n):Rd enc prog W hT sp held 126 fC.c QG (n+1):=by
 intro m hm cs y h;obtain⟨xs,k,rfl,rfl,hl,R,j⟩:=DataW.trod_struct underlying126 h
 match xs,R with
 | [x0,x1,x2,x3],_=>
  obtain⟨a,B,qa,_⟩:=ja (hT:=hT) underlying3 k k (Pv _) _ _ (lO j 0 Z Z Z jq Z);obtain⟨b,C,Y,_⟩:=gJ (hT:=hT) underlying9 k k (Pv _) _ _ (lO j 1 Z Z Z oB Z);obtain⟨c,D,qc⟩:=rv (hT:=hT) k k (Pv _) _ _ (lO j 2 Z Z Z mH Z);obtain⟨d,G,A⟩:=hb k (by omega) _ _ (lO j 3 Z Z Z BF Z);refine⟨⟨a,b,c,d⟩,B.ei (o':=1) Z (C.ei (o':=2) Z (D.ei (o':=9) Z ((G.A4 (zl d)).ei (o':=10) Z (.end_ (hl.trans yG))))),?_⟩;have h1:=tB (H:=H) b;rw[<-Y]at h1;have u:=A.sum (f:=Lit.ts) (c:=400) fun _ _ h=>h.1;have x:=A.sum (f:=Lit.size) (c:=1) fun _ _ h=>by have:=h.2;omega
  rw[<-Lit.oK]at u;rw[<-Lit.fe]at x;obtain⟨I,J⟩:=qc;simp only[bk]at h1 u x I J;simp only[QG,bk,PB,Qe,Rows.uptoBulk,Rows.uptoBulkAll];omega
theorem D4: ∀n:Nat,Rd enc prog W hT sp held 128 Lit.c QB n
 |0=>fun m hm J y h=>by
  obtain rfl:m=0:=by omega
  simp[DataW.trod]at h
 |n+1=>fun m hm J y h=>by
  obtain⟨xs,k,rfl,rfl,hl,hx,j⟩:=DataW.trod_struct underlying128 h;have hs:=Lu (gl (hT:=hT) underlying97 tw (by decide) (fun _=>rfl) (D4 n))
  match xs,hx with
  | [x0,x1,x2,x3,x4,x5,x6],_=>
   obtain⟨a,x,qa,_⟩:=ja (hT:=hT) underlying3 k k (Pv _) _ _ (lO j 0 Z Z Z jq Z);obtain⟨b,A,qb⟩:=AR (hT:=hT) k k (Pv _) _ _ (lO j 1 Z Z Z wP Z);obtain⟨c,B,qc,_⟩:=ja (hT:=hT) underlying3 k k (Pv _) _ _ (lO j 2 Z Z Z jq Z);obtain⟨d,C,qd⟩:=rv (hT:=hT) k k (Pv _) _ _ (lO j 3 Z Z Z mH Z);obtain⟨e,D,qe⟩:=rv (hT:=hT) k k (Pv _) _ _ (lO j 4 Z Z Z mH Z);obtain⟨g,G,qg⟩:=hs k (by omega) _ _ (lO j 5 Z Z Z yG Z);obtain⟨p,I,_⟩:=zb (hT:=hT) k k (Pv _) _ _ (lO j 6 Z Z Z rP Z);refine⟨.mk a b c d e g.func g.var g.iF g.body p,x.ei (o':=1) Z (A.ei (o':=3) Z (B.ei (o':=4) Z (C.ei (o':=11) Z (D.ei (o':=18) Z (G.ei (o':=28) Z (I.ei (o':=30) Z (.end_ (hl.trans tw)))))))),?_⟩;obtain⟨h1,R⟩:=qb;obtain⟨Y,h4⟩:=qd;obtain⟨h5,h6⟩:=qe;obtain⟨h7,h8⟩:=qg;have h9:=Ah x0.1;have u:=Ah x2.1;simp only[bk]at h1 R Y h4 h5 h6 h7 h8 h9 u;simp only[QB,Lit.ts,Lit.size,bk,PB,Qe,Rows.uptoBulk,Rows.uptoBulkAll];omega
theorem Hs(n:Nat):Rd enc prog W hT sp held 97 (fun l:List Lit=> [lits l]) (QL QB) n:=
 (gl (hT:=hT) underlying97 tw (by decide) (fun _=>rfl) (D4 n)).mono (QZ n)
end
end
end Go.Proofs.YtllkaddcplhklaaGreatDoor
namespace Go.Proofs.YtllkaddcplhklaaGreatDoor
open Go Go.Al Go.Proofs.Tryz Go.ChangeShapes Go.WideShapes Go.RowKit
theorem own:ownKnob prog.godebug=is:=by kernel_rfl
theorem NO:prog.globalNamed "internal/strconv.uint64pow10" =io 1:=by kernel_rfl
theorem ES:(prog.globals[1]?).map (·.type)=io 300:=by kernel_rfl
theorem Fv:prog.cellsOf 300=20:=by kernel_rfl
theorem Fw:prog.cellsOf 177=1:=by kernel_rfl
theorem Dj:prog.underlying 300=io (.array 20 177):=by kernel_rfl
theorem Dk:prog.underlying 177=io (.int .u64):=by kernel_rfl
abbrev EB:List (String×DataW Unit):=[("math/bits.deBruijn32tab",Rows.laid_math_bits_deBruijn32tab),("math/bits.deBruijn64tab",Rows.laid_math_bits_deBruijn64tab),("internal/strconv.uint64pow10",Rows.laid_internal_strconv_uint64pow10)]
theorem Ds{W:World}(h:laidMetH prog EB W):lP W:=by
 have u:=laidMetH.filter (fun x=>x.1== "internal/strconv.uint64pow10") h;have A:laidMet prog [("internal/strconv.uint64pow10",Lib.tabData .u64 n9)] W:=by
  rw[show EB.filter (fun x=>x.1== "internal/strconv.uint64pow10")=[("internal/strconv.uint64pow10",Lib.tabData .u64 n9)] by kernel_rfl]at u;rwa[MakeChecks.laidMetH_plain _ _ _ (by kernel_rfl)]at u
 have j:Lib.TabIs prog W "internal/strconv.uint64pow10" .u64 n9:=Lib.tabIs_of_head (rest:=[]) NO ES Dj Dk Fw Fv A;intro b c hb;unfold Lib.TabIs World.var? at j;rw[NO]at j
 match b with
 |0=>exact nomatch hb
 |1=>
  have B:(n9.map fun z=>Value.int .u64 z).toArray=c:=Qb hb;rw[B]at j;simp only[RJ]at j;split at j
  .rename_i C T y e;exact⟨T,y,by rw[e,Qb j]⟩
  .cases j
 |b+2=>exact nomatch hb
theorem kids:Kids prog (· <prog.types.size):=kids_rows (by kernel_rfl) (by kernel_rfl)
theorem full: ∀{t e},t<prog.types.size->prog.underlying t=io (.slice e)->0<prog.cellsOf e:=fun{t e}=>slices_full_of prog (by kernel_rfl) t e
theorem v8{H:Type}{enc:TypeId×Value->H}{W:World}(hT:lP W){k:FuncId}{f:Func}{s:ChangeSpec}{args:List PV}{vs:List Value}{B gs:List (DataW H)}{u:List MemPlace}
  (hp:Al.Pure prog k args (pB jp)) (D:args.length=vs.length) (hv: ∀(j:Nat) (p:PV),args[j]? =io p->VR (Mem.oE W hT) NA (· <0) p (vs.getD j undef))
  (G: ∀t∈f.params.toList,t<prog.types.size) (A:s.vars=[]) (y:f.resultTypes= #[4])
  (hW:DataW.Whole enc prog f.params.toList s.vars kw W vs.toArray.toList B gs u)
  (I:(s.fn H (B++gs)).results=[.lit (.bool jp)]) (J:(s.fn H (B++gs)).args=B) (R:(s.fn H (B++gs)).vars=[]):
  Calls prog k vs.toArray W fun e W'=> ∃v,e= .returned v∧s.post enc prog f kw jp kw kw W vs.toArray v W':=by
 refine(hp.2 (Mem.oE W hT) NA W vs (Hp W hT) D hv).mono ?_;rintro e W' ⟨x,M',N',r,h',n',rfl,⟨rfl,rfl,rfl⟩,hx,hr,hvr⟩;have Y:x= .bool jp:=by
  cases hvr with
  |iv _ _ h=>cases h;rfl
 subst Y;refine⟨_,rfl,wa kids full G A hW hx.os hx.output.out (fun b hb=>hx.fP b hb fun i o hi=>(nomatch hi)) (fun b sp hd=>?_) J R ?_⟩
 .rw[I,y];exact trodAll_cons_mk (shut_bool underlying4 _) trodAll_mk0
 .intro j t r h1 C;rw[y]at h1 C
  match j,h1,C with
  |0,h1,C=>
   cases h1;cases C;exact okWide_bool_mk underlying4 _
  |j+1,h1,C=>simp at h1
theorem bound{H:Type}{l:List (DataW H)}(hk:Rows.uptoSmall H l=jp):Rows.uptoBulkAll l<=1048576:=of_decide_eq_true hk
def EA(b:Nat)(cs:Array Value)(h:Array Obj):Array Obj:=h.modify b fun
 | .cells _ t frozen=> .cells cs t frozen
 |o=>o
noncomputable def p6(os:Os):World:=
 {World.holding prog os ⟨#[], #[],[]⟩ with
  heap:=EA 3 #[.int .u8 0,.int .u8 1,.int .u8 56,.int .u8 2,.int .u8 57,.int .u8 49,.int .u8 28,.int .u8 3,.int .u8 61,.int .u8 58,.int .u8 42,.int .u8 50,.int .u8 38,.int .u8 29,.int .u8 17,.int .u8 4,.int .u8 62,.int .u8 47,.int .u8 59,.int .u8 36,.int .u8 45,.int .u8 43,.int .u8 51,.int .u8 22,.int .u8 53,.int .u8 39,.int .u8 33,.int .u8 30,.int .u8 24,.int .u8 18,.int .u8 12,.int .u8 5,.int .u8 63,.int .u8 55,.int .u8 48,.int .u8 27,.int .u8 60,.int .u8 41,.int .u8 37,.int .u8 16,.int .u8 46,.int .u8 35,.int .u8 44,.int .u8 21,.int .u8 52,.int .u8 32,.int .u8 23,.int .u8 11,.int .u8 54,.int .u8 26,.int .u8 40,.int .u8 15,.int .u8 34,.int .u8 20,.int .u8 31,.int .u8 10,.int .u8 25,.int .u8 14,.int .u8 19,.int .u8 9,.int .u8 13,.int .u8 8,.int .u8 7,.int .u8 6] (EA 2 #[.int .u8 0,.int .u8 1,.int .u8 28,.int .u8 2,.int .u8 29,.int .u8 14,.int .u8 24,.int .u8 3,.int .u8 30,.int .u8 22,.int .u8 20,.int .u8 15,.int .u8 25,.int .u8 17,.int .u8 4,.int .u8 8,.int .u8 31,.int .u8 27,.int .u8 13,.int .u8 23,.int .u8 21,.int .u8 19,.int .u8 16,.int .u8 7,.int .u8 26,.int .u8 12,.int .u8 18,.int .u8 6,.int .u8 11,.int .u8 5,.int .u8 10,.int .u8 9] (EA 1 (n9.map fun z=>Value.int .u64 z).toArray (World.holding prog os ⟨#[], #[],[]⟩).heap))}
end Go.Proofs.YtllkaddcplhklaaGreatDoor
namespace Go.Proofs.YtllkaddcplhklaaGreatDoor
open Go Go.Al Go.Proofs.Tryz
def fi.z:fi:=(0,⟨0,0⟩)
theorem d64(d e:fi):bF prog 64 [ag d.c,.ptr 0 0] [az e.c] (pB kw) [(0,io (az d.c))] 1:=by
 refine au ab func64 Z (by decide) ntmps64 Z (by simp) ?_;refine gA Z (zD [] Z (zW (zO ac)))
def ff(p:Prog)(i:Nat):List ak:=(p.aS.take i).map Decl.name
def fD(p:Prog)(i:Nat):Int:=nZ (p.aS.getD i co) i (dw .str (aE (ff p i)) (p.aS.getD i co).name 0)
def nY(p:Prog):Nat->List fi
 |0=> []
 |i+1=>nY p i++(if fD p i=0 then[] else[(fD p i,(p.aS.getD i co).at_)])
def sw(p:Prog)(i:Nat):fi:=uJ p (p.rules.getD i co) ((i:Int)+1)
def oR(p:Prog):Nat->List fi
 |0=> []
 |i+1=>oR p i++(if(sw p i).1=0 then[] else[sw p i])
def jQ(p:Prog):List fi:=nY p p.aS.length++oR p p.rules.length
def dS(p:Prog):fi:=(jQ p).headD fi.z
theorem xE(p:Prog)(i:Nat): ∀k,∃t,nY p (i+k)=nY p i++t
 |0=>⟨[],by simp⟩
 |k+1=>by
  obtain⟨t,h⟩:=xE p i k;exact⟨_,by rw[<-Q6,nY,h,PK]⟩
theorem xy(p:Prog)(i:Nat): ∀k,∃t,oR p (i+k)=oR p i++t
 |0=>⟨[],by simp⟩
 |k+1=>by
  obtain⟨t,h⟩:=xy p i k;exact⟨_,by rw[<-Q6,oR,h,PK]⟩
theorem CV{p:Prog}{i:Nat}(j:nY p i=[])(hi:i<p.aS.length)(h: ¬fD p i=0):dS p=(fD p i,(p.aS.getD i co).at_):=by
 obtain⟨t,b⟩:=xE p (i+1) (p.aS.length-(i+1));have e:i+1+(p.aS.length-(i+1))=p.aS.length:=by omega
 rw[e,nY,j,be h]at b;rw[dS,jQ,b];rfl
theorem CU{p:Prog}{i:Nat}(h0:nY p p.aS.length=[])(j:oR p i=[])(hi:i<p.rules.length)(h: ¬(sw p i).1=0):dS p=sw p i:=by
 obtain⟨t,b⟩:=xy p (i+1) (p.rules.length-(i+1));have e:i+1+(p.rules.length-(i+1))=p.rules.length:=by omega
 rw[e,oR,j,be h]at b;rw[dS,jQ,b,h0];rfl
theorem Fu{p:Prog}(h0:nY p p.aS.length=[])(h1:oR p p.rules.length=[]):dS p=fi.z:=by
 rw[dS,jQ,h0,h1];rfl
theorem vY{p:Prog}{i:Nat}(h:i<p.aS.length):aE (ff p (i+1))=bump (aE (ff p i)) (p.aS.getD i co).name:=by
 rw[ff,ct h,PH];exact c5 _ _
theorem za(p:Prog)(i:Nat)(s:ak):0<=dw .str (aE (ff p i)) s 0∧dw .str (aE (ff p i)) s 0<=i:=by
 have h:=fG (ff p i) s;have b:(ff p i).length<=i:=by simp[ff];omega
 rw[bA];omega
def Prog.fit(p:Prog):Prop:=p.aS.length<=1000000000∧p.rules.length<=1000000000∧ ∀r∈p.rules,r.fit
theorem OO(p:Prog)(hb:p.fit):bF prog 63 [ag p.c,.b7 (.func 64) [] [.ptr 0 0]] [az fi.z.c] (.bm []) [(0,io (az (dS p).c))] 1:=by
 obtain⟨A,B,y⟩:=hb;refine au ab func63 Z (by decide) ntmps63 Z (by simp) ?_;refine gA Z ?_;refine aJ 0 p.aS.length (PC _) (fun i=>⟨[(1,.b7 (.func 64) [] [.ptr 0 0]),(2,.ptr 1 0),(4,.mp 2),(13,.iv (bu 4 p.aS Decl.c)),(14,pI p.aS.length),(15,pI i)],[(0,io (az fi.z.c)),(1,io (az p.c)),(2,io (cI (aE (ff p i))))],3⟩) (fun i=>nY p i=[]) [] Z
  (zW ⟨⟨_,rfl,.of_eq Z⟩,Pj Z,rfl,⟨_,rfl,.of_eq Z⟩,Pj Z,rfl,LO Z fa Z trivial⟩) fun i C u=>?_
 refine zJ Z Z (fun h1=>?_) fun h1=>?_
 .have h1:i<p.aS.length:=zN h1;have hl:=za p i (p.aS.getD i co).name;have G:=vY h1;refine gA Z (zp (Pb (p.aS.getD i co) i (dw .str (aE (ff p i)) (p.aS.getD i co).name 0)) ?_);refine zJ Z Z (fun g=>?_) fun g=>?_
  .have g: ¬fD p i=0:=by
    have g:(!lc (fD p i=0))=jp:=g;simpa only[Qs,decide_eq_false_iff_not]using g
   rw[CV u h1 g];refine gA Z (zq [0] (d64 (fD p i,(p.aS.getD i co).at_) fi.z) ?_);refine zE Z Z (fun q=>?_) fun q=>?_
   .exact absurd (show jp=kw from q) (by decide)
   refine gA Z (zD [] Z (zW (zO ac)))
  .have g:fD p i=0:=by
    have g:(!lc (fD p i=0))=kw:=g;simpa only[Q5,decide_eq_true_eq]using g
   refine gA Z ⟨h1,by rw[nY,u,am g];rfl,[],zW (zO (zO (hM Z (by rw[G];rfl) Z trivial)))⟩
 have h1:p.aS.length<=i:=zG h1;have j:i=p.aS.length:=by omega
 subst j;refine gA Z (zq [] (d50 p (by omega)) ?_);refine gA Z ?_;refine H9 3 Z ?_;refine aJ 0 p.rules.length (PC _) (fun i=>⟨[(1,.b7 (.func 64) [] [.ptr 0 0]),(2,.ptr 1 0),(8,.iv (cG p)),(47,.iv (bu 5 p.rules aw.c)),(48,pI p.rules.length),(49,pI i)],[(0,io (az fi.z.c)),(1,io (az p.c))],4⟩) (fun i=>oR p i=[]) [] Z
  (zW (zO (zO trivial))) fun i C x=>?_
 refine zJ Z Z (fun b=>?_) fun b=>?_
 .have b:i<p.rules.length:=zN b;have D:p.rules.getD i co∈p.rules:=by rw[Pn,Po b];exact P7 b
  refine gA Z (aC (c65 p (p.rules.getD i co) ((i:Int)+1) (y _ D)) Z Z Z Z Z Z ?_);refine zJ Z Z (fun g=>?_) fun g=>?_
  .have g: ¬(sw p i).1=0:=by
    have g:(!lc ((sw p i).1=0))=jp:=g;simpa only[Qs,decide_eq_false_iff_not]using g
   rw[CU u x b g];refine gA Z (zq [0] (d64 (sw p i) fi.z) ?_);refine zE Z Z (fun q=>?_) fun q=>?_
   .exact absurd (show jp=kw from q) (by decide)
   refine gA Z (zD [] Z (zW (zO ac)))
  .have g:(sw p i).1=0:=by
    have g:(!lc ((sw p i).1=0))=kw:=g;simpa only[Q5,decide_eq_true_eq]using g
   refine gA Z ⟨b,by rw[oR,x,am g];rfl,[],zW (zO (zO trivial))⟩
 have b:p.rules.length<=i:=zG b;have j:i=p.rules.length:=by omega
 subst j;rw[Fu u x];refine gA Z (zD [] Z (zW (zO ac)))
theorem c24(p:Prog)(hb:p.fit):Pure prog 39 [ag p.c] (ag (dS p).c):=by
 refine ah ab func39 Z (by decide) ntmps39 Z (by simp) Z ?_;refine gA Z (zq [2] (OO p hb) ?_);exact zU Z
end Go.Proofs.YtllkaddcplhklaaGreatDoor
namespace Go.Proofs.YtllkaddcplhklaaGreatDoor
open Go Go.Al Go.Proofs.Tryz Go.ChangeShapes Go.WideShapes Go.RowKit
section
theorem xe{α:Type}(f:α->Nat): ∀l:List α,(l.map fun x=>f x+1).sum=(l.map f).sum+l.length
 | []=>rfl
 |x::r=>by simp only[PB,Qt,PO,xe f r];omega
section
variable {H:Type} {enc:TypeId×Value->H} {W:World} {hT:lP W} {sp:Nat->Bool} {held:Bool}
def QD(x:Decl)(d:DataW H):Prop:=x.types.length+1<=bk d
def QR1(r:aw)(d:DataW H):Prop:=r.size+1<=bk d∧r.head.ts<=400*bk d∧ ∀l∈r.body,l.ts<=400*bk d
def Pg(p:Prog)(d:DataW H):Prop:=p.size<=bk d∧p.aS.length<=bk d∧p.rules.length<=bk d∧ ∀r∈p.rules,r.size<=bk d∧r.head.ts<=400*bk d∧ ∀l∈r.body,l.ts<=400*bk d
def QF(f:Fact)(d:DataW H):Prop:=f.args.length<=bk d
theorem D2(n:Nat):Rd enc prog W hT sp held 99 aw.c QR1 n:=by
 intro m _ cs y h;obtain⟨xs,k,rfl,rfl,hl,R,j⟩:=DataW.trod_struct underlying99 h
 match xs,R with
 | [x0,x1,x2],_=>
  obtain⟨a,A,Y⟩:=AR (hT:=hT) k k (Pv _) _ _ (lO j 0 Z Z Z wP Z);obtain⟨b,B,x⟩:=Hs (hT:=hT) k k (Pv _) _ _ (lO j 1 Z Z Z BF Z);obtain⟨c,C,qc⟩:=zb (hT:=hT) k k (Pv _) _ _ (lO j 2 Z Z Z rP Z);refine⟨⟨a,b,c⟩,A.ei (o':=2) Z (B.ei (o':=3) Z (C.ei (o':=5) Z (.end_ (hl.trans BE)))),?_⟩;have u:=x.sum (f:=Lit.size) (c:=1) fun _ _ h=>by have:=h.2;omega
  rw[<-Lit.fe]at u;obtain⟨D,G⟩:=Y;simp only[bk]at u D G;refine⟨?_,?_,fun l hl=>?_⟩
  .simp only[aw.size,bk,PB,Qe,Rows.uptoBulk,Rows.uptoBulkAll];omega
  .simp only[bk,PB,Qe,Rows.uptoBulk,Rows.uptoBulkAll];omega
  .obtain⟨e,⟨I,_⟩,J⟩:=x.all l hl;simp only[bk]at I J;simp only[bk,PB,Qe,Rows.uptoBulk,Rows.uptoBulkAll];omega
theorem Ht(n:Nat):Rd enc prog W hT sp held 3 j3 (fun _ _=>True) n:=by
 intro m j b y h;obtain⟨z,u,_⟩:=ja (hT:=hT) underlying3 n m j b y h;exact⟨z,u,ac⟩
theorem Hv(n:Nat):Rd enc prog W hT sp held 31 Decl.c QD n:=by
 intro m _ I y h;obtain⟨G,k,rfl,rfl,hl,C,j⟩:=DataW.trod_struct underlying31 h
 match G,C with
 | [x0,x1,x2],_=>
  obtain⟨a,u,J,_⟩:=gJ (hT:=hT) underlying9 k k (Pv _) _ _ (lO j 0 Z Z Z oB Z);obtain⟨b,x,D⟩:=(gl (hT:=hT) underlying27 jq (by decide) (fun _=>rfl) (Ht k)).mono (QZ k) k (Pv _) _ _ (lO j 1 Z Z Z IA Z);obtain⟨c,A,R⟩:=zb (hT:=hT) k k (Pv _) _ _ (lO j 2 Z Z Z rP Z);refine⟨⟨a,b,c⟩,u.ei (o':=1) Z (x.ei (o':=2) Z (A.ei (o':=4) Z (.end_ (hl.trans BI)))),?_⟩;have B:=D.len;simp only[bk]at B;simp only[QD,bk,PB,Qe,Rows.uptoBulk,Rows.uptoBulkAll];omega
theorem Hr(n:Nat):Rd enc prog W hT sp held 35 Prog.c Pg n:=by
 intro m _ cs y h;obtain⟨xs,k,rfl,rfl,hl,R,x⟩:=DataW.trod_struct underlying35 h
 match xs,R with
 | [x0,x1],_=>
  obtain⟨a,B,Y⟩:=(gl (hT:=hT) underlying32 BI (by decide) (fun _=>rfl) (Hv k)).mono (QZ k) k (Pv _) _ _ (lO x 0 Z Z Z Iz Z);obtain⟨b,C,A⟩:=(gl (hT:=hT) underlying33 BE (by decide) (fun _=>rfl) (D2 k)).mono (QZ k) k (Pv _) _ _ (lO x 1 Z Z Z Iy Z);refine⟨⟨a,b⟩,B.ei (o':=1) Z (C.ei (o':=2) Z (.end_ (hl.trans Ix))),?_⟩;have h1:=Y.sum (f:=fun d=>d.types.length+1) (c:=1) fun _ _ h=>by
   simp only[QD]at h;omega
  have j:=A.sum (f:=fun r=>r.size+1) (c:=1) fun _ _ h=>by have:=h.1;omega
  rw[xe]at h1 j;simp only[bk]at h1 j;refine⟨?_,?_,?_,fun r J=>?_⟩
  .simp only[Prog.size,bk,PB,Qe,Rows.uptoBulk,Rows.uptoBulkAll];omega
  .simp only[bk,PB,Qe,Rows.uptoBulk,Rows.uptoBulkAll];omega
  .simp only[bk,PB,Qe,Rows.uptoBulk,Rows.uptoBulkAll];omega
  .obtain⟨e,⟨D,G,u⟩,I⟩:=A.all r J;simp only[bk]at D G u I;refine⟨?_,?_,fun l hl=>?_⟩
   .simp only[bk,PB,Qe,Rows.uptoBulk,Rows.uptoBulkAll];omega
   .simp only[bk,PB,Qe,Rows.uptoBulk,Rows.uptoBulkAll];omega
   .have:=u l hl;simp only[bk,PB,Qe,Rows.uptoBulk,Rows.uptoBulkAll];omega
theorem Hu(n:Nat):Rd enc prog W hT sp held 39 Fact.c QF n:=by
 intro m _ G y h;obtain⟨D,k,rfl,rfl,hl,B,j⟩:=DataW.trod_struct underlying39 h
 match D,B with
 | [x0,x1],_=>
  obtain⟨a,u,I,_⟩:=gJ (hT:=hT) underlying9 k k (Pv _) _ _ (lO j 0 Z Z Z oB Z);obtain⟨b,x,C⟩:=(gl (hT:=hT) underlying37 rO (by decide) (fun _=>rfl) (rd_val k)).mono (QZ k) k (Pv _) _ _ (lO j 1 Z Z Z Iw Z);refine⟨⟨a,b⟩,u.ei (o':=1) Z (x.ei (o':=2) Z (.end_ (hl.trans BH))),?_⟩;have A:=C.len;simp only[bk]at A;simp only[QF,bk,PB,Qe,Rows.uptoBulk,Rows.uptoBulkAll];omega
end
theorem LV{H:Type}{p:Prog}{d:DataW H}(h:Pg p d)(hb:bk d<=1048576):p.fit:=by
 obtain⟨h1,x,y,b⟩:=h;refine⟨by omega,by omega,fun r u=>?_⟩;obtain⟨A,B,j⟩:=b r u;exact⟨by omega,by omega,fun l hl=>by have:=j l hl;omega⟩
theorem FB{H:Type}{enc:TypeId×Value->H}{W:World}(hT:lP W){v:Value}{d:DataW H}{p:List MemPlace}(b: ∃base,Value.okWide prog W .any base 35 v)(h:DataW.Trod enc prog W 0 (fun _=>jp) jp 35 v d p):
  ∃x:Prog,Pg x d∧VR (Mem.oE W hT) NA (· <0) (ag x.c) v:=by
 obtain⟨base,b⟩:=b;obtain⟨y,rfl,_⟩:=okWide_struct underlying35 b;obtain⟨n,u⟩:=h;obtain⟨r,h1,j⟩:=Hr (hT:=hT) n n (Pv _) _ _ u;exact⟨r,j,h1.agg⟩
theorem Kg{M:Mem}{N:Nm}{U:Nat->Prop}{p:IV}{a:Option Addr}{l c:Nat}(h:CR M [p] (Value.slice a l c).cells.toList):VR M N U (.iv p) (.slice a l c):= .iv _ _ (h.2 0 p Z)
end
end Go.Proofs.YtllkaddcplhklaaGreatDoor
namespace Go.Bo
section
structure TO {α:Type} (c:α->α->Int):Prop where
 eq: ∀x y,c x y=0↔x=y
 neg: ∀x y,c y x<0↔0<c x y
 tr: ∀x y z,c x y<0->c y z<0->c x z<0
section
variable {α:Type} {c:α->α->Int} (h:TO c)
include h
theorem TO.refl(x:α):c x x=0:=(h.eq x x).2 Z
theorem TO.Bc(x:α): ¬c x x<0:=by rw[h.refl];omega
theorem TO.asym{x y:α}(a:c x y<0): ¬c y x<0:=fun b=>by have:=(h.neg x y).1 b;omega
theorem TO.KV{x y:α}(a: ¬c x y<0)(b: ¬c y x<0):x=y:=by
 refine(h.eq x y).1 ?_;have:=(h.neg x y).2;omega
theorem TO.Og{x y z:α}(a: ¬c x y<0)(b: ¬c y z<0): ¬c x z<0:=fun g=>by
 by_cases e:c y x<0
 .exact b (h.tr _ _ _ e g)
 .rw[h.KV a e]at g;exact b g
end
def ry(a b:Int):Int:=if a=0 then b else a
theorem AU{a b j u:Int}(h1:j<0↔0<a)(x:a<0↔0<j)(y:u<0↔0<b):ry j u<0↔0<ry a b:=by
 unfold ry;split<;>split<;>omega
theorem TO.pair{α β:Type}{c:α->α->Int}{d:β->β->Int}(h:TO c)(g:TO d):TO fun(x y:α×β)=>ry (c x.1 y.1) (d x.2 y.2) where
 eq:=fun x y=>by
  unfold ry;constructor
  .intro e;split at e
   .rename_i a;exact Prod.ext ((h.eq _ _).1 a) ((g.eq _ _).1 e)
   .rename_i a;exact absurd e a
  .rintro rfl;rw[am (h.refl _)];exact g.refl _
 neg:=fun x y=>AU (h.neg _ _) (h.neg _ _) (g.neg _ _)
 tr:=fun x y z a b=>by
  unfold ry at*
  by_cases u:c x.1 y.1=0
  .rw[am u]at a;have A:=(h.eq _ _).1 u;rw[A];by_cases j:c y.1 z.1=0
   .rw[am j]at b ⊢;exact g.tr _ _ _ a b
   .rw[be j]at b ⊢;exact b
  .rw[be u]at a;by_cases j:c y.1 z.1=0
   .rw[<-(h.eq _ _).1 j,be u];exact a
   .rw[be j]at b;have:=h.tr _ _ _ a b;rw[be (by omega)];exact this
theorem TO.map{α β:Type}{c:β->β->Int}(h:TO c)(f:α->β)(hf: ∀x y,f x=f y->x=y):TO fun x y=>c (f x) (f y) where
 eq:=fun x y=>(h.eq _ _).trans ⟨hf x y,fun e=>by rw[e]⟩
 neg:=fun x y=>h.neg _ _
 tr:=fun x y z=>h.tr _ _ _
def cmpL{α:Type}(c:α->α->Int):List α->List α->Int
 | [],[]=>0
 | [],_::_=> -1
 |_::_,[]=>1
 |x::a,y::b=>ry (c x y) (cmpL c a b)
theorem TO.list{α:Type}{c:α->α->Int}(h:TO c):TO (cmpL c) where
 eq:=by
  intro x
  induction x with
  |nil=>intro y;cases y<;>simp[cmpL]
  |cons x a ih=>
   intro y;cases y with
   |nil=>simp[cmpL]
   |cons y b=>
    simp only[cmpL,ry,SA];constructor
    .intro e;split at e
     .rename_i q;exact⟨(h.eq _ _).1 q,(ih b).1 e⟩
     .rename_i q;exact absurd e q
    .rintro⟨rfl,rfl⟩;rw[am (h.refl _)];exact(ih a).2 Z
 neg:=by
  intro x
  induction x with
  |nil=>intro y;cases y<;>simp[cmpL]
  |cons x a ih=>
   intro y;cases y with
   |nil=>simp[cmpL]
   |cons y b=>exact AU (h.neg _ _) (h.neg _ _) (ih b)
 tr:=by
  intro x
  induction x with
  |nil=>
   intro y z a b;cases y with
   |nil=>simp[cmpL]at a
   |cons y y'=>cases z with
    |nil=>simp[cmpL]at b
    |cons z z'=>simp[cmpL]
  |cons x x' ih=>
   intro y z a b;cases y with
   |nil=>simp[cmpL]at a
   |cons y y'=>cases z with
    |nil=>simp[cmpL]at b
    |cons z z'=>
     simp only[cmpL,ry] at*
     by_cases u:c x y=0
     .rw[am u]at a;rw[(h.eq _ _).1 u];by_cases j:c y z=0
      .rw[am j]at b ⊢;exact ih _ _ a b
      .rw[be j]at b ⊢;exact b
     .rw[be u]at a;by_cases j:c y z=0
      .rw[<-(h.eq _ _).1 j,be u];exact a
      .rw[be j]at b;have:=h.tr _ _ _ a b;rw[be (by omega)];exact this
def j7(a b:Int):Int:=if a<b then-1 else if b<a then 1 else 0
theorem TO.int:TO j7 where
 eq:=fun x y=>by unfold j7;split<;>(try split)<;>omega
 neg:=fun x y=>by unfold j7;split<;>(try split)<;>(try split)<;>(try split)<;>omega
 tr:=fun x y z=>by unfold j7;split<;>(try split)<;>(try split)<;>(try split)<;>(try split)<;>omega
section
variable {α:Type} (c:α->α->Int)
def oD(l:List α):Prop:=l.Pairwise fun x y=>c x y<0
def ins(x:α):List α->List α
 | []=> [x]
 |y::r=>if c x y<0 then x::y::r else if c y x<0 then y::ins x r else y::r
def oM(l:List α):List α:=l.foldr (ins c) []
theorem oD.filter{c:α->α->Int}{l:List α}(hs:oD c l)(p:α->Bool):oD c (l.filter p):=RH p hs
variable {c} (h:TO c)
include h
theorem kY{x y:α}: ∀{l:List α},y∈ins c x l↔y=x∨y∈l
 | []=>by simp[ins]
 |z::r=>by
  unfold ins;split
  .simp
  .split
   .simp only[Px,kY (l:=r)];constructor
    .rintro(a|a|a)<;>simp[a]
    .rintro(a|a|a)<;>simp[a]
   .rename_i a b;have:=h.KV a b;subst this;simp
theorem Aw{x:α}: ∀{l:List α},oD c l->oD c (ins c x l)
 | [],_=>by simp[ins,oD]
 |z::r,hs=>by
  have j:=P3.1 hs;unfold ins;split
  .rename_i a;refine P3.2 ⟨fun y hy=>?_,hs⟩;rcases Px.1 hy with rfl|hy
   .exact a
   .exact h.tr _ _ _ a (j.1 y hy)
  .split
   .rename_i a b;refine P3.2 ⟨fun y hy=>?_,Aw j.2⟩;rcases(kY h).1 hy with rfl|hy
    .exact b
    .exact j.1 y hy
   .exact hs
theorem iV{y:α}: ∀{l:List α},y∈oM c l↔y∈l
 | []=>by simp[oM]
 |x::l=>by
  show y∈ins c x (oM c l)↔_;rw[kY h,iV,Px]
theorem mR: ∀(l:List α),oD c (oM c l)
 | []=>R9
 |x::l=>Aw h (mR l)
theorem Ax: ∀{a b:List α},oD c a->oD c b->(∀x,x∈a↔x∈b)->a=b
 | [],[],_,_,_=>rfl
 | [],y::b,_,_,e=>absurd ((e y).2 (Pz ..)) (by simp)
 |x::a,[],_,_,e=>absurd ((e x).1 (Pz ..)) (by simp)
 |x::a,y::b,ha,hb,e=>by
  have j:=P3.1 ha;have u:=P3.1 hb;have B:x=y:=by
   rcases Px.1 ((e x).1 (Pz ..)) with q|q
   .exact q
   .rcases Px.1 ((e y).2 (Pz ..)) with r|r
    .exact r.symm
    .exact absurd (u.1 x q) (h.asym (j.1 y r))
  subst B;have A: ∀{l:List α},(∀z∈l,c x z<0)->x∉l:=fun g m=>h.Bc x (g x m);rw[Ax j.2 u.2 fun z=>⟨fun m=>?_,fun m=>?_⟩]
  .rcases Px.1 ((e z).1 (Py _ m)) with q|q
   .subst q;exact absurd m (A j.1)
   .exact q
  .rcases Px.1 ((e z).2 (Py _ m)) with q|q
   .subst q;exact absurd m (A u.1)
   .exact q
theorem oD.nodup{l:List α}(hs:oD c l):l.Nodup:=Sr (fun a e=>by subst e;exact h.Bc _ a) hs
end
end
end Go.Bo
namespace Go.Proofs.YtllkaddcplhklaaGreatDoor
open Go Go.Al Go.Bo
deriving instance DecidableEq for Fact
def M6(s:ak):List Int:=s.data.toList.map fun b=>(b.toNat:Int)
theorem G1{a b:ak}(h:M6 a=M6 b):a=b:=by
 have:a.data.toList=b.data.toList:=List.map_inj_right (fun x y e=>UInt8.toNat_inj.1 (Int.ofNat.inj e))|>.1 h;cases a;cases b;simp only[ByteArray.mk.injEq];exact Sv.1 this
def od(a b:ak):Int:=cmpL j7 (M6 a) (M6 b)
def wM(a b:dU):Int:=ry (j7 a.kind b.kind) (ry (j7 a.num b.num) (od a.sym b.sym))
def rq(a b:List dU):Int:=cmpL wM a b
def aT(a b:Fact):Int:=ry (od a.rel b.rel) (rq a.args b.args)
theorem Of:TO od:=TO.int.list.map M6 fun _ _=>G1
theorem toV:TO wM:=(TO.int.pair (TO.int.pair Of)).map (fun v:dU=>(v.kind,v.num,v.sym)) fun x y e=>by
 cases x;cases y;simp only[Pw]at e;obtain⟨rfl,rfl,rfl⟩:=e;rfl
theorem lR:TO aT:=(Of.pair toV.list).map (fun f:Fact=>(f.rel,f.args)) fun x y e=>by
 cases x;cases y;simp only[Pw]at e;obtain⟨rfl,rfl⟩:=e;rfl
def Kh:Nat->FS
 |0=> []
 |n+1=>io .i64::io .i64::is::Kh n
abbrev fE:FS:=is::io .i64::Kh 8
def wU:(n:Nat)->List dU->FK (Kh n)
 |0,_=>()
 |n+1,[]=>(0,0,Pt,wU n [])
 |n+1,v::r=>(v.kind,v.num,v.sym,wU n r)
def bt(f:Fact):FK fE:=(f.rel,(f.args.length:Int),wU 8 f.args)
theorem yM: ∀(n:Nat) (a b:List dU),a.length=b.length->a.length<=n->wU n a=wU n b->a=b
 |_,[],[],_,_,_=>rfl
 |_,[],_::_,h,_,_=>by simp at h
 |_,_::_,[],h,_,_=>by simp at h
 |0,_::_,_::_,_,h,_=>by simp at h
 |n+1,v::a,u::b,h,g,e=>by
  have j:(v.kind,v.num,v.sym,wU n a)=(u.kind,u.num,u.sym,wU n b):=e;rw[Pw,Pw,Pw]at j;obtain⟨x,y,A,B⟩:=j;rw[yM n a b (by simpa using h) (by simpa using g) B];cases v;cases u;simp only at x y A;subst x y A;rfl
theorem pb{f g:Fact}(hf:f.args.length<=8)(e:bt f=bt g):f=g:=by
 have b:(f.rel,(f.args.length:Int),wU 8 f.args)=(g.rel,(g.args.length:Int),wU 8 g.args):=e;rw[Pw,Pw]at b;obtain⟨j,x,u⟩:=b;have:=yM 8 f.args g.args (by omega) hf u;cases f;cases g;simp only at j this;subst j this;rfl
end Go.Proofs.YtllkaddcplhklaaGreatDoor
namespace Go.Bo
section
theorem AT{α:Type}{R:α->α->Prop}(D: ∀x,¬R x x)(A: ∀x y,R x y-> ¬R y x): ∀{a b:List α},a.Pairwise R->b.Pairwise R->(∀x,x∈a↔x∈b)->a=b
 | [],[],_,_,_=>rfl
 | [],y::b,_,_,e=>absurd ((e y).2 (Pz ..)) (by simp)
 |x::a,[],_,_,e=>absurd ((e x).1 (Pz ..)) (by simp)
 |x::a,y::b,ha,hb,e=>by
  have j:=P3.1 ha;have u:=P3.1 hb;have C:x=y:=by
   rcases Px.1 ((e x).1 (Pz ..)) with q|q
   .exact q
   .rcases Px.1 ((e y).2 (Pz ..)) with r|r
    .exact r.symm
    .exact absurd (u.1 x q) (A _ _ (j.1 y r))
  subst C;have B: ∀{l:List α},(∀z∈l,R x z)->x∉l:=fun g m=>D x (g x m);rw[AT D A j.2 u.2 fun z=>⟨fun m=>?_,fun m=>?_⟩]
  .rcases Px.1 ((e z).1 (Py _ m)) with q|q
   .subst q;exact absurd m (B j.1)
   .exact q
  .rcases Px.1 ((e z).2 (Py _ m)) with q|q
   .subst q;exact absurd m (B u.1)
   .exact q
abbrev bM(F:Type):=Bool×F
def np{F:Type}(c:F->F->Int)(l:List (bM F)):Prop:=l.Pairwise fun x y=>c x.2 y.2<0
theorem Ay{F:Type}{c:F->F->Int}{l:List F}(hl:oD c l)(g:F->Option (bM F))(hg: ∀f x,g f=io x->x.2=f):np c (l.filterMap g):=by
 refine List.Pairwise.filterMap g (fun x y a u hu v b=>?_) hl;rw[hg _ _ hu,hg _ _ b];exact a
theorem np.facts{F:Type}{c:F->F->Int}{l:List (bM F)}(hl:np c l):oD c (l.map (·.2)):=RG.2 hl
theorem sd{F:Type}{c:F->F->Int}(h:TO c){a b:List (bM F)}(ha:np c a)(hb:np c b)(e: ∀x f,(x,f)∈a↔(x,f)∈b):a=b:=
 AT (R:=fun(x y:bM F)=>c x.2 y.2<0) (fun _=>h.Bc _) (fun _ _ q=>h.asym q) ha hb fun x=>e x.1 x.2
theorem uG{F:Type}{c:F->F->Int}: ∀(l:List F),(oM c l).length<=l.length
 | []=>Pv _
 |x::l=>by
  have key: ∀(m:List F),(ins c x m).length<=m.length+1:=by
   intro m
   induction m with
   |nil=>exact Pv _
   |cons y r ih=>
    unfold ins;split
    .exact Pv _
    .split
     .exact S0 ih
     .exact QZ _
  exact P9 (key _) (S0 (uG l))
section
variable {F:Type} [DecidableEq F] (c:F->F->Int)
def cz(l:List (bM F))(f:F):Option Bool:=(l.reverse.find? fun x=>lc (x.2=f)).map (·.1)
def bK(S:List F)(l:List (bM F)):List (bM F):=
 (oM c (l.map (·.2))).filterMap fun f=>(cz l f).bind fun a=>if lc (f∈S)=a then is else io (a,f)
def eV(S:List F)(l:List (bM F)):List F:=(oM c (S++l.map (·.2))).filter fun f=>(cz l f).getD jp
def yJ(A B:List F):List (bM F):=
 (oM c (A++B)).filterMap fun f=>if f∈A then(if f∈B then is else io (kw,f)) else io (jp,f)
variable {c}
theorem sX{l:List (bM F)}{f:F}:cz l f=is↔f∉l.map (·.2):=by
 unfold cz;rw[RN,Rx];simp only[S1,decide_eq_true_eq,P1,not_exists,not_and]
theorem eA{l:List (bM F)}{f:F}{a:Bool}(e:cz l f=io a):(a,f)∈l:=by
 unfold cz at e;rw[Pu]at e;obtain⟨x,h1,rfl⟩:=e;have b:=List.find?_some h1;have j:=List.mem_of_find?_eq_some h1;rw[decide_eq_true_eq]at b;rw[<-b];exact S1.1 j
theorem zr{l:List (bM F)}{f:F}(hm:f∈l.map (·.2)): ∃a,cz l f=io a:=by
 cases e:cz l f with
 |none=>exact absurd hm (sX.1 e)
 |some a=>exact⟨a,rfl⟩
theorem zt{l:List (bM F)}(hn:(l.map (·.2)).Nodup){f:F}{a:Bool}:cz l f=io a↔(a,f)∈l:=by
 refine⟨eA,fun m=>?_⟩;obtain⟨b,hb⟩:=zr (P1.2 ⟨_,m,rfl⟩:f∈l.map (·.2));have:=eA hb;have key: ∀{l:List (bM F)},(l.map (·.2)).Nodup->(a,f)∈l->(b,f)∈l->a=b:=by
  intro l
  induction l with
  |nil=>intro _ m;cases m
  |cons x r ih=>
   intro hn m1 m2;rw[PB,P2]at hn;rcases Px.1 m1 with e1|e1<;>rcases Px.1 m2 with e2|e2
   .have:=e1.trans e2.symm;exact congrArg Qk this
   .exact absurd (P1.2 ⟨_,e2,by rw[<-e1]⟩) hn.1
   .exact absurd (P1.2 ⟨_,e1,by rw[<-e2]⟩) hn.1
   .exact ih hn.2 e1 e2
 rw[hb,key hn m this]
theorem di(h:TO c){S:List F}{l:List (bM F)}{a:Bool}{f:F}:(a,f)∈bK c S l↔cz l f=io a∧lc (f∈S)≠a:=by
 unfold bK;rw[Sj];constructor
 .rintro⟨g,_,e⟩;cases e1:cz l g with
  |none=>rw[e1]at e;cases e
  |some b=>
   rw[e1,RJ]at e;split at e
   .cases e
   .rename_i q;cases e;exact⟨e1,q⟩
 .rintro⟨e1,e2⟩;refine⟨f,(iV h).2 (P1.2 ⟨_,eA e1,rfl⟩),?_⟩;rw[e1,RJ,be e2]
theorem kv(h:TO c){S:List F}{l:List (bM F)}{f:F}:f∈eV c S l↔(cz l f=io jp∨cz l f=is∧f∈S):=by
 unfold eV;rw[PZ,iV h,PI];cases e:cz l f with
 |none=>have:=sX.1 e;simp[this]
 |some a=>
  have:f∈l.map (·.2):=P1.2 ⟨_,eA e,rfl⟩;cases a<;>simp[this]
theorem ya(h:TO c){A B:List F}{a:Bool}{f:F}:(a,f)∈yJ c A B↔(a=kw∧f∈A∧f∉B)∨(a=jp∧f∉A∧f∈B):=by
 unfold yJ;rw[Sj];constructor
 .rintro⟨g,hg,e⟩;rw[iV h,PI]at hg;split at e
  .rename_i q;split at e
   .cases e
   .rename_i r;cases e;exact .inl ⟨rfl,q,r⟩
  .rename_i q;cases e;exact .inr ⟨rfl,q,hg.resolve_left q⟩
 .rintro(⟨rfl,q,r⟩|⟨rfl,q,r⟩)
  .exact⟨f,(iV h).2 (P6 _ q),by rw[am q,be r]⟩
  .exact⟨f,(iV h).2 (QU _ r),by rw[be q]⟩
theorem lY(h:TO c)(S:List F)(l:List (bM F)):oD c (eV c S l):=(mR h _).filter _
theorem fU(h:TO c)(S:List F)(l:List (bM F)):np c (bK c S l):=Ay (mR h _) _ fun f x e=>by
 cases e1:cz l f with
 |none=>rw[e1]at e;cases e
 |some b=>
  rw[e1,RJ]at e;split at e
  .cases e
  .cases e;rfl
theorem uF(h:TO c)(A B:List F):np c (yJ c A B):=Ay (mR h _) _ fun f x e=>by
 split at e
 .split at e
  .cases e
  .cases e;rfl
 .cases e;rfl
theorem kC(h:TO c){S:List F}{l:List (bM F)}{f:F}{a:Bool}:cz (bK c S l) f=io a↔cz l f=io a∧lc (f∈S)≠a:=by
 rw[zt ((np.facts (fU h S l)).nodup h),di h]
theorem sW(h:TO c){S:List F}{l:List (bM F)}{f:F}(e:cz (bK c S l) f=is):cz l f=is∨cz l f=io (lc (f∈S)):=by
 cases q:cz l f with
 |none=>exact .inl Z
 |some a=>
  by_cases r:lc (f∈S)=a
  .rw[r];exact .inr Z
  .rw[(kC h).2 ⟨q,r⟩]at e;cases e
theorem u1(h:TO c)(S:List F)(l:List (bM F)):eV c S (bK c S l)=eV c S l:=by
 refine Ax h (lY h _ _) (lY h _ _) fun f=>?_;rw[kv h,kv h,kC h];constructor
 .rintro(⟨e,_⟩|⟨e,m⟩)
  .exact .inl e
  .rcases sW h e with q|q
   .exact .inr ⟨q,m⟩
   .rw[decide_eq_true m]at q;exact .inl q
 .rintro(e|⟨e,m⟩)
  .by_cases m:f∈S
   .refine .inr ⟨?_,m⟩;cases q:cz (bK c S l) f with
    |none=>rfl
    |some a=>
     have:=(kC h).1 q;rw[e]at this;obtain⟨b,j⟩:=this;cases b;exact absurd (decide_eq_true m) j
   .exact .inl ⟨e,by simp[m]⟩
  .refine .inr ⟨?_,m⟩;cases q:cz (bK c S l) f with
   |none=>rfl
   |some a=>have:=(kC h).1 q;rw[e]at this;cases this.1
theorem BR(h:TO c)(S:List F)(l:List (bM F)):bK c S (bK c S l)=bK c S l:=
 sd h (fU h _ _) (fU h _ _) fun a f=>by
  rw[di h,kC h,di h];exact⟨fun q=>q.1,fun q=>⟨q,q.2⟩⟩
theorem CZ(h:TO c)(S:List F)(l:List (bM F)):yJ c S (eV c S l)=bK c S l:=
 sd h (uF h _ _) (fU h _ _) fun a f=>by
  rw[ya h,di h,kv h];by_cases m:f∈S<;>cases e:cz l f with
  |none=>cases a<;>simp[m]
  |some b=>cases a<;>cases b<;>simp[m]
theorem r8(S:List F)(l:List (bM F)):(bK c S l).length<=l.length:=by
 have:=List.length_filterMap_le (fun f=>(cz l f).bind fun a=>if lc (f∈S)=a then is else io (a,f)) (oM c (l.map (·.2)));have b:=uG (c:=c) (l.map (·.2));rw[PX]at b;exact P9 this b
theorem Ej(h:TO c){S:List F}(hS:oD c S)(l:List (bM F)):
  (eV c S l).length+((bK c S l).filter fun x=>!x.1).length=S.length+((bK c S l).filter fun x=>x.1).length:=by
 have hT:=fU h S l;have B: ∀q:bM F->Bool,(((bK c S l).filter q).map (·.2)).Nodup:=fun q=>
  (np.facts (RH q hT)).nodup h
 have A:(S.filter fun f=>lc ((kw,f)∉bK c S l)).Nodup:=(hS.filter _).nodup h;have j: ∀(b:Bool) (f:F),f∈((bK c S l).filter fun x=>x.1==b).map (·.2)↔(b,f)∈bK c S l:=fun b f=>by
  rw[P1];constructor
  .rintro⟨x,hx,rfl⟩;rw[PZ,beq_iff_eq]at hx;rw[<-hx.2];exact hx.1
  .intro m;exact⟨_,PZ.2 ⟨m,beq_self_eq_true b⟩,rfl⟩
 have G:(eV c S l).Perm ((S.filter fun f=>lc ((kw,f)∉bK c S l))++((bK c S l).filter fun x=>x.1==jp).map (·.2)):=by
  refine(Q4 ((lY h S l).nodup h) ?_).2 fun f=>?_
  .refine QX.2 ⟨A,B _,fun f u g y e=>?_⟩;subst e;rw[PZ]at u;have:=(di h).1 ((j jp f).1 y);exact this.2 (decide_eq_true u.1)
  .rw[PI,PZ,j,decide_eq_true_eq,di h,di h,kv h];by_cases m:f∈S<;>cases e:cz l f with
   |none=>simp[m]
   |some b=>cases b<;>simp[m]
 have I:S.Perm ((S.filter fun f=>lc ((kw,f)∉bK c S l))++((bK c S l).filter fun x=>x.1==kw).map (·.2)):=by
  refine(Q4 (hS.nodup h) ?_).2 fun f=>?_
  .refine QX.2 ⟨A,B _,fun f u g y e=>?_⟩;subst e;rw[PZ,decide_eq_true_eq]at u;exact u.2 ((j kw f).1 y)
  .rw[PI,PZ,j,decide_eq_true_eq,di h];by_cases m:f∈S<;>cases e:cz l f with
   |none=>simp[m]
   |some b=>cases b<;>simp[m]
 have C:=G.length_eq;have D:=I.length_eq;rw[Pp,PX]at C D;have c1:((bK c S l).filter fun x=>x.1==jp)=(bK c S l).filter fun x=>x.1:=Rt fun x _=>by cases x.1<;>rfl
 have c2:((bK c S l).filter fun x=>x.1==kw)=(bK c S l).filter fun x=>!x.1:=Rt fun x _=>by cases x.1<;>rfl
 rw[c1]at C;rw[c2]at D;omega
end
section
variable {F:Type} (c:F->F->Int)
def cS:List F->List F->List (bM F)
 | [],b=>b.map fun f=>(jp,f)
 |a,[]=>a.map fun f=>(kw,f)
 |x::a,y::b=>if c x y<0 then(kw,x)::cS a (y::b) else if 0<c x y then(jp,y)::cS (x::a) b else cS a b
 termination_by a b=>a.length+b.length
variable {c}
theorem gK(b:List F):cS c [] b=b.map fun f=>(jp,f):=by unfold cS;rfl
theorem jI(a:List F):cS c a []=a.map fun f=>(kw,f):=by
 cases a with
 |nil=>unfold cS;rfl
 |cons=>unfold cS;rfl
theorem jJ(x y:F)(a b:List F):cS c (x::a) (y::b)=if c x y<0 then(kw,x)::cS c a (y::b) else if 0<c x y then(jp,y)::cS c (x::a) b else cS c a b:=by
 rw[cS]
theorem iU(h:TO c): ∀(n:Nat) (a b:List F),a.length+b.length<=n->oD c a->oD c b-> ∀(t:Bool) (f:F),(t,f)∈cS c a b↔(t=kw∧f∈a∧f∉b)∨(t=jp∧f∉a∧f∈b)
 |n,[],b,_,_,_,t,f=>by
  rw[gK];cases t<;>simp
 |n,x::a,[],_,_,_,t,f=>by
  rw[jI];cases t<;>simp[eq_comm]
 |0,x::a,y::b,hn,_,_,_,_=>by simp at hn
 |n+1,x::a,y::b,hn,ha,hb,t,f=>by
  have j:=P3.1 ha;have u:=P3.1 hb;simp only[PO]at hn;rw[jJ];split
  .rename_i q;rw[Px,iU h n a (y::b) (by simp only[PO];omega) j.2 hb];have G:x∉y::b:=fun m=>by
    rcases Px.1 m with e|m
    .rw[e]at q;exact h.Bc _ q
    .exact h.asym q (u.1 x m)
   have A:x∉a:=fun m=>h.Bc _ (j.1 x m);by_cases e:f=x
   .subst e;cases t<;>simp[G,A]
   .cases t<;>simp[e]
  .split
   .rename_i q r;rw[Px,iU h n (x::a) b (by simp only[PO];omega) ha u.2];have D:=(h.neg x y).2 r;have I:y∉x::a:=fun m=>by
     rcases Px.1 m with e|m
     .rw[e]at D;exact h.Bc _ D
     .exact h.asym D (j.1 y m)
    have C:y∉b:=fun m=>h.Bc _ (u.1 y m);by_cases e:f=y
    .subst e;cases t<;>simp[I,C]
    .cases t<;>simp[e]
   .rename_i q r;have e:x=y:=h.KV q fun g=>r ((h.neg x y).1 g);subst e;rw[iU h n a b (by omega) j.2 u.2];have A:x∉a:=fun m=>h.Bc _ (j.1 x m);have B:x∉b:=fun m=>h.Bc _ (u.1 x m);by_cases e:f=x
    .subst e;cases t<;>simp[A,B]
    .cases t<;>simp[e]
theorem mV(h:TO c): ∀(n:Nat) (a b:List F),a.length+b.length<=n->oD c a->oD c b->np c (cS c a b)
 |n,[],b,_,_,hb=>by rw[gK];exact RG.2 hb
 |n,x::a,[],_,ha,_=>by rw[jI];exact RG.2 ha
 |0,x::a,y::b,hn,_,_=>by simp at hn
 |n+1,x::a,y::b,hn,ha,hb=>by
  have j:=P3.1 ha;have u:=P3.1 hb;simp only[PO]at hn;rw[jJ];split
  .rename_i q;refine P3.2 ⟨fun z A=>?_,mV h n a (y::b) (by simp only[PO];omega) j.2 hb⟩;rcases(iU h n a (y::b) (by simp only[PO];omega) j.2 hb z.1 z.2).1 A with⟨_,m,_⟩|⟨_,_,m⟩
   .exact j.1 _ m
   .rcases Px.1 m with e|m
    .rw[e];exact q
    .exact h.tr _ _ _ q (u.1 _ m)
  .split
   .rename_i q r;have B:=(h.neg x y).2 r;refine P3.2 ⟨fun z A=>?_,mV h n (x::a) b (by simp only[PO];omega) ha u.2⟩;rcases(iU h n (x::a) b (by simp only[PO];omega) ha u.2 z.1 z.2).1 A with⟨_,m,_⟩|⟨_,_,m⟩
    .rcases Px.1 m with e|m
     .rw[e];exact B
     .exact h.tr _ _ _ B (j.1 _ m)
    .exact u.1 _ m
   .exact mV h n a b (by omega) j.2 u.2
structure fz (c:F->F->Int) (ok:F->Bool) (S:List F):Prop where
 yQ:oD c S
 ok: ∀f∈S,ok f=jp
 OF:S.length<=65536
theorem fz.nil(c:F->F->Int)(ok:F->Bool):fz c ok []:=⟨R9,fun _ m=>(nomatch m),PC _⟩
variable [DecidableEq F]
theorem zj(h:TO c){a b:List F}(ha:oD c a)(hb:oD c b):cS c a b=yJ c a b:=
 sd h (mV h _ a b (Pv _) ha hb) (uF h a b) fun t f=>(iU h _ a b (Pv _) ha hb t f).trans (ya h).symm
def ft(c:F->F->Int)(ok:F->Bool)(S:List F)(l:List (bM F)):Int:=
 if 4096<l.length then 2 else if(l.all fun x=>ok x.2)=kw then 5 else if 65536<(eV c S l).length then 3 else 0
abbrev Pf(F:Type):=List F×Nat
def fY(c:F->F->Int)(ok:F->Bool)(s:Pf F)(l:List (bM F)):Pf F:=if ft c ok s.1 l=0 then(eV c s.1 l,s.2+1) else s
theorem iT{ok:F->Bool}{S:List F}{l:List (bM F)}:ft c ok S l=0↔l.length<=4096∧(∀x∈l,ok x.2=jp)∧(eV c S l).length<=65536:=by
 unfold ft;split
 .exact⟨fun e=>by simp at e,fun e=>by omega⟩
 .split
  .rename_i q r;refine⟨fun e=>by simp at e,fun e=>?_⟩;rw[P8.2 e.2.1]at r;cases r
  .split
   .exact⟨fun e=>by simp at e,fun e=>by omega⟩
   .rename_i q r t;refine⟨fun _=>⟨by omega,?_,by omega⟩,fun _=>rfl⟩;rw[SU]at r;exact P8.1 r
theorem fz.next(h:TO c){ok:F->Bool}{S:List F}{l:List (bM F)}(hS:fz c ok S)(e:ft c ok S l=0):fz c ok (eV c S l):=by
 rw[iT]at e;refine⟨lY h S l,fun f m=>?_,e.2.2⟩;rcases(kv h).1 m with q|⟨_,q⟩
 .exact e.2.1 _ (eA q)
 .exact hS.ok f q
theorem fz.done(h:TO c){ok:F->Bool}{s:Pf F}(hS:fz c ok s.1)(l:List (bM F)):fz c ok (fY c ok s l).1:=by
 unfold fY;split
 .rename_i e;exact hS.next h e
 .exact hS
theorem El(h:TO c){ok:F->Bool}{S:List F}{l:List (bM F)}(e:ft c ok S l=0):ft c ok S (bK c S l)=0:=by
 rw[iT]at e ⊢;refine⟨P9 (r8 S l) e.1,fun x m=>?_,by rw[u1 h];exact e.2.2⟩;exact e.2.1 _ (eA ((di h (a:=x.1) (f:=x.2)).1 m).1)
end
section
variable {F:Type} [DecidableEq F]
def jy:List (bM F)->bM F->List (bM F)
 | [],c=> [c]
 |x::r,c=>if x.2=c.2 then c::r else x::jy r c
def lM(l:List (bM F)):List (bM F):=l.foldl jy []
theorem x8{a:Bool}{f:F}: ∀{T:List (bM F)} {c:bM F},(T.map (·.2)).Nodup->((a,f)∈jy T c↔(a,f)=c∨(f≠c.2∧(a,f)∈T))
 | [],c,_=>by simp[jy]
 |x::r,c,hn=>by
  rw[PB,P2]at hn;unfold jy;split
  .rename_i e;rw[Px,Px];constructor
   .rintro(q|q)
    .exact .inl q
    .refine .inr ⟨fun b=>hn.1 (P1.2 ⟨_,q,?_⟩),.inr q⟩;show f=x.2;rw[b,e]
   .rintro(q|⟨q,r1|r1⟩)
    .exact .inl q
    .exact absurd (by rw[<-e,<-r1]) q
    .exact .inr r1
  .rename_i e;rw[Px,Px,x8 hn.2];constructor
   .rintro(q|q|⟨q,r1⟩)
    .exact .inr ⟨fun b=>e (by rw[<-q];exact b),.inl q⟩
    .exact .inl q
    .exact .inr ⟨q,.inr r1⟩
   .rintro(q|⟨q,r1|r1⟩)
    .exact .inr (.inl q)
    .exact .inl r1
    .exact .inr (.inr ⟨q,r1⟩)
theorem tn{f:F}: ∀{T:List (bM F)} {c:bM F},f∈(jy T c).map (·.2)↔f=c.2∨f∈T.map (·.2)
 | [],c=>by simp[jy]
 |x::r,c=>by
  unfold jy;split
  .rename_i e;simp only[PB,Px];rw[e];constructor
   .rintro(q|q)
    .exact .inl q
    .exact .inr (.inr q)
   .rintro(q|q|q)
    .exact .inl q
    .exact .inl q
    .exact .inr q
  .simp only[PB,Px,tn (T:=r)];constructor
   .rintro(q|q|q)
    .exact .inr (.inl q)
    .exact .inl q
    .exact .inr (.inr q)
   .rintro(q|q|q)
    .exact .inr (.inl q)
    .exact .inl q
    .exact .inr (.inr q)
theorem sK: ∀{T:List (bM F)} {c:bM F},(T.map (·.2)).Nodup->((jy T c).map (·.2)).Nodup
 | [],c,_=>by simp[jy]
 |x::r,c,hn=>by
  rw[PB,P2]at hn;unfold jy;split
  .rename_i e;rw[PB,P2,<-e];exact hn
  .rename_i e;rw[PB,P2,tn];exact⟨fun q=>q.elim e hn.1,sK hn.2⟩
theorem zs(l:List (bM F))(c:bM F)(f:F):cz (l++ [c]) f=if c.2=f then io c.1 else cz l f:=by
 unfold cz;rw[List.reverse_append,List.reverse_singleton,SE,List.find?_cons];by_cases e:c.2=f
 .rw[am e,decide_eq_true e];rfl
 .rw[be e,decide_eq_false e]
theorem oh(l:List (bM F)):((lM l).map (·.2)).Nodup∧ ∀(a:Bool) (f:F),(a,f)∈lM l↔cz l f=io a:=by
 suffices key: ∀(m k:List (bM F)) (T:List (bM F)),(T.map (·.2)).Nodup->(∀(a:Bool) (f:F),(a,f)∈T↔cz k f=io a)->
   ((m.foldl jy T).map (·.2)).Nodup∧ ∀(a:Bool) (f:F),(a,f)∈m.foldl jy T↔cz (k++m) f=io a by
  have:=key l [] [] Qa fun a f=>by simp[cz]
  exact this
 intro m
 induction m with
 |nil=>intro k T h1 b;rw[Qp];exact⟨h1,b⟩
 |cons c m ih=>
  intro k T h1 b;have:=ih (k++ [c]) (jy T c) (sK h1) fun a f=>by
   rw[x8 h1,zs,b];by_cases e:c.2=f
   .rw[am e];constructor
    .rintro(q|⟨q,_⟩)
     .rw[<-q]
     .exact absurd e.symm q
    .intro q;left;have:=Qb q;rw[<-this,<-e]
   .rw[be e];constructor
    .rintro(q|⟨_,q⟩)
     .exact absurd (by rw[<-q]) e
     .exact q
    .intro q;exact .inr ⟨fun g=>e g.symm,q⟩
  rw[PK,SE]at this;exact this
theorem lj{c:F->F->Int}(h:TO c)(S:List F)(l:List (bM F)):((lM l).filter fun x=>!(lc (x.2∈S)==x.1)).Perm (bK c S l):=by
 obtain⟨h1,j⟩:=oh l;have b: ∀{t:List (bM F)},(t.map (·.2)).Nodup->t.Nodup:=fun{t} q=>by
  have:=RG.1 q;exact this.imp fun a e=>a (by rw[e])
 refine(Q4 (RH _ (b h1)) (b ((np.facts (fU h S l)).nodup h))).2 fun x=>?_;obtain⟨a,f⟩:=x;rw[PZ,j,di h];simp
theorem Ce{kc:Go.Al.KC}{key:F->kc.K}(T:List (bM F))(c:bM F)(b: ∀x∈T,key x.2=key c.2->x.2=c.2):
  Go.Al.cD kc (T.map fun x=>(key x.2,x)) (key c.2) c=(jy T c).map fun x=>(key x.2,x):=by
 induction T with
 |nil=>rfl
 |cons x r ih=>
  simp only[PB,Go.Al.cD,jy];by_cases e:key x.2=key c.2
  .rw[am e,am (b x (Pz ..) e),PB]
  .rw[be e,be (fun q=>e (by rw[q])),PB,ih fun u hu=>b u (Py _ hu)]
end
end
end Go.Bo
namespace Go.Proofs.YtllkaddcplhklaaGreatDoor
open Go Go.Al Go.Proofs.Tryz Go.Bo
theorem vu: ∀a b:List UInt8,Lib.compareBytes a b=cmpL j7 (a.map fun x=>(x.toNat:Int)) (b.map fun x=>(x.toNat:Int))
 | [],[]=>rfl
 | [],_::_=>rfl
 |_::_,[]=>rfl
 |x::a,y::b=>by
  simp only[Lib.compareBytes,PB,cmpL,vu a b];have h1:(x<y)↔((x.toNat:Int)<(y.toNat:Int)):=by rw[UInt8.lt_iff_toNat_lt];omega
  have j:(y<x)↔((y.toNat:Int)<(x.toNat:Int)):=by rw[UInt8.lt_iff_toNat_lt];omega
  simp only[ry,j7,h1,j];split
  .simp
  .split
   .simp
   .simp
theorem uk(a b:ak)(w:World):(callFunc 114 #[.string a,.string b]).run prog w= .ok (.value (.int .i64 (od a b))) w:=by
 rw[run_callFunc_extern func114 (by kernel_rfl) (by kernel_rfl) (by kernel_rfl) (e:=Extern.BytealgCompare.compare) (by kernel_rfl),Lib.run_compareString,vu];rfl
theorem DN(a b:ak):Pure prog 79 [pS a,pS b] (pI (od a b)):=by
 refine ah ab func79 Z (by decide) ntmps79 Z (by simp) Z ?_;refine gA Z (Ia (.int .i64 (od a b)) Z Z Z Z (uk a b) Z ?_);refine gA Z (aN (by first|exact .inr Z|exact .inl Z) Z (.of_eq ?_));rfl
theorem AI(a b:ak):Pure prog 60 [pS a,pS b] (pI (od a b)):=by
 refine ah ab func60 Z (by decide) ntmps60 Z (by simp) Z ?_;refine gA Z (aC (DN a b) Z Z Z Z Z Z ?_);refine gA Z (aN (by first|exact .inr Z|exact .inl Z) Z (.of_eq ?_));rfl
theorem Nl(n:Int):Pure prog 151 [pI n] (pB kw):=by
 refine ah ab func151 Z (by decide) ntmps151 Z (by simp) Z ?_;refine gA Z (aN (by first|exact .inr Z|exact .inl Z) Z (.of_eq ?_));show pB (!lc (n=n))=pB kw;simp
theorem JW(a b:Int):Pure prog 115 [pI a,pI b] (pI (j7 a b)):=by
 refine ah ab func115 Z (by decide) ntmps115 Z (by simp) Z ?_;refine gA Z (aC (Nl a) Z Z Z Z Z Z ?_);refine gA Z (aC (Nl b) Z Z Z Z Z Z ?_);refine gA Z ?_;refine Pq (fun x=>?_) (fun x=>?_)
 .exact absurd x (by decide)
 refine gA Z ?_;refine Pq (fun y=>?_) (fun y=>?_)
 .exact absurd y (by decide)
 refine gA Z ?_;refine Pq (fun j=>?_) (fun j=>?_)
 .have j:a<b:=by simpa using j
  refine gA Z (aN (by first|exact .inr Z|exact .inl Z) Z (.of_eq ?_));rw[j7,am j];rfl
 have j: ¬a<b:=by simpa using j
 refine gA Z ?_;refine Pq (fun u=>?_) (fun u=>?_)
 .have u:b<a:=by simpa using u
  refine gA Z (aN (by first|exact .inr Z|exact .inl Z) Z (.of_eq ?_));rw[j7,be j,am u];rfl
 .have u: ¬b<a:=by simpa using u
  refine gA Z (aN (by first|exact .inr Z|exact .inl Z) Z (.of_eq ?_));rw[j7,be j,be u];rfl
def C9:List Int->Int
 | []=>0
 |x::r=>ry x (C9 r)
theorem xV{l:List Int}{i:Nat}(h: ∀x∈l.take i,x=0):C9 l=C9 (l.drop i):=by
 induction i generalizing l with
 |zero=>rfl
 |succ i ih=>
  cases l with
  |nil=>rfl
  |cons x r=>
   have b:x=0:=h x (by simp);rw[C9,b,ry,am Z,List.drop_succ_cons];exact ih fun y j=>h y (by simp[j])
theorem sOr(l:List Int)(hl:l.length<=100):bF prog 59 [.sl 0 0 l.length 1] [aF 1 l j3] (pI (C9 l)) [] 1:=by
 refine au ab func59 Z (by decide) ntmps59 Z (by simp) ?_;refine rI 0 (fun k=>j3 (l.getD k co)) Z (gj Z) (show AF.q9 0 1 (l.map fun x=>(j3 x).map PV.iv).length [(0,.sl 0 0 l.length 1)] from⟨by simp[PV.da],ac⟩) ⟨AV _ _ _ _ _ _,ac⟩ ?_;refine gA Z ?_;refine aJ 0 l.length (PC _) (fun i=>⟨[(3,pI 0),(6,.iv (bu 1 l j3)),(7,pI l.length),(8,pI i)],[],1⟩) (fun i=> ∀x∈l.take i,x=0) [] (by simp)
  (wk Z Z Z (bi ⟨.cB Z (fun k _=>by rw[PT]),rfl,bi (bi trivial)⟩) trivial Z) fun i y j=>?_
 refine gA Z ?_;refine Pq (fun h1=>?_) (fun h1=>?_)
 .have h1:i<l.length:=by simpa using h1
  have hd:l.drop i=l.getD i co::l.drop (i+1):=by
   rw[Pn,Po h1,Qn,Rz h1]
  refine gA Z ?_;refine Pq (fun b=>?_) (fun b=>?_)
  .have b: ¬l.getD i co=0:=by simpa using b
   have:C9 l=l.getD i co:=by rw[xV j,hd,C9,ry,be b]
   rw[this];refine gA Z (bd [] (by first|exact .inr Z|exact .inl Z) Z (wk Z Z Z (bi ac) ac Z))
  .have b:l.getD i co=0:=by simpa using b
   refine gA Z ?_;refine⟨h1,fun x u=>?_,[],wk Z Z Z (bi (bi (bi (bi ac)))) ac Z⟩;rw[ct h1,PI,PA]at u;exact u.elim (j x) fun e=>e.trans b
 .have h1:l.length<=i:=by simpa using h1
  have:C9 l=0:=by rw[xV j,RP h1];rfl
  rw[this];refine gA Z (bd [] (by first|exact .inr Z|exact .inl Z) Z (wk Z Z Z (bi ac) ac Z))
theorem Nr(a b:dU):Pure prog 81 [ag a.c,ag b.c] (pI (wM a b)):=by
 have e:wM a b=C9 [j7 a.kind b.kind,j7 a.num b.num,od a.sym b.sym]:=by
  simp only[wM,C9];have:ry (od a.sym b.sym) 0=od a.sym b.sym:=by unfold ry;split<;>simp_all
  rw[this]
 rw[e];refine ah ab func81 Z (by decide) ntmps81 Z (by simp) Z ?_;refine gA Z (bD ab [] (Pure.rN (JW a.kind b.kind)) Z Z Z Z Z Z Z Z Z Z Z Z (by(repeat' (first|exact ac|exact rfl|exact an.refl _|exact an.bk (by assumption)|apply Pq))<;>first|omega|(simp only[Pr];omega)|(simp;done)|(simp;omega)) Z (by(repeat' (first|exact ac|exact rfl|exact an.refl _|exact an.bk (by assumption)|apply Pq))<;>first|omega|(simp only[Pr];omega)|(simp;done)|(simp;omega)) ?_);refine gA Z (bD ab [] (Pure.rN (JW a.num b.num)) Z Z Z Z Z Z Z Z Z Z Z Z (by(repeat' (first|exact ac|exact rfl|exact an.refl _|exact an.bk (by assumption)|apply Pq))<;>first|omega|(simp only[Pr];omega)|(simp;done)|(simp;omega)) Z (by(repeat' (first|exact ac|exact rfl|exact an.refl _|exact an.bk (by assumption)|apply Pq))<;>first|omega|(simp only[Pr];omega)|(simp;done)|(simp;omega)) ?_);refine gA Z (bD ab [] (Pure.rN (AI a.sym b.sym)) Z Z Z Z Z Z Z Z Z Z Z Z (by(repeat' (first|exact ac|exact rfl|exact an.refl _|exact an.bk (by assumption)|apply Pq))<;>first|omega|(simp only[Pr];omega)|(simp;done)|(simp;omega)) Z (by(repeat' (first|exact ac|exact rfl|exact an.refl _|exact an.bk (by assumption)|apply Pq))<;>first|omega|(simp only[Pr];omega)|(simp;done)|(simp;omega)) ?_);refine gA Z (bD ab [2] (sOr [j7 a.kind b.kind,j7 a.num b.num,od a.sym b.sym] (by simp)) Z Z Z Z Z Z Z Z Z Z Z Z (by(repeat' (first|exact ac|exact rfl|exact an.refl _|exact an.bk (by assumption)|apply Pq))<;>first|omega|(simp only[Pr];omega)|(simp;done)|(simp;omega)) Z (by(repeat' (first|exact ac|exact rfl|exact an.refl _|exact an.bk (by assumption)|apply Pq))<;>first|omega|(simp only[Pr];omega)|(simp;done)|(simp;omega)) ?_);refine gA Z (aN (by first|exact .inr Z|exact .inl Z) Z (.of_eq ?_));rfl
theorem Lo(a b:List dU)(ha:a.length<=1000000000)(hb:b.length<=1000000000):Pure prog 80 [.iv (bu 3 a dU.c),.iv (bu 3 b dU.c),.b7 (.func 81) [] []] (pI (rq a b)):=by
 refine ah ab func80 Z (by decide) ntmps80 Z (by simp) Z ?_;refine gA Z ?_;refine aJ 0 a.length (PC _) (fun i=>⟨[(0,.iv (bu 3 a dU.c)),(1,.iv (bu 3 b dU.c)),(2,.b7 (.func 81) [] []),(11,.iv (bu 3 a dU.c)),(12,pI a.length),(13,pI i)],[],0⟩) (fun i=>i<=b.length∧rq a b=rq (a.drop i) (b.drop i)) [] ⟨PC _,rfl⟩
  (wk Z Z Z (bi (bi (bi (bi (bi (bi trivial)))))) trivial Z) fun i C x=>?_
 obtain⟨B,x⟩:=x;refine gA Z ?_;refine Pq (fun h1=>?_) (fun h1=>?_)
 .have h1:i<a.length:=by simpa using h1
  have hd:a.drop i=a.getD i co::a.drop (i+1):=by
   rw[Pn,Po h1,Qn,Rz h1]
  refine gA Z ?_;refine Pq (fun j=>?_) (fun j=>?_)
  .have j:b.length<=i:=by simpa using j
   rw[x,hd,RP j];refine gA Z (aN (by first|exact .inr Z|exact .inl Z) Z (.of_eq ?_));rfl
  .have j:i<b.length:=by simpa using j
   have A:b.drop i=b.getD i co::b.drop (i+1):=by
    rw[Pn,Po j,Qn,Rz j]
   have hs:rq a b=ry (wM (a.getD i co) (b.getD i co)) (rq (a.drop (i+1)) (b.drop (i+1))):=by rw[x,hd,A];rfl
   refine gA Z (aC (Nr (a.getD i co) (b.getD i co)) Z Z Z Z Z Z ?_);refine gA Z ?_;refine Pq (fun u=>?_) (fun u=>?_)
   .have u: ¬wM (a.getD i co) (b.getD i co)=0:=by simpa using u
    rw[hs,ry,be u];refine gA Z (aN (by first|exact .inr Z|exact .inl Z) Z (.of_eq ?_));rfl
   .have u:wM (a.getD i co) (b.getD i co)=0:=by simpa using u
    refine gA Z ⟨h1,⟨j,by rw[hs,u,ry,am Z]⟩,[],wk Z Z Z (bi (bi (bi (bi (bi (bi ac)))))) ac Z⟩
 .have h1:a.length<=i:=by simpa using h1
  have y:i=a.length:=by omega
  subst y;rw[x,RP (Pv a.length)];refine gA Z ?_;refine Pq (fun j=>?_) (fun j=>?_)
  .have j:a.length<b.length:=by simpa using j
   rw[Rz j];refine gA Z (aN (by first|exact .inr Z|exact .inl Z) Z (.of_eq ?_));rfl
  .have j:b.length<=a.length:=by simpa using j
   rw[RP j];refine gA Z (aN (by first|exact .inr Z|exact .inl Z) Z (.of_eq ?_));rfl
theorem Ns(a b:List dU)(ha:a.length<=1000000000)(hb:b.length<=1000000000):Pure prog 61 [.iv (bu 3 a dU.c),.iv (bu 3 b dU.c)] (pI (rq a b)):=by
 refine ah ab func61 Z (by decide) ntmps61 Z (by simp) Z ?_;refine gA Z (aC (Lo a b ha hb) Z Z Z Z Z Z ?_);refine gA Z (aN (by first|exact .inr Z|exact .inl Z) Z (.of_eq ?_));rfl
theorem oQ(a b:Fact)(ha:a.args.length<=1000000000)(hb:b.args.length<=1000000000):Pure prog 34 [ag a.c,ag b.c] (pI (aT a b)):=by
 have e:aT a b=C9 [od a.rel b.rel,rq a.args b.args]:=by
  simp only[aT,C9];have:ry (rq a.args b.args) 0=rq a.args b.args:=by unfold ry;split<;>simp_all
  rw[this]
 rw[e];refine ah ab func34 Z (by decide) ntmps34 Z (by simp) Z ?_;refine gA Z (bD ab [] (Pure.rN (AI a.rel b.rel)) Z Z Z Z Z Z Z Z Z Z Z Z (by(repeat' (first|exact ac|exact rfl|exact an.refl _|exact an.bk (by assumption)|apply Pq))<;>first|omega|(simp only[Pr];omega)|(simp;done)|(simp;omega)) Z (by(repeat' (first|exact ac|exact rfl|exact an.refl _|exact an.bk (by assumption)|apply Pq))<;>first|omega|(simp only[Pr];omega)|(simp;done)|(simp;omega)) ?_);refine gA Z (bD ab [] (Pure.rN (Ns a.args b.args ha hb)) Z Z Z Z Z Z Z Z Z Z Z Z (by(repeat' (first|exact ac|exact rfl|exact an.refl _|exact an.bk (by assumption)|apply Pq))<;>first|omega|(simp only[Pr];omega)|(simp;done)|(simp;omega)) Z (by(repeat' (first|exact ac|exact rfl|exact an.refl _|exact an.bk (by assumption)|apply Pq))<;>first|omega|(simp only[Pr];omega)|(simp;done)|(simp;omega)) ?_);refine gA Z (bD ab [2] (sOr [od a.rel b.rel,rq a.args b.args] (by simp)) Z Z Z Z Z Z Z Z Z Z Z Z (by(repeat' (first|exact ac|exact rfl|exact an.refl _|exact an.bk (by assumption)|apply Pq))<;>first|omega|(simp only[Pr];omega)|(simp;done)|(simp;omega)) Z (by(repeat' (first|exact ac|exact rfl|exact an.refl _|exact an.bk (by assumption)|apply Pq))<;>first|omega|(simp only[Pr];omega)|(simp;done)|(simp;omega)) ?_);refine gA Z (aN (by first|exact .inr Z|exact .inl Z) Z (.of_eq ?_));rfl
def b6(x:bM Fact):List IV:= .v (.bool x.1)::x.2.c
theorem Hl(a b:bM Fact)(ha:a.2.args.length<=1000000000)(hb:b.2.args.length<=1000000000):Pure prog 51 [ag (b6 a),ag (b6 b)] (pI (aT a.2 b.2)):=by
 refine ah ab func51 Z (by decide) ntmps51 Z (by simp) Z ?_;refine gA Z (aC (oQ a.2 b.2 ha hb) Z Z Z Z Z Z ?_);refine gA Z (aN (by first|exact .inr Z|exact .inl Z) Z (.of_eq ?_));rfl
section
theorem bq{a b:Int}(h:a=b):an (pI a) (pI b):=h▸ .refl _
theorem eO{α:Type}[Inhabited α](l:List α)(f:α->List IV):((PY l.length).map fun k=>(f (l.getD k co)).map PV.iv)=l.map fun x=>(f x).map PV.iv:=by
 refine List.ext_getElem (by simp) fun i h1 b=>?_;simp only[PX]at b;simp[Po b]
def Up(L:List Fact):Prop:= ∀i j,i<j->j<L.length-> ¬aT (L.getD j co) (L.getD i co)<0
theorem Mq{L:List Fact}(h:oD aT L):Up L:=fun i j b u=>by
 have:=(Qx.1 h) i j (by omega) u b;rw[Pn,Pn,Po u,Po (by omega:i<L.length)];exact lR.asym this
def uv(L:List Fact):Prop:= ∀f∈L,f.args.length<=1000000000
theorem CJ{L:List Fact}{i:Nat}(hi:i<L.length):L.getD i co∈L:=by
 rw[Pn,Po hi];exact P7 hi
theorem uv.at{L:List Fact}(h:uv L){i:Nat}(hi:i<L.length):(L.getD i co).args.length<=1000000000:=h _ (CJ hi)
abbrev aA:PV:= .b7 (.func 34) [] []
abbrev a8(L:List Fact):PV:= .iv (bu 2 L Fact.c)
theorem pd(i j:Nat)(h:i+j<=4000000000000):IntKind.i64.wrap (Int.fdiv (IntKind.u64.wrap ((i:Int)+(j:Int))) (2 ^ min (Int.toNat 1) IntKind.u64.bits))=(((i+j)/2:Nat):Int):=by
 have h1:IntKind.u64.wrap ((i:Int)+(j:Int))=((i+j:Nat):Int):=by simp[IntKind.wrap,IntKind.bits,IntKind.signed];omega
 rw[h1];have b:Int.fdiv (((i+j:Nat)):Int) (2 ^ min (Int.toNat 1) IntKind.u64.bits)=(((i+j)/2:Nat):Int):=by
  show Int.fdiv _ 2=_;rw[Int.fdiv_eq_ediv_of_nonneg _ (by decide)];omega
 rw[b];simp[IntKind.wrap,IntKind.bits,IntKind.signed];omega
section
variable {L:List Fact} (hu:Up L) (hF:uv L) (hl:L.length<=1000000000000)
include hu hF hl
theorem Np(a b:Nat)(j:a<=b)(hb:b<=L.length):Pure prog 105 [a8 L,pI a,pI b,aA] (.bm []):=by
 refine ah ab func105 Z (by decide) ntmps105 Z (by simp) Z ?_;refine gA Z ?_;refine aJ (a+1) (max (a+1) b) (Nat.le_max_left _ _) (fun i=>⟨[(0,a8 L),(1,pI a),(2,pI b),(3,aA),(8,pI i)],[],0⟩) (fun i=>a+1<=i) [] (Pv _)
  (wk Z Z Z (bi (bi (bi (bi (bi trivial))))) trivial Z) fun i x u=>?_
 refine gA Z ?_;refine Pq (fun h1=>?_) (fun h1=>?_)
 .have h1:i<b:=by simpa using h1
  refine gA Z (om (n:=0) ?_);have e:((i:Int)-1).toNat=i-1:=by omega
  refine gA Z ?_;refine Pq (fun g1=>?_) (fun g1=>?_)
  .refine gA Z (bD ab [] (Pure.rN (oQ (L.getD i co) (L.getD ((i:Int)-1).toNat co) (hF.at (by omega)) (hF.at (by omega)))) Z Z Z Z Z Z Z Z Z Z Z Z (by(repeat' (first|exact ac|exact rfl|exact an.refl _|exact an.bk (by assumption)|apply Pq))<;>first|omega|(simp only[Pr];omega)|(simp;done)|(simp;omega)) Z (by(repeat' (first|exact ac|exact rfl|exact an.refl _|exact an.bk (by assumption)|apply Pq))<;>first|omega|(simp only[Pr];omega)|(simp;done)|(simp;omega)) ?_);refine gA Z ?_;refine Pq (fun g2=>?_) (fun g2=>?_)
   .exact absurd (of_decide_eq_true g2) (by rw[e];exact hu (i-1) i (by omega) (by omega))
   .refine gA Z ?_;exact⟨by omega,by omega,[],wk Z Z Z (bi (bi (bi (bi (bi ac))))) ac Z⟩
  .exact absurd g1 (by simp;omega)
 .refine gA Z (aN (by first|exact .inr Z|exact .inl Z) Z (.of_eq ?_));rfl
theorem Ng: ∀(n a m b:Nat),b-a<=n->a<m->m<b->b<=L.length->Pure prog 113 [a8 L,pI a,pI m,pI b,aA] (.bm []):=by
 intro n
 induction n with
 |zero=>intro a m b h0 h1 R h3;omega
 |succ n ih=>
  intro a m b h0 h1 R h3;refine ah ab func113 Z (by decide) ntmps113 Z (by simp) Z ?_;refine gA Z ?_;refine Pq (fun I=>?_) (fun I=>?_)
  .have I:m=a+1:=by have:=of_decide_eq_true I;(try dsimp only at this);omega
   refine gA Z (gu (σ:={j:Nat//m<=j∧j<=b}) (fun j=>⟨[(0,a8 L),(1,pI a),(2,pI m),(3,pI b),(4,aA),(10,pI m),(11,pI j.1)],[],0⟩) (fun j=>j.1-m) ⟨b,by omega,Pv _⟩ []
    (wk Z Z Z (bi (bi (bi (bi (bi (bi (bi ac))))))) ac Z) fun j=>?_)
   obtain⟨j,j1,j2⟩:=j;refine gA Z ?_;refine Pq (fun g1=>?_) (fun g1=>?_)
   .have g1:m<j:=by simpa using g1
    have x:=pd m j (by omega)
    first
     |(refine gM 1 Z ?_;refine ae (L:=[]) (t:=⟨[(0,a8 L),(1,pI a),(2,pI m),(3,pI b),(4,aA),(10,pI m),(11,pI j),(12,pI ((m+j)/2:Nat))],[],0⟩) (wk Z Z Z (bi (bi (bi (bi (bi (bi (bi ⟨bq x,rfl,ac⟩))))))) ac Z) ?_)
     |(refine gM 2 Z ?_;refine ae (L:=[]) (t:=⟨[(0,a8 L),(1,pI a),(2,pI m),(3,pI b),(4,aA),(10,pI m),(11,pI j),(12,pI ((m+j)/2:Nat))],[],0⟩) (wk Z Z Z (bi (bi (bi (bi (bi (bi (bi ⟨bq x,rfl,ac⟩))))))) ac Z) ?_)
     |(refine gM 3 Z ?_;refine ae (L:=[]) (t:=⟨[(0,a8 L),(1,pI a),(2,pI m),(3,pI b),(4,aA),(10,pI m),(11,pI j),(12,pI ((m+j)/2:Nat))],[],0⟩) (wk Z Z Z (bi (bi (bi (bi (bi (bi (bi ⟨bq x,rfl,ac⟩))))))) ac Z) ?_)
     |(refine gM 4 Z ?_;refine ae (L:=[]) (t:=⟨[(0,a8 L),(1,pI a),(2,pI m),(3,pI b),(4,aA),(10,pI m),(11,pI j),(12,pI ((m+j)/2:Nat))],[],0⟩) (wk Z Z Z (bi (bi (bi (bi (bi (bi (bi ⟨bq x,rfl,ac⟩))))))) ac Z) ?_)
     |(refine gM 5 Z ?_;refine ae (L:=[]) (t:=⟨[(0,a8 L),(1,pI a),(2,pI m),(3,pI b),(4,aA),(10,pI m),(11,pI j),(12,pI ((m+j)/2:Nat))],[],0⟩) (wk Z Z Z (bi (bi (bi (bi (bi (bi (bi ⟨bq x,rfl,ac⟩))))))) ac Z) ?_)
     |(refine gM 6 Z ?_;refine ae (L:=[]) (t:=⟨[(0,a8 L),(1,pI a),(2,pI m),(3,pI b),(4,aA),(10,pI m),(11,pI j),(12,pI ((m+j)/2:Nat))],[],0⟩) (wk Z Z Z (bi (bi (bi (bi (bi (bi (bi ⟨bq x,rfl,ac⟩))))))) ac Z) ?_)
     |(refine gM 7 Z ?_;refine ae (L:=[]) (t:=⟨[(0,a8 L),(1,pI a),(2,pI m),(3,pI b),(4,aA),(10,pI m),(11,pI j),(12,pI ((m+j)/2:Nat))],[],0⟩) (wk Z Z Z (bi (bi (bi (bi (bi (bi (bi ⟨bq x,rfl,ac⟩))))))) ac Z) ?_)
     |(refine gM 8 Z ?_;refine ae (L:=[]) (t:=⟨[(0,a8 L),(1,pI a),(2,pI m),(3,pI b),(4,aA),(10,pI m),(11,pI j),(12,pI ((m+j)/2:Nat))],[],0⟩) (wk Z Z Z (bi (bi (bi (bi (bi (bi (bi ⟨bq x,rfl,ac⟩))))))) ac Z) ?_)
     |(refine gM 9 Z ?_;refine ae (L:=[]) (t:=⟨[(0,a8 L),(1,pI a),(2,pI m),(3,pI b),(4,aA),(10,pI m),(11,pI j),(12,pI ((m+j)/2:Nat))],[],0⟩) (wk Z Z Z (bi (bi (bi (bi (bi (bi (bi ⟨bq x,rfl,ac⟩))))))) ac Z) ?_)
     |(refine gM 10 Z ?_;refine ae (L:=[]) (t:=⟨[(0,a8 L),(1,pI a),(2,pI m),(3,pI b),(4,aA),(10,pI m),(11,pI j),(12,pI ((m+j)/2:Nat))],[],0⟩) (wk Z Z Z (bi (bi (bi (bi (bi (bi (bi ⟨bq x,rfl,ac⟩))))))) ac Z) ?_)
     |(refine gM 11 Z ?_;refine ae (L:=[]) (t:=⟨[(0,a8 L),(1,pI a),(2,pI m),(3,pI b),(4,aA),(10,pI m),(11,pI j),(12,pI ((m+j)/2:Nat))],[],0⟩) (wk Z Z Z (bi (bi (bi (bi (bi (bi (bi ⟨bq x,rfl,ac⟩))))))) ac Z) ?_)
     |(refine gM 12 Z ?_;refine ae (L:=[]) (t:=⟨[(0,a8 L),(1,pI a),(2,pI m),(3,pI b),(4,aA),(10,pI m),(11,pI j),(12,pI ((m+j)/2:Nat))],[],0⟩) (wk Z Z Z (bi (bi (bi (bi (bi (bi (bi ⟨bq x,rfl,ac⟩))))))) ac Z) ?_)
     |(refine gM 13 Z ?_;refine ae (L:=[]) (t:=⟨[(0,a8 L),(1,pI a),(2,pI m),(3,pI b),(4,aA),(10,pI m),(11,pI j),(12,pI ((m+j)/2:Nat))],[],0⟩) (wk Z Z Z (bi (bi (bi (bi (bi (bi (bi ⟨bq x,rfl,ac⟩))))))) ac Z) ?_)
     |(refine gM 14 Z ?_;refine ae (L:=[]) (t:=⟨[(0,a8 L),(1,pI a),(2,pI m),(3,pI b),(4,aA),(10,pI m),(11,pI j),(12,pI ((m+j)/2:Nat))],[],0⟩) (wk Z Z Z (bi (bi (bi (bi (bi (bi (bi ⟨bq x,rfl,ac⟩))))))) ac Z) ?_)
     |(refine gM 15 Z ?_;refine ae (L:=[]) (t:=⟨[(0,a8 L),(1,pI a),(2,pI m),(3,pI b),(4,aA),(10,pI m),(11,pI j),(12,pI ((m+j)/2:Nat))],[],0⟩) (wk Z Z Z (bi (bi (bi (bi (bi (bi (bi ⟨bq x,rfl,ac⟩))))))) ac Z) ?_)
     |(refine gM 16 Z ?_;refine ae (L:=[]) (t:=⟨[(0,a8 L),(1,pI a),(2,pI m),(3,pI b),(4,aA),(10,pI m),(11,pI j),(12,pI ((m+j)/2:Nat))],[],0⟩) (wk Z Z Z (bi (bi (bi (bi (bi (bi (bi ⟨bq x,rfl,ac⟩))))))) ac Z) ?_)
     |(refine gM 17 Z ?_;refine ae (L:=[]) (t:=⟨[(0,a8 L),(1,pI a),(2,pI m),(3,pI b),(4,aA),(10,pI m),(11,pI j),(12,pI ((m+j)/2:Nat))],[],0⟩) (wk Z Z Z (bi (bi (bi (bi (bi (bi (bi ⟨bq x,rfl,ac⟩))))))) ac Z) ?_)
     |(refine gM 18 Z ?_;refine ae (L:=[]) (t:=⟨[(0,a8 L),(1,pI a),(2,pI m),(3,pI b),(4,aA),(10,pI m),(11,pI j),(12,pI ((m+j)/2:Nat))],[],0⟩) (wk Z Z Z (bi (bi (bi (bi (bi (bi (bi ⟨bq x,rfl,ac⟩))))))) ac Z) ?_)
     |(refine gM 19 Z ?_;refine ae (L:=[]) (t:=⟨[(0,a8 L),(1,pI a),(2,pI m),(3,pI b),(4,aA),(10,pI m),(11,pI j),(12,pI ((m+j)/2:Nat))],[],0⟩) (wk Z Z Z (bi (bi (bi (bi (bi (bi (bi ⟨bq x,rfl,ac⟩))))))) ac Z) ?_)
     |(refine gM 20 Z ?_;refine ae (L:=[]) (t:=⟨[(0,a8 L),(1,pI a),(2,pI m),(3,pI b),(4,aA),(10,pI m),(11,pI j),(12,pI ((m+j)/2:Nat))],[],0⟩) (wk Z Z Z (bi (bi (bi (bi (bi (bi (bi ⟨bq x,rfl,ac⟩))))))) ac Z) ?_)
     |(refine gM 21 Z ?_;refine ae (L:=[]) (t:=⟨[(0,a8 L),(1,pI a),(2,pI m),(3,pI b),(4,aA),(10,pI m),(11,pI j),(12,pI ((m+j)/2:Nat))],[],0⟩) (wk Z Z Z (bi (bi (bi (bi (bi (bi (bi ⟨bq x,rfl,ac⟩))))))) ac Z) ?_)
     |(refine gM 22 Z ?_;refine ae (L:=[]) (t:=⟨[(0,a8 L),(1,pI a),(2,pI m),(3,pI b),(4,aA),(10,pI m),(11,pI j),(12,pI ((m+j)/2:Nat))],[],0⟩) (wk Z Z Z (bi (bi (bi (bi (bi (bi (bi ⟨bq x,rfl,ac⟩))))))) ac Z) ?_)
     |(refine gM 23 Z ?_;refine ae (L:=[]) (t:=⟨[(0,a8 L),(1,pI a),(2,pI m),(3,pI b),(4,aA),(10,pI m),(11,pI j),(12,pI ((m+j)/2:Nat))],[],0⟩) (wk Z Z Z (bi (bi (bi (bi (bi (bi (bi ⟨bq x,rfl,ac⟩))))))) ac Z) ?_)
     |(refine gM 24 Z ?_;refine ae (L:=[]) (t:=⟨[(0,a8 L),(1,pI a),(2,pI m),(3,pI b),(4,aA),(10,pI m),(11,pI j),(12,pI ((m+j)/2:Nat))],[],0⟩) (wk Z Z Z (bi (bi (bi (bi (bi (bi (bi ⟨bq x,rfl,ac⟩))))))) ac Z) ?_)
     |(refine gM 25 Z ?_;refine ae (L:=[]) (t:=⟨[(0,a8 L),(1,pI a),(2,pI m),(3,pI b),(4,aA),(10,pI m),(11,pI j),(12,pI ((m+j)/2:Nat))],[],0⟩) (wk Z Z Z (bi (bi (bi (bi (bi (bi (bi ⟨bq x,rfl,ac⟩))))))) ac Z) ?_)
     |(refine gM 26 Z ?_;refine ae (L:=[]) (t:=⟨[(0,a8 L),(1,pI a),(2,pI m),(3,pI b),(4,aA),(10,pI m),(11,pI j),(12,pI ((m+j)/2:Nat))],[],0⟩) (wk Z Z Z (bi (bi (bi (bi (bi (bi (bi ⟨bq x,rfl,ac⟩))))))) ac Z) ?_)
     |(refine gM 27 Z ?_;refine ae (L:=[]) (t:=⟨[(0,a8 L),(1,pI a),(2,pI m),(3,pI b),(4,aA),(10,pI m),(11,pI j),(12,pI ((m+j)/2:Nat))],[],0⟩) (wk Z Z Z (bi (bi (bi (bi (bi (bi (bi ⟨bq x,rfl,ac⟩))))))) ac Z) ?_)
     |(refine gM 28 Z ?_;refine ae (L:=[]) (t:=⟨[(0,a8 L),(1,pI a),(2,pI m),(3,pI b),(4,aA),(10,pI m),(11,pI j),(12,pI ((m+j)/2:Nat))],[],0⟩) (wk Z Z Z (bi (bi (bi (bi (bi (bi (bi ⟨bq x,rfl,ac⟩))))))) ac Z) ?_)
     |(refine gM 29 Z ?_;refine ae (L:=[]) (t:=⟨[(0,a8 L),(1,pI a),(2,pI m),(3,pI b),(4,aA),(10,pI m),(11,pI j),(12,pI ((m+j)/2:Nat))],[],0⟩) (wk Z Z Z (bi (bi (bi (bi (bi (bi (bi ⟨bq x,rfl,ac⟩))))))) ac Z) ?_)
    refine gA Z (bD ab [] (Pure.rN (oQ (L.getD ((m+j)/2) co) (L.getD a co) (hF.at (by omega)) (hF.at (by omega)))) Z Z Z Z Z Z Z Z Z Z Z Z (by(repeat' (first|exact ac|exact rfl|exact an.refl _|exact an.bk (by assumption)|apply Pq))<;>first|omega|(simp only[Pr];omega)|(simp;done)|(simp;omega)) Z (by(repeat' (first|exact ac|exact rfl|exact an.refl _|exact an.bk (by assumption)|apply Pq))<;>first|omega|(simp only[Pr];omega)|(simp;done)|(simp;omega)) ?_);refine gA Z ?_;refine Pq (fun g2=>?_) (fun g2=>?_)
    .exact absurd (of_decide_eq_true g2) (hu a ((m+j)/2) (by omega) (by omega))
    .refine gA Z ?_;exact⟨⟨(m+j)/2,by omega,by omega⟩,[],by show(m+j)/2-m<j-m;omega,wk Z Z Z (bi (bi (bi (bi (bi (bi (bi ac))))))) ac Z⟩
   .refine gA Z (om (n:=0) ?_);refine gA Z ?_;refine Pq (fun g3=>?_) (fun g3=>?_)
    .exact absurd g3 (by simp;omega)
    .refine gA Z (aN (by first|exact .inr Z|exact .inl Z) Z (.of_eq ?_));rfl
  have I: ¬m=a+1:=by have:=of_decide_eq_false I;(try dsimp only at this);omega
  refine gA Z ?_;refine Pq (fun J=>?_) (fun J=>?_)
  .have J:b=m+1:=by have:=of_decide_eq_true J;(try dsimp only at this);omega
   refine gA Z (gu (σ:={i:Nat//a<=i∧i<=m}) (fun i=>⟨[(0,a8 L),(1,pI a),(2,pI m),(3,pI b),(4,aA),(14,pI i.1),(15,pI m)],[],0⟩) (fun i=>m-i.1) ⟨a,Pv _,by omega⟩ []
    (wk Z Z Z (bi (bi (bi (bi (bi (bi (bi ac))))))) ac Z) fun i=>?_)
   obtain⟨i,i1,i2⟩:=i;refine gA Z ?_;refine Pq (fun g1=>?_) (fun g1=>?_)
   .have g1:i<m:=by simpa using g1
    have x:=pd i m (by omega)
    first
     |(refine gM 1 Z ?_;refine ae (L:=[]) (t:=⟨[(0,a8 L),(1,pI a),(2,pI m),(3,pI b),(4,aA),(14,pI i),(15,pI m),(16,pI ((i+m)/2:Nat))],[],0⟩) (wk Z Z Z (bi (bi (bi (bi (bi (bi (bi ⟨bq x,rfl,ac⟩))))))) ac Z) ?_)
     |(refine gM 2 Z ?_;refine ae (L:=[]) (t:=⟨[(0,a8 L),(1,pI a),(2,pI m),(3,pI b),(4,aA),(14,pI i),(15,pI m),(16,pI ((i+m)/2:Nat))],[],0⟩) (wk Z Z Z (bi (bi (bi (bi (bi (bi (bi ⟨bq x,rfl,ac⟩))))))) ac Z) ?_)
     |(refine gM 3 Z ?_;refine ae (L:=[]) (t:=⟨[(0,a8 L),(1,pI a),(2,pI m),(3,pI b),(4,aA),(14,pI i),(15,pI m),(16,pI ((i+m)/2:Nat))],[],0⟩) (wk Z Z Z (bi (bi (bi (bi (bi (bi (bi ⟨bq x,rfl,ac⟩))))))) ac Z) ?_)
     |(refine gM 4 Z ?_;refine ae (L:=[]) (t:=⟨[(0,a8 L),(1,pI a),(2,pI m),(3,pI b),(4,aA),(14,pI i),(15,pI m),(16,pI ((i+m)/2:Nat))],[],0⟩) (wk Z Z Z (bi (bi (bi (bi (bi (bi (bi ⟨bq x,rfl,ac⟩))))))) ac Z) ?_)
     |(refine gM 5 Z ?_;refine ae (L:=[]) (t:=⟨[(0,a8 L),(1,pI a),(2,pI m),(3,pI b),(4,aA),(14,pI i),(15,pI m),(16,pI ((i+m)/2:Nat))],[],0⟩) (wk Z Z Z (bi (bi (bi (bi (bi (bi (bi ⟨bq x,rfl,ac⟩))))))) ac Z) ?_)
     |(refine gM 6 Z ?_;refine ae (L:=[]) (t:=⟨[(0,a8 L),(1,pI a),(2,pI m),(3,pI b),(4,aA),(14,pI i),(15,pI m),(16,pI ((i+m)/2:Nat))],[],0⟩) (wk Z Z Z (bi (bi (bi (bi (bi (bi (bi ⟨bq x,rfl,ac⟩))))))) ac Z) ?_)
     |(refine gM 7 Z ?_;refine ae (L:=[]) (t:=⟨[(0,a8 L),(1,pI a),(2,pI m),(3,pI b),(4,aA),(14,pI i),(15,pI m),(16,pI ((i+m)/2:Nat))],[],0⟩) (wk Z Z Z (bi (bi (bi (bi (bi (bi (bi ⟨bq x,rfl,ac⟩))))))) ac Z) ?_)
     |(refine gM 8 Z ?_;refine ae (L:=[]) (t:=⟨[(0,a8 L),(1,pI a),(2,pI m),(3,pI b),(4,aA),(14,pI i),(15,pI m),(16,pI ((i+m)/2:Nat))],[],0⟩) (wk Z Z Z (bi (bi (bi (bi (bi (bi (bi ⟨bq x,rfl,ac⟩))))))) ac Z) ?_)
     |(refine gM 9 Z ?_;refine ae (L:=[]) (t:=⟨[(0,a8 L),(1,pI a),(2,pI m),(3,pI b),(4,aA),(14,pI i),(15,pI m),(16,pI ((i+m)/2:Nat))],[],0⟩) (wk Z Z Z (bi (bi (bi (bi (bi (bi (bi ⟨bq x,rfl,ac⟩))))))) ac Z) ?_)
     |(refine gM 10 Z ?_;refine ae (L:=[]) (t:=⟨[(0,a8 L),(1,pI a),(2,pI m),(3,pI b),(4,aA),(14,pI i),(15,pI m),(16,pI ((i+m)/2:Nat))],[],0⟩) (wk Z Z Z (bi (bi (bi (bi (bi (bi (bi ⟨bq x,rfl,ac⟩))))))) ac Z) ?_)
     |(refine gM 11 Z ?_;refine ae (L:=[]) (t:=⟨[(0,a8 L),(1,pI a),(2,pI m),(3,pI b),(4,aA),(14,pI i),(15,pI m),(16,pI ((i+m)/2:Nat))],[],0⟩) (wk Z Z Z (bi (bi (bi (bi (bi (bi (bi ⟨bq x,rfl,ac⟩))))))) ac Z) ?_)
     |(refine gM 12 Z ?_;refine ae (L:=[]) (t:=⟨[(0,a8 L),(1,pI a),(2,pI m),(3,pI b),(4,aA),(14,pI i),(15,pI m),(16,pI ((i+m)/2:Nat))],[],0⟩) (wk Z Z Z (bi (bi (bi (bi (bi (bi (bi ⟨bq x,rfl,ac⟩))))))) ac Z) ?_)
     |(refine gM 13 Z ?_;refine ae (L:=[]) (t:=⟨[(0,a8 L),(1,pI a),(2,pI m),(3,pI b),(4,aA),(14,pI i),(15,pI m),(16,pI ((i+m)/2:Nat))],[],0⟩) (wk Z Z Z (bi (bi (bi (bi (bi (bi (bi ⟨bq x,rfl,ac⟩))))))) ac Z) ?_)
     |(refine gM 14 Z ?_;refine ae (L:=[]) (t:=⟨[(0,a8 L),(1,pI a),(2,pI m),(3,pI b),(4,aA),(14,pI i),(15,pI m),(16,pI ((i+m)/2:Nat))],[],0⟩) (wk Z Z Z (bi (bi (bi (bi (bi (bi (bi ⟨bq x,rfl,ac⟩))))))) ac Z) ?_)
     |(refine gM 15 Z ?_;refine ae (L:=[]) (t:=⟨[(0,a8 L),(1,pI a),(2,pI m),(3,pI b),(4,aA),(14,pI i),(15,pI m),(16,pI ((i+m)/2:Nat))],[],0⟩) (wk Z Z Z (bi (bi (bi (bi (bi (bi (bi ⟨bq x,rfl,ac⟩))))))) ac Z) ?_)
     |(refine gM 16 Z ?_;refine ae (L:=[]) (t:=⟨[(0,a8 L),(1,pI a),(2,pI m),(3,pI b),(4,aA),(14,pI i),(15,pI m),(16,pI ((i+m)/2:Nat))],[],0⟩) (wk Z Z Z (bi (bi (bi (bi (bi (bi (bi ⟨bq x,rfl,ac⟩))))))) ac Z) ?_)
     |(refine gM 17 Z ?_;refine ae (L:=[]) (t:=⟨[(0,a8 L),(1,pI a),(2,pI m),(3,pI b),(4,aA),(14,pI i),(15,pI m),(16,pI ((i+m)/2:Nat))],[],0⟩) (wk Z Z Z (bi (bi (bi (bi (bi (bi (bi ⟨bq x,rfl,ac⟩))))))) ac Z) ?_)
     |(refine gM 18 Z ?_;refine ae (L:=[]) (t:=⟨[(0,a8 L),(1,pI a),(2,pI m),(3,pI b),(4,aA),(14,pI i),(15,pI m),(16,pI ((i+m)/2:Nat))],[],0⟩) (wk Z Z Z (bi (bi (bi (bi (bi (bi (bi ⟨bq x,rfl,ac⟩))))))) ac Z) ?_)
     |(refine gM 19 Z ?_;refine ae (L:=[]) (t:=⟨[(0,a8 L),(1,pI a),(2,pI m),(3,pI b),(4,aA),(14,pI i),(15,pI m),(16,pI ((i+m)/2:Nat))],[],0⟩) (wk Z Z Z (bi (bi (bi (bi (bi (bi (bi ⟨bq x,rfl,ac⟩))))))) ac Z) ?_)
     |(refine gM 20 Z ?_;refine ae (L:=[]) (t:=⟨[(0,a8 L),(1,pI a),(2,pI m),(3,pI b),(4,aA),(14,pI i),(15,pI m),(16,pI ((i+m)/2:Nat))],[],0⟩) (wk Z Z Z (bi (bi (bi (bi (bi (bi (bi ⟨bq x,rfl,ac⟩))))))) ac Z) ?_)
     |(refine gM 21 Z ?_;refine ae (L:=[]) (t:=⟨[(0,a8 L),(1,pI a),(2,pI m),(3,pI b),(4,aA),(14,pI i),(15,pI m),(16,pI ((i+m)/2:Nat))],[],0⟩) (wk Z Z Z (bi (bi (bi (bi (bi (bi (bi ⟨bq x,rfl,ac⟩))))))) ac Z) ?_)
     |(refine gM 22 Z ?_;refine ae (L:=[]) (t:=⟨[(0,a8 L),(1,pI a),(2,pI m),(3,pI b),(4,aA),(14,pI i),(15,pI m),(16,pI ((i+m)/2:Nat))],[],0⟩) (wk Z Z Z (bi (bi (bi (bi (bi (bi (bi ⟨bq x,rfl,ac⟩))))))) ac Z) ?_)
     |(refine gM 23 Z ?_;refine ae (L:=[]) (t:=⟨[(0,a8 L),(1,pI a),(2,pI m),(3,pI b),(4,aA),(14,pI i),(15,pI m),(16,pI ((i+m)/2:Nat))],[],0⟩) (wk Z Z Z (bi (bi (bi (bi (bi (bi (bi ⟨bq x,rfl,ac⟩))))))) ac Z) ?_)
     |(refine gM 24 Z ?_;refine ae (L:=[]) (t:=⟨[(0,a8 L),(1,pI a),(2,pI m),(3,pI b),(4,aA),(14,pI i),(15,pI m),(16,pI ((i+m)/2:Nat))],[],0⟩) (wk Z Z Z (bi (bi (bi (bi (bi (bi (bi ⟨bq x,rfl,ac⟩))))))) ac Z) ?_)
     |(refine gM 25 Z ?_;refine ae (L:=[]) (t:=⟨[(0,a8 L),(1,pI a),(2,pI m),(3,pI b),(4,aA),(14,pI i),(15,pI m),(16,pI ((i+m)/2:Nat))],[],0⟩) (wk Z Z Z (bi (bi (bi (bi (bi (bi (bi ⟨bq x,rfl,ac⟩))))))) ac Z) ?_)
     |(refine gM 26 Z ?_;refine ae (L:=[]) (t:=⟨[(0,a8 L),(1,pI a),(2,pI m),(3,pI b),(4,aA),(14,pI i),(15,pI m),(16,pI ((i+m)/2:Nat))],[],0⟩) (wk Z Z Z (bi (bi (bi (bi (bi (bi (bi ⟨bq x,rfl,ac⟩))))))) ac Z) ?_)
     |(refine gM 27 Z ?_;refine ae (L:=[]) (t:=⟨[(0,a8 L),(1,pI a),(2,pI m),(3,pI b),(4,aA),(14,pI i),(15,pI m),(16,pI ((i+m)/2:Nat))],[],0⟩) (wk Z Z Z (bi (bi (bi (bi (bi (bi (bi ⟨bq x,rfl,ac⟩))))))) ac Z) ?_)
     |(refine gM 28 Z ?_;refine ae (L:=[]) (t:=⟨[(0,a8 L),(1,pI a),(2,pI m),(3,pI b),(4,aA),(14,pI i),(15,pI m),(16,pI ((i+m)/2:Nat))],[],0⟩) (wk Z Z Z (bi (bi (bi (bi (bi (bi (bi ⟨bq x,rfl,ac⟩))))))) ac Z) ?_)
     |(refine gM 29 Z ?_;refine ae (L:=[]) (t:=⟨[(0,a8 L),(1,pI a),(2,pI m),(3,pI b),(4,aA),(14,pI i),(15,pI m),(16,pI ((i+m)/2:Nat))],[],0⟩) (wk Z Z Z (bi (bi (bi (bi (bi (bi (bi ⟨bq x,rfl,ac⟩))))))) ac Z) ?_)
    refine gA Z (bD ab [] (Pure.rN (oQ (L.getD m co) (L.getD ((i+m)/2) co) (hF.at (by omega)) (hF.at (by omega)))) Z Z Z Z Z Z Z Z Z Z Z Z (by(repeat' (first|exact ac|exact rfl|exact an.refl _|exact an.bk (by assumption)|apply Pq))<;>first|omega|(simp only[Pr];omega)|(simp;done)|(simp;omega)) Z (by(repeat' (first|exact ac|exact rfl|exact an.refl _|exact an.bk (by assumption)|apply Pq))<;>first|omega|(simp only[Pr];omega)|(simp;done)|(simp;omega)) ?_);refine gA Z ?_;refine Pq (fun g2=>?_) (fun g2=>?_)
    .refine gA Z ?_;exact⟨⟨(i+m)/2+1,by omega,by omega⟩,[],by show m-((i+m)/2+1)<m-i;omega,wk Z Z Z (bi (bi (bi (bi (bi (bi (bi ac))))))) ac Z⟩
    .have g2:aT (L.getD m co) (L.getD ((i+m)/2) co)<0:=by simpa using g2
     exact absurd g2 (hu ((i+m)/2) m (by omega) (by omega))
   .have g1:m<=i:=by simpa using g1
    have:i=m:=by omega
    subst this;refine gA Z (om (n:=0) ?_);refine gA Z ?_;refine Pq (fun g3=>?_) (fun g3=>?_)
    .exact absurd g3 (by simp)
    .refine gA Z (aN (by first|exact .inr Z|exact .inl Z) Z (.of_eq ?_));rfl
  have J: ¬b=m+1:=by have:=of_decide_eq_false J;(try dsimp only at this);omega
  have x:=pd a b (by omega);obtain⟨u,C⟩: ∃u,u=(a+b)/2:=⟨_,rfl⟩
  rw[<-C]at x
  first
   |(refine gM 1 Z ?_;refine ae (L:=[]) (t:=⟨[(0,a8 L),(1,pI a),(2,pI m),(3,pI b),(4,aA),(18,pI u)],[],0⟩) (wk Z Z Z (bi (bi (bi (bi (bi ⟨bq x,rfl,ac⟩))))) ac Z) ?_)
   |(refine gM 2 Z ?_;refine ae (L:=[]) (t:=⟨[(0,a8 L),(1,pI a),(2,pI m),(3,pI b),(4,aA),(18,pI u)],[],0⟩) (wk Z Z Z (bi (bi (bi (bi (bi ⟨bq x,rfl,ac⟩))))) ac Z) ?_)
   |(refine gM 3 Z ?_;refine ae (L:=[]) (t:=⟨[(0,a8 L),(1,pI a),(2,pI m),(3,pI b),(4,aA),(18,pI u)],[],0⟩) (wk Z Z Z (bi (bi (bi (bi (bi ⟨bq x,rfl,ac⟩))))) ac Z) ?_)
   |(refine gM 4 Z ?_;refine ae (L:=[]) (t:=⟨[(0,a8 L),(1,pI a),(2,pI m),(3,pI b),(4,aA),(18,pI u)],[],0⟩) (wk Z Z Z (bi (bi (bi (bi (bi ⟨bq x,rfl,ac⟩))))) ac Z) ?_)
   |(refine gM 5 Z ?_;refine ae (L:=[]) (t:=⟨[(0,a8 L),(1,pI a),(2,pI m),(3,pI b),(4,aA),(18,pI u)],[],0⟩) (wk Z Z Z (bi (bi (bi (bi (bi ⟨bq x,rfl,ac⟩))))) ac Z) ?_)
   |(refine gM 6 Z ?_;refine ae (L:=[]) (t:=⟨[(0,a8 L),(1,pI a),(2,pI m),(3,pI b),(4,aA),(18,pI u)],[],0⟩) (wk Z Z Z (bi (bi (bi (bi (bi ⟨bq x,rfl,ac⟩))))) ac Z) ?_)
   |(refine gM 7 Z ?_;refine ae (L:=[]) (t:=⟨[(0,a8 L),(1,pI a),(2,pI m),(3,pI b),(4,aA),(18,pI u)],[],0⟩) (wk Z Z Z (bi (bi (bi (bi (bi ⟨bq x,rfl,ac⟩))))) ac Z) ?_)
   |(refine gM 8 Z ?_;refine ae (L:=[]) (t:=⟨[(0,a8 L),(1,pI a),(2,pI m),(3,pI b),(4,aA),(18,pI u)],[],0⟩) (wk Z Z Z (bi (bi (bi (bi (bi ⟨bq x,rfl,ac⟩))))) ac Z) ?_)
   |(refine gM 9 Z ?_;refine ae (L:=[]) (t:=⟨[(0,a8 L),(1,pI a),(2,pI m),(3,pI b),(4,aA),(18,pI u)],[],0⟩) (wk Z Z Z (bi (bi (bi (bi (bi ⟨bq x,rfl,ac⟩))))) ac Z) ?_)
   |(refine gM 10 Z ?_;refine ae (L:=[]) (t:=⟨[(0,a8 L),(1,pI a),(2,pI m),(3,pI b),(4,aA),(18,pI u)],[],0⟩) (wk Z Z Z (bi (bi (bi (bi (bi ⟨bq x,rfl,ac⟩))))) ac Z) ?_)
   |(refine gM 11 Z ?_;refine ae (L:=[]) (t:=⟨[(0,a8 L),(1,pI a),(2,pI m),(3,pI b),(4,aA),(18,pI u)],[],0⟩) (wk Z Z Z (bi (bi (bi (bi (bi ⟨bq x,rfl,ac⟩))))) ac Z) ?_)
  refine gA Z ?_;refine Pq (fun A=>?_) (fun A=>?_)
  .have A:u<m:=by simpa using A
   refine gA Z (gu (σ:={st:Nat//u+m-b<=st∧st<=u}) (fun st=>⟨[(0,a8 L),(1,pI a),(2,pI m),(3,pI b),(4,aA),(18,pI u),(19,pI (u+m:Nat)),(20,pI st.1),(21,pI u),(22,pI (u+m-1:Nat))],[],0⟩) (fun st=>u-st.1) ⟨u+m-b,Pv _,by omega⟩ []
    (wk Z Z Z (bi (bi (bi (bi (bi (bi (bi ⟨bq (by(try dsimp only);omega),rfl,bi ⟨bq (by(try dsimp only);omega),rfl,ac⟩⟩))))))) ac Z) fun st=>?_)
   obtain⟨st,s1,s2⟩:=st;refine gA Z ?_;refine Pq (fun g1=>?_) (fun g1=>?_)
   .have g1:st<u:=by simpa using g1
    have x:=pd st u (by omega);obtain⟨c,Y⟩: ∃c,c=(st+u)/2:=⟨_,rfl⟩
    rw[<-Y]at x
    first
     |(refine gM 1 Z ?_;refine ae (L:=[]) (t:=⟨[(0,a8 L),(1,pI a),(2,pI m),(3,pI b),(4,aA),(18,pI u),(19,pI (u+m:Nat)),(20,pI st),(21,pI u),(22,pI (u+m-1:Nat)),(23,pI c)],[],0⟩) (wk Z Z Z (bi (bi (bi (bi (bi (bi (bi (bi (bi (bi ⟨bq x,rfl,ac⟩)))))))))) ac Z) ?_)
     |(refine gM 2 Z ?_;refine ae (L:=[]) (t:=⟨[(0,a8 L),(1,pI a),(2,pI m),(3,pI b),(4,aA),(18,pI u),(19,pI (u+m:Nat)),(20,pI st),(21,pI u),(22,pI (u+m-1:Nat)),(23,pI c)],[],0⟩) (wk Z Z Z (bi (bi (bi (bi (bi (bi (bi (bi (bi (bi ⟨bq x,rfl,ac⟩)))))))))) ac Z) ?_)
     |(refine gM 3 Z ?_;refine ae (L:=[]) (t:=⟨[(0,a8 L),(1,pI a),(2,pI m),(3,pI b),(4,aA),(18,pI u),(19,pI (u+m:Nat)),(20,pI st),(21,pI u),(22,pI (u+m-1:Nat)),(23,pI c)],[],0⟩) (wk Z Z Z (bi (bi (bi (bi (bi (bi (bi (bi (bi (bi ⟨bq x,rfl,ac⟩)))))))))) ac Z) ?_)
     |(refine gM 4 Z ?_;refine ae (L:=[]) (t:=⟨[(0,a8 L),(1,pI a),(2,pI m),(3,pI b),(4,aA),(18,pI u),(19,pI (u+m:Nat)),(20,pI st),(21,pI u),(22,pI (u+m-1:Nat)),(23,pI c)],[],0⟩) (wk Z Z Z (bi (bi (bi (bi (bi (bi (bi (bi (bi (bi ⟨bq x,rfl,ac⟩)))))))))) ac Z) ?_)
     |(refine gM 5 Z ?_;refine ae (L:=[]) (t:=⟨[(0,a8 L),(1,pI a),(2,pI m),(3,pI b),(4,aA),(18,pI u),(19,pI (u+m:Nat)),(20,pI st),(21,pI u),(22,pI (u+m-1:Nat)),(23,pI c)],[],0⟩) (wk Z Z Z (bi (bi (bi (bi (bi (bi (bi (bi (bi (bi ⟨bq x,rfl,ac⟩)))))))))) ac Z) ?_)
     |(refine gM 6 Z ?_;refine ae (L:=[]) (t:=⟨[(0,a8 L),(1,pI a),(2,pI m),(3,pI b),(4,aA),(18,pI u),(19,pI (u+m:Nat)),(20,pI st),(21,pI u),(22,pI (u+m-1:Nat)),(23,pI c)],[],0⟩) (wk Z Z Z (bi (bi (bi (bi (bi (bi (bi (bi (bi (bi ⟨bq x,rfl,ac⟩)))))))))) ac Z) ?_)
     |(refine gM 7 Z ?_;refine ae (L:=[]) (t:=⟨[(0,a8 L),(1,pI a),(2,pI m),(3,pI b),(4,aA),(18,pI u),(19,pI (u+m:Nat)),(20,pI st),(21,pI u),(22,pI (u+m-1:Nat)),(23,pI c)],[],0⟩) (wk Z Z Z (bi (bi (bi (bi (bi (bi (bi (bi (bi (bi ⟨bq x,rfl,ac⟩)))))))))) ac Z) ?_)
     |(refine gM 8 Z ?_;refine ae (L:=[]) (t:=⟨[(0,a8 L),(1,pI a),(2,pI m),(3,pI b),(4,aA),(18,pI u),(19,pI (u+m:Nat)),(20,pI st),(21,pI u),(22,pI (u+m-1:Nat)),(23,pI c)],[],0⟩) (wk Z Z Z (bi (bi (bi (bi (bi (bi (bi (bi (bi (bi ⟨bq x,rfl,ac⟩)))))))))) ac Z) ?_)
     |(refine gM 9 Z ?_;refine ae (L:=[]) (t:=⟨[(0,a8 L),(1,pI a),(2,pI m),(3,pI b),(4,aA),(18,pI u),(19,pI (u+m:Nat)),(20,pI st),(21,pI u),(22,pI (u+m-1:Nat)),(23,pI c)],[],0⟩) (wk Z Z Z (bi (bi (bi (bi (bi (bi (bi (bi (bi (bi ⟨bq x,rfl,ac⟩)))))))))) ac Z) ?_)
     |(refine gM 10 Z ?_;refine ae (L:=[]) (t:=⟨[(0,a8 L),(1,pI a),(2,pI m),(3,pI b),(4,aA),(18,pI u),(19,pI (u+m:Nat)),(20,pI st),(21,pI u),(22,pI (u+m-1:Nat)),(23,pI c)],[],0⟩) (wk Z Z Z (bi (bi (bi (bi (bi (bi (bi (bi (bi (bi ⟨bq x,rfl,ac⟩)))))))))) ac Z) ?_)
     |(refine gM 11 Z ?_;refine ae (L:=[]) (t:=⟨[(0,a8 L),(1,pI a),(2,pI m),(3,pI b),(4,aA),(18,pI u),(19,pI (u+m:Nat)),(20,pI st),(21,pI u),(22,pI (u+m-1:Nat)),(23,pI c)],[],0⟩) (wk Z Z Z (bi (bi (bi (bi (bi (bi (bi (bi (bi (bi ⟨bq x,rfl,ac⟩)))))))))) ac Z) ?_)
     |(refine gM 12 Z ?_;refine ae (L:=[]) (t:=⟨[(0,a8 L),(1,pI a),(2,pI m),(3,pI b),(4,aA),(18,pI u),(19,pI (u+m:Nat)),(20,pI st),(21,pI u),(22,pI (u+m-1:Nat)),(23,pI c)],[],0⟩) (wk Z Z Z (bi (bi (bi (bi (bi (bi (bi (bi (bi (bi ⟨bq x,rfl,ac⟩)))))))))) ac Z) ?_)
     |(refine gM 13 Z ?_;refine ae (L:=[]) (t:=⟨[(0,a8 L),(1,pI a),(2,pI m),(3,pI b),(4,aA),(18,pI u),(19,pI (u+m:Nat)),(20,pI st),(21,pI u),(22,pI (u+m-1:Nat)),(23,pI c)],[],0⟩) (wk Z Z Z (bi (bi (bi (bi (bi (bi (bi (bi (bi (bi ⟨bq x,rfl,ac⟩)))))))))) ac Z) ?_)
     |(refine gM 14 Z ?_;refine ae (L:=[]) (t:=⟨[(0,a8 L),(1,pI a),(2,pI m),(3,pI b),(4,aA),(18,pI u),(19,pI (u+m:Nat)),(20,pI st),(21,pI u),(22,pI (u+m-1:Nat)),(23,pI c)],[],0⟩) (wk Z Z Z (bi (bi (bi (bi (bi (bi (bi (bi (bi (bi ⟨bq x,rfl,ac⟩)))))))))) ac Z) ?_)
     |(refine gM 15 Z ?_;refine ae (L:=[]) (t:=⟨[(0,a8 L),(1,pI a),(2,pI m),(3,pI b),(4,aA),(18,pI u),(19,pI (u+m:Nat)),(20,pI st),(21,pI u),(22,pI (u+m-1:Nat)),(23,pI c)],[],0⟩) (wk Z Z Z (bi (bi (bi (bi (bi (bi (bi (bi (bi (bi ⟨bq x,rfl,ac⟩)))))))))) ac Z) ?_)
     |(refine gM 16 Z ?_;refine ae (L:=[]) (t:=⟨[(0,a8 L),(1,pI a),(2,pI m),(3,pI b),(4,aA),(18,pI u),(19,pI (u+m:Nat)),(20,pI st),(21,pI u),(22,pI (u+m-1:Nat)),(23,pI c)],[],0⟩) (wk Z Z Z (bi (bi (bi (bi (bi (bi (bi (bi (bi (bi ⟨bq x,rfl,ac⟩)))))))))) ac Z) ?_)
     |(refine gM 17 Z ?_;refine ae (L:=[]) (t:=⟨[(0,a8 L),(1,pI a),(2,pI m),(3,pI b),(4,aA),(18,pI u),(19,pI (u+m:Nat)),(20,pI st),(21,pI u),(22,pI (u+m-1:Nat)),(23,pI c)],[],0⟩) (wk Z Z Z (bi (bi (bi (bi (bi (bi (bi (bi (bi (bi ⟨bq x,rfl,ac⟩)))))))))) ac Z) ?_)
     |(refine gM 18 Z ?_;refine ae (L:=[]) (t:=⟨[(0,a8 L),(1,pI a),(2,pI m),(3,pI b),(4,aA),(18,pI u),(19,pI (u+m:Nat)),(20,pI st),(21,pI u),(22,pI (u+m-1:Nat)),(23,pI c)],[],0⟩) (wk Z Z Z (bi (bi (bi (bi (bi (bi (bi (bi (bi (bi ⟨bq x,rfl,ac⟩)))))))))) ac Z) ?_)
     |(refine gM 19 Z ?_;refine ae (L:=[]) (t:=⟨[(0,a8 L),(1,pI a),(2,pI m),(3,pI b),(4,aA),(18,pI u),(19,pI (u+m:Nat)),(20,pI st),(21,pI u),(22,pI (u+m-1:Nat)),(23,pI c)],[],0⟩) (wk Z Z Z (bi (bi (bi (bi (bi (bi (bi (bi (bi (bi ⟨bq x,rfl,ac⟩)))))))))) ac Z) ?_)
     |(refine gM 20 Z ?_;refine ae (L:=[]) (t:=⟨[(0,a8 L),(1,pI a),(2,pI m),(3,pI b),(4,aA),(18,pI u),(19,pI (u+m:Nat)),(20,pI st),(21,pI u),(22,pI (u+m-1:Nat)),(23,pI c)],[],0⟩) (wk Z Z Z (bi (bi (bi (bi (bi (bi (bi (bi (bi (bi ⟨bq x,rfl,ac⟩)))))))))) ac Z) ?_)
     |(refine gM 21 Z ?_;refine ae (L:=[]) (t:=⟨[(0,a8 L),(1,pI a),(2,pI m),(3,pI b),(4,aA),(18,pI u),(19,pI (u+m:Nat)),(20,pI st),(21,pI u),(22,pI (u+m-1:Nat)),(23,pI c)],[],0⟩) (wk Z Z Z (bi (bi (bi (bi (bi (bi (bi (bi (bi (bi ⟨bq x,rfl,ac⟩)))))))))) ac Z) ?_)
     |(refine gM 22 Z ?_;refine ae (L:=[]) (t:=⟨[(0,a8 L),(1,pI a),(2,pI m),(3,pI b),(4,aA),(18,pI u),(19,pI (u+m:Nat)),(20,pI st),(21,pI u),(22,pI (u+m-1:Nat)),(23,pI c)],[],0⟩) (wk Z Z Z (bi (bi (bi (bi (bi (bi (bi (bi (bi (bi ⟨bq x,rfl,ac⟩)))))))))) ac Z) ?_)
     |(refine gM 23 Z ?_;refine ae (L:=[]) (t:=⟨[(0,a8 L),(1,pI a),(2,pI m),(3,pI b),(4,aA),(18,pI u),(19,pI (u+m:Nat)),(20,pI st),(21,pI u),(22,pI (u+m-1:Nat)),(23,pI c)],[],0⟩) (wk Z Z Z (bi (bi (bi (bi (bi (bi (bi (bi (bi (bi ⟨bq x,rfl,ac⟩)))))))))) ac Z) ?_)
     |(refine gM 24 Z ?_;refine ae (L:=[]) (t:=⟨[(0,a8 L),(1,pI a),(2,pI m),(3,pI b),(4,aA),(18,pI u),(19,pI (u+m:Nat)),(20,pI st),(21,pI u),(22,pI (u+m-1:Nat)),(23,pI c)],[],0⟩) (wk Z Z Z (bi (bi (bi (bi (bi (bi (bi (bi (bi (bi ⟨bq x,rfl,ac⟩)))))))))) ac Z) ?_)
     |(refine gM 25 Z ?_;refine ae (L:=[]) (t:=⟨[(0,a8 L),(1,pI a),(2,pI m),(3,pI b),(4,aA),(18,pI u),(19,pI (u+m:Nat)),(20,pI st),(21,pI u),(22,pI (u+m-1:Nat)),(23,pI c)],[],0⟩) (wk Z Z Z (bi (bi (bi (bi (bi (bi (bi (bi (bi (bi ⟨bq x,rfl,ac⟩)))))))))) ac Z) ?_)
     |(refine gM 26 Z ?_;refine ae (L:=[]) (t:=⟨[(0,a8 L),(1,pI a),(2,pI m),(3,pI b),(4,aA),(18,pI u),(19,pI (u+m:Nat)),(20,pI st),(21,pI u),(22,pI (u+m-1:Nat)),(23,pI c)],[],0⟩) (wk Z Z Z (bi (bi (bi (bi (bi (bi (bi (bi (bi (bi ⟨bq x,rfl,ac⟩)))))))))) ac Z) ?_)
     |(refine gM 27 Z ?_;refine ae (L:=[]) (t:=⟨[(0,a8 L),(1,pI a),(2,pI m),(3,pI b),(4,aA),(18,pI u),(19,pI (u+m:Nat)),(20,pI st),(21,pI u),(22,pI (u+m-1:Nat)),(23,pI c)],[],0⟩) (wk Z Z Z (bi (bi (bi (bi (bi (bi (bi (bi (bi (bi ⟨bq x,rfl,ac⟩)))))))))) ac Z) ?_)
     |(refine gM 28 Z ?_;refine ae (L:=[]) (t:=⟨[(0,a8 L),(1,pI a),(2,pI m),(3,pI b),(4,aA),(18,pI u),(19,pI (u+m:Nat)),(20,pI st),(21,pI u),(22,pI (u+m-1:Nat)),(23,pI c)],[],0⟩) (wk Z Z Z (bi (bi (bi (bi (bi (bi (bi (bi (bi (bi ⟨bq x,rfl,ac⟩)))))))))) ac Z) ?_)
     |(refine gM 29 Z ?_;refine ae (L:=[]) (t:=⟨[(0,a8 L),(1,pI a),(2,pI m),(3,pI b),(4,aA),(18,pI u),(19,pI (u+m:Nat)),(20,pI st),(21,pI u),(22,pI (u+m-1:Nat)),(23,pI c)],[],0⟩) (wk Z Z Z (bi (bi (bi (bi (bi (bi (bi (bi (bi (bi ⟨bq x,rfl,ac⟩)))))))))) ac Z) ?_)
    have e:(((u+m-1:Nat):Int)-(c:Int)).toNat=u+m-1-c:=by omega
    refine gA Z (bD ab [] (Pure.rN (oQ (L.getD (((u+m-1:Nat):Int)-(c:Int)).toNat co) (L.getD c co) (hF.at (by omega)) (hF.at (by omega)))) Z Z Z Z Z Z Z Z Z Z Z Z (by(repeat' (first|exact ac|exact rfl|exact an.refl _|exact an.bk (by assumption)|apply Pq))<;>first|omega|(simp only[Pr];omega)|(simp;done)|(simp;omega)) Z (by(repeat' (first|exact ac|exact rfl|exact an.refl _|exact an.bk (by assumption)|apply Pq))<;>first|omega|(simp only[Pr];omega)|(simp;done)|(simp;omega)) ?_);refine gA Z ?_;refine Pq (fun g2=>?_) (fun g2=>?_)
    .refine gA Z ?_;exact⟨⟨c+1,by omega,by omega⟩,[],by show u-(c+1)<u-st;omega,wk Z Z Z (bi (bi (bi (bi (bi (bi (bi (bi (bi (bi ac)))))))))) ac Z⟩
    .have g2:aT (L.getD (((u+m-1:Nat):Int)-(c:Int)).toNat co) (L.getD c co)<0:=by simpa using g2
     rw[e]at g2;exact absurd g2 (hu c (u+m-1-c) (by omega) (by omega))
   .have g1:u<=st:=by simpa using g1
    have:st=u:=by omega
    subst this
    first
     |(refine gM 1 Z ?_;refine ae (L:=[]) (t:=⟨[(0,a8 L),(1,pI a),(2,pI m),(3,pI b),(4,aA),(18,pI st),(20,pI st),(24,pI m)],[],0⟩) (wk Z Z Z (bi (bi (bi (bi (bi (bi (bi ⟨bq (by(try dsimp only);omega),rfl,ac⟩))))))) ac Z) ?_)
     |(refine gM 2 Z ?_;refine ae (L:=[]) (t:=⟨[(0,a8 L),(1,pI a),(2,pI m),(3,pI b),(4,aA),(18,pI st),(20,pI st),(24,pI m)],[],0⟩) (wk Z Z Z (bi (bi (bi (bi (bi (bi (bi ⟨bq (by(try dsimp only);omega),rfl,ac⟩))))))) ac Z) ?_)
     |(refine gM 3 Z ?_;refine ae (L:=[]) (t:=⟨[(0,a8 L),(1,pI a),(2,pI m),(3,pI b),(4,aA),(18,pI st),(20,pI st),(24,pI m)],[],0⟩) (wk Z Z Z (bi (bi (bi (bi (bi (bi (bi ⟨bq (by(try dsimp only);omega),rfl,ac⟩))))))) ac Z) ?_)
     |(refine gM 4 Z ?_;refine ae (L:=[]) (t:=⟨[(0,a8 L),(1,pI a),(2,pI m),(3,pI b),(4,aA),(18,pI st),(20,pI st),(24,pI m)],[],0⟩) (wk Z Z Z (bi (bi (bi (bi (bi (bi (bi ⟨bq (by(try dsimp only);omega),rfl,ac⟩))))))) ac Z) ?_)
     |(refine gM 5 Z ?_;refine ae (L:=[]) (t:=⟨[(0,a8 L),(1,pI a),(2,pI m),(3,pI b),(4,aA),(18,pI st),(20,pI st),(24,pI m)],[],0⟩) (wk Z Z Z (bi (bi (bi (bi (bi (bi (bi ⟨bq (by(try dsimp only);omega),rfl,ac⟩))))))) ac Z) ?_)
     |(refine gM 6 Z ?_;refine ae (L:=[]) (t:=⟨[(0,a8 L),(1,pI a),(2,pI m),(3,pI b),(4,aA),(18,pI st),(20,pI st),(24,pI m)],[],0⟩) (wk Z Z Z (bi (bi (bi (bi (bi (bi (bi ⟨bq (by(try dsimp only);omega),rfl,ac⟩))))))) ac Z) ?_)
     |(refine gM 7 Z ?_;refine ae (L:=[]) (t:=⟨[(0,a8 L),(1,pI a),(2,pI m),(3,pI b),(4,aA),(18,pI st),(20,pI st),(24,pI m)],[],0⟩) (wk Z Z Z (bi (bi (bi (bi (bi (bi (bi ⟨bq (by(try dsimp only);omega),rfl,ac⟩))))))) ac Z) ?_)
     |(refine gM 8 Z ?_;refine ae (L:=[]) (t:=⟨[(0,a8 L),(1,pI a),(2,pI m),(3,pI b),(4,aA),(18,pI st),(20,pI st),(24,pI m)],[],0⟩) (wk Z Z Z (bi (bi (bi (bi (bi (bi (bi ⟨bq (by(try dsimp only);omega),rfl,ac⟩))))))) ac Z) ?_)
     |(refine gM 9 Z ?_;refine ae (L:=[]) (t:=⟨[(0,a8 L),(1,pI a),(2,pI m),(3,pI b),(4,aA),(18,pI st),(20,pI st),(24,pI m)],[],0⟩) (wk Z Z Z (bi (bi (bi (bi (bi (bi (bi ⟨bq (by(try dsimp only);omega),rfl,ac⟩))))))) ac Z) ?_)
     |(refine gM 10 Z ?_;refine ae (L:=[]) (t:=⟨[(0,a8 L),(1,pI a),(2,pI m),(3,pI b),(4,aA),(18,pI st),(20,pI st),(24,pI m)],[],0⟩) (wk Z Z Z (bi (bi (bi (bi (bi (bi (bi ⟨bq (by(try dsimp only);omega),rfl,ac⟩))))))) ac Z) ?_)
     |(refine gM 11 Z ?_;refine ae (L:=[]) (t:=⟨[(0,a8 L),(1,pI a),(2,pI m),(3,pI b),(4,aA),(18,pI st),(20,pI st),(24,pI m)],[],0⟩) (wk Z Z Z (bi (bi (bi (bi (bi (bi (bi ⟨bq (by(try dsimp only);omega),rfl,ac⟩))))))) ac Z) ?_)
    refine gA Z ?_;refine Pq (fun D=>?_) (fun D=>?_);rotate_left
    .exact absurd A (by simpa using D)
    refine gA Z ?_;refine Pq (fun k2=>?_) (fun k2=>?_)
    .exact absurd k2 (by simp)
    refine gA Z ?_;refine Pq (fun G=>?_) (fun G=>?_);rotate_left
    .exact absurd (show a<st by omega) (by simpa using G)
    refine gA Z ?_;refine Pq (fun B=>?_) (fun B=>?_)
    .exact absurd B (by simp)
    refine gA Z ?_;refine Pq (fun y=>?_) (fun y=>?_);rotate_left
    .exact absurd A (by simpa using y)
    refine gA Z ?_;refine Pq (fun k6=>?_) (fun k6=>?_)
    .refine gA Z (aC (ih st m b (by omega) A R h3) Z Z Z Z Z Z ?_);refine gA Z (aN (by first|exact .inr Z|exact .inl Z) Z (.of_eq ?_));rfl
    .exact absurd R (by simpa using k6)
  .have A:m<=u:=by simpa using A
   refine gA Z (gu (σ:={st:Nat//a<=st∧st<=m}) (fun st=>⟨[(0,a8 L),(1,pI a),(2,pI m),(3,pI b),(4,aA),(18,pI u),(19,pI (u+m:Nat)),(20,pI st.1),(21,pI m),(22,pI (u+m-1:Nat))],[],0⟩) (fun st=>m-st.1) ⟨a,Pv _,by omega⟩ []
    (wk Z Z Z (bi (bi (bi (bi (bi (bi ⟨bq (by(try dsimp only);omega),rfl,bi (bi ⟨bq (by(try dsimp only);omega),rfl,ac⟩)⟩)))))) ac Z) fun st=>?_)
   obtain⟨st,s1,s2⟩:=st;refine gA Z ?_;refine Pq (fun g1=>?_) (fun g1=>?_)
   .have g1:st<m:=by simpa using g1
    have x:=pd st m (by omega);obtain⟨c,Y⟩: ∃c,c=(st+m)/2:=⟨_,rfl⟩
    rw[<-Y]at x
    first
     |(refine gM 1 Z ?_;refine ae (L:=[]) (t:=⟨[(0,a8 L),(1,pI a),(2,pI m),(3,pI b),(4,aA),(18,pI u),(19,pI (u+m:Nat)),(20,pI st),(21,pI m),(22,pI (u+m-1:Nat)),(23,pI c)],[],0⟩) (wk Z Z Z (bi (bi (bi (bi (bi (bi (bi (bi (bi (bi ⟨bq x,rfl,ac⟩)))))))))) ac Z) ?_)
     |(refine gM 2 Z ?_;refine ae (L:=[]) (t:=⟨[(0,a8 L),(1,pI a),(2,pI m),(3,pI b),(4,aA),(18,pI u),(19,pI (u+m:Nat)),(20,pI st),(21,pI m),(22,pI (u+m-1:Nat)),(23,pI c)],[],0⟩) (wk Z Z Z (bi (bi (bi (bi (bi (bi (bi (bi (bi (bi ⟨bq x,rfl,ac⟩)))))))))) ac Z) ?_)
     |(refine gM 3 Z ?_;refine ae (L:=[]) (t:=⟨[(0,a8 L),(1,pI a),(2,pI m),(3,pI b),(4,aA),(18,pI u),(19,pI (u+m:Nat)),(20,pI st),(21,pI m),(22,pI (u+m-1:Nat)),(23,pI c)],[],0⟩) (wk Z Z Z (bi (bi (bi (bi (bi (bi (bi (bi (bi (bi ⟨bq x,rfl,ac⟩)))))))))) ac Z) ?_)
     |(refine gM 4 Z ?_;refine ae (L:=[]) (t:=⟨[(0,a8 L),(1,pI a),(2,pI m),(3,pI b),(4,aA),(18,pI u),(19,pI (u+m:Nat)),(20,pI st),(21,pI m),(22,pI (u+m-1:Nat)),(23,pI c)],[],0⟩) (wk Z Z Z (bi (bi (bi (bi (bi (bi (bi (bi (bi (bi ⟨bq x,rfl,ac⟩)))))))))) ac Z) ?_)
     |(refine gM 5 Z ?_;refine ae (L:=[]) (t:=⟨[(0,a8 L),(1,pI a),(2,pI m),(3,pI b),(4,aA),(18,pI u),(19,pI (u+m:Nat)),(20,pI st),(21,pI m),(22,pI (u+m-1:Nat)),(23,pI c)],[],0⟩) (wk Z Z Z (bi (bi (bi (bi (bi (bi (bi (bi (bi (bi ⟨bq x,rfl,ac⟩)))))))))) ac Z) ?_)
     |(refine gM 6 Z ?_;refine ae (L:=[]) (t:=⟨[(0,a8 L),(1,pI a),(2,pI m),(3,pI b),(4,aA),(18,pI u),(19,pI (u+m:Nat)),(20,pI st),(21,pI m),(22,pI (u+m-1:Nat)),(23,pI c)],[],0⟩) (wk Z Z Z (bi (bi (bi (bi (bi (bi (bi (bi (bi (bi ⟨bq x,rfl,ac⟩)))))))))) ac Z) ?_)
     |(refine gM 7 Z ?_;refine ae (L:=[]) (t:=⟨[(0,a8 L),(1,pI a),(2,pI m),(3,pI b),(4,aA),(18,pI u),(19,pI (u+m:Nat)),(20,pI st),(21,pI m),(22,pI (u+m-1:Nat)),(23,pI c)],[],0⟩) (wk Z Z Z (bi (bi (bi (bi (bi (bi (bi (bi (bi (bi ⟨bq x,rfl,ac⟩)))))))))) ac Z) ?_)
     |(refine gM 8 Z ?_;refine ae (L:=[]) (t:=⟨[(0,a8 L),(1,pI a),(2,pI m),(3,pI b),(4,aA),(18,pI u),(19,pI (u+m:Nat)),(20,pI st),(21,pI m),(22,pI (u+m-1:Nat)),(23,pI c)],[],0⟩) (wk Z Z Z (bi (bi (bi (bi (bi (bi (bi (bi (bi (bi ⟨bq x,rfl,ac⟩)))))))))) ac Z) ?_)
     |(refine gM 9 Z ?_;refine ae (L:=[]) (t:=⟨[(0,a8 L),(1,pI a),(2,pI m),(3,pI b),(4,aA),(18,pI u),(19,pI (u+m:Nat)),(20,pI st),(21,pI m),(22,pI (u+m-1:Nat)),(23,pI c)],[],0⟩) (wk Z Z Z (bi (bi (bi (bi (bi (bi (bi (bi (bi (bi ⟨bq x,rfl,ac⟩)))))))))) ac Z) ?_)
     |(refine gM 10 Z ?_;refine ae (L:=[]) (t:=⟨[(0,a8 L),(1,pI a),(2,pI m),(3,pI b),(4,aA),(18,pI u),(19,pI (u+m:Nat)),(20,pI st),(21,pI m),(22,pI (u+m-1:Nat)),(23,pI c)],[],0⟩) (wk Z Z Z (bi (bi (bi (bi (bi (bi (bi (bi (bi (bi ⟨bq x,rfl,ac⟩)))))))))) ac Z) ?_)
     |(refine gM 11 Z ?_;refine ae (L:=[]) (t:=⟨[(0,a8 L),(1,pI a),(2,pI m),(3,pI b),(4,aA),(18,pI u),(19,pI (u+m:Nat)),(20,pI st),(21,pI m),(22,pI (u+m-1:Nat)),(23,pI c)],[],0⟩) (wk Z Z Z (bi (bi (bi (bi (bi (bi (bi (bi (bi (bi ⟨bq x,rfl,ac⟩)))))))))) ac Z) ?_)
     |(refine gM 12 Z ?_;refine ae (L:=[]) (t:=⟨[(0,a8 L),(1,pI a),(2,pI m),(3,pI b),(4,aA),(18,pI u),(19,pI (u+m:Nat)),(20,pI st),(21,pI m),(22,pI (u+m-1:Nat)),(23,pI c)],[],0⟩) (wk Z Z Z (bi (bi (bi (bi (bi (bi (bi (bi (bi (bi ⟨bq x,rfl,ac⟩)))))))))) ac Z) ?_)
     |(refine gM 13 Z ?_;refine ae (L:=[]) (t:=⟨[(0,a8 L),(1,pI a),(2,pI m),(3,pI b),(4,aA),(18,pI u),(19,pI (u+m:Nat)),(20,pI st),(21,pI m),(22,pI (u+m-1:Nat)),(23,pI c)],[],0⟩) (wk Z Z Z (bi (bi (bi (bi (bi (bi (bi (bi (bi (bi ⟨bq x,rfl,ac⟩)))))))))) ac Z) ?_)
     |(refine gM 14 Z ?_;refine ae (L:=[]) (t:=⟨[(0,a8 L),(1,pI a),(2,pI m),(3,pI b),(4,aA),(18,pI u),(19,pI (u+m:Nat)),(20,pI st),(21,pI m),(22,pI (u+m-1:Nat)),(23,pI c)],[],0⟩) (wk Z Z Z (bi (bi (bi (bi (bi (bi (bi (bi (bi (bi ⟨bq x,rfl,ac⟩)))))))))) ac Z) ?_)
     |(refine gM 15 Z ?_;refine ae (L:=[]) (t:=⟨[(0,a8 L),(1,pI a),(2,pI m),(3,pI b),(4,aA),(18,pI u),(19,pI (u+m:Nat)),(20,pI st),(21,pI m),(22,pI (u+m-1:Nat)),(23,pI c)],[],0⟩) (wk Z Z Z (bi (bi (bi (bi (bi (bi (bi (bi (bi (bi ⟨bq x,rfl,ac⟩)))))))))) ac Z) ?_)
     |(refine gM 16 Z ?_;refine ae (L:=[]) (t:=⟨[(0,a8 L),(1,pI a),(2,pI m),(3,pI b),(4,aA),(18,pI u),(19,pI (u+m:Nat)),(20,pI st),(21,pI m),(22,pI (u+m-1:Nat)),(23,pI c)],[],0⟩) (wk Z Z Z (bi (bi (bi (bi (bi (bi (bi (bi (bi (bi ⟨bq x,rfl,ac⟩)))))))))) ac Z) ?_)
     |(refine gM 17 Z ?_;refine ae (L:=[]) (t:=⟨[(0,a8 L),(1,pI a),(2,pI m),(3,pI b),(4,aA),(18,pI u),(19,pI (u+m:Nat)),(20,pI st),(21,pI m),(22,pI (u+m-1:Nat)),(23,pI c)],[],0⟩) (wk Z Z Z (bi (bi (bi (bi (bi (bi (bi (bi (bi (bi ⟨bq x,rfl,ac⟩)))))))))) ac Z) ?_)
     |(refine gM 18 Z ?_;refine ae (L:=[]) (t:=⟨[(0,a8 L),(1,pI a),(2,pI m),(3,pI b),(4,aA),(18,pI u),(19,pI (u+m:Nat)),(20,pI st),(21,pI m),(22,pI (u+m-1:Nat)),(23,pI c)],[],0⟩) (wk Z Z Z (bi (bi (bi (bi (bi (bi (bi (bi (bi (bi ⟨bq x,rfl,ac⟩)))))))))) ac Z) ?_)
     |(refine gM 19 Z ?_;refine ae (L:=[]) (t:=⟨[(0,a8 L),(1,pI a),(2,pI m),(3,pI b),(4,aA),(18,pI u),(19,pI (u+m:Nat)),(20,pI st),(21,pI m),(22,pI (u+m-1:Nat)),(23,pI c)],[],0⟩) (wk Z Z Z (bi (bi (bi (bi (bi (bi (bi (bi (bi (bi ⟨bq x,rfl,ac⟩)))))))))) ac Z) ?_)
     |(refine gM 20 Z ?_;refine ae (L:=[]) (t:=⟨[(0,a8 L),(1,pI a),(2,pI m),(3,pI b),(4,aA),(18,pI u),(19,pI (u+m:Nat)),(20,pI st),(21,pI m),(22,pI (u+m-1:Nat)),(23,pI c)],[],0⟩) (wk Z Z Z (bi (bi (bi (bi (bi (bi (bi (bi (bi (bi ⟨bq x,rfl,ac⟩)))))))))) ac Z) ?_)
     |(refine gM 21 Z ?_;refine ae (L:=[]) (t:=⟨[(0,a8 L),(1,pI a),(2,pI m),(3,pI b),(4,aA),(18,pI u),(19,pI (u+m:Nat)),(20,pI st),(21,pI m),(22,pI (u+m-1:Nat)),(23,pI c)],[],0⟩) (wk Z Z Z (bi (bi (bi (bi (bi (bi (bi (bi (bi (bi ⟨bq x,rfl,ac⟩)))))))))) ac Z) ?_)
     |(refine gM 22 Z ?_;refine ae (L:=[]) (t:=⟨[(0,a8 L),(1,pI a),(2,pI m),(3,pI b),(4,aA),(18,pI u),(19,pI (u+m:Nat)),(20,pI st),(21,pI m),(22,pI (u+m-1:Nat)),(23,pI c)],[],0⟩) (wk Z Z Z (bi (bi (bi (bi (bi (bi (bi (bi (bi (bi ⟨bq x,rfl,ac⟩)))))))))) ac Z) ?_)
     |(refine gM 23 Z ?_;refine ae (L:=[]) (t:=⟨[(0,a8 L),(1,pI a),(2,pI m),(3,pI b),(4,aA),(18,pI u),(19,pI (u+m:Nat)),(20,pI st),(21,pI m),(22,pI (u+m-1:Nat)),(23,pI c)],[],0⟩) (wk Z Z Z (bi (bi (bi (bi (bi (bi (bi (bi (bi (bi ⟨bq x,rfl,ac⟩)))))))))) ac Z) ?_)
     |(refine gM 24 Z ?_;refine ae (L:=[]) (t:=⟨[(0,a8 L),(1,pI a),(2,pI m),(3,pI b),(4,aA),(18,pI u),(19,pI (u+m:Nat)),(20,pI st),(21,pI m),(22,pI (u+m-1:Nat)),(23,pI c)],[],0⟩) (wk Z Z Z (bi (bi (bi (bi (bi (bi (bi (bi (bi (bi ⟨bq x,rfl,ac⟩)))))))))) ac Z) ?_)
     |(refine gM 25 Z ?_;refine ae (L:=[]) (t:=⟨[(0,a8 L),(1,pI a),(2,pI m),(3,pI b),(4,aA),(18,pI u),(19,pI (u+m:Nat)),(20,pI st),(21,pI m),(22,pI (u+m-1:Nat)),(23,pI c)],[],0⟩) (wk Z Z Z (bi (bi (bi (bi (bi (bi (bi (bi (bi (bi ⟨bq x,rfl,ac⟩)))))))))) ac Z) ?_)
     |(refine gM 26 Z ?_;refine ae (L:=[]) (t:=⟨[(0,a8 L),(1,pI a),(2,pI m),(3,pI b),(4,aA),(18,pI u),(19,pI (u+m:Nat)),(20,pI st),(21,pI m),(22,pI (u+m-1:Nat)),(23,pI c)],[],0⟩) (wk Z Z Z (bi (bi (bi (bi (bi (bi (bi (bi (bi (bi ⟨bq x,rfl,ac⟩)))))))))) ac Z) ?_)
     |(refine gM 27 Z ?_;refine ae (L:=[]) (t:=⟨[(0,a8 L),(1,pI a),(2,pI m),(3,pI b),(4,aA),(18,pI u),(19,pI (u+m:Nat)),(20,pI st),(21,pI m),(22,pI (u+m-1:Nat)),(23,pI c)],[],0⟩) (wk Z Z Z (bi (bi (bi (bi (bi (bi (bi (bi (bi (bi ⟨bq x,rfl,ac⟩)))))))))) ac Z) ?_)
     |(refine gM 28 Z ?_;refine ae (L:=[]) (t:=⟨[(0,a8 L),(1,pI a),(2,pI m),(3,pI b),(4,aA),(18,pI u),(19,pI (u+m:Nat)),(20,pI st),(21,pI m),(22,pI (u+m-1:Nat)),(23,pI c)],[],0⟩) (wk Z Z Z (bi (bi (bi (bi (bi (bi (bi (bi (bi (bi ⟨bq x,rfl,ac⟩)))))))))) ac Z) ?_)
     |(refine gM 29 Z ?_;refine ae (L:=[]) (t:=⟨[(0,a8 L),(1,pI a),(2,pI m),(3,pI b),(4,aA),(18,pI u),(19,pI (u+m:Nat)),(20,pI st),(21,pI m),(22,pI (u+m-1:Nat)),(23,pI c)],[],0⟩) (wk Z Z Z (bi (bi (bi (bi (bi (bi (bi (bi (bi (bi ⟨bq x,rfl,ac⟩)))))))))) ac Z) ?_)
    have e:(((u+m-1:Nat):Int)-(c:Int)).toNat=u+m-1-c:=by omega
    refine gA Z (bD ab [] (Pure.rN (oQ (L.getD (((u+m-1:Nat):Int)-(c:Int)).toNat co) (L.getD c co) (hF.at (by omega)) (hF.at (by omega)))) Z Z Z Z Z Z Z Z Z Z Z Z (by(repeat' (first|exact ac|exact rfl|exact an.refl _|exact an.bk (by assumption)|apply Pq))<;>first|omega|(simp only[Pr];omega)|(simp;done)|(simp;omega)) Z (by(repeat' (first|exact ac|exact rfl|exact an.refl _|exact an.bk (by assumption)|apply Pq))<;>first|omega|(simp only[Pr];omega)|(simp;done)|(simp;omega)) ?_);refine gA Z ?_;refine Pq (fun g2=>?_) (fun g2=>?_)
    .refine gA Z ?_;exact⟨⟨c+1,by omega,by omega⟩,[],by show m-(c+1)<m-st;omega,wk Z Z Z (bi (bi (bi (bi (bi (bi (bi (bi (bi (bi ac)))))))))) ac Z⟩
    .have g2:aT (L.getD (((u+m-1:Nat):Int)-(c:Int)).toNat co) (L.getD c co)<0:=by simpa using g2
     rw[e]at g2;exact absurd g2 (hu c (u+m-1-c) (by omega) (by omega))
   .have g1:m<=st:=by simpa using g1
    have:st=m:=by omega
    subst this
    first
     |(refine gM 1 Z ?_;refine ae (L:=[]) (t:=⟨[(0,a8 L),(1,pI a),(2,pI st),(3,pI b),(4,aA),(18,pI u),(20,pI st),(24,pI u)],[],0⟩) (wk Z Z Z (bi (bi (bi (bi (bi (bi (bi ⟨bq (by(try dsimp only);omega),rfl,ac⟩))))))) ac Z) ?_)
     |(refine gM 2 Z ?_;refine ae (L:=[]) (t:=⟨[(0,a8 L),(1,pI a),(2,pI st),(3,pI b),(4,aA),(18,pI u),(20,pI st),(24,pI u)],[],0⟩) (wk Z Z Z (bi (bi (bi (bi (bi (bi (bi ⟨bq (by(try dsimp only);omega),rfl,ac⟩))))))) ac Z) ?_)
     |(refine gM 3 Z ?_;refine ae (L:=[]) (t:=⟨[(0,a8 L),(1,pI a),(2,pI st),(3,pI b),(4,aA),(18,pI u),(20,pI st),(24,pI u)],[],0⟩) (wk Z Z Z (bi (bi (bi (bi (bi (bi (bi ⟨bq (by(try dsimp only);omega),rfl,ac⟩))))))) ac Z) ?_)
     |(refine gM 4 Z ?_;refine ae (L:=[]) (t:=⟨[(0,a8 L),(1,pI a),(2,pI st),(3,pI b),(4,aA),(18,pI u),(20,pI st),(24,pI u)],[],0⟩) (wk Z Z Z (bi (bi (bi (bi (bi (bi (bi ⟨bq (by(try dsimp only);omega),rfl,ac⟩))))))) ac Z) ?_)
     |(refine gM 5 Z ?_;refine ae (L:=[]) (t:=⟨[(0,a8 L),(1,pI a),(2,pI st),(3,pI b),(4,aA),(18,pI u),(20,pI st),(24,pI u)],[],0⟩) (wk Z Z Z (bi (bi (bi (bi (bi (bi (bi ⟨bq (by(try dsimp only);omega),rfl,ac⟩))))))) ac Z) ?_)
     |(refine gM 6 Z ?_;refine ae (L:=[]) (t:=⟨[(0,a8 L),(1,pI a),(2,pI st),(3,pI b),(4,aA),(18,pI u),(20,pI st),(24,pI u)],[],0⟩) (wk Z Z Z (bi (bi (bi (bi (bi (bi (bi ⟨bq (by(try dsimp only);omega),rfl,ac⟩))))))) ac Z) ?_)
     |(refine gM 7 Z ?_;refine ae (L:=[]) (t:=⟨[(0,a8 L),(1,pI a),(2,pI st),(3,pI b),(4,aA),(18,pI u),(20,pI st),(24,pI u)],[],0⟩) (wk Z Z Z (bi (bi (bi (bi (bi (bi (bi ⟨bq (by(try dsimp only);omega),rfl,ac⟩))))))) ac Z) ?_)
     |(refine gM 8 Z ?_;refine ae (L:=[]) (t:=⟨[(0,a8 L),(1,pI a),(2,pI st),(3,pI b),(4,aA),(18,pI u),(20,pI st),(24,pI u)],[],0⟩) (wk Z Z Z (bi (bi (bi (bi (bi (bi (bi ⟨bq (by(try dsimp only);omega),rfl,ac⟩))))))) ac Z) ?_)
     |(refine gM 9 Z ?_;refine ae (L:=[]) (t:=⟨[(0,a8 L),(1,pI a),(2,pI st),(3,pI b),(4,aA),(18,pI u),(20,pI st),(24,pI u)],[],0⟩) (wk Z Z Z (bi (bi (bi (bi (bi (bi (bi ⟨bq (by(try dsimp only);omega),rfl,ac⟩))))))) ac Z) ?_)
     |(refine gM 10 Z ?_;refine ae (L:=[]) (t:=⟨[(0,a8 L),(1,pI a),(2,pI st),(3,pI b),(4,aA),(18,pI u),(20,pI st),(24,pI u)],[],0⟩) (wk Z Z Z (bi (bi (bi (bi (bi (bi (bi ⟨bq (by(try dsimp only);omega),rfl,ac⟩))))))) ac Z) ?_)
     |(refine gM 11 Z ?_;refine ae (L:=[]) (t:=⟨[(0,a8 L),(1,pI a),(2,pI st),(3,pI b),(4,aA),(18,pI u),(20,pI st),(24,pI u)],[],0⟩) (wk Z Z Z (bi (bi (bi (bi (bi (bi (bi ⟨bq (by(try dsimp only);omega),rfl,ac⟩))))))) ac Z) ?_)
    refine gA Z ?_;refine Pq (fun D=>?_) (fun D=>?_)
    .exact absurd D (by simp)
    refine gA Z ?_;refine Pq (fun G=>?_) (fun G=>?_);rotate_left
    .exact absurd h1 (by simpa using G)
    refine gA Z ?_;refine Pq (fun B=>?_) (fun B=>?_)
    .have B:st<u:=by simpa using B
     refine gA Z (aC (ih a st u (by omega) h1 B (by omega)) Z Z Z Z Z Z ?_);refine gA Z ?_;refine Pq (fun y=>?_) (fun y=>?_)
     .exact absurd y (by simp)
     refine gA Z (aN (by first|exact .inr Z|exact .inl Z) Z (.of_eq ?_));rfl
    .refine gA Z ?_;refine Pq (fun y=>?_) (fun y=>?_)
     .exact absurd y (by simp)
     refine gA Z (aN (by first|exact .inr Z|exact .inl Z) Z (.of_eq ?_));rfl
theorem Hb:Pure prog 78 [a8 L,pI L.length,aA] (.bm []):=by
 refine ah ab func78 Z (by decide) ntmps78 Z (by simp) Z ?_
 refine gA Z (gu (σ:={i:Nat//i<=L.length}) (fun i=>⟨[(0,a8 L),(1,pI L.length),(2,aA),(6,pI 20),(7,pI i.1),(8,pI (i.1+20:Nat))],[],0⟩) (fun i=>L.length-i.1) ⟨0,PC _⟩ []
  (wk Z Z Z (bi (bi (bi (bi (bi (bi ac)))))) ac Z) fun i=>?_)
 obtain⟨i,i1⟩:=i;refine gA Z ?_;refine Pq (fun g1=>?_) (fun g1=>?_)
 .have g1:i+20<=L.length:=by have:=of_decide_eq_true g1;(try dsimp only at this);omega
  refine gA Z (aC (Np hu hF hl i (i+20) (by omega) g1) Z Z Z Z Z Z ?_);refine gA Z ⟨⟨i+20,g1⟩,[],by show L.length-(i+20)<L.length-i;omega,wk Z Z Z (bi (bi (bi (bi (bi ⟨bq (by(try dsimp only);omega),rfl,ac⟩))))) ac Z⟩
 .refine gA Z (aC (Np hu hF hl i L.length (by omega) (Pv _)) Z Z Z Z Z Z ?_)
  refine gA Z (gu (σ:={bs:Nat//0<bs∧bs<=2*L.length+20}) (fun bs=>⟨[(0,a8 L),(1,pI L.length),(2,aA),(6,pI bs.1)],[],0⟩) (fun bs=>2*L.length+20-bs.1) ⟨20,by omega,by omega⟩ []
   (wk Z Z Z (bi (bi (bi (bi ac)))) ac Z) fun bs=>?_)
  obtain⟨bs,b,j⟩:=bs;refine gA Z ?_;refine Pq (fun g2=>?_) (fun g2=>?_)
  .have g2:bs<L.length:=by simpa using g2
   refine gA Z (gu (σ:={i:Nat//i<=L.length}) (fun i=>⟨[(0,a8 L),(1,pI L.length),(2,aA),(6,pI bs),(7,pI i.1),(8,pI (i.1+2*bs:Nat))],[],0⟩) (fun i=>L.length-i.1) ⟨0,PC _⟩ []
    (wk Z Z Z (bi (bi (bi (bi (bi ⟨bq (by(try dsimp only);omega),rfl,ac⟩))))) ac Z) fun i=>?_)
   obtain⟨i,i1⟩:=i;refine gA Z ?_;refine Pq (fun g3=>?_) (fun g3=>?_)
   .have g3:i+2*bs<=L.length:=by have:=of_decide_eq_true g3;(try dsimp only at this);omega
    refine gA Z (aC (Ng hu hF hl (2*bs) i (i+bs) (i+2*bs) (by omega) (by omega) (by omega) g3) Z Z Z Z Z Z ?_);refine gA Z ⟨⟨i+2*bs,g3⟩,[],by show L.length-(i+2*bs)<L.length-i;omega,wk Z Z Z (bi (bi (bi (bi (bi ⟨bq (by(try dsimp only);omega),rfl,ac⟩))))) ac Z⟩
   .refine gA Z ?_;refine Pq (fun g4=>?_) (fun g4=>?_)
    .have g4:i+bs<L.length:=by have:=of_decide_eq_true g4;(try dsimp only at this);omega
     refine gA Z (aC (Ng hu hF hl L.length i (i+bs) L.length (by omega) (by omega) g4 (Pv _)) Z Z Z Z Z Z ?_);refine gA Z ⟨⟨2*bs,by omega,by omega⟩,[],by show 2*L.length+20-2*bs<2*L.length+20-bs;omega,wk Z Z Z (bi (bi (bi ⟨bq (by(try dsimp only);omega),rfl,ac⟩))) ac Z⟩
    .refine gA Z ?_;exact⟨⟨2*bs,by omega,by omega⟩,[],by show 2*L.length+20-2*bs<2*L.length+20-bs;omega,wk Z Z Z (bi (bi (bi ⟨bq (by(try dsimp only);omega),rfl,ac⟩))) ac Z⟩
  .refine gA Z (aN (by first|exact .inr Z|exact .inl Z) Z (.of_eq ?_));rfl
theorem DF:Pure prog 55 [a8 L,aA] (.bm []):=by
 refine ah ab func55 Z (by decide) ntmps55 Z (by simp) Z ?_;refine gA Z (aC (Hb hu hF hl) Z Z Z Z Z Z ?_);refine gA Z (aN (by first|exact .inr Z|exact .inl Z) Z (.of_eq ?_));rfl
end
end
theorem Hi(l:List Int)(hb:l.length<=10000000000):Pure prog 42 [.iv (bu 1 l j3)] (.iv (bu 1 l j3)):=by
 refine ah ab func42 Z (by decide) ntmps42 Z (by simp) Z ?_;refine fk Z ac (il Z Z Z Z underlying27 Z fun b u=>?_);refine gA Z ?_;refine Pq (fun x=>?_) (fun x=>?_)
 .have j:l=[]:=Qh (u x);subst j;refine gA Z (aN (by first|exact .inr Z|exact .inl Z) Z ?_);exact .nil _ _
 refine fk Z ac (jO ab Z Z Z Z Z Z Z fun A=>?_);by_cases j:l=[]
 .subst j;refine fk Z ac (kG ab Z Z Z Z Z Z Z Z (el2:=fun k=>j3 (([]:List Int).getD k co)) Z ?_);refine gA Z (aN (by first|exact .inr Z|exact .inl Z) Z ?_);exact .refl _
 .have y:0<l.length:=Qy.2 j;refine fk Z ac (jP ab Z Z Z Z Z Z Z Z (by decide) Z (gX Z) (by simp;omega) (by show((PY l.length).map _).length*8<=_;simp;omega) (by simp;omega) Z ?_);refine gA Z (dt (by first|exact .inr Z|exact .inl Z) Z Z ((eO l j3)) ((by simp)))
theorem AJ(l:List Term)(hb:l.length<=10000000000):Pure prog 43 [.iv (bu 5 l Term.c)] (.iv (bu 5 l Term.c)):=by
 refine ah ab func43 Z (by decide) ntmps43 Z (by simp) Z ?_;refine fk Z ac (il Z Z Z Z underlying94 Z fun b u=>?_);refine gA Z ?_;refine Pq (fun x=>?_) (fun x=>?_)
 .have j:l=[]:=Qh (u x);subst j;refine gA Z (aN (by first|exact .inr Z|exact .inl Z) Z ?_);exact .nil _ _
 refine fk Z ac (jO ab Z Z Z Z Z Z Z fun A=>?_);by_cases j:l=[]
 .subst j;refine fk Z ac (kG ab Z Z Z Z Z Z Z Z (el2:=fun k=>Term.c (([]:List Term).getD k co)) Z ?_);refine gA Z (aN (by first|exact .inr Z|exact .inl Z) Z ?_);exact .refl _
 .have y:0<l.length:=Qy.2 j;refine fk Z ac (jP ab Z Z Z Z Z Z Z Z (by decide) Z (gX Z) (by simp;omega) (by show((PY l.length).map _).length*56<=_;simp;omega) (by simp;omega) Z ?_);refine gA Z (dt (by first|exact .inr Z|exact .inl Z) Z Z ((eO l Term.c)) ((by simp)))
theorem Hh(l:List Lit)(hb:l.length<=10000000000):Pure prog 71 [.iv (bu 30 l Lit.c)] (.iv (bu 30 l Lit.c)):=by
 refine ah ab func71 Z (by decide) ntmps71 Z (by simp) Z ?_;refine fk Z ac (il Z Z Z Z underlying97 Z fun b u=>?_);refine gA Z ?_;refine Pq (fun x=>?_) (fun x=>?_)
 .have j:l=[]:=Qh (u x);subst j;refine gA Z (aN (by first|exact .inr Z|exact .inl Z) Z ?_);exact .nil _ _
 refine fk Z ac (jO ab Z Z Z Z Z Z Z fun A=>?_);by_cases j:l=[]
 .subst j;refine fk Z ac (kG ab Z Z Z Z Z Z Z Z (el2:=fun k=>Lit.c (([]:List Lit).getD k co)) Z ?_);refine gA Z (aN (by first|exact .inr Z|exact .inl Z) Z ?_);exact .refl _
 .have y:0<l.length:=Qy.2 j;refine fk Z ac (jP ab Z Z Z Z Z Z Z Z (by decide) Z (gX Z) (by simp;omega) (by show((PY l.length).map _).length*384<=_;simp;omega) (by simp;omega) Z ?_);refine gA Z (dt (by first|exact .inr Z|exact .inl Z) Z Z ((eO l Lit.c)) ((by simp)))
theorem DO(l:List Lit)(hb:l.length<=10000000000)(h0:l≠ []):bF prog 71 [.iv (bu 30 l Lit.c)] [] (.sl 0 0 l.length 30) [(0,io (aF 30 l Lit.c))] 1:=by
 have x:0<l.length:=Qy.2 h0;refine au ab func71 Z (by decide) ntmps71 Z (by simp) ?_;refine fk Z ac (il Z Z Z Z underlying97 Z fun b j=>?_);refine gA Z ?_;refine Pq (fun u=>?_) (fun u=>?_)
 .exact absurd (j u) (by omega)
 refine fk Z ac (jO ab Z Z Z Z Z Z Z fun y=>?_);refine fk Z ac (jP ab Z Z Z Z Z Z Z Z (by decide) Z (gX Z) (by simp;omega) (by show((PY l.length).map _).length*384<=_;simp;omega) (by simp;omega) Z ?_);refine gA Z (bd [1] (by first|exact .inr Z|exact .inl Z) Z (wk Z Z Z ⟨.row (by simp),rfl,ac⟩ (hR Z (eO l Lit.c) Z ac) Z))
theorem Hk(l:List Expr)(hb:l.length<=10000000000):Pure prog 92 [.iv (bu 7 l Expr.c)] (.iv (bu 7 l Expr.c)):=by
 refine ah ab func92 Z (by decide) ntmps92 Z (by simp) Z ?_;refine fk Z ac (il Z Z Z Z underlying122 Z fun b u=>?_);refine gA Z ?_;refine Pq (fun x=>?_) (fun x=>?_)
 .have j:l=[]:=Qh (u x);subst j;refine gA Z (aN (by first|exact .inr Z|exact .inl Z) Z ?_);exact .nil _ _
 refine fk Z ac (jO ab Z Z Z Z Z Z Z fun A=>?_);by_cases j:l=[]
 .subst j;refine fk Z ac (kG ab Z Z Z Z Z Z Z Z (el2:=fun k=>Expr.c (([]:List Expr).getD k co)) Z ?_);refine gA Z (aN (by first|exact .inr Z|exact .inl Z) Z ?_);exact .refl _
 .have y:0<l.length:=Qy.2 j;refine fk Z ac (jP ab Z Z Z Z Z Z Z Z (by decide) Z (gX Z) (by simp;omega) (by show((PY l.length).map _).length*88<=_;simp;omega) (by simp;omega) Z ?_);refine gA Z (dt (by first|exact .inr Z|exact .inl Z) Z Z ((eO l Expr.c)) ((by simp)))
theorem DP(l:List Expr)(hb:l.length<=10000000000)(h0:l≠ []):bF prog 92 [.iv (bu 7 l Expr.c)] [] (.sl 0 0 l.length 7) [(0,io (aF 7 l Expr.c))] 1:=by
 have x:0<l.length:=Qy.2 h0;refine au ab func92 Z (by decide) ntmps92 Z (by simp) ?_;refine fk Z ac (il Z Z Z Z underlying122 Z fun b j=>?_);refine gA Z ?_;refine Pq (fun u=>?_) (fun u=>?_)
 .exact absurd (j u) (by omega)
 refine fk Z ac (jO ab Z Z Z Z Z Z Z fun y=>?_);refine fk Z ac (jP ab Z Z Z Z Z Z Z Z (by decide) Z (gX Z) (by simp;omega) (by show((PY l.length).map _).length*88<=_;simp;omega) (by simp;omega) Z ?_);refine gA Z (bd [1] (by first|exact .inr Z|exact .inl Z) Z (wk Z Z Z ⟨.row (by simp),rfl,ac⟩ (hR Z (eO l Expr.c) Z ac) Z))
theorem Hg(l:List dU)(hb:l.length<=10000000000):Pure prog 49 [.iv (bu 3 l dU.c)] (.iv (bu 3 l dU.c)):=by
 refine ah ab func49 Z (by decide) ntmps49 Z (by simp) Z ?_;refine fk Z ac (il Z Z Z Z underlying37 Z fun b u=>?_);refine gA Z ?_;refine Pq (fun x=>?_) (fun x=>?_)
 .have j:l=[]:=Qh (u x);subst j;refine gA Z (aN (by first|exact .inr Z|exact .inl Z) Z ?_);exact .nil _ _
 refine fk Z ac (jO ab Z Z Z Z Z Z Z fun A=>?_);by_cases j:l=[]
 .subst j;refine fk Z ac (kG ab Z Z Z Z Z Z Z Z (el2:=fun k=>dU.c (([]:List dU).getD k co)) Z ?_);refine gA Z (aN (by first|exact .inr Z|exact .inl Z) Z ?_);exact .refl _
 .have y:0<l.length:=Qy.2 j;refine fk Z ac (jP ab Z Z Z Z Z Z Z Z (by decide) Z (gX Z) (by simp;omega) (by show((PY l.length).map _).length*32<=_;simp;omega) (by simp;omega) Z ?_);refine gA Z (dt (by first|exact .inr Z|exact .inl Z) Z Z ((eO l dU.c)) ((by simp)))
theorem Hj(l:List Fact)(hb:l.length<=10000000000):Pure prog 54 [.iv (bu 2 l Fact.c)] (.iv (bu 2 l Fact.c)):=by
 refine ah ab func54 Z (by decide) ntmps54 Z (by simp) Z ?_;refine fk Z ac (il Z Z Z Z underlying48 Z fun b u=>?_);refine gA Z ?_;refine Pq (fun x=>?_) (fun x=>?_)
 .have j:l=[]:=Qh (u x);subst j;refine gA Z (aN (by first|exact .inr Z|exact .inl Z) Z ?_);exact .nil _ _
 refine fk Z ac (jO ab Z Z Z Z Z Z Z fun A=>?_);by_cases j:l=[]
 .subst j;refine fk Z ac (kG ab Z Z Z Z Z Z Z Z (el2:=fun k=>Fact.c (([]:List Fact).getD k co)) Z ?_);refine gA Z (aN (by first|exact .inr Z|exact .inl Z) Z ?_);exact .refl _
 .have y:0<l.length:=Qy.2 j;refine fk Z ac (jP ab Z Z Z Z Z Z Z Z (by decide) Z (gX Z) (by simp;omega) (by show((PY l.length).map _).length*40<=_;simp;omega) (by simp;omega) Z ?_);refine gA Z (dt (by first|exact .inr Z|exact .inl Z) Z Z ((eO l Fact.c)) ((by simp)))
theorem DT{α:Type}[Inhabited α]{l:List α}{g:α->List PV}{i:Nat}(hi:i<l.length):(l.map g).set (0+i) (g (l.getD i co))=l.map g:=by
 refine RF fun j=>?_;rw[PT,Rh];split
 .rename_i e;subst e;rw[am (by simpa using hi),Ps,Pn,Po hi];rfl
 .rfl
theorem DU{α:Type}[Inhabited α]{l:List α}{g:α->List PV}{i:Nat}(hi:i<l.length):(l.map g)[0+i]? =io (g (l.getD i co)):=by
 rw[PT,Ps,Pn,Po hi];rfl
theorem JV: ∀(n:Nat) (e:Expr),e.size<=n->e.size<=1000000000->Pure prog 72 [ag e.c] (ag e.c)
 |0,e,h,_=>absurd e.size_pos (by omega)
 |n+1,e,h,hb=>by
  have A:=e.size_eq;have y:=Expr.aG e.args;refine Al.Pure.le (aa:=[ag e.c]) (args:=[ag e.c1]) ?_ ⟨e.A4,ac⟩;by_cases j:e.args=[]
  .refine ah ab func72 Z (by decide) ntmps72 Z (by simp) Z ?_;refine gA Z (aC (Hk e.args (by omega)) Z Z Z Z Z Z ?_);refine gA Z (om (n:=0) ?_);refine gA Z ?_;refine Pq (fun u=>?_) (fun u=>?_)
   .exact absurd u (by simp[j])
   refine gA Z (aN (by first|exact .inr Z|exact .inl Z) Z ?_);exact e.HY
  refine ah ab func72 Z (by decide) ntmps72 Z (by simp) Z ?_;refine gA Z (bx [] (DP e.args (by omega) j) Z Z Z Z Z Z Z Z ?_);refine gA Z ?_;refine aJ 0 e.args.length (PC _) (fun i=>⟨[(1,.ptr 0 0),(2,.ptr 1 0),(10,pI e.args.length),(11,pI i)],[(0,io (.cells [.iv (iI e.kind),.iv (iS e.var),.iv (iI e.val.kind),.iv (iI e.val.num),.iv (iS e.val.sym),.iv (iI e.op),.sl 2 0 e.args.length 7])),(1,io (.cells [pI 0,pS Pt,pI 0,pI 0,pS Pt,pI 0,.iv (.v (.slice is 0 0))])),(2,io (aF 7 e.args Expr.c))],3⟩) (fun _=>True) [] ac
   (wk Z Z Z (bi (bi (bi (bi trivial)))) ⟨⟨_,rfl,.of_eq Z⟩,Pj Z,rfl,⟨⟨_,rfl,.of_eq Z⟩,Pj Z,rfl,hR Z (by rw[PW];exact PN fun x _=>bg _ _) Z trivial⟩⟩ Z) fun i C _=>?_
  refine gA Z ?_;refine Pq (fun h1=>?_) (fun h1=>?_)
  .have h1:i<e.args.length:=by simpa using h1
   have B:=Expr.bU e.args i h1;have b:=DU (g:=fun x=>(Expr.c x).map PV.iv) h1;refine gM 16 Z (td (p:=ag (e.args.getD i co).c) 7 Z Z Z Z Z Z (ig ab Z Z Z Z b Z) ?_);refine gA Z (bD ab [] (Pure.rN (JV n (e.args.getD i co) (by omega) (by omega))) Z Z Z Z Z Z Z Z Z Z Z Z (by(repeat' (first|exact ac|exact rfl|exact an.refl _|exact an.bk (by assumption)|apply Pq))<;>first|omega|(simp only[Pr];omega)|(simp;done)|(simp;omega)) Z (by(repeat' (first|exact ac|exact rfl|exact an.refl _|exact an.bk (by assumption)|apply Pq))<;>first|omega|(simp only[Pr];omega)|(simp;done)|(simp;omega)) ?_);refine gA Z (lr ab Z Z Z Z Z (by first|trivial|(repeat' apply Pq)<;>trivial) (yW ab Z Z (i:=2) (sz:=7) (q:=0+i) Z Z Z Z (by simp;omega) Z Z Z) Z (by first|trivial|(repeat' apply Pq)<;>trivial) ?_);refine gA Z ⟨h1,ac,[],wk Z Z Z (bi (bi (bi (bi ac)))) ⟨⟨_,rfl,.of_eq Z⟩,Pj Z,rfl,⟨⟨_,rfl,.of_eq Z⟩,Pj Z,rfl,hR Z (DT (g:=fun x=>(Expr.c x).map PV.iv) h1) Z ac⟩⟩ Z⟩
  .have h1:e.args.length<=i:=by simpa using h1
   refine gA Z (lx (.inr Z) Z (iE.DV 2 e.args Expr.c Z Z (by simp[PV.da,dQ]) (.done ?_)));have:an (ag e.c1) (ag e.c):=e.HY;simp only[PV.eh,qk,PT];exact this
theorem y4(e:Expr)(hb:e.size<=1000000000):Pure prog 72 [ag e.c] (ag e.c):=JV e.size e (Pv _) hb
theorem kS(f:Fact)(hb:f.args.length<=10000000000):Pure prog 26 [ag f.c] (ag f.c):=by
 refine ah ab func26 Z (by decide) ntmps26 Z (by simp) Z ?_;refine gA Z (bD ab [] (Pure.rN (Hg f.args hb)) Z Z Z Z Z Z Z Z Z Z Z Z (by(repeat' (first|exact ac|exact rfl|exact an.refl _|exact an.bk (by assumption)|apply Pq))<;>first|omega|(simp only[Pr];omega)|(simp;done)|(simp;omega)) Z (by(repeat' (first|exact ac|exact rfl|exact an.refl _|exact an.bk (by assumption)|apply Pq))<;>first|omega|(simp only[Pr];omega)|(simp;done)|(simp;omega)) ?_);refine gA Z (aN (by first|exact .inr Z|exact .inl Z) Z (.of_eq ?_));rfl
abbrev kF:KC:= .fl fE
abbrev OC(f:Fact):PV:=kF.pk (bt f)
theorem aV(a0:ak): ∀(args:List dU),args.length<=8->
  ([pS a0,pI args.length]++(aP fm.zero).drop 2).take 2++((PY args.length).map fun k=>(dU.c (args.getD k co)).map PV.iv).flatten++([pS a0,pI args.length]++(aP fm.zero).drop 2).drop (2+((PY args.length).map fun k=>(dU.c (args.getD k co)).map PV.iv).length*3)
   =(FK.vs fE (bt ⟨a0,args⟩)).map fun v=>PV.iv (.v v)
 | [],_=>rfl
 | [_],_=>rfl
 | [_,_],_=>rfl
 | [_,_,_],_=>rfl
 | [_,_,_,_],_=>rfl
 | [_,_,_,_,_],_=>rfl
 | [_,_,_,_,_,_],_=>rfl
 | [_,_,_,_,_,_,_],_=>rfl
 | [_,_,_,_,_,_,_,_],_=>rfl
 |_::_::_::_::_::_::_::_::_::_,h=>by simp at h
theorem Ll(f:Fact)(hb:f.args.length<=8):Pure prog 46 [ag f.c] (.bm [OC f,pB jp]):=by
 refine ah ab func46 Z (by decide) ntmps46 Z (by simp) Z ?_;refine gA Z ?_;refine Pq (fun h1=>?_) (fun h1=>?_)
 .exact absurd h1 (by simp;omega)
 refine gA Z (td (p:= .mZ 2 2 8) 1 Z Z Z Z Z Z (IH ab Z Z Z Z Z) ?_);refine gA Z (lr ab Z Z Z Z Z (by(repeat' (first|exact ac|exact rfl|exact an.refl _|exact an.bk (by assumption)|apply Pq))<;>first|omega|(simp only[Pr];omega)|(simp;done)|(simp;omega)) (Fm ab Z Z Z Z Z Z Z (gX Z) (fun e b=>by obtain⟨k,_,rfl⟩:=P1.1 b;rfl) (by simp;omega) (by show 2+_*3<=26;simp;omega) Z) Z (by(repeat' (first|exact ac|exact rfl|exact an.refl _|exact an.bk (by assumption)|apply Pq))<;>first|omega|(simp only[Pr];omega)|(simp;done)|(simp;omega)) ?_)
 first
  |(refine gM 1 Z ?_;refine ae (L:=[]) (t:=⟨[(2,.ptr 1 0),(4,.ptr 2 0)],[(1,io (.cells (aP fm.zero))),(2,io (az ((FK.vs fE (bt f)).map IV.v)))],3⟩) (wk Z Z Z (bi (bi ac)) ⟨⟨_,rfl,.of_eq Z⟩,Pj Z,rfl,hC Z (aV f.rel f.args hb) Z ac⟩ Z) ?_)
  |(refine gM 2 Z ?_;refine ae (L:=[]) (t:=⟨[(2,.ptr 1 0),(4,.ptr 2 0)],[(1,io (.cells (aP fm.zero))),(2,io (az ((FK.vs fE (bt f)).map IV.v)))],3⟩) (wk Z Z Z (bi (bi ac)) ⟨⟨_,rfl,.of_eq Z⟩,Pj Z,rfl,hC Z (aV f.rel f.args hb) Z ac⟩ Z) ?_)
  |(refine gM 3 Z ?_;refine ae (L:=[]) (t:=⟨[(2,.ptr 1 0),(4,.ptr 2 0)],[(1,io (.cells (aP fm.zero))),(2,io (az ((FK.vs fE (bt f)).map IV.v)))],3⟩) (wk Z Z Z (bi (bi ac)) ⟨⟨_,rfl,.of_eq Z⟩,Pj Z,rfl,hC Z (aV f.rel f.args hb) Z ac⟩ Z) ?_)
  |(refine gM 4 Z ?_;refine ae (L:=[]) (t:=⟨[(2,.ptr 1 0),(4,.ptr 2 0)],[(1,io (.cells (aP fm.zero))),(2,io (az ((FK.vs fE (bt f)).map IV.v)))],3⟩) (wk Z Z Z (bi (bi ac)) ⟨⟨_,rfl,.of_eq Z⟩,Pj Z,rfl,hC Z (aV f.rel f.args hb) Z ac⟩ Z) ?_)
  |(refine gM 5 Z ?_;refine ae (L:=[]) (t:=⟨[(2,.ptr 1 0),(4,.ptr 2 0)],[(1,io (.cells (aP fm.zero))),(2,io (az ((FK.vs fE (bt f)).map IV.v)))],3⟩) (wk Z Z Z (bi (bi ac)) ⟨⟨_,rfl,.of_eq Z⟩,Pj Z,rfl,hC Z (aV f.rel f.args hb) Z ac⟩ Z) ?_)
  |(refine gM 6 Z ?_;refine ae (L:=[]) (t:=⟨[(2,.ptr 1 0),(4,.ptr 2 0)],[(1,io (.cells (aP fm.zero))),(2,io (az ((FK.vs fE (bt f)).map IV.v)))],3⟩) (wk Z Z Z (bi (bi ac)) ⟨⟨_,rfl,.of_eq Z⟩,Pj Z,rfl,hC Z (aV f.rel f.args hb) Z ac⟩ Z) ?_)
  |(refine gM 7 Z ?_;refine ae (L:=[]) (t:=⟨[(2,.ptr 1 0),(4,.ptr 2 0)],[(1,io (.cells (aP fm.zero))),(2,io (az ((FK.vs fE (bt f)).map IV.v)))],3⟩) (wk Z Z Z (bi (bi ac)) ⟨⟨_,rfl,.of_eq Z⟩,Pj Z,rfl,hC Z (aV f.rel f.args hb) Z ac⟩ Z) ?_)
  |(refine gM 8 Z ?_;refine ae (L:=[]) (t:=⟨[(2,.ptr 1 0),(4,.ptr 2 0)],[(1,io (.cells (aP fm.zero))),(2,io (az ((FK.vs fE (bt f)).map IV.v)))],3⟩) (wk Z Z Z (bi (bi ac)) ⟨⟨_,rfl,.of_eq Z⟩,Pj Z,rfl,hC Z (aV f.rel f.args hb) Z ac⟩ Z) ?_)
  |(refine gM 9 Z ?_;refine ae (L:=[]) (t:=⟨[(2,.ptr 1 0),(4,.ptr 2 0)],[(1,io (.cells (aP fm.zero))),(2,io (az ((FK.vs fE (bt f)).map IV.v)))],3⟩) (wk Z Z Z (bi (bi ac)) ⟨⟨_,rfl,.of_eq Z⟩,Pj Z,rfl,hC Z (aV f.rel f.args hb) Z ac⟩ Z) ?_)
  |(refine gM 10 Z ?_;refine ae (L:=[]) (t:=⟨[(2,.ptr 1 0),(4,.ptr 2 0)],[(1,io (.cells (aP fm.zero))),(2,io (az ((FK.vs fE (bt f)).map IV.v)))],3⟩) (wk Z Z Z (bi (bi ac)) ⟨⟨_,rfl,.of_eq Z⟩,Pj Z,rfl,hC Z (aV f.rel f.args hb) Z ac⟩ Z) ?_)
  |(refine gM 11 Z ?_;refine ae (L:=[]) (t:=⟨[(2,.ptr 1 0),(4,.ptr 2 0)],[(1,io (.cells (aP fm.zero))),(2,io (az ((FK.vs fE (bt f)).map IV.v)))],3⟩) (wk Z Z Z (bi (bi ac)) ⟨⟨_,rfl,.of_eq Z⟩,Pj Z,rfl,hC Z (aV f.rel f.args hb) Z ac⟩ Z) ?_)
  |(refine gM 12 Z ?_;refine ae (L:=[]) (t:=⟨[(2,.ptr 1 0),(4,.ptr 2 0)],[(1,io (.cells (aP fm.zero))),(2,io (az ((FK.vs fE (bt f)).map IV.v)))],3⟩) (wk Z Z Z (bi (bi ac)) ⟨⟨_,rfl,.of_eq Z⟩,Pj Z,rfl,hC Z (aV f.rel f.args hb) Z ac⟩ Z) ?_)
  |(refine gM 13 Z ?_;refine ae (L:=[]) (t:=⟨[(2,.ptr 1 0),(4,.ptr 2 0)],[(1,io (.cells (aP fm.zero))),(2,io (az ((FK.vs fE (bt f)).map IV.v)))],3⟩) (wk Z Z Z (bi (bi ac)) ⟨⟨_,rfl,.of_eq Z⟩,Pj Z,rfl,hC Z (aV f.rel f.args hb) Z ac⟩ Z) ?_)
  |(refine gM 14 Z ?_;refine ae (L:=[]) (t:=⟨[(2,.ptr 1 0),(4,.ptr 2 0)],[(1,io (.cells (aP fm.zero))),(2,io (az ((FK.vs fE (bt f)).map IV.v)))],3⟩) (wk Z Z Z (bi (bi ac)) ⟨⟨_,rfl,.of_eq Z⟩,Pj Z,rfl,hC Z (aV f.rel f.args hb) Z ac⟩ Z) ?_)
  |(refine gM 15 Z ?_;refine ae (L:=[]) (t:=⟨[(2,.ptr 1 0),(4,.ptr 2 0)],[(1,io (.cells (aP fm.zero))),(2,io (az ((FK.vs fE (bt f)).map IV.v)))],3⟩) (wk Z Z Z (bi (bi ac)) ⟨⟨_,rfl,.of_eq Z⟩,Pj Z,rfl,hC Z (aV f.rel f.args hb) Z ac⟩ Z) ?_)
  |(refine gM 16 Z ?_;refine ae (L:=[]) (t:=⟨[(2,.ptr 1 0),(4,.ptr 2 0)],[(1,io (.cells (aP fm.zero))),(2,io (az ((FK.vs fE (bt f)).map IV.v)))],3⟩) (wk Z Z Z (bi (bi ac)) ⟨⟨_,rfl,.of_eq Z⟩,Pj Z,rfl,hC Z (aV f.rel f.args hb) Z ac⟩ Z) ?_)
  |(refine gM 17 Z ?_;refine ae (L:=[]) (t:=⟨[(2,.ptr 1 0),(4,.ptr 2 0)],[(1,io (.cells (aP fm.zero))),(2,io (az ((FK.vs fE (bt f)).map IV.v)))],3⟩) (wk Z Z Z (bi (bi ac)) ⟨⟨_,rfl,.of_eq Z⟩,Pj Z,rfl,hC Z (aV f.rel f.args hb) Z ac⟩ Z) ?_)
  |(refine gM 18 Z ?_;refine ae (L:=[]) (t:=⟨[(2,.ptr 1 0),(4,.ptr 2 0)],[(1,io (.cells (aP fm.zero))),(2,io (az ((FK.vs fE (bt f)).map IV.v)))],3⟩) (wk Z Z Z (bi (bi ac)) ⟨⟨_,rfl,.of_eq Z⟩,Pj Z,rfl,hC Z (aV f.rel f.args hb) Z ac⟩ Z) ?_)
  |(refine gM 19 Z ?_;refine ae (L:=[]) (t:=⟨[(2,.ptr 1 0),(4,.ptr 2 0)],[(1,io (.cells (aP fm.zero))),(2,io (az ((FK.vs fE (bt f)).map IV.v)))],3⟩) (wk Z Z Z (bi (bi ac)) ⟨⟨_,rfl,.of_eq Z⟩,Pj Z,rfl,hC Z (aV f.rel f.args hb) Z ac⟩ Z) ?_)
  |(refine gM 20 Z ?_;refine ae (L:=[]) (t:=⟨[(2,.ptr 1 0),(4,.ptr 2 0)],[(1,io (.cells (aP fm.zero))),(2,io (az ((FK.vs fE (bt f)).map IV.v)))],3⟩) (wk Z Z Z (bi (bi ac)) ⟨⟨_,rfl,.of_eq Z⟩,Pj Z,rfl,hC Z (aV f.rel f.args hb) Z ac⟩ Z) ?_)
  |(refine gM 21 Z ?_;refine ae (L:=[]) (t:=⟨[(2,.ptr 1 0),(4,.ptr 2 0)],[(1,io (.cells (aP fm.zero))),(2,io (az ((FK.vs fE (bt f)).map IV.v)))],3⟩) (wk Z Z Z (bi (bi ac)) ⟨⟨_,rfl,.of_eq Z⟩,Pj Z,rfl,hC Z (aV f.rel f.args hb) Z ac⟩ Z) ?_)
  |(refine gM 22 Z ?_;refine ae (L:=[]) (t:=⟨[(2,.ptr 1 0),(4,.ptr 2 0)],[(1,io (.cells (aP fm.zero))),(2,io (az ((FK.vs fE (bt f)).map IV.v)))],3⟩) (wk Z Z Z (bi (bi ac)) ⟨⟨_,rfl,.of_eq Z⟩,Pj Z,rfl,hC Z (aV f.rel f.args hb) Z ac⟩ Z) ?_)
  |(refine gM 23 Z ?_;refine ae (L:=[]) (t:=⟨[(2,.ptr 1 0),(4,.ptr 2 0)],[(1,io (.cells (aP fm.zero))),(2,io (az ((FK.vs fE (bt f)).map IV.v)))],3⟩) (wk Z Z Z (bi (bi ac)) ⟨⟨_,rfl,.of_eq Z⟩,Pj Z,rfl,hC Z (aV f.rel f.args hb) Z ac⟩ Z) ?_)
  |(refine gM 24 Z ?_;refine ae (L:=[]) (t:=⟨[(2,.ptr 1 0),(4,.ptr 2 0)],[(1,io (.cells (aP fm.zero))),(2,io (az ((FK.vs fE (bt f)).map IV.v)))],3⟩) (wk Z Z Z (bi (bi ac)) ⟨⟨_,rfl,.of_eq Z⟩,Pj Z,rfl,hC Z (aV f.rel f.args hb) Z ac⟩ Z) ?_)
  |(refine gM 25 Z ?_;refine ae (L:=[]) (t:=⟨[(2,.ptr 1 0),(4,.ptr 2 0)],[(1,io (.cells (aP fm.zero))),(2,io (az ((FK.vs fE (bt f)).map IV.v)))],3⟩) (wk Z Z Z (bi (bi ac)) ⟨⟨_,rfl,.of_eq Z⟩,Pj Z,rfl,hC Z (aV f.rel f.args hb) Z ac⟩ Z) ?_)
  |(refine gM 26 Z ?_;refine ae (L:=[]) (t:=⟨[(2,.ptr 1 0),(4,.ptr 2 0)],[(1,io (.cells (aP fm.zero))),(2,io (az ((FK.vs fE (bt f)).map IV.v)))],3⟩) (wk Z Z Z (bi (bi ac)) ⟨⟨_,rfl,.of_eq Z⟩,Pj Z,rfl,hC Z (aV f.rel f.args hb) Z ac⟩ Z) ?_)
  |(refine gM 27 Z ?_;refine ae (L:=[]) (t:=⟨[(2,.ptr 1 0),(4,.ptr 2 0)],[(1,io (.cells (aP fm.zero))),(2,io (az ((FK.vs fE (bt f)).map IV.v)))],3⟩) (wk Z Z Z (bi (bi ac)) ⟨⟨_,rfl,.of_eq Z⟩,Pj Z,rfl,hC Z (aV f.rel f.args hb) Z ac⟩ Z) ?_)
  |(refine gM 28 Z ?_;refine ae (L:=[]) (t:=⟨[(2,.ptr 1 0),(4,.ptr 2 0)],[(1,io (.cells (aP fm.zero))),(2,io (az ((FK.vs fE (bt f)).map IV.v)))],3⟩) (wk Z Z Z (bi (bi ac)) ⟨⟨_,rfl,.of_eq Z⟩,Pj Z,rfl,hC Z (aV f.rel f.args hb) Z ac⟩ Z) ?_)
  |(refine gM 29 Z ?_;refine ae (L:=[]) (t:=⟨[(2,.ptr 1 0),(4,.ptr 2 0)],[(1,io (.cells (aP fm.zero))),(2,io (az ((FK.vs fE (bt f)).map IV.v)))],3⟩) (wk Z Z Z (bi (bi ac)) ⟨⟨_,rfl,.of_eq Z⟩,Pj Z,rfl,hC Z (aV f.rel f.args hb) Z ac⟩ Z) ?_)
 refine gA Z (aN (by first|exact .inr Z|exact .inl Z) Z (.of_eq ?_));rfl
section
def Fact.z:Fact:=⟨Pt,[]⟩
def Bv(f:Fact):IV:= .agg f.c
def E2:Value:= .agg #[.string Pt,.slice is 0 0]
def valOf:List IV->dU
 | [.v (.int _ k),.v (.int _ n),.v (.string s)]=>⟨k,n,s⟩
 |_=>⟨0,0,Pt⟩
def Mk:PV->Fact
 | .agg [.iv (.v (.string s)),.iv (.cB _ n el)]=>⟨s,(PY n).map fun k=>valOf (el k)⟩
 |_=>Fact.z
def yF(x:bM Fact):IV:= .agg (b6 x)
def It:Value:= .agg #[.bool kw,.string Pt,.slice is 0 0]
def bM.z:bM Fact:=(kw,Fact.z)
def Oi:PV->bM Fact
 | .agg [.iv (.v (.bool b)),p,q]=>(b,Mk (.agg [p,q]))
 |_=>bM.z
abbrev FM:=List (kF.K×Fact)
abbrev CM:=List (kF.K×bM Fact)
abbrev aI(m:FM):AO:= .map kF Bv Fact.z E2 Mk m
abbrev Ft(m:CM):AO:= .map kF yF bM.z It Oi m
abbrev yE(m:CM):IV:= .dR kF yF bM.z It m
theorem Dg(l:List dU):(PY l.length).map (fun k=>valOf (dU.c (l.getD k co)))=l:=by
 apply RF;intro k;by_cases hk:k<l.length
 .simp[hk,valOf,dU.c]
 .simp[hk]
theorem E8(f:Fact):Mk (ag f.c)=f:=by
 show(⟨f.rel,(PY f.args.length).map fun k=>valOf (dU.c (f.args.getD k co))⟩:Fact)=f;rw[Dg]
theorem J5(x:bM Fact):Oi (ag (b6 x))=x:=by
 show(x.1,Mk (ag x.2.c))=x;rw[E8]
theorem E3(f:Fact):an (ag f.c) (.iv (Bv (Mk (ag f.c)))):=by rw[E8];exact Om _
theorem Iu(x:bM Fact):an (ag (b6 x)) (.iv (yF (Oi (ag (b6 x))))):=by rw[J5];exact Om _
theorem E1: ∀M,IR M (Bv Fact.z) E2:=fun M=>by
 refine .agg _ _ Z fun j p b=>?_
 match j,b with
 |0,b=>cases b;exact .v _
 |1,b=>cases b;exact .fu _ _ _ _
 |j+2,b=>simp[Fact.c]at b
theorem Is: ∀M,IR M (yF bM.z) It:=fun M=>by
 refine .agg _ _ Z fun j p b=>?_
 match j,b with
 |0,b=>cases b;exact .v _
 |1,b=>cases b;exact .v _
 |2,b=>cases b;exact .fu _ _ _ _
 |j+3,b=>simp[b6,Fact.c]at b
abbrev aY(p:Prog)(n:Nat)(i:Nat):AO:= .cells [.mp i,.iv (bu 4 p.aS Decl.c),.iv (bu 5 p.rules aw.c),pI n]
abbrev Oy:PV:= .iv (.v (.pointer is))
section
variable (p:Prog) (n:Nat) (m:FM)
abbrev bO:List AO:=[aI m,aY p n 0]
abbrev bH:AH:=[(0,io (aI m)),(1,io (aY p n 0))]
theorem No:bF prog 28 [.ptr 1 0] (bO p n m) (.ptr 1 0) (bH p n m) 2:=by
 refine au ab func28 Z (by decide) ntmps28 Z (by simp) ?_;refine gA Z ?_;refine Pq (fun h1=>?_) (fun h1=>?_)
 .exact absurd h1 (by decide)
 refine gA Z (bd [] (by first|exact .inr Z|exact .inl Z) Z (wk Z Z Z (bi ac) (hM Z Z Z ⟨⟨_,rfl,.of_eq Z⟩,Pj Z,rfl,ac⟩) Z))
theorem ru:bF prog 13 [.ptr 1 0] (bO p n m) (pI n) (bH p n m) 2:=by
 refine au ab func13 Z (by decide) ntmps13 Z (by simp) ?_;refine gA Z ?_;refine Pq (fun h1=>?_) (fun h1=>?_)
 .exact absurd h1 (by decide)
 refine gA Z (bd [] (by first|exact .inr Z|exact .inl Z) Z (wk Z Z Z (bi ac) (hM Z Z Z ⟨⟨_,rfl,.of_eq Z⟩,Pj Z,rfl,ac⟩) Z))
end
end
end Go.Proofs.YtllkaddcplhklaaGreatDoor
namespace Go.Proofs
open Go.Shelf
def Tryz.yh:Go.Shelf.Ren:=⟨fun|6=>50|15=>76|14=>75|28=>103|29=>104|20=>95|21=>96|22=>97|23=>98|24=>99|25=>100|26=>101|27=>102|46=>142|47=>143|48=>144|49=>145|50=>146|57=>182|n=>n,fun|22=>36|24=>42|25=>114|3=>3|39=>147|0=>0|53=>175|55=>177|4=>4|46=>168|45=>167|50=>172|5=>5|9=>9|66=>210|70=>214|76=>258|77=>259|n=>n,fun|n=>n⟩
theorem Tryz.A6:Go.Proofs.SlLaysF0.n6 Tryz.prog Tryz.yh:={
 mixed:=by kernel_rfl
 f6:=⟨Tryz.f50.name,by decide,Tryz.func50.trans (congrArg io (by kernel_rfl))⟩
 f14:=⟨Tryz.f75.name,by decide,Tryz.func75.trans (congrArg io (by kernel_rfl))⟩
 f15:=Tryz.func76.trans (congrArg io (by kernel_rfl))
 f20:=⟨Tryz.f95.name,by decide,Tryz.func95.trans (congrArg io (by kernel_rfl))⟩
 f21:=⟨Tryz.f96.name,by decide,Tryz.func96.trans (congrArg io (by kernel_rfl))⟩
 f22:=⟨Tryz.f97.name,by decide,Tryz.func97.trans (congrArg io (by kernel_rfl))⟩
 f23:=⟨Tryz.f98.name,by decide,Tryz.func98.trans (congrArg io (by kernel_rfl))⟩
 f24:=⟨Tryz.f99.name,by decide,Tryz.func99.trans (congrArg io (by kernel_rfl))⟩
 f25:=⟨Tryz.f100.name,by decide,Tryz.func100.trans (congrArg io (by kernel_rfl))⟩
 f26:=⟨Tryz.f101.name,by decide,Tryz.func101.trans (congrArg io (by kernel_rfl))⟩
 f27:=⟨Tryz.f102.name,by decide,Tryz.func102.trans (congrArg io (by kernel_rfl))⟩
 f28:=Tryz.func103.trans (congrArg io (by kernel_rfl))
 f29:=Tryz.func104.trans (congrArg io (by kernel_rfl))
 f46:=⟨Tryz.f142.name,by decide,Tryz.func142.trans (congrArg io (by kernel_rfl))⟩
 f47:=Tryz.func143.trans (congrArg io (by kernel_rfl))
 f48:=Tryz.func144.trans (congrArg io (by kernel_rfl))
 f49:=⟨Tryz.f145.name,by decide,Tryz.func145.trans (congrArg io (by kernel_rfl))⟩
 f50:=⟨Tryz.f146.name,by decide,Tryz.func146.trans (congrArg io (by kernel_rfl))⟩
 f57:=⟨Tryz.f182.name,by decide,Tryz.func182.trans (congrArg io (by kernel_rfl))⟩
 t0:=Tryz.underlying0
 a0:=Tryz.isAgg0
 z0:=Tryz.sizeOf0
 v0:=Tryz.zeroValue0
 t3:=Tryz.underlying3
 a3:=Tryz.isAgg3
 z3:=Tryz.sizeOf3
 v3:=Tryz.zeroValue3
 t4:=Tryz.underlying4
 a4:=Tryz.isAgg4
 z4:=Tryz.sizeOf4
 v4:=Tryz.zeroValue4
 t5:=Tryz.underlying5
 a5:=Tryz.isAgg5
 z5:=Tryz.sizeOf5
 v5:=Tryz.zeroValue5
 t9:=Tryz.underlying9
 a9:=Tryz.isAgg9
 z9:=Tryz.sizeOf9
 v9:=Tryz.zeroValue9
 t22:=Tryz.underlying36
 a22:=Tryz.isAgg36
 z22:=Tryz.sizeOf36
 v22:=Tryz.zeroValue36
 t25:=Tryz.underlying114
 a25:=Tryz.isAgg114
 z25:=Tryz.sizeOf114
 v25:=Tryz.zeroValue114
 t39:=Tryz.underlying147
 a39:=Tryz.isAgg147
 z39:=Tryz.sizeOf147
 v39:=Tryz.zeroValue147
 t45:=Tryz.underlying167
 a45:=Tryz.isAgg167
 z45:=Tryz.sizeOf167
 v45:=Tryz.zeroValue167
 t46:=Tryz.underlying168
 a46:=Tryz.isAgg168
 z46:=Tryz.sizeOf168
 v46:=Tryz.zeroValue168
 t50:=Tryz.underlying172
 a50:=Tryz.isAgg172
 z50:=Tryz.sizeOf172
 v50:=Tryz.zeroValue172
 t53:=Tryz.underlying175
 a53:=Tryz.isAgg175
 z53:=Tryz.sizeOf175
 v53:=Tryz.zeroValue175
 t55:=Tryz.underlying177
 a55:=Tryz.isAgg177
 z55:=Tryz.sizeOf177
 v55:=Tryz.zeroValue177
 t66:=Tryz.underlying210
 a66:=Tryz.isAgg210
 z66:=Tryz.sizeOf210
 v66:=Tryz.zeroValue210
 t70:=Tryz.underlying214
 a70:=Tryz.isAgg214
 z70:=Tryz.sizeOf214
 v70:=Tryz.zeroValue214
 t76:=Tryz.underlying258
 a76:=Tryz.isAgg258
 z76:=Tryz.sizeOf258
 v76:=Tryz.zeroValue258
 t77:=Tryz.underlying259
 a77:=Tryz.isAgg259
 z77:=Tryz.sizeOf259
 v77:=Tryz.zeroValue259}
def Tryz.yg:Go.Shelf.Ren:=⟨fun|6=>52|15=>76|14=>77|28=>103|29=>104|20=>105|21=>106|22=>107|23=>108|24=>109|25=>110|26=>111|27=>112|46=>147|47=>143|48=>144|49=>148|50=>149|57=>183|n=>n,fun|22=>48|24=>39|25=>85|3=>3|39=>147|0=>0|53=>175|55=>177|4=>4|46=>168|45=>167|50=>172|5=>5|9=>9|66=>210|70=>214|76=>258|77=>259|n=>n,fun|n=>n⟩
theorem Tryz.A5:Go.Proofs.SlLaysF0.n6 Tryz.prog Tryz.yg:={
 mixed:=by kernel_rfl
 f6:=⟨Tryz.f52.name,by decide,Tryz.func52.trans (congrArg io (by kernel_rfl))⟩
 f14:=⟨Tryz.f77.name,by decide,Tryz.func77.trans (congrArg io (by kernel_rfl))⟩
 f15:=Tryz.func76.trans (congrArg io (by kernel_rfl))
 f20:=⟨Tryz.f105.name,by decide,Tryz.func105.trans (congrArg io (by kernel_rfl))⟩
 f21:=⟨Tryz.f106.name,by decide,Tryz.func106.trans (congrArg io (by kernel_rfl))⟩
 f22:=⟨Tryz.f107.name,by decide,Tryz.func107.trans (congrArg io (by kernel_rfl))⟩
 f23:=⟨Tryz.f108.name,by decide,Tryz.func108.trans (congrArg io (by kernel_rfl))⟩
 f24:=⟨Tryz.f109.name,by decide,Tryz.func109.trans (congrArg io (by kernel_rfl))⟩
 f25:=⟨Tryz.f110.name,by decide,Tryz.func110.trans (congrArg io (by kernel_rfl))⟩
 f26:=⟨Tryz.f111.name,by decide,Tryz.func111.trans (congrArg io (by kernel_rfl))⟩
 f27:=⟨Tryz.f112.name,by decide,Tryz.func112.trans (congrArg io (by kernel_rfl))⟩
 f28:=Tryz.func103.trans (congrArg io (by kernel_rfl))
 f29:=Tryz.func104.trans (congrArg io (by kernel_rfl))
 f46:=⟨Tryz.f147.name,by decide,Tryz.func147.trans (congrArg io (by kernel_rfl))⟩
 f47:=Tryz.func143.trans (congrArg io (by kernel_rfl))
 f48:=Tryz.func144.trans (congrArg io (by kernel_rfl))
 f49:=⟨Tryz.f148.name,by decide,Tryz.func148.trans (congrArg io (by kernel_rfl))⟩
 f50:=⟨Tryz.f149.name,by decide,Tryz.func149.trans (congrArg io (by kernel_rfl))⟩
 f57:=⟨Tryz.f183.name,by decide,Tryz.func183.trans (congrArg io (by kernel_rfl))⟩
 t0:=Tryz.underlying0
 a0:=Tryz.isAgg0
 z0:=Tryz.sizeOf0
 v0:=Tryz.zeroValue0
 t3:=Tryz.underlying3
 a3:=Tryz.isAgg3
 z3:=Tryz.sizeOf3
 v3:=Tryz.zeroValue3
 t4:=Tryz.underlying4
 a4:=Tryz.isAgg4
 z4:=Tryz.sizeOf4
 v4:=Tryz.zeroValue4
 t5:=Tryz.underlying5
 a5:=Tryz.isAgg5
 z5:=Tryz.sizeOf5
 v5:=Tryz.zeroValue5
 t9:=Tryz.underlying9
 a9:=Tryz.isAgg9
 z9:=Tryz.sizeOf9
 v9:=Tryz.zeroValue9
 t22:=Tryz.underlying48
 a22:=Tryz.isAgg48
 z22:=Tryz.sizeOf48
 v22:=Tryz.zeroValue48
 t25:=Tryz.underlying85
 a25:=Tryz.isAgg85
 z25:=Tryz.sizeOf85
 v25:=Tryz.zeroValue85
 t39:=Tryz.underlying147
 a39:=Tryz.isAgg147
 z39:=Tryz.sizeOf147
 v39:=Tryz.zeroValue147
 t45:=Tryz.underlying167
 a45:=Tryz.isAgg167
 z45:=Tryz.sizeOf167
 v45:=Tryz.zeroValue167
 t46:=Tryz.underlying168
 a46:=Tryz.isAgg168
 z46:=Tryz.sizeOf168
 v46:=Tryz.zeroValue168
 t50:=Tryz.underlying172
 a50:=Tryz.isAgg172
 z50:=Tryz.sizeOf172
 v50:=Tryz.zeroValue172
 t53:=Tryz.underlying175
 a53:=Tryz.isAgg175
 z53:=Tryz.sizeOf175
 v53:=Tryz.zeroValue175
 t55:=Tryz.underlying177
 a55:=Tryz.isAgg177
 z55:=Tryz.sizeOf177
 v55:=Tryz.zeroValue177
 t66:=Tryz.underlying210
 a66:=Tryz.isAgg210
 z66:=Tryz.sizeOf210
 v66:=Tryz.zeroValue210
 t70:=Tryz.underlying214
 a70:=Tryz.isAgg214
 z70:=Tryz.sizeOf214
 v70:=Tryz.zeroValue214
 t76:=Tryz.underlying258
 a76:=Tryz.isAgg258
 z76:=Tryz.sizeOf258
 v76:=Tryz.zeroValue258
 t77:=Tryz.underlying259
 a77:=Tryz.isAgg259
 z77:=Tryz.sizeOf259
 v77:=Tryz.zeroValue259}
def Tryz.yf:Go.Shelf.Ren:=⟨fun|5=>32|7=>53|n=>n,fun|23=>65|25=>78|3=>39|4=>4|20=>20|n=>n,fun|n=>n⟩
theorem Tryz.HZ:Go.Proofs.SlLaysW.n5 Tryz.prog Tryz.yf:={
 mixed:=by kernel_rfl
 f5:=⟨Tryz.f32.name,by decide,Tryz.func32.trans (congrArg io (by kernel_rfl))⟩
 f7:=Tryz.func53.trans (congrArg io (by kernel_rfl))
 t4:=Tryz.underlying4
 a4:=Tryz.isAgg4
 z4:=Tryz.sizeOf4
 v4:=Tryz.zeroValue4
 t20:=Tryz.underlying20
 a20:=Tryz.isAgg20
 z20:=Tryz.sizeOf20
 v20:=Tryz.zeroValue20
 t23:=Tryz.underlying65
 a23:=Tryz.isAgg65
 z23:=Tryz.sizeOf65
 v23:=Tryz.zeroValue65}
theorem YtllkaddcplhklaaGreatDoor.Nf:Go.Al.Ai Tryz.prog 50 3:=
 ⟨fun enc hk h1 A hO g y x b0 a0 d w eg j hH b u=>AnyQ.slices_SortFunc Tryz.A6 3 (fun _=>Go.Al.eM (YtllkaddcplhklaaGreatDoor.ab 42 _ Z)) (fun _=>Go.Al.aL (YtllkaddcplhklaaGreatDoor.ab 42 _ Z)) enc hk h1 A hO g y x b0 a0 d w eg j hH b u,
  fun p a0 B w=>AnyF.slices_SortFunc_none Tryz.A6 p a0 B w⟩
theorem YtllkaddcplhklaaGreatDoor.Nd:Go.Al.Ai Tryz.prog 52 2:=
 ⟨fun enc hk h1 A hO g y x b0 a0 d w eg j hH b u=>AnyQ.slices_SortFunc Tryz.A5 2 (fun _=>Go.Al.eM (YtllkaddcplhklaaGreatDoor.ab 39 _ Z)) (fun _=>Go.Al.aL (YtllkaddcplhklaaGreatDoor.ab 39 _ Z)) enc hk h1 A hO g y x b0 a0 d w eg j hH b u,
  fun p a0 B w=>AnyF.slices_SortFunc_none Tryz.A5 p a0 B w⟩
theorem YtllkaddcplhklaaGreatDoor.L5:Go.Al.FP Tryz.prog 32:=fun b es clock w hb=>AnyW.maps_Clone Tryz.HZ b es clock w hb
end Go.Proofs
namespace Go.Proofs.YtllkaddcplhklaaGreatDoor
open Go Go.Al Go.Proofs.Tryz Go.Bo
theorem BZ{l u:List Fact}(hF:uv l)(hp:l.Perm u)(hs:oD aT u)(j:l.length<=1000000000000):bF prog 52 [.sl 0 0 l.length 2,aA] [aF 2 l Fact.c] (.bm []) [(0,io (aF 2 u Fact.c))] 1:=
 uH Nd (ba func52 Z (by decide)) (ba func34 Z (by decide)) (by decide) Fact.c aT (fun f=>f.args.length<=1000000000) (fun x y B C=>oQ x y B C) (fun _=>rfl)
  (fun x c A=>(Px.1 A).elim (fun e=>by subst e;rfl) fun A=>by rw[PA.1 A];rfl)
  (fun x _=>lR.Bc x) (fun x y z _ _ _=>lR.tr x y z) (fun x y z _ _ _=>lR.Og) l u hF (fun x _ y _ a b=>lR.KV a b) hp (hs.imp fun{a b} h=>lR.asym h) j aA (fun M N U v h=>by
   cases h with
   |b7 _ _ _ f' c' h1 h2=>simp at h1 h2;simp[Qz h1.symm,Qz h2.symm])
theorem DA{l u:List (bM Fact)}(hF: ∀x∈l,x.2.args.length<=1000000000)(hn:(l.map (·.2)).Nodup)(hp:l.Perm u)(hs:np aT u)(j:l.length<=1000000000000):bF prog 50 [.sl 0 0 l.length 3,.b7 (.func 51) [] []] [aF 3 l b6] (.bm []) [(0,io (aF 3 u b6))] 1:=
 uH Nf (ba func50 Z (by decide)) (ba func51 Z (by decide)) (by decide) b6 (fun a b=>aT a.2 b.2) (fun f=>f.2.args.length<=1000000000) (fun x y A B=>Hl x y A B) (fun _=>rfl)
  (fun x c hc=>by
   rcases Px.1 hc with rfl|hc
   .rfl
   rcases Px.1 hc with rfl|hc
   .rfl
   .rw[PA.1 hc];rfl)
  (fun x _=>lR.Bc x.2) (fun x y z _ _ _=>lR.tr x.2 y.2 z.2) (fun x y z _ _ _=>lR.Og) l u hF (fun x A y B a b=>by
   have e:=lR.KV a b;have key: ∀{l:List (bM Fact)},(l.map (·.2)).Nodup->x∈l->y∈l->x=y:=by
    intro l
    induction l with
    |nil=>intro _ m;cases m
    |cons z r ih=>
     intro hn m1 m2;rw[PB,P2]at hn;rcases Px.1 m1 with e1|e1<;>rcases Px.1 m2 with e2|e2
     .exact e1.trans e2.symm
     .exact absurd (P1.2 ⟨_,e2,by rw[<-e,e1]⟩) hn.1
     .exact absurd (P1.2 ⟨_,e1,by rw[e,e2]⟩) hn.1
     .exact ih hn.2 e1 e2
   exact key hn A B) hp (hs.imp fun{a b} h=>lR.asym h) j _ (fun M N U v h=>by
   cases h with
   |b7 _ _ _ f' c' h1 h2=>simp at h1 h2;simp[Qz h1.symm,Qz h2.symm])
abbrev E5(m:FM)(j:Nat):Fact:=(m.getD j (bt Fact.z,Fact.z)).2
theorem E0{l b:List Fact}(h:uv b)(hp:l.Perm b):uv l:=fun f j=>h f (hp.mem_iff.1 j)
theorem Hf(p:Prog)(n:Nat){m:FM}{S:List Fact}(hk:cQ bt m S)(hs:oD aT S)(hF:uv S)(hl:S.length<=100000000):bF prog 31 [.ptr 1 0] (bO p n m) (.iv (bu 2 S Fact.c)) (bH p n m) 2:=by
 have G:=hk.len;have u:=hk.w8;refine au ab func31 Z (by decide) ntmps31 Z (by simp) ?_;refine gA Z ?_;refine Pq (fun C=>?_) (fun C=>?_)
 .exact absurd C (by decide)
 refine gM 12 Z (cC Z (uO ab Z Z Z Z Z Z (by decide)) ?_);rintro t ⟨bs,clock,hbl,hbn,hbc,rfl⟩;refine gM 2 Z (lq 3 2 Z ?_)
 refine gA Z (Bk m.length (fun vs=>⟨[(3,.sl 4 0 (vs.map (E5 m)).length 2),(12,.ptr 2 0)],[(0,io (.gf kF Bv Fact.z E2 Mk m bs clock)),(1,io (aY p n 0)),(2,io (.dP (.mp 0) clock (jW bs vs))),(4,io (aF 2 (vs.map (E5 m)) Fact.c))],5⟩) (fun _=>True) [3] ac
  (wk Z Z Z (bi (bi ac)) ⟨⟨_,rfl,.of_eq Z⟩,Pj Z,ac,⟨⟨_,rfl,.of_eq Z⟩,Pj Z,rfl,⟨⟨_,rfl,.of_eq Z⟩,Pj Z,rfl,hR Z Z Z ac⟩⟩⟩ Z) fun vs D v2 _=>?_)
 have J:=yR D v2;refine gM 2 Z (cC Z (x7 Z Z Z Z Z (by decide)) ?_);rintro t (⟨hall,rfl⟩|⟨q,x,b,hx,hb,hns,rfl⟩)
 .have y:(vs.map (E5 m)).Perm S:=by
   have:=((Et (d:=(bt Fact.z,Fact.z)) hbl hbn D v2 hall).map (·.2)).trans u;rwa[PW]at this
  have j:=y.length_eq;refine gA Z (bx [4] (BZ (E0 hF y) y hs (by omega)) Z Z Z Z Z (by show[_]=[io (AO.cx _ (aF _ _ _))];rw[b4];rfl) Z Z ?_)
  first
   |(refine gM 1 Z ?_;refine ae (L:=[]) (t:=⟨[(3,.sl 4 0 S.length 2)],[(0,io (aI m)),(1,io (aY p n 0)),(4,io (aF 2 S Fact.c))],5⟩) (wk Z Z Z ⟨.row j,rfl,ac⟩ (oG Z Z Z ⟨⟨_,rfl,.of_eq Z⟩,Pj Z,rfl,hR Z (by rw[PW];exact PN fun x _=>bg _ _) Z ac⟩) Z) ?_)
   |(refine gM 2 Z ?_;refine ae (L:=[]) (t:=⟨[(3,.sl 4 0 S.length 2)],[(0,io (aI m)),(1,io (aY p n 0)),(4,io (aF 2 S Fact.c))],5⟩) (wk Z Z Z ⟨.row j,rfl,ac⟩ (oG Z Z Z ⟨⟨_,rfl,.of_eq Z⟩,Pj Z,rfl,hR Z (by rw[PW];exact PN fun x _=>bg _ _) Z ac⟩) Z) ?_)
   |(refine gM 3 Z ?_;refine ae (L:=[]) (t:=⟨[(3,.sl 4 0 S.length 2)],[(0,io (aI m)),(1,io (aY p n 0)),(4,io (aF 2 S Fact.c))],5⟩) (wk Z Z Z ⟨.row j,rfl,ac⟩ (oG Z Z Z ⟨⟨_,rfl,.of_eq Z⟩,Pj Z,rfl,hR Z (by rw[PW];exact PN fun x _=>bg _ _) Z ac⟩) Z) ?_)
   |(refine gM 4 Z ?_;refine ae (L:=[]) (t:=⟨[(3,.sl 4 0 S.length 2)],[(0,io (aI m)),(1,io (aY p n 0)),(4,io (aF 2 S Fact.c))],5⟩) (wk Z Z Z ⟨.row j,rfl,ac⟩ (oG Z Z Z ⟨⟨_,rfl,.of_eq Z⟩,Pj Z,rfl,hR Z (by rw[PW];exact PN fun x _=>bg _ _) Z ac⟩) Z) ?_)
   |(refine gM 5 Z ?_;refine ae (L:=[]) (t:=⟨[(3,.sl 4 0 S.length 2)],[(0,io (aI m)),(1,io (aY p n 0)),(4,io (aF 2 S Fact.c))],5⟩) (wk Z Z Z ⟨.row j,rfl,ac⟩ (oG Z Z Z ⟨⟨_,rfl,.of_eq Z⟩,Pj Z,rfl,hR Z (by rw[PW];exact PN fun x _=>bg _ _) Z ac⟩) Z) ?_)
   |(refine gM 6 Z ?_;refine ae (L:=[]) (t:=⟨[(3,.sl 4 0 S.length 2)],[(0,io (aI m)),(1,io (aY p n 0)),(4,io (aF 2 S Fact.c))],5⟩) (wk Z Z Z ⟨.row j,rfl,ac⟩ (oG Z Z Z ⟨⟨_,rfl,.of_eq Z⟩,Pj Z,rfl,hR Z (by rw[PW];exact PN fun x _=>bg _ _) Z ac⟩) Z) ?_)
   |(refine gM 7 Z ?_;refine ae (L:=[]) (t:=⟨[(3,.sl 4 0 S.length 2)],[(0,io (aI m)),(1,io (aY p n 0)),(4,io (aF 2 S Fact.c))],5⟩) (wk Z Z Z ⟨.row j,rfl,ac⟩ (oG Z Z Z ⟨⟨_,rfl,.of_eq Z⟩,Pj Z,rfl,hR Z (by rw[PW];exact PN fun x _=>bg _ _) Z ac⟩) Z) ?_)
   |(refine gM 8 Z ?_;refine ae (L:=[]) (t:=⟨[(3,.sl 4 0 S.length 2)],[(0,io (aI m)),(1,io (aY p n 0)),(4,io (aF 2 S Fact.c))],5⟩) (wk Z Z Z ⟨.row j,rfl,ac⟩ (oG Z Z Z ⟨⟨_,rfl,.of_eq Z⟩,Pj Z,rfl,hR Z (by rw[PW];exact PN fun x _=>bg _ _) Z ac⟩) Z) ?_)
   |(refine gM 9 Z ?_;refine ae (L:=[]) (t:=⟨[(3,.sl 4 0 S.length 2)],[(0,io (aI m)),(1,io (aY p n 0)),(4,io (aF 2 S Fact.c))],5⟩) (wk Z Z Z ⟨.row j,rfl,ac⟩ (oG Z Z Z ⟨⟨_,rfl,.of_eq Z⟩,Pj Z,rfl,hR Z (by rw[PW];exact PN fun x _=>bg _ _) Z ac⟩) Z) ?_)
   |(refine gM 10 Z ?_;refine ae (L:=[]) (t:=⟨[(3,.sl 4 0 S.length 2)],[(0,io (aI m)),(1,io (aY p n 0)),(4,io (aF 2 S Fact.c))],5⟩) (wk Z Z Z ⟨.row j,rfl,ac⟩ (oG Z Z Z ⟨⟨_,rfl,.of_eq Z⟩,Pj Z,rfl,hR Z (by rw[PW];exact PN fun x _=>bg _ _) Z ac⟩) Z) ?_)
   |(refine gM 11 Z ?_;refine ae (L:=[]) (t:=⟨[(3,.sl 4 0 S.length 2)],[(0,io (aI m)),(1,io (aY p n 0)),(4,io (aF 2 S Fact.c))],5⟩) (wk Z Z Z ⟨.row j,rfl,ac⟩ (oG Z Z Z ⟨⟨_,rfl,.of_eq Z⟩,Pj Z,rfl,hR Z (by rw[PW];exact PN fun x _=>bg _ _) Z ac⟩) Z) ?_)
   |(refine gM 12 Z ?_;refine ae (L:=[]) (t:=⟨[(3,.sl 4 0 S.length 2)],[(0,io (aI m)),(1,io (aY p n 0)),(4,io (aF 2 S Fact.c))],5⟩) (wk Z Z Z ⟨.row j,rfl,ac⟩ (oG Z Z Z ⟨⟨_,rfl,.of_eq Z⟩,Pj Z,rfl,hR Z (by rw[PW];exact PN fun x _=>bg _ _) Z ac⟩) Z) ?_)
   |(refine gM 13 Z ?_;refine ae (L:=[]) (t:=⟨[(3,.sl 4 0 S.length 2)],[(0,io (aI m)),(1,io (aY p n 0)),(4,io (aF 2 S Fact.c))],5⟩) (wk Z Z Z ⟨.row j,rfl,ac⟩ (oG Z Z Z ⟨⟨_,rfl,.of_eq Z⟩,Pj Z,rfl,hR Z (by rw[PW];exact PN fun x _=>bg _ _) Z ac⟩) Z) ?_)
   |(refine gM 14 Z ?_;refine ae (L:=[]) (t:=⟨[(3,.sl 4 0 S.length 2)],[(0,io (aI m)),(1,io (aY p n 0)),(4,io (aF 2 S Fact.c))],5⟩) (wk Z Z Z ⟨.row j,rfl,ac⟩ (oG Z Z Z ⟨⟨_,rfl,.of_eq Z⟩,Pj Z,rfl,hR Z (by rw[PW];exact PN fun x _=>bg _ _) Z ac⟩) Z) ?_)
   |(refine gM 15 Z ?_;refine ae (L:=[]) (t:=⟨[(3,.sl 4 0 S.length 2)],[(0,io (aI m)),(1,io (aY p n 0)),(4,io (aF 2 S Fact.c))],5⟩) (wk Z Z Z ⟨.row j,rfl,ac⟩ (oG Z Z Z ⟨⟨_,rfl,.of_eq Z⟩,Pj Z,rfl,hR Z (by rw[PW];exact PN fun x _=>bg _ _) Z ac⟩) Z) ?_)
   |(refine gM 16 Z ?_;refine ae (L:=[]) (t:=⟨[(3,.sl 4 0 S.length 2)],[(0,io (aI m)),(1,io (aY p n 0)),(4,io (aF 2 S Fact.c))],5⟩) (wk Z Z Z ⟨.row j,rfl,ac⟩ (oG Z Z Z ⟨⟨_,rfl,.of_eq Z⟩,Pj Z,rfl,hR Z (by rw[PW];exact PN fun x _=>bg _ _) Z ac⟩) Z) ?_)
   |(refine gM 17 Z ?_;refine ae (L:=[]) (t:=⟨[(3,.sl 4 0 S.length 2)],[(0,io (aI m)),(1,io (aY p n 0)),(4,io (aF 2 S Fact.c))],5⟩) (wk Z Z Z ⟨.row j,rfl,ac⟩ (oG Z Z Z ⟨⟨_,rfl,.of_eq Z⟩,Pj Z,rfl,hR Z (by rw[PW];exact PN fun x _=>bg _ _) Z ac⟩) Z) ?_)
   |(refine gM 18 Z ?_;refine ae (L:=[]) (t:=⟨[(3,.sl 4 0 S.length 2)],[(0,io (aI m)),(1,io (aY p n 0)),(4,io (aF 2 S Fact.c))],5⟩) (wk Z Z Z ⟨.row j,rfl,ac⟩ (oG Z Z Z ⟨⟨_,rfl,.of_eq Z⟩,Pj Z,rfl,hR Z (by rw[PW];exact PN fun x _=>bg _ _) Z ac⟩) Z) ?_)
   |(refine gM 19 Z ?_;refine ae (L:=[]) (t:=⟨[(3,.sl 4 0 S.length 2)],[(0,io (aI m)),(1,io (aY p n 0)),(4,io (aF 2 S Fact.c))],5⟩) (wk Z Z Z ⟨.row j,rfl,ac⟩ (oG Z Z Z ⟨⟨_,rfl,.of_eq Z⟩,Pj Z,rfl,hR Z (by rw[PW];exact PN fun x _=>bg _ _) Z ac⟩) Z) ?_)
   |(refine gM 20 Z ?_;refine ae (L:=[]) (t:=⟨[(3,.sl 4 0 S.length 2)],[(0,io (aI m)),(1,io (aY p n 0)),(4,io (aF 2 S Fact.c))],5⟩) (wk Z Z Z ⟨.row j,rfl,ac⟩ (oG Z Z Z ⟨⟨_,rfl,.of_eq Z⟩,Pj Z,rfl,hR Z (by rw[PW];exact PN fun x _=>bg _ _) Z ac⟩) Z) ?_)
   |(refine gM 21 Z ?_;refine ae (L:=[]) (t:=⟨[(3,.sl 4 0 S.length 2)],[(0,io (aI m)),(1,io (aY p n 0)),(4,io (aF 2 S Fact.c))],5⟩) (wk Z Z Z ⟨.row j,rfl,ac⟩ (oG Z Z Z ⟨⟨_,rfl,.of_eq Z⟩,Pj Z,rfl,hR Z (by rw[PW];exact PN fun x _=>bg _ _) Z ac⟩) Z) ?_)
   |(refine gM 22 Z ?_;refine ae (L:=[]) (t:=⟨[(3,.sl 4 0 S.length 2)],[(0,io (aI m)),(1,io (aY p n 0)),(4,io (aF 2 S Fact.c))],5⟩) (wk Z Z Z ⟨.row j,rfl,ac⟩ (oG Z Z Z ⟨⟨_,rfl,.of_eq Z⟩,Pj Z,rfl,hR Z (by rw[PW];exact PN fun x _=>bg _ _) Z ac⟩) Z) ?_)
   |(refine gM 23 Z ?_;refine ae (L:=[]) (t:=⟨[(3,.sl 4 0 S.length 2)],[(0,io (aI m)),(1,io (aY p n 0)),(4,io (aF 2 S Fact.c))],5⟩) (wk Z Z Z ⟨.row j,rfl,ac⟩ (oG Z Z Z ⟨⟨_,rfl,.of_eq Z⟩,Pj Z,rfl,hR Z (by rw[PW];exact PN fun x _=>bg _ _) Z ac⟩) Z) ?_)
   |(refine gM 24 Z ?_;refine ae (L:=[]) (t:=⟨[(3,.sl 4 0 S.length 2)],[(0,io (aI m)),(1,io (aY p n 0)),(4,io (aF 2 S Fact.c))],5⟩) (wk Z Z Z ⟨.row j,rfl,ac⟩ (oG Z Z Z ⟨⟨_,rfl,.of_eq Z⟩,Pj Z,rfl,hR Z (by rw[PW];exact PN fun x _=>bg _ _) Z ac⟩) Z) ?_)
   |(refine gM 25 Z ?_;refine ae (L:=[]) (t:=⟨[(3,.sl 4 0 S.length 2)],[(0,io (aI m)),(1,io (aY p n 0)),(4,io (aF 2 S Fact.c))],5⟩) (wk Z Z Z ⟨.row j,rfl,ac⟩ (oG Z Z Z ⟨⟨_,rfl,.of_eq Z⟩,Pj Z,rfl,hR Z (by rw[PW];exact PN fun x _=>bg _ _) Z ac⟩) Z) ?_)
   |(refine gM 26 Z ?_;refine ae (L:=[]) (t:=⟨[(3,.sl 4 0 S.length 2)],[(0,io (aI m)),(1,io (aY p n 0)),(4,io (aF 2 S Fact.c))],5⟩) (wk Z Z Z ⟨.row j,rfl,ac⟩ (oG Z Z Z ⟨⟨_,rfl,.of_eq Z⟩,Pj Z,rfl,hR Z (by rw[PW];exact PN fun x _=>bg _ _) Z ac⟩) Z) ?_)
   |(refine gM 27 Z ?_;refine ae (L:=[]) (t:=⟨[(3,.sl 4 0 S.length 2)],[(0,io (aI m)),(1,io (aY p n 0)),(4,io (aF 2 S Fact.c))],5⟩) (wk Z Z Z ⟨.row j,rfl,ac⟩ (oG Z Z Z ⟨⟨_,rfl,.of_eq Z⟩,Pj Z,rfl,hR Z (by rw[PW];exact PN fun x _=>bg _ _) Z ac⟩) Z) ?_)
   |(refine gM 28 Z ?_;refine ae (L:=[]) (t:=⟨[(3,.sl 4 0 S.length 2)],[(0,io (aI m)),(1,io (aY p n 0)),(4,io (aF 2 S Fact.c))],5⟩) (wk Z Z Z ⟨.row j,rfl,ac⟩ (oG Z Z Z ⟨⟨_,rfl,.of_eq Z⟩,Pj Z,rfl,hR Z (by rw[PW];exact PN fun x _=>bg _ _) Z ac⟩) Z) ?_)
   |(refine gM 29 Z ?_;refine ae (L:=[]) (t:=⟨[(3,.sl 4 0 S.length 2)],[(0,io (aI m)),(1,io (aY p n 0)),(4,io (aF 2 S Fact.c))],5⟩) (wk Z Z Z ⟨.row j,rfl,ac⟩ (oG Z Z Z ⟨⟨_,rfl,.of_eq Z⟩,Pj Z,rfl,hR Z (by rw[PW];exact PN fun x _=>bg _ _) Z ac⟩) Z) ?_)
  refine rI 4 (fun k=>Fact.c (S.getD k co)) Z (gj Z) ⟨by simp[PV.da],ac⟩ ⟨ac,(by simp[AO.q9,dQ,PV.da]),AV _ _ _ _ _ _,ac⟩ ?_;refine gA Z (bd [] (by first|exact .inr Z|exact .inl Z) Z (wk Z Z Z ⟨.cB Z (fun k _=>by rw[PT]),rfl,ac⟩ (hM Z Z Z ⟨⟨_,rfl,.of_eq Z⟩,Pj Z,rfl,ac⟩) Z))
 .have I:q<m.length:=(Pm.1 hx).1;have B:x.2=E5 m q:=by rw[E5,Pn,hx];rfl
  have A:x.2∈S:=u.mem_iff.1 (P1.2 ⟨x,P0 hx,rfl⟩);refine gM 8 Z (cC Z (vp Z Z Z Z uI hb hx Z) ?_);rintro t rfl;refine gA Z (aC (kS x.2 (by have:=hF _ A;omega)) Z Z Z Z Z Z ?_);refine gA Z ⟨q,I,su hb hns,ac,[7],wk Z Z Z ⟨.row (by simp),rfl,bi ac⟩ ⟨⟨_,rfl,.of_eq Z⟩,Pj Z,ac,⟨⟨_,rfl,.of_eq Z⟩,Pj Z,rfl,⟨⟨_,rfl,.of_eq (by rw[pH hb];rfl)⟩,Pj Z,rfl,hR Z (by rw[PH,PH,B];rfl) Z ac⟩⟩⟩ Z⟩
theorem y3(p:Prog)(n:Nat){m:FM}{S:List Fact}(hk:cQ bt m S)(hs:oD aT S)(hF:uv S)(hl:S.length<=100000000):bF prog 15 [.ptr 1 0] (bO p n m) (.iv (bu 2 S Fact.c)) (bH p n m) 2:=by
 refine au ab func15 Z (by decide) ntmps15 Z (by simp) ?_;refine gA Z (bx [0,1] (No p n m) Z Z Z Z Z Z Z Z ?_);refine gA Z (bx [0,1] (Hf p n hk hs hF hl) Z Z Z Z Z Z Z Z ?_);refine gA Z (bd [] (by first|exact .inr Z|exact .inl Z) Z (wk Z Z Z (bi ac) (hM Z Z Z ⟨⟨_,rfl,.of_eq Z⟩,Pj Z,rfl,ac⟩) Z))
abbrev kN(m:CM)(j:Nat):bM Fact:=(m.getD j (bt Fact.z,bM.z)).2
theorem Cs{m:CM}{vs:List Nat}(hn:vs.Nodup)(u: ∀j∈vs,j<m.length)(h: ∀j,j<m.length->j∈vs):(vs.reverse.map (kN m)).Perm (m.map (·.2)):=by
 have h1:=(vJ hn u h).map fun j=>m.getD j (bt Fact.z,bM.z);rw[fL]at h1;have b:=h1.map (·.2);rw[PW]at b;exact((List.reverse_perm vs).map _).trans b
theorem JT{b:CM}{L:List (bM Fact)}(hp:(b.map (·.2)).Perm L)(hs:np aT L)(hF: ∀x∈L,x.2.args.length<=1000000000)(hl:L.length<=100000000):Pure prog 27 [.iv (yE b)] (.iv (bu 3 L b6)):=by
 have b0:b.length=L.length:=by have:=hp.length_eq;rwa[PX]at this
 refine ah ab func27 Z (by decide) ntmps27 Z (by simp) Z ?_;refine gA Z ?_;refine lq 3 3 Z ?_;refine eY b (fun vs=>⟨[(3,.sl 2 0 (vs.reverse.map (kN b)).length 3),(7,.ptr 0 0)],[(0,io (.bL kF yF b vs is)),(2,io (aF 3 (vs.reverse.map (kN b)) b6))],3⟩) (fun vs=>vs.Nodup∧ ∀j∈vs,j<b.length) [1] ⟨Qa,by simp⟩
  (wk Z Z Z (bi (bi trivial)) (hI Z Z (.inl Z) Z (hR Z Z Z trivial)) Z) fun vs Y=>?_
 obtain⟨y,A⟩:=Y;have c0:=yR y A;refine fk Z ac (dq Z Z Z Z Z (by decide) (fun C=>?_) fun j x B R=>?_)
 .have D:=(Cs y A C).trans hp;have G:=D.length_eq;refine gA Z (bx [2] (DA (fun x B=>hF x (D.mem_iff.1 B)) (((D.map (·.2)).nodup_iff).2 ((np.facts hs).nodup lR)) D hs (by omega)) Z Z Z Z Z (by show[_]=[io (AO.cx _ (aF _ _ _))];rw[b4];rfl) Z Z ?_);refine gA Z (dt (by first|exact .inr Z|exact .inl Z) Z Z ((by rw[PW];exact PN fun x _=>bg _ _)) (G))
 .have J:x.2=kN b j:=by rw[kN,Pn,B];rfl
  have I:x.2∈L:=hp.mem_iff.1 (P1.2 ⟨x,P0 B,rfl⟩);have a0: ∀u,u=j::vs->u.Nodup∧ ∀i∈u,i<b.length:=fun u e=>e▸⟨P2.2 ⟨R,y⟩,fun i hi=>(Px.1 hi).elim (fun h=>h▸(Pm.1 B).1) (A i)⟩;refine gA Z (bD ab [] (Pure.rN (kS x.2.2 (by have:=hF _ I;omega))) Z Z Z Z Z Z Z Z Z Z Z Z (by(repeat' (first|exact ac|exact rfl|exact an.refl _|exact an.bk (by assumption)|apply Pq))<;>first|omega|(simp only[Pr];omega)|(simp;done)|(simp;omega)) Z (by(repeat' (first|exact ac|exact rfl|exact an.refl _|exact an.bk (by assumption)|apply Pq))<;>first|omega|(simp only[Pr];omega)|(simp;done)|(simp;omega)) ?_);refine gA Z ⟨j,x,B,R,a0 _ Z,[5],wk Z Z Z ⟨.row (by simp),rfl,bi ac⟩ (hI Z Z (.inr Z) Z (hR Z (by rw[List.reverse_cons,PH,PH,List.map_singleton,<-J];rfl) Z ac)) Z⟩
abbrev BJ:AO:= .cells [.ptr 1 0]
abbrev nO(p:Prog)(n:Nat)(m:FM):List AO:=[aI m,aY p n 0,BJ]
abbrev nH(p:Prog)(n:Nat)(m:FM):AH:=[(0,io (aI m)),(1,io (aY p n 0)),(2,io BJ)]
def lN(m:FM)(e:kF.K×bM Fact):Bool:=c8 kF m e.1==e.2.1
theorem Nq(p:Prog)(n:Nat)(m:FM)(k:kF.K)(x:bM Fact):bF prog 48 [kF.pk k,ag (b6 x),.ptr 2 0] (nO p n m) (pB (lN m (k,x))) (nH p n m) 3:=by
 refine au ab func48 Z (by decide) ntmps48 Z (by simp) ?_;refine gA Z (bd [] (by first|exact .inr Z|exact .inl Z) Z (wk Z Z Z (bi ac) (hM Z Z Z ⟨⟨_,rfl,.of_eq Z⟩,Pj Z,rfl,⟨⟨_,rfl,.of_eq Z⟩,Pj Z,rfl,ac⟩⟩) Z))
theorem Ow(p:Prog)(n:Nat)(m:FM)(u:CM)(hn:(u.map (·.1)).Nodup)(hl:u.length<=1000000000):bF prog 47 [.mp 3,.b7 (.func 48) [] [.ptr 2 0]] (nO p n m++ [Ft u]) (.bm []) (nH p n m++ [(3,io (Ft (u.filter fun e=>!lN m e)))]) 4:=by
 refine au ab func47 Z (by decide) ntmps47 Z (by simp) ?_;refine gM 3 Z (cC Z (uO ab Z Z Z Z Z Z (by decide)) ?_);rintro t ⟨bs,clock,hbl,hbn,hbc,rfl⟩
 refine gA Z (Bk u.length (fun vs=>⟨[(0,.mp 3),(1,.b7 (.func 48) [] [.ptr 2 0]),(7,.ptr 4 0)],[(0,io (aI m)),(1,io (aY p n 0)),(2,io BJ),(3,io (.gf kF yF bM.z It Oi (mr u (bt Fact.z,bM.z) (fun j=>lN m (u.getD j (bt Fact.z,bM.z))) vs) (nA u.length bs (fun j=>lN m (u.getD j (bt Fact.z,bM.z))) vs) clock)),(4,io (.dP (.mp 3) clock (jW bs vs)))],5⟩) (fun _=>True) [] ac
  (wk Z Z Z (bi (bi (bi ac))) (hM Z Z Z ⟨⟨_,rfl,.of_eq Z⟩,Pj Z,rfl,⟨⟨_,rfl,.of_eq Z⟩,Pj Z,rfl,⟨⟨_,rfl,.of_eq (by rw[Cx,Cy hbl];rfl)⟩,Pj Z,ac,⟨⟨_,rfl,.of_eq Z⟩,Pj Z,rfl,ac⟩⟩⟩⟩) Z) fun vs R v2 _=>?_)
 refine gM 2 Z (cC Z (x7 Z Z Z Z Z (by decide)) ?_);rintro t (⟨hall,rfl⟩|⟨q,x,b,hx,hb,hns,rfl⟩)
 .have hE:=Ey (d:=(bt Fact.z,bM.z)) hbl hbn v2 (lN m) (fun j=>rfl) hall;refine gA Z (bd [] (by first|exact .inr Z|exact .inl Z) Z (wk Z Z Z (bi ac) (hM Z Z Z ⟨⟨_,rfl,.of_eq Z⟩,Pj Z,rfl,⟨⟨_,rfl,.of_eq Z⟩,Pj Z,rfl,oG Z hE Z ac⟩⟩) Z))
 .obtain⟨j,B,C,y,I⟩:=left_at hbl hx hb;have D:u.getD j (bt Fact.z,bM.z)=x:=by rw[Pn,C];rfl
  refine gM 8 Z (cC Z (vp Z Z Z Z uI hb hx Z) ?_);rintro t rfl;refine gA Z (bx [0,1,2] (Nq p n m x.1 x.2) Z Z Z Z Z Z Z Z ?_);have G:lN m (x.1,x.2)=lN m (u.getD j (bt Fact.z,bM.z)):=by rw[D]
  refine gA Z ?_;refine Pq (fun g1=>?_) (fun g1=>?_)
  .have g1:lN m (u.getD j (bt Fact.z,bM.z))=jp:=by rw[<-G];exact g1
   obtain⟨A,J⟩:=Ex (m:=u) (d:=(bt Fact.z,bM.z)) (bs:=bs) (dl:=fun j=>lN m (u.getD j (bt Fact.z,bM.z))) g1 B;refine gM 3 Z (cC Z (Ac ab Z Z Z Z Z Z (rfl:kF.dk _=io x.1) (Bu ((Cw.map _).nodup hn) hx) Z) ?_);rintro t rfl;refine gA Z ⟨j,I,su y hns,ac,[],wk Z Z Z (bi (bi (bi ac))) (hM Z Z Z ⟨⟨_,rfl,.of_eq Z⟩,Pj Z,rfl,⟨⟨_,rfl,.of_eq Z⟩,Pj Z,rfl,⟨⟨_,rfl,.of_eq (by rw[A,J];rfl)⟩,Pj Z,ac,⟨⟨_,rfl,.of_eq (by rw[pH y];rfl)⟩,Pj Z,rfl,ac⟩⟩⟩⟩) Z⟩
  .have g1:lN m (u.getD j (bt Fact.z,bM.z))=kw:=by rw[<-G];exact g1
   have A:=zx (n:=u.length) (vs:=vs) (dl:=fun j=>lN m (u.getD j (bt Fact.z,bM.z))) g1;refine gA Z ⟨j,I,su y hns,ac,[],wk Z Z Z (bi (bi (bi ac))) (hM Z Z Z ⟨⟨_,rfl,.of_eq Z⟩,Pj Z,rfl,⟨⟨_,rfl,.of_eq Z⟩,Pj Z,rfl,⟨⟨_,rfl,.of_eq (by unfold mr nA;rw[A];rfl)⟩,Pj Z,ac,⟨⟨_,rfl,.of_eq (by rw[pH y];rfl)⟩,Pj Z,rfl,ac⟩⟩⟩⟩) Z⟩
end Go.Proofs.YtllkaddcplhklaaGreatDoor
namespace Go.Proofs.YtllkaddcplhklaaGreatDoor
open Go Go.Al
def CL(p:Prog)(f:Fact)(j:Nat):Bool:=lc ((f.args.getD j co).kind=(fQ p f.rel).types.getD j co)
def pr(p:Prog)(f:Fact):Int:=
 if c8 .str (qz p) f.rel=kw∨j5 f=kw∨ ¬(f.args.length:Int)=((fQ p f.rel).types.length:Int) then 5
 else if(PY f.args.length).all (CL p f)=jp then 0 else 5
theorem Cd{q:Nat->Bool}{n:Nat}(h: ∀j,j<n->q j=jp):(PY n).all q=jp:=P8.2 fun j b=>h j (QQ.1 b)
theorem Cc{q:Nat->Bool}{n j:Nat}(h:j<n)(b:q j=kw): ¬(PY n).all q=jp:=fun e=>by
 have:=P8.1 e j (QQ.2 h);rw[b]at this;cases this
theorem c16(p:Prog)(f:Fact)(hb:p.aS.length<=1000000000)(hf:f.args.length<=1000000000):Pure Tryz.prog 45 [ag p.c,ag f.c] (pI (pr p f)):=by
 refine ah ab Tryz.func45 Z (by decide) Tryz.ntmps45 Z (by simp) Z ?_;refine gA Z (zd [] (d50 p (by omega)) ?_);refine zE Z Z (fun g1=>?_) fun g1=>?_
 .have g1:c8 .str (qz p) f.rel=kw:=by simpa using g1
  rw[pr,am (.inl g1)];exact zU Z
 have g1: ¬c8 .str (qz p) f.rel=kw:=by
  have g:(!c8 .str (qz p) f.rel)=kw:=g1;intro h;rw[h]at g;cases g
 refine gA Z (zp (c55 f) ?_);refine zE Z Z (fun g2=>?_) fun g2=>?_
 .have g2:j5 f=kw:=by
   cases h:j5 f with
   |false=>rfl
   |true=>
    have g:(!lc ((if j5 f then(0:Int) else 20)=0))=jp:=g2;rw[h]at g;simp at g
  rw[pr,am (.inr (.inl g2))];exact zU Z
 have g2: ¬j5 f=kw:=by
  intro h;have g:(!lc ((if j5 f then(0:Int) else 20)=0))=kw:=g2;rw[h]at g;simp at g
 refine zJ Z Z (fun g3=>?_) fun g3=>?_
 .have g3: ¬(f.args.length:Int)=((fQ p f.rel).types.length:Int):=by
   have g:(!lc ((f.args.length:Int)=((fQ p f.rel).types.length:Int)))=jp:=g3;simpa only[Qs,decide_eq_false_iff_not]using g
  rw[pr,am (.inr (.inr g3))];exact zU Z
 have g3:(f.args.length:Int)=((fQ p f.rel).types.length:Int):=by
  have g:(!lc ((f.args.length:Int)=((fQ p f.rel).types.length:Int)))=kw:=g3;simpa only[Q5,decide_eq_true_eq]using g
 rw[pr,be (by rintro(h|h|h);exact g1 h;exact g2 h;exact h g3)];refine gA Z ?_;refine aJ 0 f.args.length (PC _) (fun i=>⟨[(5,.ptr 3 0),(34,.iv (bu 3 f.args dU.c)),(35,pI f.args.length),(36,pI i)],[(3,io (az (fQ p f.rel).c))],4⟩) (fun i=> ∀j,j<i->CL p f j=jp) [] (fun j u=>absurd u (Rl j))
  (zW (zO trivial)) fun i y x=>?_
 refine zJ Z Z (fun h1=>?_) fun h1=>?_
 .have h1:i<f.args.length:=zN h1;refine zJ Z Z (fun b=>?_) fun b=>?_
  .have b:CL p f i=kw:=by
    have g:(!CL p f i)=jp:=b;simpa using g
   rw[be (Cc h1 b)];exact zU Z
  .have b:CL p f i=jp:=by
    have g:(!CL p f i)=kw:=b;simpa using g
   refine gA Z ⟨h1,fun j u=>by rcases Q9.1 u with h|h;exact x j h;exact h▸b,[],zW (zO ac)⟩
 .have h1:f.args.length<=i:=zG h1;rw[am (Cd fun j u=>x j (by omega))];exact zU Z
end Go.Proofs.YtllkaddcplhklaaGreatDoor
namespace Go.Proofs.YtllkaddcplhklaaGreatDoor
open Go Go.Al Go.Proofs.Tryz Go.Bo
def okF(p:Prog)(f:Fact):Bool:=lc (pr p f=0)
theorem gm{p:Prog}{f:Fact}(h:okF p f=jp):f.args.length<=8:=by
 have h:=of_decide_eq_true h;unfold pr at h;split at h
 .cases h
 .rename_i g;have g2: ¬j5 f=kw:=fun e=>g (.inr (.inl e));rw[SU]at g2;unfold j5 at g2;simp only[Qf,decide_eq_true_eq]at g2;exact g2.2.1
abbrev mapOf(T:List (bM Fact)):CM:=T.map fun x=>(bt x.2,x)
theorem yb{T:List (bM Fact)}(hn:(T.map (·.2)).Nodup)(j: ∀x∈T,x.2.args.length<=8):((mapOf T).map (·.1)).Nodup:=by
 induction T with
 |nil=>exact Qa
 |cons x r ih=>
  rw[PB,P2]at hn;rw[mapOf,PB,PB,P2];refine⟨fun m=>?_,ih hn.2 fun y b=>j y (Py _ b)⟩;obtain⟨e,A,u⟩:=P1.1 m;obtain⟨y,b,rfl⟩:=P1.1 A;have:=pb (j y (Py _ b)) u;exact hn.1 (P1.2 ⟨y,b,this⟩)
def bV(S:List Fact)(l:List (bM Fact)):List (bM Fact):=(lM l).filter fun x=>!(lc (x.2∈S)==x.1)
theorem vc{l:List (bM Fact)}{x:bM Fact}(h:x∈lM l):x∈l:=by
 have:=((oh l).2 x.1 x.2).1 h;exact eA this
theorem CC{m:FM}{S:List Fact}(hk:cQ bt m S)(b: ∀f∈S,f.args.length<=8)(f:Fact):c8 kF m (bt f)=lc (f∈S):=by
 have:=hk.has (f:=f) fun u hu e=>pb (b u hu) e;by_cases h:f∈S
 .rw[decide_eq_true h,this.2 h]
 .rw[decide_eq_false h];cases e:c8 kF m (bt f) with
  |false=>rfl
  |true=>exact absurd (this.1 e) h
theorem D1{m:FM}{S:List Fact}(hk:cQ bt m S)(b: ∀f∈S,f.args.length<=8)(l:List (bM Fact)):((mapOf (lM l)).filter fun e=>!lN m e)=mapOf (bV S l):=by
 unfold bV mapOf;rw[List.filter_map];congr 1;refine Rt fun x _=>?_;show(!(c8 kF m (bt x.2)==x.1))=_;rw[CC hk b]
theorem xK: ∀(T:List (bM Fact)) (c:bM Fact),(jy T c).length<=T.length+1
 | [],_=>Pv _
 |x::r,c=>by
  have:=xK r c;unfold jy;split
  .simp
  .simp only[PO];omega
theorem CB(l:List (bM Fact)):(lM l).length<=l.length:=by
 have key: ∀(l T:List (bM Fact)),(l.foldl jy T).length<=T.length+l.length:=by
  intro l
  induction l with
  |nil=>intro T;exact Pv _
  |cons c r ih=>
   intro T;have h1:=ih (jy T c);have b:=xK T c;rw[Qg,PO];omega
 have:=key l [];show(l.foldl jy []).length<=_;simpa using this
def w4(x:bM Fact):Int:=if x.1=jp then 1 else-1
theorem xR{a b:List Int}(h:a.Perm b):a.sum=b.sum:=by
 induction h with
 |nil=>rfl
 |cons x _ ih=>rw[Qt,Qt,ih]
 |swap x y l=>rw[Qt,Qt,Qt,Qt];omega
 |trans _ _ a b=>exact a.trans b
theorem AB: ∀(T:List (bM Fact)),(T.map w4).sum=((T.filter fun x=>x.1).length:Int)-((T.filter fun x=>!x.1).length:Int)
 | []=>rfl
 |x::r=>by
  rw[PB,Qt,AB r];cases h:x.1 with
  |true=>simp[w4,h];omega
  |false=>simp[w4,h];omega
theorem D0{S:List Fact}(hS:oD aT S)(l:List (bM Fact)):(S.length:Int)+((bV S l).map w4).sum=(eV aT S l).length:=by
 have b:(bV S l).Perm (bK aT S l):=lj lR S l;rw[xR (b.map w4),AB];have:=Ej lR hS l;omega
theorem B5(T:List (bM Fact)): -(T.length:Int)<=(T.map w4).sum∧(T.map w4).sum<=T.length:=by
 induction T with
 |nil=>simp
 |cons x r ih=>
  rw[PB,Qt,PO];unfold w4 at*
  split<;>omega
def Em(p:Prog)(S:List Fact)(l:List (bM Fact)):PV:=
 if ft aT (okF p) S l=0 then .bm [.iv (yE (mapOf (bV S l))),pI 0] else .bm [.iv (.v (.map is)),pI (ft aT (okF p) S l)]
theorem oZ{p:Prog}{S:List Fact}{l:List (bM Fact)}{e:Int}(h:ft aT (okF p) S l=e)(h0:e≠0):Em p S l= .bm [.iv (.v (.map is)),pI e]:=by
 unfold Em;rw[h,be h0]
theorem wq{p:Prog}{S:List Fact}{l:List (bM Fact)}(h:ft aT (okF p) S l=0):Em p S l= .bm [.iv (yE (mapOf (bV S l))),pI 0]:=by
 unfold Em;rw[am h]
theorem Nk(p:Prog)(n:Nat){m:FM}{S:List Fact}(l:List (bM Fact))(hb:p.aS.length<=1000000000)(hk:cQ bt m S)(hS:fz aT (okF p) S)(hF: ∀x∈l,x.2.args.length<=1000000000):
  bF prog 25 [.ptr 1 0,.iv (bu 3 l b6)] (bO p n m) (Em p S l) (bH p n m) 2:=by
 have s0:=hk.len;have i0:=hS.OF;have f0: ∀f∈S,f.args.length<=8:=fun f hf=>gm (hS.ok f hf);refine au ab func25 Z (by decide) ntmps25 Z (by simp) ?_;refine gA Z ?_;refine Pq (fun k1=>?_) (fun k1=>?_)
 .exact absurd k1 (by decide)
 refine gA Z ?_;refine Pq (fun I=>?_) (fun I=>?_)
 .have I:4096<l.length:=by have:=of_decide_eq_true I;omega
  rw[oZ (e:=2) (by unfold ft;rw[am I]) (by decide)];refine gA Z (bd [] (by first|exact .inr Z|exact .inl Z) Z (wk Z Z Z (bi ac) (hM Z Z Z ⟨⟨_,rfl,.of_eq Z⟩,Pj Z,rfl,ac⟩) Z))
 have I:l.length<=4096:=by have:=of_decide_eq_false I;omega
 refine gA Z ?_;refine aJ 0 l.length (PC _) (fun i=>⟨[(2,.ptr 2 0),(6,.mp 3),(20,.iv (bu 3 l b6)),(21,pI l.length),(22,pI i)],[(0,io (aI m)),(1,io (aY p n 0)),(2,io BJ),(3,io (Ft (mapOf (lM (l.take i)))))],4⟩) (fun i=> ∀x∈l.take i,okF p x.2=jp) [] (by simp)
  (wk Z Z Z (bi (bi (bi (bi (bi trivial))))) (hM Z Z Z ⟨⟨_,rfl,.of_eq Z⟩,Pj Z,rfl,⟨⟨_,rfl,.of_eq Z⟩,Pj Z,rfl,LO Z Is Z trivial⟩⟩) Z) fun i hi J=>?_
 refine gA Z ?_;refine Pq (fun h1=>?_) (fun h1=>?_)
 .have h1:i<l.length:=by simpa using h1
  have d0:l.getD i co∈l:=by rw[Pn,Po h1];exact P7 h1
  have R:=gQ (g:=jy) (b:=([]:List (bM Fact))) h1;have p0:=ct (l:=l) h1;refine gA Z (bD ab [] (Pure.rN (c16 p (l.getD i co).2 hb (hF _ d0))) Z Z Z Z Z Z Z Z Z Z Z Z (by(repeat' (first|exact ac|exact rfl|exact an.refl _|exact an.bk (by assumption)|apply Pq))<;>first|omega|(simp only[Pr];omega)|(simp;done)|(simp;omega)) Z (by(repeat' (first|exact ac|exact rfl|exact an.refl _|exact an.bk (by assumption)|apply Pq))<;>first|omega|(simp only[Pr];omega)|(simp;done)|(simp;omega)) ?_);refine gA Z ?_;refine Pq (fun g1=>?_) (fun g1=>?_)
  .have g1:okF p (l.getD i co).2=kw:=by
    have g:(!lc (pr p (l.getD i co).2=0))=jp:=g1;rw[Qs]at g;exact g
   rw[oZ (e:=5) (by
    unfold ft;rw[be (by omega),am]
    exact List.all_eq_false.2 ⟨_,d0,by rw[g1];decide⟩) (by decide)]
   refine gA Z (bd [] (by first|exact .inr Z|exact .inl Z) Z (wk Z Z Z (bi ac) (hM Z Z Z ⟨⟨_,rfl,.of_eq Z⟩,Pj Z,rfl,ac⟩) Z))
  .have g1:okF p (l.getD i co).2=jp:=by
    have g:(!lc (pr p (l.getD i co).2=0))=kw:=g1;rw[Q5]at g;exact g
   have r0:=gm g1;refine gA Z (aC (Ll (l.getD i co).2 r0) Z Z Z Z Z Z ?_);have n0:=Ce (kc:=kF) (key:=bt) (lM (l.take i)) (l.getD i co) fun y hy e=>pb (gm (J y (vc hy))) e;refine fk Z ?_ ?_
   .repeat' (first|exact ac|exact rfl|exact Iu _|exact an.refl _|apply Pq)
    all_goals omega
   refine⟨h1,fun x u=>?_,[],wk Z Z Z (bi (bi (bi (bi (bi ac))))) (hM Z Z Z ⟨⟨_,rfl,.of_eq Z⟩,Pj Z,rfl,⟨⟨_,rfl,.of_eq Z⟩,Pj Z,rfl,hM Z ?_ Z ac⟩⟩) Z⟩
   .rw[p0,PI,PA]at u;exact u.elim (J x) fun e=>e▸g1
   .show _=(lM (l.take (i+1))).map fun x=>(bt x.2,x)
    unfold lM at*
    rw[R,<-n0,<-J5 (l.getD i co)];rfl
 .have h1:l.length<=i:=by simpa using h1
  have j0:i=l.length:=by omega
  subst j0;rw[PJ (Pv _)]at J ⊢;have B:(l.all fun x=>okF p x.2)=jp:=P8.2 J;have m0:=yb (oh l).1 fun x u=>gm (J x (vc u));have o0:=D1 hk f0 l;have v0:=D0 hS.yQ l;have k0:=CB l;have t0:(bV S l).length<=l.length:=P9 (QK _ _) k0;refine gA Z (bx [0,1,2,3] (Ow p n m (mapOf (lM l)) m0 (by rw[mapOf,PX];omega)) Z Z Z Z Z Z Z Z ?_);rw[o0];refine gA Z ?_
  refine eY (mapOf (bV S l)) (fun vs=>⟨[(6,.iv (yE (mapOf (bV S l)))),(11,pI ((m.length:Int)+(vs.map fun j=>w4 (kN (mapOf (bV S l)) j)).sum)),(54,.ptr 4 0)],[(0,io (aI m)),(1,io (aY p n 0)),(4,io (.bL kF yF (mapOf (bV S l)) vs is))],5⟩) (fun vs=>vs.Nodup∧ ∀j∈vs,j<(mapOf (bV S l)).length) [] ⟨Qa,by simp⟩
   (wk Z Z Z (bi ⟨bq (by simp),rfl,bi trivial⟩) (hM Z Z Z ⟨⟨_,rfl,.of_eq Z⟩,Pj Z,rfl,hI Z Z (.inl Z) Z trivial⟩) Z) fun vs e0=>?_
  obtain⟨v1,v2⟩:=e0;have q0:=yR v1 v2;rw[PX]at q0;have G:=B5 (vs.map (kN (mapOf (bV S l))));rw[PW,PX]at G;have Y:=G.1;have a0:=G.2;have g0:(w4 ∘ kN (mapOf (bV S l)))=fun j=>w4 (kN (mapOf (bV S l)) j):=rfl;rw[g0]at Y a0;refine fk Z ac (dq Z Z Z Z Z (by decide) (fun C=>?_) fun j x u hj=>?_)
  .have hq:(vs.map fun j=>w4 (kN (mapOf (bV S l)) j)).sum=((bV S l).map w4).sum:=by
    have h1:=((vJ v1 v2 C).map fun j=>(mapOf (bV S l)).getD j (bt Fact.z,bM.z)).map fun e=>w4 e.2;rw[fL,PW,PW]at h1;exact xR h1
   rw[hq];refine gA Z ?_;refine Pq (fun g2=>?_) (fun g2=>?_)
   .have g2:65536<(eV aT S l).length:=by have:=of_decide_eq_true g2;omega
    rw[oZ (e:=3) (by unfold ft;rw[be (by omega),be (by rw[B];decide),am g2]) (by decide)];refine gA Z (bd [] (by first|exact .inr Z|exact .inl Z) Z (wk Z Z Z (bi ac) (hM Z Z Z ⟨⟨_,rfl,.of_eq Z⟩,Pj Z,rfl,ac⟩) Z))
   .have g2: ¬65536<(eV aT S l).length:=by have:=of_decide_eq_false g2;omega
    rw[wq (by unfold ft;rw[be (by omega),be (by rw[B];decide),be g2])];refine gA Z (bd [] (by first|exact .inr Z|exact .inl Z) Z (wk Z Z Z (bi ac) (hM Z Z Z ⟨⟨_,rfl,.of_eq Z⟩,Pj Z,rfl,ac⟩) Z))
  .have c0:x.2=kN (mapOf (bV S l)) j:=by rw[kN,Pn,u];rfl
   have b0: ∀A,A=j::vs->A.Nodup∧ ∀i∈A,i<(mapOf (bV S l)).length:=fun A e=>e▸⟨P2.2 ⟨hj,v1⟩,fun i hi=>(Px.1 hi).elim (fun h=>h▸(Pm.1 u).1) (v2 i)⟩;refine gA Z ?_;refine Pq (fun g3=>?_) (fun g3=>?_)
   .have g3:x.2.1=jp:=g3;have D:w4 (kN (mapOf (bV S l)) j)=1:=by rw[<-c0,w4,am g3]
    refine gA Z ⟨j,x,u,hj,b0 _ Z,[],wk Z Z Z (bi ⟨bq (by rw[PB,Qt,D];omega),rfl,bi ac⟩) (hM Z Z Z ⟨⟨_,rfl,.of_eq Z⟩,Pj Z,rfl,hI Z Z (.inr Z) Z ac⟩) Z⟩
   .have g3:x.2.1=kw:=g3;have D:w4 (kN (mapOf (bV S l)) j)= -1:=by rw[<-c0,w4,be (by rw[g3];decide)]
    refine gA Z ⟨j,x,u,hj,b0 _ Z,[],wk Z Z Z (bi ⟨bq (by rw[PB,Qt,D];omega),rfl,bi ac⟩) (hM Z Z Z ⟨⟨_,rfl,.of_eq Z⟩,Pj Z,rfl,hI Z Z (.inr Z) Z ac⟩) Z⟩
theorem DJ{y:IV}(u:jC (lits []) y):Pure prog 44 [.iv (lits [])] (.iv y):=by
 refine ah ab func44 Z (by decide) ntmps44 Z (by simp) Z ?_;refine gA Z (aC (Hh [] (by simp)) Z Z Z Z Z Z ?_);refine gA Z (om (n:=0) ?_);refine gA Z ?_;refine Pq (fun b=>?_) (fun b=>?_)
 .exact absurd b (by simp)
 refine gA Z (aN (by first|exact .inr Z|exact .inl Z) Z ?_);exact .iv (fun M x j=>u M x j)
set_option maxHeartbeats 2000000 in
theorem Nn: ∀(n:Nat) (l:List Lit) (y:IV),Lit.aB l<=n->Lit.aB l<=1000000000->jC (lits l) y->Pure prog 44 [.iv (lits l)] (.iv y):=by
 intro n
 induction n with
 |zero=>
  intro l y h hb u;have hl:=Lit.aG l;have j:l=[]:=QY.1 (by omega);subst j;exact DJ u
 |succ n ih=>
  intro l y h hb u;have hl:=Lit.aG l;by_cases A:l=[]
  .subst A;exact DJ u
  refine ah ab func44 Z (by decide) ntmps44 Z (by simp) Z ?_;refine gA Z (bx [] (DO l (by omega) A) Z Z Z Z Z Z Z Z ?_);refine gA Z ?_;refine aJ 0 l.length (PC _) (fun i=>⟨[(0,.iv (lits l)),(3,.sl 0 0 l.length 30),(9,pI l.length),(10,pI i)],[(0,io (aF 30 l Lit.c))],1⟩) (fun _=>True) [] ac
   (wk Z Z Z (bi (bi (bi (bi trivial)))) (hR Z (by rw[PW];exact PN fun x _=>bg _ _) Z trivial) Z) fun i D _=>?_
  refine gA Z ?_;refine Pq (fun h1=>?_) (fun h1=>?_)
  .have h1:i<l.length:=by simpa using h1
   have C:=Lit.bU l i h1;have B:=(l.getD i co).size_eq;have b:=DU (g:=fun x=>(Lit.c x).map PV.iv) h1;refine gM 22 Z (oq ab Z Z Z Z Z (b) Z Z ?_);refine gA Z (aC (AJ (l.getD i co).atom.aj (by omega)) Z Z Z Z Z Z ?_);refine gA Z (pg ab Z Z Z Z (i:=0) (q:=0+i) (off:=2) Z Z b Z Z (by decide) Z Z ?_);refine gM 9 Z (td (p:=ag (l.getD i co).left.c) 6 Z Z Z Z Z Z (ig ab Z Z Z Z b Z) ?_);refine gM 3 Z (td (p:=ag (l.getD i co).right.c) 11 Z Z Z Z Z Z (ig ab Z Z Z Z b Z) ?_);refine gM 4 Z (td (p:=ag (l.getD i co).jB.c) 17 Z Z Z Z Z Z (ig ab Z Z Z Z b Z) ?_);refine gA Z (yw ab [11,17] [] (Pure.rN (y4 (l.getD i co).left (by omega))) Z Z Z Z Z Z Z Z Z Z Z Z (by(repeat' (first|exact ac|exact rfl|exact an.refl _|exact an.bk (by assumption)|apply Pq))<;>first|omega|(simp only[Pr];omega)|(simp;done)|(simp;omega)) Z (by(repeat' (first|exact ac|exact rfl|exact an.refl _|exact an.bk (by assumption)|apply Pq))<;>first|omega|(simp only[Pr];omega)|(simp;done)|(simp;omega)) ⟨tL ab Z Z Z Z Z Z Z b Z (.refl _),⟨tL ab Z Z Z Z Z Z Z b Z (.refl _),ac⟩⟩ ?_);refine gA Z (yw ab [17] [] (Pure.rN (y4 (l.getD i co).right (by omega))) Z Z Z Z Z Z Z Z Z Z Z Z (by(repeat' (first|exact ac|exact rfl|exact an.refl _|exact an.bk (by assumption)|apply Pq))<;>first|omega|(simp only[Pr];omega)|(simp;done)|(simp;omega)) Z (by(repeat' (first|exact ac|exact rfl|exact an.refl _|exact an.bk (by assumption)|apply Pq))<;>first|omega|(simp only[Pr];omega)|(simp;done)|(simp;omega)) ⟨tL ab Z Z Z Z Z Z Z b Z (.refl _),ac⟩ ?_);refine gA Z (bD ab [] (Pure.rN (y4 (l.getD i co).jB (by omega))) Z Z Z Z Z Z Z Z Z Z Z Z (by(repeat' (first|exact ac|exact rfl|exact an.refl _|exact an.bk (by assumption)|apply Pq))<;>first|omega|(simp only[Pr];omega)|(simp;done)|(simp;omega)) Z (by(repeat' (first|exact ac|exact rfl|exact an.refl _|exact an.bk (by assumption)|apply Pq))<;>first|omega|(simp only[Pr];omega)|(simp;done)|(simp;omega)) ?_);refine gA Z (lr ab Z Z Z Z Z (by(repeat' (first|exact ac|exact rfl|exact an.refl _|exact an.bk (by assumption)|apply Pq))<;>first|omega|(simp only[Pr];omega)|(simp;done)|(simp;omega)) (kP ab Z Z Z (i:=0) (q:=0+i) (off:=4) Z Z b Z Z (by decide) Z Z) Z (by(repeat' (first|exact ac|exact rfl|exact an.refl _|exact an.bk (by assumption)|apply Pq))<;>first|omega|(simp only[Pr];omega)|(simp;done)|(simp;omega)) ?_);refine gA Z (lr ab Z Z Z Z Z (by(repeat' (first|exact ac|exact rfl|exact an.refl _|exact an.bk (by assumption)|apply Pq))<;>first|omega|(simp only[Pr];omega)|(simp;done)|(simp;omega)) (kP ab Z Z Z (i:=0) (q:=0+i) (off:=11) Z Z b Z Z (by decide) Z Z) Z (by(repeat' (first|exact ac|exact rfl|exact an.refl _|exact an.bk (by assumption)|apply Pq))<;>first|omega|(simp only[Pr];omega)|(simp;done)|(simp;omega)) ?_);refine gA Z (lr ab Z Z Z Z Z (by(repeat' (first|exact ac|exact rfl|exact an.refl _|exact an.bk (by assumption)|apply Pq))<;>first|omega|(simp only[Pr];omega)|(simp;done)|(simp;omega)) (kP ab Z Z Z (i:=0) (q:=0+i) (off:=20) Z Z b Z Z (by decide) Z Z) Z (by(repeat' (first|exact ac|exact rfl|exact an.refl _|exact an.bk (by assumption)|apply Pq))<;>first|omega|(simp only[Pr];omega)|(simp;done)|(simp;omega)) ?_);refine gM 7 Z (oq ab Z Z Z Z Z (b) Z Z ?_);refine gA Z (aC (Al.Pure.le (aa:=[.iv (tA (l.getD i co).ar)]) (ih (l.getD i co).ar (tA (l.getD i co).ar) (by omega) (by omega) (zl _)) ⟨.iv (mq _),ac⟩) Z Z Z Z Z Z ?_);refine gA Z (pg ab Z Z Z Z (i:=0) (q:=0+i) (off:=27) Z Z b Z Z (by decide) Z Z ?_);refine gA Z ⟨h1,ac,[],wk Z Z Z (bi (bi (bi (bi ac)))) (hR Z Z Z ac) Z⟩
  .have h1:l.length<=i:=by simpa using h1
   refine gA Z (lx (r0:= .sl 0 0 l.length 30) (.inr Z) Z (iE.DV 0 l Lit.c Z Z (by simp[PV.da,dQ]) (.done ?_)));have:an (.iv (lits l)) (.iv y):= .iv u;simp only[PV.eh,qk,PT];exact this
theorem Lk(l:List Lit)(hb:Lit.aB l<=1000000000):Pure prog 44 [.iv (lits l)] (.iv (lits l)):=Nn _ l _ (Pv _) hb (fun _ _ h=>h)
theorem Li(p:Prog)(hb:p.size<=1000000000):Pure prog 24 [ag p.c] (ag p.c):=by
 unfold Prog.size at hb;refine ah ab func24 Z (by decide) ntmps24 Z (by simp) Z ?_;refine gM 9 Z ?_;refine pf 2 0 4 Z Z ?_;refine pf 2 1 5 Z Z ?_;refine gA Z ?_;refine aJ 0 p.aS.length (PC _) (fun i=>⟨[(1,.ptr 0 0),(2,.ptr 1 0),(3,.ptr 2 0),(9,.iv (bu 4 p.aS Decl.c)),(10,pI p.aS.length),(11,pI i)],[(0,io (az p.c)),(1,io (.cells [.iv (.v (.slice is 0 0)),.iv (.v (.slice is 0 0))])),(2,io (.cells [.sl 5 0 i 4,.sl 4 0 0 5])),(4,io (aF 5 ([]:List aw) aw.c)),(5,io (aF 4 (p.aS.take i) Decl.c))],6⟩) (fun _=>True) [3] ac
  (wk Z Z Z (bi (bi (bi (bi (bi (bi trivial)))))) (hC Z Z Z ⟨⟨_,rfl,.of_eq Z⟩,Pj Z,rfl,⟨_,rfl,.of_eq Z⟩,Pj Z,rfl,hR Z Z Z (hR Z Z Z trivial)⟩) Z) fun i A _=>?_
 refine gA Z ?_;refine Pq (fun h1=>?_) (fun h1=>?_)
 .have h1:i<p.aS.length:=by simpa using h1
  have x:(p.aS.take i).length=i:=by rw[QI];omega
  have u:=ct (l:=p.aS) h1;have y:=vP (fun d:Decl=>d.types.length) p.aS i h1;refine gA Z (aC (Hi (p.aS.getD i co).types (by omega)) Z Z Z Z Z Z ?_);refine gA Z ⟨h1,ac,[8],wk Z Z Z (bi (bi (bi (bi (bi (bi ac)))))) (hC Z Z Z ⟨⟨_,rfl,.of_eq Z⟩,Pj Z,rfl,⟨⟨_,rfl,.of_eq Z⟩,Pj Z,rfl,hR Z Z Z (hR Z (by rw[u,PH];rfl) Z ac)⟩⟩) Z⟩
 .have h1:p.aS.length<=i:=by simpa using h1
  have j:i=p.aS.length:=by omega
  subst j;rw[PJ (Pv _)];refine gA Z ?_;refine aJ 0 p.rules.length (PC _) (fun i=>⟨[(1,.ptr 0 0),(2,.ptr 1 0),(3,.ptr 2 0),(27,.iv (bu 5 p.rules aw.c)),(28,pI p.rules.length),(29,pI i)],[(0,io (az p.c)),(1,io (.cells [.iv (.v (.slice is 0 0)),.iv (.v (.slice is 0 0))])),(2,io (.cells [.sl 5 0 p.aS.length 4,.sl 6 0 i 5])),(5,io (aF 4 p.aS Decl.c)),(6,io (aF 5 (p.rules.take i) aw.c))],7⟩) (fun _=>True) [4] ac
   (wk Z Z Z (bi (bi (bi (bi (bi (bi trivial)))))) (hC Z Z Z ⟨⟨_,rfl,.of_eq Z⟩,Pj Z,rfl,⟨⟨_,rfl,.of_eq Z⟩,Pj Z,rfl,hR Z Z Z (hR Z Z Z trivial)⟩⟩) Z) fun i A _=>?_
  refine gA Z ?_;refine Pq (fun b=>?_) (fun b=>?_)
  .have b:i<p.rules.length:=by simpa using b
   have x:(p.rules.take i).length=i:=by rw[QI];omega
   have u:=ct (l:=p.rules) b;have y:=vP aw.size p.rules i b;have B:(p.rules.getD i co).size=(p.rules.getD i co).head.aj.length+Lit.aB (p.rules.getD i co).body:=rfl;refine gA Z (aC (AJ (p.rules.getD i co).head.aj (by omega)) Z Z Z Z Z Z ?_);refine gA Z (aC (Lk (p.rules.getD i co).body (by omega)) Z Z Z Z Z Z ?_);refine gA Z ⟨b,ac,[9],wk Z Z Z (bi (bi (bi (bi (bi (bi ac)))))) (hC Z Z Z ⟨⟨_,rfl,.of_eq Z⟩,Pj Z,rfl,⟨⟨_,rfl,.of_eq Z⟩,Pj Z,rfl,hR Z Z Z (hR Z (by rw[u,PH];rfl) Z ac)⟩⟩) Z⟩
  .have b:p.rules.length<=i:=by simpa using b
   have j:i=p.rules.length:=by omega
   subst j;rw[PJ (Pv _)];refine gA Z (lx (r0:= .agg [.sl 5 0 p.aS.length 4,.sl 6 0 p.rules.length 5]) (.inr Z) Z (iE.DV 5 p.aS Decl.c Z Z (by simp[PV.da,dQ]) (iE.DV 6 p.rules aw.c Z Z (by simp[PV.da,dQ,PV.eh,qk,show PM 6 5=kw from rfl]) (.done (.of_eq (by simp only[PV.eh,qk,PT,show PM 6 5=kw from rfl,show PM 5 5=jp from rfl,show PM 6 6=jp from rfl,cond_true,cond_false];rfl))))))
end Go.Proofs.YtllkaddcplhklaaGreatDoor
namespace Go.Tj
section
section
variable {α:Type}
inductive lS (succ:α->List α):α->α->Prop
 |refl (a:α):lS succ a a
 |step {a b c:α}:lS succ a b->c∈succ b->lS succ a c
theorem lS.trans{succ:α->List α}{a b c:α}(h:lS succ a b)(g:lS succ b c):lS succ a c:=by
 induction g with
 |refl=>exact h
 |step _ he ih=>exact .step ih he
theorem lS.one{succ:α->List α}{a b:α}(h:b∈succ a):lS succ a b:= .step (.refl a) h
structure St (α:Type) where
 low:α->Int
 on:α->Int
 ring:α->Int
 n:Nat
 stack:List α
section
variable [DecidableEq α]
def vL(f:α->Int)(a:α)(v:Int):α->Int:=fun x=>if x=a then v else f x
theorem iY(f:α->Int)(a:α)(v:Int):vL f a v a=v:=am Z
theorem jU{f:α->Int}{a x:α}{v:Int}(h: ¬x=a):vL f a v x=f x:=be h
def push(s:St α)(a:α):St α:=⟨vL s.low a ((s.n:Int)+1),vL s.on a 1,s.ring,s.n+1,s.stack++ [a]⟩
def wc(j:Int)(s:St α):St α:=match s.stack.getLast? with
 |some b=>⟨s.low,vL s.on b 2,vL s.ring b j,s.n,s.stack.dropLast⟩
 |none=>s
def eU(a:α)(b:Int):Nat->St α->St α
 |0,s=>s
 |k+1,s=>if s.on a=1 then eU a b k (wc b s) else s
def qw(j:α->St α->Int×St α)(q:Int×St α)(b:α):Int×St α:=
 if q.2.low b=0 then(min q.1 (j b q.2).1,(j b q.2).2) else if q.2.on b=1 then(min q.1 (q.2.low b),q.2) else q
def rm(a:α)(b:Int)(q:Int×St α):Int×St α:=if q.1=b then(q.1,eU a b q.2.stack.length q.2) else q
def dJ(succ:α->List α):Nat->α->St α->Int×St α
 |0,_,s=>(0,s)
 |f+1,a,s=>rm a ((s.n:Int)+1) ((succ a).foldl (qw (dJ succ f)) ((s.n:Int)+1,push s a))
def fJ(succ:α->List α)(f:Nat)(V:List α)(s:St α):St α:=V.foldl (fun s a=>if s.low a=0 then(dJ succ f a s).2 else s) s
end
def St.o:St α:=⟨fun _=>0,fun _=>0,fun _=>0,0,[]⟩
structure Inv (succ:α->List α) (path:List α) (s:St α):Prop where
 lL: ∀a,0<=s.low a∧s.low a<=s.n
 inj: ∀a b,s.low a=s.low b->s.low a≠0->a=b
 FQ: ∀a,s.on a=0↔s.low a=0
 Cm: ∀a,s.on a=0∨s.on a=1∨s.on a=2
 uE: ∀a,s.on a=1↔a∈s.stack
 yQ:s.stack.Pairwise fun x y=>s.low x<s.low y
 Iq: ∀a,s.on a=2-> ∀b∈succ a,s.on b=2
 Ly: ∀g∈path,s.on g=1
 up: ∀y,s.on y=1-> ∃g∈path,s.low g<=s.low y∧lS succ y g
 dn: ∀g∈path,∀y,s.on y=1->s.low g<=s.low y->lS succ g y
 ay: ∀y,s.low y≠0->y∉path-> ∀z∈succ y,s.low z≠0
 Nv: ∀a,s.on a=2-> ∃r,s.on r=2∧s.low r=s.ring a∧lS succ a r∧lS succ r a
 cmp: ∀a b,s.on a=2->s.on b=2->lS succ a b->lS succ b a->s.ring a=s.ring b
structure Le (s s':St α):Prop where
 low: ∀x,s.low x≠0->s'.low x=s.low x
 Iq: ∀x,s.on x=2->s'.on x=2
 n:s.n<=s'.n
theorem Le.refl(s:St α):Le s s:=⟨fun _ _=>rfl,fun _ h=>h,Pv _⟩
theorem Le.trans{s t u:St α}(h:Le s t)(g:Le t u):Le s u:=
 ⟨fun x b=>by rw[g.low x (by rw[h.low x b];exact b),h.low x b],fun x b=>g.Iq x (h.Iq x b),P9 h.n g.n⟩
structure Mc (succ:α->List α) (path:List α) (a:α) (s:St α) (least:Int) (s':St α) (t:List α):Prop where
 inv:Inv succ path s'
 le:Le s s'
 stack:s'.stack=s.stack++t
 new: ∀y∈t,s.low y=0
 at_:(s.n:Int)<s'.low a
 LJ:least<=s'.low a
 l1: ∀y∈t,∀z∈succ y,s'.on z=1->least<=s'.low z
 l2:(s'.on a=2∧least=s'.low a)∨ ∃z∈s.stack,s'.low z=least∧lS succ a z
theorem sH{succ:α->List α}{path:List α}{s:St α}(h:Inv succ path s){x:α}(b:s.on x=1):s.low x≠0:=fun g=>by
 have:=(h.FQ x).2 g;omega
theorem Ed{succ:α->List α}{p:List α}{s s':St α}(h:Inv succ p s)(hl:Le s s'){x:α}(b:s.low x≠0)(ho:s'.on x=1):s.on x=1:=by
 rcases h.Cm x with g|g|g
 .exact absurd ((h.FQ x).1 g) b
 .exact g
 .have:=hl.Iq x g;omega
section
variable [DecidableEq α]
theorem xL{succ:α->List α}{path:List α}{s:St α}{a:α}(h:Inv succ path s)(ha:s.low a=0)(hp: ∀g∈path,lS succ g a):Inv succ (path++ [a]) (push s a):=by
 have a0:s.on a=0:=(h.FQ a).2 ha;have J:a∉s.stack:=fun g=>by have:=(h.uE a).2 g;omega
 have A: ∀x,¬x=a->(push s a).low x=s.low x:=fun x j=>jU j;have la:(push s a).low a=(s.n:Int)+1:=iY _ _ _;have D: ∀x,¬x=a->(push s a).on x=s.on x:=fun x j=>jU j;have G:(push s a).on a=1:=iY _ _ _;have hn:((push s a).n:Int)=(s.n:Int)+1:=by show((s.n+1:Nat):Int)=_;omega
 refine⟨fun x=>?_,fun x y C j=>?_,fun x=>?_,fun x=>?_,fun x=>?_,?_,fun x j b hb=>?_,fun g hg=>?_,fun y B=>?_,fun g hg y B I=>?_,fun y B R z hz=>?_,fun x j=>?_,fun x y j B h1 h2=>?_⟩
 .have:=h.lL x;by_cases e:x=a
  .subst e;rw[la,hn];omega
  .rw[A x e,hn];omega
 .have h1:=h.lL x;have h2:=h.lL y;by_cases e:x=a
  .by_cases u:y=a
   .rw[e,u]
   .rw[e,la,A y u]at C;omega
  .by_cases u:y=a
   .rw[u,la,A x e]at C;omega
   .rw[A x e,A y u]at C;rw[A x e]at j;exact h.inj x y C j
 .by_cases e:x=a
  .subst e;rw[G,la];constructor<;>intro g<;>omega
  .rw[D x e,A x e];exact h.FQ x
 .by_cases e:x=a
  .subst e;exact .inr (.inl G)
  .rw[D x e];exact h.Cm x
 .show _↔x∈s.stack++ [a];rw[PI,PA];by_cases e:x=a
  .subst e;simp[G]
  .rw[D x e,h.uE x];simp[e]
 .show(s.stack++ [a]).Pairwise _;rw[RX];refine⟨h.yQ.imp_of_mem ?_,List.pairwise_singleton _ _,fun x j y B=>?_⟩
  .intro x y j B C;rw[A x (fun e=>J (e▸j)),A y (fun e=>J (e▸B))];exact C
  .rw[PA]at B;subst B;rw[la,A x (fun e=>J (e▸j))];have:=h.lL x;omega
 .have e: ¬x=a:=fun e=>by subst e;rw[G]at j;omega
  rw[D x e]at j;have Y:=h.Iq x j b hb;have u: ¬b=a:=fun e=>by subst e;omega
  rw[D b u];exact Y
 .rcases PI.1 hg with g1|g1
  .have:=h.Ly g g1;rw[D g (fun e=>by subst e;omega)];exact this
  .rw[PA]at g1;subst g1;exact G
 .by_cases e:y=a
  .subst e;exact⟨y,QU _ Pz,RK _,.refl _⟩
  .rw[D y e]at B;obtain⟨g,g1,g2,g3⟩:=h.up y B;have u: ¬g=a:=fun e=>by have:=h.Ly g g1;subst e;omega
   exact⟨g,P6 _ g1,by rw[A g u,A y e];exact g2,g3⟩
 .rcases PI.1 hg with g1|g1
  .have u: ¬g=a:=fun e=>by have:=h.Ly g g1;subst e;omega
   by_cases e:y=a
   .subst e;exact hp g g1
   .rw[A g u,A y e]at I;rw[D y e]at B;exact h.dn g g1 y B I
  .rw[PA]at g1;subst g1;by_cases e:y=g
   .subst e;exact .refl _
   .rw[la,A y e]at I;have:=h.lL y;omega
 .have e: ¬y=a:=fun e=>R (QU _ (by rw[e];exact Pz))
  rw[A y e]at B;have:=h.ay y B (fun g=>R (P6 _ g)) z hz;by_cases u:z=a
  .rw[u,la];omega
  .rw[A z u];exact this
 .have e: ¬x=a:=fun e=>by subst e;rw[G]at j;omega
  rw[D x e]at j;obtain⟨r,r1,r2,r3⟩:=h.Nv x j;have u: ¬r=a:=fun e=>by subst e;omega
  exact⟨r,by rw[D r u];exact r1,by rw[A r u];exact r2,r3⟩
 .have e: ¬x=a:=fun e=>by subst e;rw[G]at j;omega
  have u: ¬y=a:=fun e=>by subst e;rw[G]at B;omega
  rw[D x e]at j;rw[D y u]at B;exact h.cmp x y j B h1 h2
theorem HD{succ:α->List α}{path:List α}{s:St α}{a:α}(h:Inv succ path s)(ha:s.low a=0):Le s (push s a):=by
 have j:s.on a=0:=(h.FQ a).2 ha;refine⟨fun x b=>jU fun e=>b (e▸ha),fun x b=>?_,by show s.n<=s.n+1;omega⟩;have: ¬x=a:=fun e=>by subst e;omega
 show vL s.on a 1 x=2;rw[jU this];exact b
def wb(s:St α)(u c:List α)(b:Int):St α:=⟨s.low,fun x=>if x∈c then 2 else s.on x,fun x=>if x∈c then b else s.ring x,s.n,u⟩
theorem xM{a:α}{b:Int}{s:St α}(h: ¬s.on a=1): ∀k,eU a b k s=s
 |0=>rfl
 |k+1=>be h
theorem uR(a:α)(j:Int)(u:List α): ∀(k:Nat) (t:List α) (s:St α),t.length<k->s.stack=u++a::t->a∉t->s.on a=1->(eU a j k s).low=s.low∧(eU a j k s).n=s.n∧(eU a j k s).stack=u∧(∀x,(eU a j k s).on x=if x∈a::t then 2 else s.on x)∧ ∀x,(eU a j k s).ring x=if x∈a::t then j else s.ring x
 |0,t,s,h,_,_,_=>absurd h (Rl _)
 |k+1,t,s,hk,hs,hn,ho=>by
  rw[eU,am ho];rcases t.eq_nil_or_concat with e|⟨t0,b,e⟩
  .subst e;have hl:s.stack.getLast? =io a:=by rw[hs];simp
   have hd:s.stack.dropLast=u:=by rw[hs];simp
   have G:wc j s=⟨s.low,vL s.on a 2,vL s.ring a j,s.n,u⟩:=by unfold wc;rw[hl,hd]
   rw[G,xM (by show¬vL s.on a 2 a=1;rw[iY];decide)];exact⟨rfl,rfl,rfl,fun x=>by simp[vL],fun x=>by simp[vL]⟩
  .rw[SF]at e;subst e;have B:s.stack=(u++a::t0)++ [b]:=by rw[hs];simp
   have hl:s.stack.getLast? =io b:=by rw[B];exact List.getLast?_concat
   have hd:s.stack.dropLast=u++a::t0:=by rw[B];exact List.dropLast_concat
   have G:wc j s=⟨s.low,vL s.on b 2,vL s.ring b j,s.n,u++a::t0⟩:=by unfold wc;rw[hl,hd]
   have D: ¬a=b:=fun e=>hn (by rw[e];simp);have C:=uR a j u k t0 ⟨s.low,vL s.on b 2,vL s.ring b j,s.n,u++a::t0⟩ (by simp at hk;omega) Z (fun g=>hn (P6 _ g)) (by show vL s.on b 2 a=1;rw[jU D];exact ho);rw[G];refine⟨C.1,C.2.1,C.2.2.1,fun x=>?_,fun x=>?_⟩
   .rw[C.2.2.2.1 x];by_cases y:x∈a::t0
    .rw[am y,am (by rw[<-QR];exact P6 _ y)]
    .rw[be y];by_cases A:x=b
     .subst A;rw[am (by simp)];exact iY _ _ _
     .rw[be (by rw[<-QR,PI,PA];exact fun g=>g.elim y A)];exact jU A
   .rw[C.2.2.2.2 x];by_cases y:x∈a::t0
    .rw[am y,am (by rw[<-QR];exact P6 _ y)]
    .rw[be y];by_cases A:x=b
     .subst A;rw[am (by simp)];exact iY _ _ _
     .rw[be (by rw[<-QR,PI,PA];exact fun g=>g.elim y A)];exact jU A
theorem St.eq{β:Type}{s t:St β}(h1:s.low=t.low)(b:s.on=t.on)(j:s.ring=t.ring)(u:s.n=t.n)(x:s.stack=t.stack):s=t:=by
 cases s;cases t;simp_all
theorem pT{a:α}{b:Int}{u t:List α}{k:Nat}{s:St α}(hk:t.length<k)(hs:s.stack=u++a::t)(hn:a∉t)(ho:s.on a=1):eU a b k s=wb s u (a::t) b:=by
 obtain⟨h1,j,x,y,A⟩:=uR a b u k t s hk hs hn ho;exact St.eq h1 (funext y) (funext A) j x
theorem vq{β:Type}{succ:β->List β}{path:List β}{s:St β}(h:Inv succ path s){a b:β}(ha:s.on a=2)(hr:lS succ a b):s.on b=2:=by
 induction hr with
 |refl=>exact ha
 |step _ he ih=>exact h.Iq _ ih _ he
theorem HE{succ:α->List α}{path:List α}{s:St α}{a:α}{u t:List α}(h:Inv succ (path++ [a]) s)(hs:s.stack=u++a::t)(R: ∀g∈path,s.low g<s.low a)(i0: ∀z∈succ a,s.low z≠0)
  (d0: ∀y∈a::t,∀z∈succ y,s.on z=1->s.low a<=s.low z):Inv succ path (wb s u (a::t) (s.low a)):=by
 have I:=h.yQ;rw[hs,RX]at I;obtain⟨hu,hc,b0⟩:=I;have e0:=(P3.1 hc).1;have g0:s.on a=1:=(h.uE a).2 (by rw[hs];simp);have hC: ∀x,x∈a::t↔(s.on x=1∧s.low a<=s.low x):=by
  intro x;constructor
  .intro j;refine⟨(h.uE x).2 (by rw[hs];exact QU _ j),?_⟩;rcases Px.1 j with e|e
   .rw[e];exact RK _
   .have:=e0 x e;omega
  .rintro⟨h1,D⟩;have:=(h.uE x).1 h1;rw[hs]at this;rcases PI.1 this with g|g
   .have:=b0 x g a Pz;omega
   .exact g
 have Y:a∈a::t:=Pz;have A: ∀x,x∈a::t->(wb s u (a::t) (s.low a)).on x=2:=fun x j=>am j;have no: ∀x,x∉a::t->(wb s u (a::t) (s.low a)).on x=s.on x:=fun x j=>be j
 have J: ∀x,x∈a::t->lS succ x a:=by
  intro x j;obtain⟨h1,D⟩:=(hC x).1 j;obtain⟨g,g1,g2,g3⟩:=h.up x h1;refine g3.trans (h.dn g g1 a g0 ?_);rcases PI.1 g1 with e|e
  .have:=R g e;omega
  .rw[PA]at e;rw[e];exact RK _
 have G: ∀x,x∈a::t->lS succ a x:=by
  intro x j;obtain⟨h1,D⟩:=(hC x).1 j;exact h.dn a (by simp) x h1 D
 have a0: ∀y,s.low y≠0->y∉path-> ∀z∈succ y,s.low z≠0:=by
  intro y B j0 z hz;by_cases e:y=a
  .rw[e]at hz;exact i0 z hz
  .exact h.ay y B (by rw[PI,PA];exact fun g=>g.elim j0 e) z hz
 refine⟨h.lL,h.inj,fun x=>?_,fun x=>?_,fun x=>?_,hu,fun x j b hb=>?_,fun g hg=>?_,fun y B=>?_,fun g hg y B f0=>?_,a0,fun x j=>?_,fun x y j B h1 D=>?_⟩
 .by_cases e:x∈a::t
  .rw[A x e];have:=sH h ((hC x).1 e).1;exact⟨fun g=>by omega,fun g=>absurd g this⟩
  .rw[no x e];exact h.FQ x
 .by_cases e:x∈a::t
  .exact .inr (.inr (A x e))
  .rw[no x e];exact h.Cm x
 .show _↔x∈u;by_cases e:x∈a::t
  .rw[A x e];refine⟨fun g=>by omega,fun g=>?_⟩;have h1:=b0 x g a Y;have D:=((hC x).1 e).2;omega
  .rw[no x e,h.uE x,hs,PI];exact⟨fun g=>g.elim id fun q=>absurd q e,.inl⟩
 .by_cases e:x∈a::t
  .obtain⟨h1,D⟩:=(hC x).1 e;have c0:s.low b≠0:=a0 x (sH h h1) (fun g=>by have:=R x g;omega) b hb;rcases h.Cm b with g|g|g
   .exact absurd ((h.FQ b).1 g) c0
   .exact A b ((hC b).2 ⟨g,d0 x e b hb g⟩)
   .by_cases C:b∈a::t
    .exact A b C
    .rw[no b C];exact g
  .rw[no x e]at j;have g:=h.Iq x j b hb;by_cases C:b∈a::t
   .exact A b C
   .rw[no b C];exact g
 .have h1:=h.Ly g (P6 _ hg);have D:=R g hg;rw[no g (fun e=>by have:=((hC g).1 e).2;omega)];exact h1
 .by_cases e:y∈a::t
  .rw[A y e]at B;omega
  .rw[no y e]at B;obtain⟨g,g1,g2,g3⟩:=h.up y B;rcases PI.1 g1 with q|q
   .exact⟨g,q,g2,g3⟩
   .rw[PA]at q;rw[q]at g2;exact absurd ((hC y).2 ⟨B,g2⟩) e
 .by_cases e:y∈a::t
  .rw[A y e]at B;omega
  .rw[no y e]at B;exact h.dn g (P6 _ hg) y B f0
 .by_cases e:x∈a::t
  .exact⟨a,A a Y,(am e).symm,J x e,G x e⟩
  .rw[no x e]at j;obtain⟨r,r1,r2,r3⟩:=h.Nv x j;have C:r∉a::t:=fun g=>by have:=((hC r).1 g).1;omega
   refine⟨r,by rw[no r C];exact r1,?_,r3⟩;show s.low r=if x∈a::t then s.low a else s.ring x;rw[be e];exact r2
 .show(if x∈a::t then s.low a else s.ring x)=if y∈a::t then s.low a else s.ring y;by_cases e:x∈a::t
  .by_cases C:y∈a::t
   .rw[am e,am C]
   .rw[no y C]at B;have:=vq h B D;have:=((hC x).1 e).1;omega
  .rw[no x e]at j;by_cases C:y∈a::t
   .have:=vq h j h1;have:=((hC y).1 C).1;omega
   .rw[no y C]at B;rw[be e,be C];exact h.cmp x y j B h1 D
theorem Cz{succ:α->List α}{path:List α}{s:St α}{a z:α}(h:Inv succ (path++ [a]) s)(j: ∀z∈succ a,s.low z≠0)(C:s.on z=1)(B:s.low z<s.low a)(hr:lS succ a z):Inv succ path s:=by
 refine⟨h.lL,h.inj,h.FQ,h.Cm,h.uE,h.yQ,h.Iq,fun g b=>h.Ly g (P6 _ b),fun y x=>?_,fun g b=>h.dn g (P6 _ b),fun y x A w u=>?_,h.Nv,h.cmp⟩
 .obtain⟨g,g1,g2,g3⟩:=h.up y x;rcases PI.1 g1 with q|q
  .exact⟨g,q,g2,g3⟩
  .rw[PA]at q;subst q;obtain⟨k,D,I,G⟩:=h.up z C;rcases PI.1 D with q|q
   .exact⟨k,q,by omega,(g3.trans hr).trans G⟩
   .rw[PA]at q;subst q;omega
 .by_cases e:y=a
  .rw[e]at u;exact j w u
  .exact h.ay y x (by rw[PI,PA];exact fun g=>g.elim A e) w u
def iX(V:List α)(s:St α):Nat:=(V.filter fun x=>lc (s.low x=0)).length
theorem filter_le{β:Type}{p q:β->Bool}: ∀(l:List β),(∀x∈l,p x=jp->q x=jp)->(l.filter p).length<=(l.filter q).length
 | [],_=>Pv _
 |x::r,h=>by
  have u:=filter_le r fun y j=>h y (Py _ j);have b:=h x Pz;rw[Rf,Rf];split
  .rename_i g;rw[am (b g)];simp only[PO];omega
  .split
   .simp only[PO];omega
   .exact u
theorem filter_lt{β:Type}{p q:β->Bool}{a:β}: ∀(l:List β),(∀x∈l,p x=jp->q x=jp)->a∈l->p a=kw->q a=jp->(l.filter p).length<(l.filter q).length
 | [],_,h,_,_=>nomatch h
 |x::r,h,ha,h1,h2=>by
  have j:=filter_le r fun y b=>h y (Py _ b);have u:=h x Pz;rw[Rf,Rf];rcases Px.1 ha with e|e
  .subst e;rw[h1,h2];simp only[Rb,if_false,if_true,PO];omega
  .have A:=filter_lt r (fun y b=>h y (Py _ b)) e h1 h2;split
   .rename_i g;rw[am (u g)];simp only[PO];omega
   .split
    .simp only[PO];omega
    .exact A
theorem ux{β:Type}{V:List β}{s s':St β}(h:Le s s'):iX V s'<=iX V s:=
 filter_le V fun x _ b=>by
  refine decide_eq_true (QO fun g=>?_);have:=of_decide_eq_true b;rw[h.low x g]at this;exact g this
theorem jD{V:List α}{s:St α}{a:α}(hn: ∀x,0<=s.low x∧s.low x<=s.n)(ha:a∈V)(h0:s.low a=0):iX V (push s a)<iX V s:=by
 have la:(push s a).low a=(s.n:Int)+1:=iY _ _ _;refine filter_lt V (fun x _ b=>?_) ha (decide_eq_false (by rw[la];omega)) (decide_eq_true h0);have:=of_decide_eq_true b;by_cases e:x=a
 .rw[e];exact decide_eq_true h0
 .refine decide_eq_true ?_;rwa[show(push s a).low x=s.low x from jU e]at this
structure eG (succ:α->List α) (path:List α) (a:α) (s0:St α) (done:List α) (q:Int×St α) (t:List α):Prop where
 inv:Inv succ (path++ [a]) q.2
 le:Le (push s0 a) q.2
 stack:q.2.stack=s0.stack++a::t
 new: ∀y∈t,s0.low y=0
 LJ:q.1<=(s0.n:Int)+1
 l1: ∀y∈t,∀z∈succ y,q.2.on z=1->q.1<=q.2.low z
 ND: ∀z∈done,q.2.on z=1->q.1<=q.2.low z
 proc: ∀z∈done,q.2.low z≠0
 l2: ∃z,q.2.on z=1∧q.2.low z=q.1∧lS succ a z
section
variable {succ:α->List α} {path:List α} {a:α} {s0:St α} {done:List α} {q:Int×St α} {t:List α}
theorem eG.la(h:eG succ path a s0 done q t):q.2.low a=(s0.n:Int)+1:=by
 have e:(push s0 a).low a=(s0.n:Int)+1:=iY _ _ _;rw[h.le.low a (by rw[e];omega),e]
theorem eG.pa(h:eG succ path a s0 done q t)(h0:Inv succ path s0)(ha:s0.low a=0): ∀g∈path,q.2.low g<q.2.low a:=by
 intro g j;have h1:=h0.Ly g j;have b:=sH h0 h1;have e:(push s0 a).low g=s0.low g:=jU fun e=>b (by rw[e];exact ha);rw[h.la,h.le.low g (by rw[e];exact b),e];have:=h0.lL g;omega
theorem eG.at_(h:eG succ path a s0 done q t):a∉t:=fun g=>by
 have:=h.inv.yQ;rw[h.stack,RX]at this;have:=(P3.1 this.2.1).1 a g;omega
theorem eG.step{V:List α}{u:α->St α->Int×St α}{f:Nat}(hV: ∀a∈V,∀b∈succ a,b∈V)
  (ih: ∀(path:List α) (b:α) (s:St α),Inv succ path s->s.low b=0->b∈V->(∀g∈path,lS succ g b)->iX V s<=f-> ∃t,Mc succ path b s (u b s).1 (u b s).2 t)
  (h:eG succ path a s0 done q t) (h0:Inv succ path s0) (ha:s0.low a=0) (a0:a∈V) {b:α} (hb:b∈succ a) (hw:iX V q.2<=f): ∃t',eG succ path a s0 (done++ [b]) (qw u q b) t':=by
 have i0:=h.la;have e0:=h.pa h0 ha;have b0:=h.at_;have d0:q.2.on a=1:=(h.inv.uE a).2 (by rw[h.stack];simp);unfold qw;by_cases G:q.2.low b=0
 .rw[am G];have J: ∀g∈path++ [a],lS succ g b:=by
   intro g hg;refine .step (h.inv.dn g hg a d0 ?_) hb;rcases PI.1 hg with e|e
   .have:=e0 g e;omega
   .rw[PA]at e;rw[e];exact RK _
  obtain⟨tb,x⟩:=ih (path++ [a]) b q.2 h.inv G (hV a a0 b hb) J hw;generalize u b q.2=w at x ⊢;obtain⟨I,s'⟩:=w;have C: ∀z,q.2.on z=1->s'.on z=1:=fun z j=>(x.inv.uE z).2 (by rw[x.stack];exact P6 _ ((h.inv.uE z).1 j));have k0:=h.le.n;have j0:(push s0 a).n=s0.n+1:=rfl;refine⟨t++tb,x.inv,h.le.trans x.le,?_,fun y R=>?_,?_,fun y R z j D=>?_,fun z j D=>?_,fun z j=>?_,?_⟩
  .show s'.stack=_;rw[x.stack,h.stack];simp
  .rcases PI.1 R with g|g
   .exact h.new y g
   .refine QO fun hc=>?_
    have e:(push s0 a).low y=s0.low y:=jU fun e=>hc (by rw[e];exact ha);have:=h.le.low y (by rw[e];exact hc);rw[x.new y g,e]at this;exact hc this.symm
  .have:=h.LJ;show min q.1 I<=_;omega
  .show min q.1 I<=s'.low z;rcases PI.1 R with g|g
   .have g0:q.2.on y=1:=(h.inv.uE y).2 (by rw[h.stack];simp[g]);have f0:y∉path++ [a]:=by
     rw[PI,PA];rintro(e|e)
     .have h1:=sH h0 (h0.Ly y e);exact h1 (h.new y g)
     .rw[e]at g;exact b0 g
    have A:=h.inv.ay y (sH h.inv g0) f0 z j;have B:=Ed h.inv x.le A D;have:=h.l1 y g z j B;rw[x.le.low z A];omega
   .have:I<=s'.low z:=x.l1 y g z j D;omega
  .show min q.1 I<=s'.low z;rcases PI.1 j with g|g
   .have A:=h.proc z g;have:=h.ND z g (Ed h.inv x.le A D);rw[x.le.low z A];omega
   .rw[PA]at g;subst g;have:I<=s'.low z:=x.LJ;omega
  .show s'.low z≠0;rcases PI.1 j with g|g
   .have A:=h.proc z g;rw[x.le.low z A];exact A
   .rw[PA]at g;subst g;have:(q.2.n:Int)<s'.low z:=x.at_;omega
  .obtain⟨z,Y,z2,z3⟩:=h.l2;by_cases c0:q.1<=I
   .exact⟨z,C z Y,by show s'.low z=min q.1 I;rw[x.le.low z (sH h.inv Y)];omega,z3⟩
   .rcases x.l2 with⟨_,g⟩|⟨w,w1,w2,w3⟩
    .have h1:I=s'.low b:=g;have h2:(q.2.n:Int)<s'.low b:=x.at_;have h3:=h.LJ;omega
    .have w2:s'.low w=I:=w2;exact⟨w,C w ((h.inv.uE w).2 w1),by show s'.low w=min q.1 I;omega,(lS.one hb).trans w3⟩
 .rw[be G];by_cases B:q.2.on b=1
  .rw[am B];refine⟨t,h.inv,h.le,h.stack,h.new,?_,fun y R z j D=>?_,fun z j D=>?_,fun z j=>?_,?_⟩
   .have:=h.LJ;show min q.1 (q.2.low b)<=_;omega
   .have:=h.l1 y R z j D;show min q.1 (q.2.low b)<=q.2.low z;omega
   .show min q.1 (q.2.low b)<=q.2.low z;rcases PI.1 j with g|g
    .have:=h.ND z g D;omega
    .rw[PA]at g;subst g;omega
   .rcases PI.1 j with g|g
    .exact h.proc z g
    .rw[PA]at g;subst g;exact G
   .obtain⟨z,Y,z2,z3⟩:=h.l2;by_cases c0:q.1<=q.2.low b
    .exact⟨z,Y,by show q.2.low z=min q.1 (q.2.low b);omega,z3⟩
    .exact⟨b,B,by show q.2.low b=min q.1 (q.2.low b);omega,.one hb⟩
  .rw[be B];refine⟨t,h.inv,h.le,h.stack,h.new,h.LJ,h.l1,fun z j D=>?_,fun z j=>?_,h.l2⟩
   .rcases PI.1 j with g|g
    .exact h.ND z g D
    .rw[PA]at g;subst g;exact absurd D B
   .rcases PI.1 j with g|g
    .exact h.proc z g
    .rw[PA]at g;subst g;exact G
end
theorem pZ{succ:α->List α}{path:List α}{a:α}{s0:St α}{V:List α}{j:α->St α->Int×St α}{f:Nat}(B: ∀a∈V,∀b∈succ a,b∈V)
  (C: ∀(path:List α) (b:α) (s:St α),Inv succ path s->s.low b=0->b∈V->(∀g∈path,lS succ g b)->iX V s<=f-> ∃t,Mc succ path b s (j b s).1 (j b s).2 t)
  (h0:Inv succ path s0) (ha:s0.low a=0) (u:a∈V) (y:iX V (push s0 a)<=f):
  ∀(l done:List α) (q:Int×St α) (t:List α),eG succ path a s0 done q t->(∀b∈l,b∈succ a)-> ∃G,eG succ path a s0 (done++l) (l.foldl (qw j) q) G
 | [],done,q,t,h,_=>⟨t,by rw[Qp];exact h⟩
 |b::l,done,q,t,h,hl=>by
  obtain⟨t1,h1⟩:=h.step B C h0 ha u (hl b Pz) (P9 (ux h.le) y);obtain⟨t2,A⟩:=pZ B C h0 ha u y l (done++ [b]) _ t1 h1 fun x D=>hl x (Py _ D);exact⟨t2,by rw[PK]at A;exact A⟩
theorem nM{succ:α->List α}{V:List α}(hV: ∀a∈V,∀b∈succ a,b∈V): ∀(f:Nat) (path:List α) (a:α) (s:St α),Inv succ path s->s.low a=0->a∈V->(∀g∈path,lS succ g a)->iX V s<=f-> ∃t,Mc succ path a s (dJ succ f a s).1 (dJ succ f a s).2 t
 |0,path,a,s,h,ha,haV,_,hw=>by
  have:=jD h.lL haV ha;omega
 |f+1,path,a,s,h,ha,haV,hp,hw=>by
  have d0:=jD h.lL haV ha;have hi:=xL h ha hp;have la:(push s a).low a=(s.n:Int)+1:=iY _ _ _;have oa:(push s a).on a=1:=iY _ _ _;have J:eG succ path a s [] ((s.n:Int)+1,push s a) []:=
   ⟨hi,.refl _,rfl,fun y u=>(nomatch u),RK _,fun y u=>(nomatch u),fun z C=>(nomatch C),fun z C=>(nomatch C),⟨a,oa,la,.refl _⟩⟩
  obtain⟨t,j⟩:=pZ hV (fun p b s'=>nM hV f p b s') h ha haV (by omega) (succ a) [] _ [] J fun b hb=>hb;rw[Rk]at j;rw[dJ];generalize(succ a).foldl (qw (dJ succ f)) ((s.n:Int)+1,push s a)=q at j ⊢;have D:=j.la;have b0:=j.pa h ha;have R:=j.at_;have a0:q.2.on a=1:=(j.inv.uE a).2 (by rw[j.stack];simp);have A:Le s q.2:=(HD h ha).trans j.le;unfold rm;by_cases Y:q.1=(s.n:Int)+1
  .rw[am Y,pT (by rw[j.stack];simp;omega) j.stack R a0,<-D];refine⟨[],HE j.inv j.stack b0 j.proc fun y u z C G=>?_,⟨A.low,fun x hx=>?_,A.n⟩,by rw[Qp];rfl,fun y u=>(nomatch u),?_,?_,fun y u=>(nomatch u),.inl ⟨am Pz,?_⟩⟩
   .rw[D,<-Y];rcases Px.1 u with e|e
    .rw[e]at C;exact j.ND z C G
    .exact j.l1 y e z C G
   .show(if x∈a::t then(2:Int) else q.2.on x)=2;split
    .rfl
    .exact A.Iq x hx
   .show(s.n:Int)<q.2.low a;omega
   .show q.1<=q.2.low a;omega
   .show q.1=q.2.low a;omega
  .rw[be Y];have c0:q.1<q.2.low a:=by have:=j.LJ;omega
   obtain⟨z,z1,z2,z3⟩:=j.l2;have I:=j.inv.yQ;rw[j.stack,RX]at I;refine⟨a::t,Cz j.inv j.proc z1 (by omega) z3,A,j.stack,fun y u=>?_,by omega,by omega,fun y u w B G=>?_,.inr ⟨z,?_,z2,z3⟩⟩
   .rcases Px.1 u with e|e
    .rw[e];exact ha
    .exact j.new y e
   .rcases Px.1 u with e|e
    .rw[e]at B;exact j.ND w B G
    .exact j.l1 y e w B G
   .have:=(j.inv.uE z).1 z1;rw[j.stack]at this;rcases PI.1 this with g|g
    .exact g
    .rcases Px.1 g with e|e
     .rw[e]at z2;omega
     .have:=(P3.1 I.2.1).1 z e;omega
theorem JX{β:Type}(succ:β->List β):Inv succ [] (St.o:St β):=
 ⟨fun _=>⟨RK _,RK _⟩,fun _ _ _ h=>absurd Z h,fun _=>Iff.rfl,fun _=> .inl Z,fun _=>⟨fun h=>(nomatch h),fun h=>(nomatch h)⟩,.nil,fun _ h=>(nomatch h),fun _ h=>(nomatch h),fun _ h=>(nomatch h),fun _ h=>(nomatch h),fun _ h=>absurd Z h,fun _ h=>(nomatch h),fun _ _ h=>(nomatch h)⟩
theorem pP{succ:α->List α}{V:List α}(A: ∀a∈V,∀b∈succ a,b∈V){f:Nat}(hf:V.length<=f): ∀(l:List α) (s:St α),(∀a∈l,a∈V)->Inv succ [] s->Inv succ [] (fJ succ f l s)∧(∀x,s.low x≠0->(fJ succ f l s).low x≠0)∧ ∀a∈l,(fJ succ f l s).low a≠0
 | [],s,_,h=>⟨h,fun _ j=>j,fun _ u=>(nomatch u)⟩
 |b::l,s,hl,h=>by
  have key: ∃s',(if s.low b=0 then(dJ succ f b s).2 else s)=s'∧Inv succ [] s'∧(∀x,s.low x≠0->s'.low x≠0)∧s'.low b≠0:=by
   by_cases e:s.low b=0
   .obtain⟨t,y⟩:=nM A f [] b s h e (hl b Pz) (fun g C=>nomatch C) (P9 (QK _ _) hf);refine⟨_,am e,y.inv,fun x j=>by rw[y.le.low x j];exact j,?_⟩;have:=y.at_;omega
   .exact⟨s,be e,h,fun _ j=>j,e⟩
  obtain⟨s',e,D,G,I⟩:=key;obtain⟨i1,i2,i3⟩:=pP A hf l s' (fun a u=>hl a (Py _ u)) D;have B:fJ succ f (b::l) s=fJ succ f l s':=by
   show fJ succ f l (if s.low b=0 then(dJ succ f b s).2 else s)=_;rw[e]
  rw[B];refine⟨i1,fun x j=>i2 x (G x j),fun a u=>?_⟩;rcases Px.1 u with q|q
  .rw[q];exact i2 b I
  .exact i3 a q
theorem Ca{succ:α->List α}{V:List α}(A: ∀a∈V,∀b∈succ a,b∈V){f:Nat}(hf:V.length<=f){a b:α}(ha:a∈V)(hb:b∈V):
  (fJ succ f V St.o).ring a=(fJ succ f V St.o).ring b↔lS succ a b∧lS succ b a:=by
 obtain⟨h,_,y⟩:=pP A hf V St.o (fun _ h=>h) (JX succ);generalize fJ succ f V St.o=s at h y ⊢;have j: ∀x∈V,s.on x=2:=by
  intro x B;rcases h.Cm x with g|g|g
  .exact absurd ((h.FQ x).1 g) (y x B)
  .obtain⟨k,C,_⟩:=h.up x g;exact nomatch C
  .exact g
 constructor
 .intro e;obtain⟨r,r1,r2,I,J⟩:=h.Nv a (j a ha);obtain⟨q,R,Y,D,G⟩:=h.Nv b (j b hb);have u:s.low r≠0:=fun g=>by have:=(h.FQ r).2 g;omega
  have:r=q:=h.inj r q (by omega) u;subst this;exact⟨I.trans G,D.trans J⟩
 .rintro⟨h1,h2⟩;exact h.cmp a b (j a ha) (j b hb) h1 h2
end
end
end
end Go.Tj
namespace Go.Wa
section
inductive tN (R:Nat->Nat->Prop):Nat->Nat->Prop
 |refl (a:Nat):tN R a a
 |step {a b c:Nat} (h:R a b) (t:tN R b c):tN R a c
theorem tN.trans{R:Nat->Nat->Prop}{a b c:Nat}(h:tN R a b)(k:tN R b c):tN R a c:=by
 induction h with
 |refl=>exact k
 |step h _ ih=>exact .step h (ih k)
def W(E:Nat->Nat->Bool):Nat->Nat->Nat->Bool
 |0,a,b=>E a b||a==b
 |m+1,a,b=>W E m a b||(W E m a m&&W E m m b)
variable {E:Nat->Nat->Bool}
theorem W.mono(m a b:Nat)(h:W E m a b=jp):W E (m+1) a b=jp:=by simp[W,h]
theorem W.JY{m k a b:Nat}(hk:m<=k)(h:W E m a b=jp):W E k a b=jp:=by
 induction hk with
 |refl=>exact h
 |step _ ih=>exact W.mono _ _ _ ih
theorem W.self(m a:Nat):W E m a a=jp:=W.JY (PC m) (by simp[W])
theorem W.trans: ∀(m a k b:Nat),k<m->W E m a k=jp->W E m k b=jp->W E m a b=jp
 |m+1,a,k,b,hk,h1,j=>by
  simp only[W,RB,Qf]at h1 j ⊢;by_cases A:k=m
  .subst A;have B:W E k a k=jp:=by rcases h1 with h|h;exact h;exact h.1
   have C:W E k k b=jp:=by rcases j with h|h;exact h;exact h.2
   exact .inr ⟨B,C⟩
  .have u:k<m:=by omega
   rcases h1 with h1|⟨h1,y⟩<;>rcases j with j|⟨j,x⟩
   .exact .inl (W.trans m a k b u h1 j)
   .exact .inr ⟨W.trans m a k m u h1 j,x⟩
   .exact .inr ⟨h1,W.trans m m k b u y j⟩
   .exact .inr ⟨h1,x⟩
theorem W.sound: ∀(m a b:Nat),W E m a b=jp->tN (fun a b=>E a b=jp) a b
 |0,a,b,h=>by
  simp only[W,RB,beq_iff_eq]at h;rcases h with h|h
  .exact .step h (.refl _)
  .subst h;exact .refl _
 |m+1,a,b,h=>by
  simp only[W,RB,Qf]at h;rcases h with h|⟨h1,j⟩
  .exact W.sound m a b h
  .exact(W.sound m a m h1).trans (W.sound m m b j)
theorem W.iff{n:Nat}(hE: ∀a b,a<n->E a b=jp->b<n){a b:Nat}(ha:a<n):W E n a b=jp↔tN (fun a b=>E a b=jp) a b:=by
 refine⟨W.sound n a b,fun h=>?_⟩
 induction h with
 |refl a=>exact W.self n a
 |step h _ ih=>
  have hb:=hE _ _ ha h;exact W.trans n _ _ _ hb (W.JY (PC n) (by simp[W,h])) (ih hb)
def V(E:Nat->Nat->Bool)(m a b x y:Nat):Bool:=if x<a∨x=a∧y<b then W E (m+1) x y else W E m x y
theorem V.row(m a b y:Nat):V E m a b m y=W E m m y:=by
 unfold V;split
 .simp only[W];cases W E m m y<;>simp
 .rfl
end
end Go.Wa
namespace Go.Co
section
section
variable {n:Nat} {tU:Nat->Nat->Bool} {e:Nat->Nat->Bool}
structure Far (n:Nat) (e tU:Nat->Nat->Bool):Prop where
 refl: ∀a,a<n->tU a a=jp
 trans: ∀a b c,tU a b=jp->tU b c=jp->tU a c=jp
 edge: ∀a b,a<n->e a b=jp->tU a b=jp
 lt: ∀a b,a<n->tU a b=jp->b<n
 elt: ∀a b,a<n->e a b=jp->b<n
 split: ∀a b (p:Nat->Prop),a<n->tU a b=jp->p a-> ¬p b-> ∃x y,x<n∧tU a x=jp∧p x∧e x y=jp∧ ¬p y∧tU y b=jp
def cls(tU:Nat->Nat->Bool)(a b:Nat):Bool:=tU a b&&tU b a
end
end
end Go.Co
namespace Go.Rg
open Go.Wa Go.Co Go.Tj
section
section
variable {α:Type} [Inhabited α]
def ed(V:List α)(g:α->α->Bool)(i j:Nat):Bool:=lc (i<V.length)&&lc (j<V.length)&&g (V.getD i co) (V.getD j co)
def tU(V:List α)(g:α->α->Bool):Nat->Nat->Bool:=W (ed V g) V.length
theorem Aa{V:List α}{g:α->α->Bool}{i j:Nat}:ed V g i j=jp↔i<V.length∧j<V.length∧g (V.getD i co) (V.getD j co)=jp:=by
 simp[ed,and_assoc]
theorem wu{V:List α}{a:α}(h:a∈V): ∃i,i<V.length∧V.getD i co=a:=by
 obtain⟨i,b,rfl⟩:=Rs.1 h;exact⟨i,b,by simp[Pn,b]⟩
theorem get_mem{V:List α}{i:Nat}(h:i<V.length):V.getD i co∈V:=by
 rw[Pn,Po h];exact P7 h
theorem Ap{V:List α}(hn:V.Nodup){g:α->α->Bool}{succ:α->List α}(hs: ∀a∈V,∀b,b∈succ a↔b∈V∧g a b=jp){i j:Nat}(hi:i<V.length)(hj:j<V.length):
  tU V g i j=jp↔lS succ (V.getD i co) (V.getD j co):=by
 have B: ∀{x y:Nat},x<V.length->y<V.length->V.getD x co=V.getD y co->x=y:=by
  intro x y C u h;rw[Pn,Pn,Po C,Po u]at h;exact(List.getElem_inj hn).1 h
 rw[tU,W.iff (n:=V.length) (fun a b _ h=>(Aa.1 h).2.1) hi];constructor
 .intro h;clear hj;have: ∀{a b:Nat},tN (fun a b=>ed V g a b=jp) a b->lS succ (V.getD a co) (V.getD b co):=by
   intro a b h
   induction h with
   |refl a=>exact .refl _
   |step h _ ih=>
    obtain⟨h1,A,D⟩:=Aa.1 h;exact(lS.step (.refl _) ((hs _ (get_mem h1) _).2 ⟨get_mem A,D⟩)).trans ih
  exact this h
 .intro h;have key: ∀{a b:α},lS succ a b-> ∀x,x<V.length->V.getD x co=a-> ∃y,y<V.length∧V.getD y co=b∧tN (fun a b=>ed V g a b=jp) x y:=by
   intro a b h
   induction h with
   |refl=>exact fun x C G=>⟨x,C,G,.refl _⟩
   |step _ hc ih=>
    intro x C G;obtain⟨y,u,h1,A⟩:=ih x C G;subst h1;obtain⟨D,J⟩:=(hs _ (get_mem u) _).1 hc;obtain⟨z,I,rfl⟩:=wu D;exact⟨z,I,rfl,A.trans (.step (Aa.2 ⟨u,I,J⟩) (.refl _))⟩
  obtain⟨y,u,h1,A⟩:=key h i hi Z;have:=B u hj h1;subst this;exact A
def tP(V:List α)(g:α->α->Bool)(b:α->Int):Prop:= ∀i j,i<V.length->j<V.length->(b (V.getD i co)=b (V.getD j co)↔tU V g i j=jp∧tU V g j i=jp)
theorem DY[DecidableEq α]{V:List α}(hn:V.Nodup){g:α->α->Bool}{succ:α->List α}(hs: ∀a∈V,∀b,b∈succ a↔b∈V∧g a b=jp){f:Nat}(hf:V.length<=f):tP V g (fJ succ f V St.o).ring:=by
 intro i j u x;rw[Ca (fun a y b hb=>((hs a y b).1 hb).1) hf (get_mem u) (get_mem x),Ap hn hs u x,Ap hn hs x u]
end
end
end Go.Rg
namespace Go.Proofs.YtllkaddcplhklaaGreatDoor
open Go Go.Al
mutual
def named:Lit->List ak
 | .mk k a _ _ _ _ _ _ b _=>if k=1∨k=2 then[a.rel] else if k=4 then fN b else[]
def fN:List Lit->List ak
 | []=> []
 |l::r=>named l++fN r
end
def Eo(l:Lit):List ak:=if l.kind=1∨l.kind=2 then[l.atom.rel] else if l.kind=4 then(l.ar.filter fun x=>lc (x.kind=1∨x.kind=2)).map fun x=>x.atom.rel else[]
theorem me: ∀l:List Lit,fN l=l.flatMap named
 | []=>rfl
 |x::r=>by simp only[fN,Qv,me r]
theorem u2: ∀(b:List Lit),(∀x∈b,x.kind≠4)->fN b=(b.filter fun x=>lc (x.kind=1∨x.kind=2)).map fun x=>x.atom.rel
 | [],_=>rfl
 | .mk k' a' op' le' ri' af' av' ao' b' at'::b,h=>by
  have j:k'≠4:=h (.mk k' a' op' le' ri' af' av' ao' b' at') (Pz ..);rw[fN,u2 b fun y u=>h y (Py _ u),Rf];by_cases hk:k'=1∨k'=2
  .have:lc ((Lit.mk k' a' op' le' ri' af' av' ao' b' at').kind=1∨(Lit.mk k' a' op' le' ri' af' av' ao' b' at').kind=2)=jp:=decide_eq_true hk;rw[this,named,am hk];rfl
  .have:lc ((Lit.mk k' a' op' le' ri' af' av' ao' b' at').kind=1∨(Lit.mk k' a' op' le' ri' af' av' ao' b' at').kind=2)=kw:=decide_eq_false hk;rw[this,named,be hk,be j];rfl
theorem En(l:Lit)(h:l.kind=4-> ∀x∈l.ar,x.kind≠4):named l=Eo l:=by
 obtain⟨k,a,op,le,B,u,A,y,b,at_⟩:=l;show(if k=1∨k=2 then[a.rel] else if k=4 then fN b else[])=if k=1∨k=2 then[a.rel] else if k=4 then(b.filter fun x=>lc (x.kind=1∨x.kind=2)).map fun x=>x.atom.rel else[];by_cases j:k=4
 .rw[u2 b (h j)]
 .rw[be j,be j]
def ln(l:Lit):Nat:=if l.kind=1 then 1 else 2
def cK(p:Prog):List (ak×ak×Nat):=p.rules.flatMap fun r=>r.body.flatMap fun l=>(named l).map fun t=>(r.head.rel,t,ln l)
def gD(hs:List (ak×ak×Nat))(a b:ak):Nat:=hs.foldl (fun m x=>if x.1=a∧x.2.1=b then max m x.2.2 else m) 0
theorem wI(a b:ak): ∀(hs:List (ak×ak×Nat)) (m:Nat),m<=hs.foldl (fun m x=>if x.1=a∧x.2.1=b then max m x.2.2 else m) m∧(∀k,(a,b,k)∈hs->k<=hs.foldl (fun m x=>if x.1=a∧x.2.1=b then max m x.2.2 else m) m)∧
  (hs.foldl (fun m x=>if x.1=a∧x.2.1=b then max m x.2.2 else m) m=m∨(a,b,hs.foldl (fun m x=>if x.1=a∧x.2.1=b then max m x.2.2 else m) m)∈hs)
 | [],m=>⟨Pv _,fun _ h=>(nomatch h),.inl Z⟩
 |(x,y,k)::hs,m=>by
  obtain⟨h1,u,h3⟩:=wI a b hs (if x=a∧y=b then max m k else m);rw[Qg];refine⟨P9 ?_ h1,fun A hk=>?_,?_⟩
  .split<;>omega
  .rcases Px.1 hk with h|h
   .cases h;refine P9 ?_ h1;rw[am ⟨rfl,rfl⟩];exact Nat.le_max_right _ _
   .exact u A h
  .rcases h3 with h3|h3
   .by_cases j:x=a∧y=b
    .rw[am j]at h3;rcases Nat.le_total m k with h4|h4
     .right;rw[S3 h4]at h3;obtain⟨rfl,rfl⟩:=j;simp only[and_self,if_true,S3 h4]at h3 ⊢;rw[h3];simp
     .left;rw[Nat.max_eq_left h4]at h3;simp only[j,and_self,if_true,Nat.max_eq_left h4]at h3 ⊢;exact h3
    .rw[be j]at h3;left;simp only[be j];exact h3
   .exact .inr (Py _ h3)
theorem NQ{hs:List (ak×ak×Nat)}{a b:ak}{k:Nat}(h:(a,b,k)∈hs):k<=gD hs a b:=(wI a b hs 0).2.1 k h
theorem NP(hs:List (ak×ak×Nat))(a b:ak):gD hs a b=0∨(a,b,gD hs a b)∈hs:=(wI a b hs 0).2.2
def ns(p:Prog):List ak:=dh (p.aS.map Decl.name)
theorem vH.LF{l:List ak}(h:vH l):l.Nodup:=by
 refine Sr ?_ h;intro a b j e;subst e;exact kZ _ j
def eg(p:Prog)(a b:ak):Bool:=lc (gD (cK p) a b≠0)
def LX(p:Prog):Nat->Nat->Bool:=Go.Rg.tU (ns p) (eg p)
theorem DZ{p:Prog}(hn:(p.aS.map Decl.name).Nodup){f:Nat}(hf:(ns p).length<=f):Go.Rg.tP (ns p) (eg p) (Go.Tj.fJ (fun a=>(ns p).filter (eg p a)) f (ns p) Go.Tj.St.o).ring:=
 Go.Rg.DY (V:=ns p) (vH.LF (iH hn)) (fun a _ b=>by rw[PZ]) hf
def ringEq(p:Prog)(a b:ak):Bool:=(PY (ns p).length).any fun i=>(PY (ns p).length).any fun j=>lc ((ns p).getD i co=a)&&lc ((ns p).getD j co=b)&&Go.Co.cls (LX p) i j
theorem y7{p:Prog}{a b:ak}:ringEq p a b=jp↔ ∃i j,i<(ns p).length∧j<(ns p).length∧(ns p).getD i co=a∧(ns p).getD j co=b∧LX p i j=jp∧LX p j i=jp:=by
 simp only[ringEq,QJ,QQ,Qf,decide_eq_true_eq,Go.Co.cls];constructor
 .rintro⟨i,hi,j,hj,⟨h1,h2⟩,h3,h4⟩;exact⟨i,j,hi,hj,h1,h2,h3,h4⟩
 .rintro⟨i,j,hi,hj,h1,h2,h3,h4⟩;exact⟨i,hi,j,hj,⟨h1,h2⟩,h3,h4⟩
theorem qy{p:Prog}{u:ak->Int}(hr:Go.Rg.tP (ns p) (eg p) u){a b:ak}(ha:a∈ns p)(hb:b∈ns p):ringEq p a b=lc (u a=u b):=by
 rw[QN,y7,decide_eq_true_eq];constructor
 .rintro⟨i,j,x,y,rfl,rfl,A,B⟩;exact(hr i j x y).2 ⟨A,B⟩
 .intro h;obtain⟨i,x,rfl⟩:=Go.Rg.wu ha;obtain⟨j,y,rfl⟩:=Go.Rg.wu hb;obtain⟨A,B⟩:=(hr i j x y).1 h;exact⟨i,j,x,y,rfl,rfl,A,B⟩
def y6(p:Prog)(r:aw):Bool:=r.body.any fun l=>lc (l.kind=1)&&ringEq p l.atom.rel r.head.rel
def vQ(p:Prog)(r:aw):Option Lit:=r.body.find? fun l=>lc (l.kind≠1)&&(named l).any fun t=>ringEq p t r.head.rel
def qn(r:aw):Bool:=r.head.aj.any fun t=>lc (t.kind=1)&&!dx (jX r) t.var
def vI(p:Prog)(r:aw):fi:=match vQ p r with
 |some l=>(70,l.at)
 |none=>if qn r=jp∧y6 p r=jp then(71,r.at_) else fi.z
def oA(p:Prog):fi:=if(dS p).1≠0 then dS p else((p.rules.map (vI p)).find? fun d=>lc (d.1≠0)).getD fi.z
end Go.Proofs.YtllkaddcplhklaaGreatDoor
namespace Go.Re
open Go.Tj
section
variable {α:Type}
structure Mid (succ:α->List α) (S T:α->Prop) (a:α) (l:List α):Prop where
 Nz: ∀x,S x->T x
 here:T a
 new: ∀x,T x->S x∨lS succ a x
 next: ∀x,T x->S x∨x=a∨ ∀y∈succ x,T y
 done: ∀y∈l,T y
structure Top (succ:α->List α) (V:α->Prop) (T:α->Prop) (l:List α):Prop where
 new: ∀x,T x-> ∃r∈l,V r∧lS succ r x
 next: ∀x,T x-> ∀y∈succ x,T y
 done: ∀r∈l,V r->T r
end
end Go.Re
namespace Go.Proofs.YtllkaddcplhklaaGreatDoor
open Go Go.Al
section
section
variable {r t:aw} (hh:t.head=r.head) (hb: ∀x,x∈t.body↔x∈r.body)
include hh hb
end
section
variable {r t:aw} (hh:t.head=r.head) (hb: ∀x,x∈t.body↔x∈r.body)
include hh hb
end
structure Pe (r t u:aw) (i k:Int):Prop where
 OA: ∀x∈eF (aE (bP r)),x∈eF (aE (aD r))
 Ny: ∀x∈eF (aE (nu r)),x∈eF (aE (bP r))
 outer:eF (aE (aD t))=eF (aE (aD r))
 lim:eF (aE (bP t))=eF (aE (bP r))
 plain:eF (aE (nu t))=eF (aE (nu r))
 loc:wy t i=wy r k
 wy: ∀x∈wy r k,x∉eF (aE (aD r))
 more: ∀x∈eF (aE (bP r)),x∈eF (aE (bP u))
 hasX:LC [88]∈eF (aE (bP u))
end
theorem Hm{n sz:Nat}{es:List (List PV)}(h:es.all (bj n)=jp):(AO.row sz es).low n:=fun _ e b=>P8.1 h e (P0 b)
def tT:List IV->List IV->Prop
 | [],[]=>True
 |p::r,q::s=>jC p q∧tT r s
 |_,_=>False
theorem tT.length: ∀{a b:List IV},tT a b->a.length=b.length
 | [],[],_=>rfl
 |_::_,_::_,h=>congrArg (· +1) (tT.length h.2)
 | [],_::_,h=>h.elim
 |_::_,[],h=>h.elim
theorem tT.get: ∀{a b:List IV},tT a b-> ∀(j:Nat) (q:IV),b[j]? =io q-> ∃p,a[j]? =io p∧jC p q
 | [],[],_,j,q,h=>by simp at h
 |p::r,q0::s,hh,j,q,h=>by
  cases j with
  |zero=>simp at h;subst h;exact⟨p,rfl,hh.1⟩
  |succ j=>simpa using tT.get hh.2 j q (by simpa using h)
 | [],_::_,hh,_,_,_=>hh.elim
 |_::_,[],hh,_,_,_=>hh.elim
theorem AP(p:Prog): ∀i,∀d∈nY p i,¬d.1=0
 |0,d,h=>by cases h
 |i+1,d,h=>by
  rw[nY]at h;rcases PI.1 h with h|h
  .exact AP p i d h
  .split at h
   .cases h
   .rename_i g;rw[PA]at h;subst h;exact g
theorem AK(p:Prog): ∀i,∀d∈oR p i,¬d.1=0
 |0,d,h=>by cases h
 |i+1,d,h=>by
  rw[oR]at h;rcases PI.1 h with h|h
  .exact AK p i d h
  .split at h
   .cases h
   .rename_i g;rw[PA]at h;subst h;exact g
theorem CN(p:Prog): ∀d∈jQ p,¬d.1=0:=fun d h=>by
 rcases PI.1 h with h|h
 .exact AP p _ d h
 .exact AK p _ d h
theorem Ad(p:Prog):(dS p).1=0↔jQ p=[]:=by
 unfold dS;cases h:jQ p with
 |nil=>exact⟨fun _=>rfl,fun _=>rfl⟩
 |cons d l=>exact⟨fun e=>absurd e (CN p d (by rw[h];exact Pz)),fun e=>nomatch e⟩
theorem xz(p:Prog): ∀n,oR p n=[]↔ ∀i,i<n->(sw p i).1=0
 |0=>⟨fun _ i h=>absurd h (Rl i),fun _=>rfl⟩
 |n+1=>by
  rw[oR,Sb,xz p n];constructor
  .rintro⟨h1,h2⟩ i b;rcases Q9.1 b with h|h
   .exact h1 i h
   .subst h;by_cases g:(sw p i).1=0
    .exact g
    .rw[be g]at h2;cases h2
  .intro h;exact⟨fun i b=>h i (by omega),am (h n (by omega))⟩
theorem kH{α:Type}[Inhabited α]{l:List α}{i:Nat}(hi:i<l.length):l.getD i co∈l:=by rw[Pn,Po hi];exact P7 hi
structure fz (p:Prog):Prop where
 nodup:(p.aS.map Decl.name).Nodup
 len:p.aS.length<=64
 Bg: ∀r∈p.rules,r.head.rel∈p.aS.map Decl.name
 lits: ∀r∈p.rules,∀l∈r.body,∀t∈named l,t∈p.aS.map Decl.name
 flat: ∀r∈p.rules,∀l∈r.body,l.kind=4-> ∀x∈l.ar,x.kind≠4
theorem xF(p:Prog): ∀n,nY p n=[]-> ∀i,i<n->fD p i=0
 |0,_,i,h=>absurd h (Rl _)
 |n+1,h,i,hi=>by
  rw[nY]at h;obtain⟨h1,b⟩:=Sb.1 h;rcases Q9.1 hi with h3|h3
  .exact xF p n h1 i h3
  .subst h3;exact Decidable.byContradiction fun j=>by rw[be j]at b;cases b
theorem qA{d:Decl}{i k:Int}(h:nZ d i k=0): ¬i>=64∧ ¬k>0:=by
 unfold nZ at h;split at h
 .cases h
 .split at h
  .cases h
  .rename_i b;split at h
   .cases h
   .rename_i j;exact⟨fun g=>b (.inl g),j⟩
theorem sJ{α:Type}[Inhabited α]: ∀(n:Nat) (l:List α),l.length=n->(∀i,i<l.length->l.getD i co∉l.take i)->l.Nodup
 |0,l,hn,_=>by rw[QY.1 hn];exact Qa
 |n+1,l,hn,h=>by
  have hd:l=l.take n++ [l.getD n co]:=by rw[<-ct (by omega),PJ (by omega)]
  have h1:=sJ n (l.take n) (by rw[QI];omega) fun i u=>by
   rw[QI]at u;have:=h i (by omega);rw[List.take_take,Nat.min_eq_left (by omega),Pn,Qc,am (by omega),<-Pn];exact this
  rw[hd,QX];refine⟨h1,by simp,fun a j b hb e=>?_⟩;rw[PA]at hb;subst e;subst hb;exact h n (by omega) j
theorem xD{s:ak}: ∀(l:List Decl) (m:DM),c8 .str (l.foldl iL m) s=jp->s∈m.map Qk∨s∈l.map Decl.name
 | [],m,h=> .inl (yp.1 h)
 |d::l,m,h=>by
  rw[Qg]at h;rcases xD l _ h with h1|h1
  .unfold iL at h1;split at h1
   .exact .inl h1
   .rename_i b;rw[dC (fun g=>b (yp.2 g))]at h1;rcases PI.1 h1 with h3|h3
    .exact .inl h3
    .rw[PA]at h3;subst h3;exact .inr Pz
  .exact .inr (Py _ h1)
theorem IN{p:Prog}{a:Atom}(h:tM p a=kw):a.rel∈p.aS.map Decl.name:=by
 unfold tM at h;rw[Q5]at h;rcases xD p.aS [] h with h1|h1
 .cases h1
 .exact h1
theorem k9{r:aw}{e:Int}(he:e≠0){f:Int->Bool}{k:fi}(h:(mj r e f k).1=0):(∀lit∈gH r.body.length,f lit=kw)∧k.1=0:=by
 unfold mj at h;split at h
 .exact absurd h he
 .rename_i h1;refine⟨fun lit hl=>?_,h⟩;have:=Rx.1 h1 lit hl;simpa using this
theorem y5{p:Prog}{r:aw}{n:Int}(h:(uJ p r n).1=0):(wx p r).1=0:=by
 unfold uJ at h;split at h
 .cases h
 .split at h
  .cases h
  .split at h
   .cases h
   .split at h
    .cases h
    .split at h
     .cases h
     .exact h
theorem HU(n:Nat):(-1:Int)∈gH n:=P1.2 ⟨0,by simp,by simp⟩
theorem A2{n i:Nat}(h:i<n):(i:Int)∈gH n:=P1.2 ⟨i+1,by simp;omega,by simp⟩
theorem Cr{l:Lit}{t:ak}(hf:l.kind=4-> ∀x∈l.ar,x.kind≠4)(h:t∈named l): ∃a∈(if l.kind=4 then l.ar else[l]).flatMap cE,a.rel=t:=by
 rw[En l hf]at h;unfold Eo at h;split at h
 .rename_i hk;rw[PA]at h;have b: ¬l.kind=4:=by omega
  refine⟨l.atom,?_,h.symm⟩;rw[be b,Sf];exact⟨l,Ru _,by rw[cE,am hk];exact Ru _⟩
 .split at h
  .rename_i b;obtain⟨x,y,rfl⟩:=P1.1 h;obtain⟨j,u⟩:=PZ.1 y;refine⟨x.atom,?_,rfl⟩;rw[am b,Sf];exact⟨x,j,by rw[cE,am (zT u)];exact Ru _⟩
  .cases h
theorem Br{p:Prog}(h:(dS p).1=0):fz p:=by
 have hF:=(Ad p).1 h;unfold jQ at hF;obtain⟨h1,B⟩:=Sb.1 hF;have h1:=xF p _ h1;have B:=(xz p _).1 B;have u: ∀r∈p.rules,(wx p r).1=0:=by
  intro r y;obtain⟨i,b,rfl⟩:=Rs.1 y;have:=y5 (B i b);rwa[Pn,Po b]at this
 have A: ∀r∈p.rules,∀lit∈gH r.body.length,∀a∈eD r lit,a.rel∈p.aS.map Decl.name:=by
  intro r y lit hl a C;have:=(k9 (by decide) (u r y)).1 lit hl;exact IN (by simpa using Qm.1 this a C)
 have j: ∀r∈p.rules,∀l∈r.body,l.kind=4-> ∀x∈l.ar,x.kind≠4:=by
  intro r y l hl I x Y;obtain⟨i,b,rfl⟩:=Rs.1 hl;have:=(k9 (by decide) (k9 (by decide) (k9 (by decide) (u r y)).2).2).1 _ (A2 b);have e:aq r (i:Int)=r.body[i]:=by unfold aq;simp[Pn,b]
  unfold kQ at this;rw[be (by omega),e,am I,RE]at this;simpa using Qm.1 this.1 x Y
 refine⟨sJ _ _ Z fun i b G=>?_,?_,fun r y=>?_,fun r y l hl t R=>?_,j⟩
 .rw[PX]at b;have:=(qA (h1 i b)).2;rw[bA]at this;have D:oz (ff p i) (p.aS.getD i co).name=0:=by omega
  rw[qp]at D;apply D;unfold ff;rw[Pn,Ps,Po b,<-List.map_take]at G;rw[Pn,Po b];exact G
 .refine Ro fun J=>?_
  have:=(qA (h1 64 J)).1;omega
 .exact A r y (-1) (HU _) r.head (by unfold eD;simp)
 .obtain⟨i,b,rfl⟩:=Rs.1 hl;obtain⟨a,C,rfl⟩:=Cr (j r y _ hl) R;refine A r y _ (A2 b) a ?_;have e:aq r (i:Int)=r.body[i]:=by unfold aq;simp[Pn,b]
  unfold eD wz;rw[be (by omega),e];exact C
theorem fz.cK{p:Prog}(h:fz p){x:ak×ak×Nat}(j:x∈cK p):x.1∈p.aS.map Decl.name∧x.2.1∈p.aS.map Decl.name∧0<x.2.2:=by
 simp only[_root_.Go.Proofs.YtllkaddcplhklaaGreatDoor.cK,Sf,P1]at j;obtain⟨r,b,l,hl,t,u,rfl⟩:=j;refine⟨h.Bg r b,h.lits r b l hl t u,?_⟩;show 0<ln l;unfold ln;split<;>omega
abbrev GM:=List ((KC.str).K×Option NM)
def Ck:Option NM->IV
 |none=> .v (.map is)
 |some r=>xZ r
abbrev vi(m:GM):IV:= .dR .str Ck is (.map is) m
def C4(row:NM)(t:ak)(b:Int):NM:=cD .str row t (max (dw .str row t 0) b)
def iK(hs:List (ak×ak×Nat))(a:ak):NM:=hs.foldl (fun row x=>if x.1=a then C4 row x.2.1 x.2.2 else row) []
def b3(p:Prog)(hs:List (ak×ak×Nat)):GM:=p.aS.map fun r=>(r.name,io (iK hs r.name))
def ta(p:Prog):IV:=if(dS p).1=0 then vi (b3 p (cK p)) else .v (.map is)
theorem mT(hs:List (ak×ak×Nat))(x:ak×ak×Nat)(a:ak):iK (hs++ [x]) a=if x.1=a then C4 (iK hs a) x.2.1 x.2.2 else iK hs a:=by
 simp[iK,List.foldl_append]
theorem uL(hs:List (ak×ak×Nat))(a:ak):((iK hs a).map Qk).Nodup∧ ∀b:ak,b∈(iK hs a).map Qk↔ ∃k,(a,b,k)∈hs:=by
 induction hs using oN with
 |h0=>exact⟨Qa,fun b=>by simp[iK]⟩
 |h1 hs x ih=>
  obtain⟨B,A⟩:=ih;obtain⟨y,z,k⟩:=x;rw[mT];by_cases h:y=a
  .rw[am h,C4];by_cases C:z∈(iK hs a).map Qk
   .rw[o9 C];refine⟨B,fun b=>?_⟩;rw[A];constructor
    .rintro⟨j,hj⟩;exact⟨j,P6 _ hj⟩
    .rintro⟨j,hj⟩;rcases PI.1 hj with hj|hj
     .exact⟨j,hj⟩
     .rw[PA]at hj;cases hj;exact(A z).1 C
   .rw[dC C];refine⟨QX.2 ⟨B,by simp,fun u hu v D e=>?_⟩,fun b=>?_⟩
    .rw[PA]at D;subst e;subst D;exact C hu
    .rw[PI,A,PA];constructor
     .rintro(⟨j,hj⟩|rfl)
      .exact⟨j,P6 _ hj⟩
      .exact⟨k,QU _ (by rw[h];exact Ru _)⟩
     .rintro⟨j,hj⟩;rcases PI.1 hj with hj|hj
      .exact .inl ⟨j,hj⟩
      .rw[PA]at hj;cases hj;exact .inr Z
  .rw[be h];refine⟨B,fun b=>?_⟩;rw[A];constructor
   .rintro⟨j,hj⟩;exact⟨j,P6 _ hj⟩
   .rintro⟨j,hj⟩;rcases PI.1 hj with hj|hj
    .exact⟨j,hj⟩
    .rw[PA]at hj;cases hj;exact absurd Z h
theorem DW(hs:List (ak×ak×Nat))(a:ak):(iK hs a).length<=hs.length:=by
 induction hs using oN with
 |h0=>exact Pv _
 |h1 hs x ih=>
  rw[mT,Pp,Qq];split
  .have:=sD (iK hs a) x.2.1 (max (dw .str (iK hs a) x.2.1 0) x.2.2);unfold C4;omega
  .omega
def bf(p:Prog)(a:ak):List ak:=(ns p).filter (eg p a)
theorem xg{p:Prog}(h:fz p)(a:ak):dh ((iK (cK p) a).map Qk)=bf p a:=by
 refine nT (iH (uL _ _).1) (RH _ (iH h.nodup)) fun b=>?_;rw[ku,(uL _ _).2,bf,PZ,ns,ku,eg,decide_eq_true_eq];constructor
 .rintro⟨k,hk⟩;have h1:=h.cK hk;refine⟨h1.2.1,?_⟩;have:=NQ hk;have h2:0<k:=h1.2.2;omega
 .rintro⟨_,h1⟩;rcases NP (cK p) a b with h2|h2
  .exact absurd h2 h1
  .exact⟨_,h2⟩
theorem EJ(p:Prog)(hs:List (ak×ak×Nat)){a:ak}(h:a∈p.aS.map Decl.name):dw .str (b3 p hs) a is=io (iK hs a):=by
 unfold b3
 revert h
 generalize p.aS=l
 induction l with
 |nil=>intro h;cases h
 |cons d l ih=>
  intro h;simp only[PB,dw];by_cases e:d.name=a
  .rw[am e,e]
  .rw[be e];rw[PB,Px]at h;exact ih (h.resolve_left fun g=>e g.symm)
theorem zH(p:Prog)(hs:List (ak×ak×Nat)):(b3 p hs).map Qk=p.aS.map Decl.name:=by
 simp[b3]
theorem qG{b:List Lit}{i:Nat}(h:i<b.length):fN (b.take (i+1))=fN (b.take i)++named (b.getD i co):=by
 rw[me,me,ct h,R3];simp
mutual
theorem kr: ∀l:Lit,(named l).length<=l.size
 | .mk k a op le ri af av ao b at_=>by
  have:=oe b;unfold named Lit.size;split
  .simp;omega
  .split
   .omega
   .simp
theorem oe: ∀l:List Lit,(fN l).length<=Lit.aB l
 | []=>Pv _
 |l::r=>by
  have h1:=kr l;have b:=oe r;simp only[fN,Lit.aB,Pp];omega
end
theorem Cq(b:List Lit)(i:Nat):(fN (b.take i)).length<=Lit.aB b:=by
 have h1:=oe (b.take i);have j: ∀(b:List Lit) (i:Nat),Lit.aB (b.take i)<=Lit.aB b:=by
  intro b
  induction b with
  |nil=>intro i;simp[Lit.aB]
  |cons x r ih=>
   intro i;cases i with
   |zero=>simp[Lit.aB]
   |succ i=>have:=ih i;simp only[QS,Lit.aB];omega
 exact P9 h1 (j b i)
def Mf(n:Nat):Prop:= ∀l:Lit,l.size<=n->Pure Tryz.prog 62 [ag l.c] (.iv (strs (named l)))
theorem o5(l:Lit):named l=if l.kind=1∨l.kind=2 then[l.atom.rel] else if l.kind=4 then fN l.ar else[]:=by cases l;rfl
theorem DI: ∀n:Nat,n<=100000000000->Mf n
 |0,_=>fun l h=>absurd l.size_pos (by omega)
 |n+1,hn=>fun l h=>by
  have C:=l.size_eq;refine Al.Pure.le (aa:=[ag l.c]) (args:=[ag l.c1]) ?_ ⟨l.A4,ac⟩;refine ah ab Tryz.func62 Z (by decide) Tryz.ntmps62 Z (by simp) Z ?_;refine zJ Z Z (fun b=>?_) fun b=>?_
  .have b:l.kind=1:=by simpa using b
   rw[o5,am (.inl b)];refine gA Z (dt (by first|exact .inr Z|exact .inl Z) Z Z (rfl) (rfl))
  have b: ¬l.kind=1:=by simpa using b
  refine zJ Z Z (fun j=>?_) fun j=>?_
  .have j:l.kind=2:=by simpa using j
   rw[o5,am (.inr j)];refine gA Z (dt (by first|exact .inr Z|exact .inl Z) Z Z (rfl) (rfl))
  have j: ¬l.kind=2:=by simpa using j
  rw[o5,be (by rintro(g|g);exact b g;exact j g)];refine zE Z Z (fun u=>?_) fun u=>?_
  .have u: ¬l.kind=4:=by simpa using u
   rw[be u];refine gA Z (zL ?_);exact .nil _ _
  have u:l.kind=4:=by simpa using u
  rw[am u];refine gA Z ?_;refine lq 3 1 Z ?_;refine aJ 0 l.ar.length (PC _) (fun i=>⟨[(3,.sl 2 0 (fN (l.ar.take i)).length 1),(19,.iv (lits l.ar)),(20,pI l.ar.length),(21,pI i)],[(2,io (aF 1 (fN (l.ar.take i)) cW))],3⟩) (fun _=>True) [1] ac
   (zW (zS trivial)) fun i D _=>?_
  have y:=Cq l.ar i;have x:=Lit.aG l.ar;refine zJ Z Z (fun h1=>?_) fun h1=>?_
  .have h1:i<l.ar.length:=by simpa using h1
   have A:=Lit.bU l.ar i h1;have B:=kr (l.ar.getD i co);refine gA Z (zp (DI n (by omega) (l.ar.getD i co) (by omega)) ?_);refine gA Z ⟨h1,ac,[4],zM ⟨.row (by rw[qG h1,Pp]),rfl,bi (bi (bi ac))⟩ (hR Z (by rw[vS,qG h1,PH]) Z ac)⟩
  .have h1:l.ar.length<=i:=by simpa using h1
   rw[PJ h1];refine gA Z (dt (by first|exact .inr Z|exact .inl Z) Z Z (rfl) (rfl))
theorem AG(l:Lit)(h:l.size<=100000000000):Pure Tryz.prog 62 [ag l.c] (.iv (strs (named l))):=DI l.size h l (Pv _)
end Go.Proofs.YtllkaddcplhklaaGreatDoor
namespace Go.Proofs.YtllkaddcplhklaaGreatDoor
open Go Go.Al Go.Proofs.Tryz
section
theorem JR(hS:fF)(el:Nat->List IV):Pure prog 84 [.iv (.cB 1 0 el)] (.bm []):=by
 refine⟨ba func84 Z (by decide),fun M N w vs x j y=>?_⟩;obtain⟨v,rfl⟩: ∃v,vs=[v]:=by
  cases vs with
  |nil=>cases j
  |cons v r=>cases r with
   |nil=>exact⟨v,rfl⟩
   |cons a b=>simp at j
 have u:=y 0 _ Z;simp only[Rj]at u;obtain⟨a,a0,rfl⟩: ∃a a0,v= .slice a 0 a0:=by
  cases u with
  |iv _ _ h=>cases h with
   |fu _ _ a a0=>exact⟨a,a0,rfl⟩
   |cB _ _ _ b off a0=>exact⟨_,a0,rfl⟩
 refine(hS.2 a a0 w).mono ?_;rintro e A ⟨rfl,rfl⟩;exact⟨_,M,N,.bm [],_,_,rfl,⟨rfl,rfl,rfl⟩,.refl _ _ _ _ _,x,.bm [] #[] Z (by simp)⟩
section
variable {V:Type}
def Bb(m:List ((KC.str).K×V))(vs:List Nat):List ak:=fO (m.map fun x=>(x.1,0)) vs
theorem ym(m:List ((KC.str).K×V))(vs:List Nat)(j:Nat)(x:(KC.str).K×V)(h:m[j]? =io x):Bb m (j::vs)=Bb m vs++ [x.1]:=
 jM _ _ _ (x.1,0) (by rw[Ps,h];rfl)
theorem Ba(m:List ((KC.str).K×V))(vs:List Nat)(hn:vs.Nodup)(hb: ∀j∈vs,j<m.length)(b: ∀j,j<m.length->j∈vs):(Bb m vs).Perm (m.map (·.1)):=by
 have:=jd (m.map fun x=>(x.1,(0:Int))) vs hn (by simpa using hb) (by simpa using b);rw[PW]at this;exact this
theorem A9(m:List ((KC.str).K×V))(vs:List Nat):(Bb m vs).length<=vs.length:=sZ _ _
end
def Cj(i:Nat):List ak->PV
 | []=> .sl i 1 0 1
 |x::r=> .sl i 0 (x::r).length 1
def ub(n:Nat):List ak->AO
 | []=> .row 1 (RV n [pS Pt])
 |x::r=>aF 1 (x::r) cW
theorem uX(i:Nat)(l:List ak)(s:ak):Cj i (l++ [s])= .sl i 0 (l.length+1) 1:=by cases l<;>simp[Cj]
theorem uY(n:Nat)(l:List ak)(s:ak):ub n (l++ [s])=aF 1 (l++ [s]) cW:=by cases l<;>rfl
theorem xT{i:Nat}{l:List ak}(h:l≠ []):Cj i l= .sl i 0 l.length 1:=by cases l with
 |nil=>exact absurd Z h
 |cons=>rfl
theorem xU{n:Nat}{l:List ak}(h:l≠ []):ub n l=aF 1 l cW:=by cases l with
 |nil=>exact absurd Z h
 |cons=>rfl
theorem Eb(n:Nat)(l:List ak)(k:Nat):(ub n l).low k:=by
 cases l with
 |nil=>
  intro j e b;rw[List.getElem?_replicate]at b;split at b
  .cases b;rfl
  .cases b
 |cons x r=>exact dL k
theorem Ea(n:Nat)(l:List ak)(σ:Nat->Nat):(ub n l).cx σ=ub n l:=by
 cases l with
 |nil=>simp only[ub,AO.cx];rw[List.map_replicate];rfl
 |cons x r=>exact b4 σ
theorem hO{h r:AH}{σ:Nat->Nat}{i n m:Nat}{o:AO}{l:List ak}(ho:h.get (σ i)=io o)(he:o=ub m l)(hi:PL i n=jp)(hr:mP n σ h r):mP n σ h ((i,io (ub m l))::r):=
 ⟨⟨_,ho,.of_eq (by rw[Ea,he])⟩,Pj hi,Eb m l n,hr⟩
theorem oU(i:Nat)(l:List ak){n:Nat}(h:PL i n=jp):(Cj i l).low n=jp:=by cases l<;>exact h
theorem DG(hS:fF)(m:NM)(hm:m.length<=100000000):Pure prog 66 [.iv (xZ m)] (.iv (strs (dh (m.map (·.1))))):=by
 refine ah ab func66 Z (by decide) ntmps66 Z (by simp) Z ?_;rcases Nat.eq_zero_or_pos m.length with h0|h0
 .have h0:=QY.1 h0;subst h0;refine gA Z (EL ab 1 (fun k=>cW (([]:List ak).getD k co)) Z Z Z Z Z Z Z Z Z Z ?_);refine gA Z ?_;refine eY ([]:List ((KC.str).K×Int)) (fun _=>⟨[(3,.iv (.cB 1 0 (fun k=>cW (([]:List ak).getD k co)))),(9,.ptr 1 0)],[(1,io (.bL .str w5 ([]:List ((KC.str).K×Int)) [] is))],2⟩) (fun _=>True) [] ac
   (zW (hI Z Z (.inl Z) Z trivial)) fun vs _=>?_
  refine fk Z ac (dq Z Z Z Z Z (by decide) (fun _=>?_) fun j x A _=>?_)
  .refine gA Z (aC (JR hS _) Z Z Z Z Z Z ?_);refine gA Z (zL ?_);exact .of_eq (show _=PV.iv (strs (dh [])) by rw[mS];rfl)
  .cases A
 refine gA Z (J2 ab m.length 0 Z Z Z Z Z Z Z Z Z h0 (by omega) (by show 16*m.length<=_;omega) Z (by decide) Z (.inl ⟨rfl,rfl⟩) Z ?_);refine gA Z ?_;refine eY m (fun vs=>⟨[(3,Cj 2 (Bb m vs)),(9,.ptr 1 0)],[(1,io (.bL .str w5 m vs is)),(2,io (ub m.length (Bb m vs)))],3⟩) (fun vs=>vs.Nodup∧ ∀j∈vs,j<m.length) [0] ⟨Qa,by simp⟩
  (zW (hI Z Z (.inl Z) Z (hO Z Z Z trivial))) fun vs Y=>?_
 obtain⟨u,y⟩:=Y;have J:=sL u y;have C:=A9 m vs;refine fk Z ac (dq Z Z Z Z Z (by decide) (fun B=>?_) fun j x A G=>?_)
 .have I:=Ba m vs u y B;have D:Bb m vs≠ []:=fun e=>by
   have:=I.length_eq;rw[e,PX]at this;simp at this;omega
  rw[xT D,xU D];refine fk Z ac (bx [2] (Fz hS (Bb m vs) (by omega)) Z Z Z Z Z (congrArg (fun o=> [io o]) (b4 _).symm) Z Z ?_);refine fk Z ac (dt (.inr Z) Z Z ((sx _ _).trans (by rw[nU I])) ?_);rw[iP,<-I.length_eq]
 .have hk:=ym m vs j x A;have a0: ∀b,b=j::vs->b.Nodup∧ ∀i∈b,i<m.length:=fun b e=>e▸⟨P2.2 ⟨G,u⟩,fun i hi=>(Px.1 hi).elim (fun h=>h▸(Pm.1 A).1) (y i)⟩
  cases hl:Bb m vs with
  |nil=>
   rw[hl,Rk]at hk;refine gA Z (wG ab Z Z Z Z Z Z Z Z Z (by simp;omega) (by simp) (ju Z) Z ?_);refine gA Z ?_;exact⟨j,x,A,G,a0 _ Z,[4],zM ⟨.of_eq (by rw[hk];rfl),oU 2 _ Z,.refl _,rfl,ac⟩ (hI Z Z (.inr Z) Z (hO Z (by rw[hk];rfl) Z ac))⟩
  |cons a r=>
   rw[hl]at hk C;have R:(r.length+1)<=m.length:=by simpa using P9 C J
   refine gA Z ⟨j,x,A,G,a0 _ Z,[4],zM ⟨.of_eq (by rw[hk,uX];rfl),oU 2 _ Z,.refl _,rfl,ac⟩ (hI Z Z (.inr Z) Z (hO Z (by rw[hk,uY,aF,PH];rfl) Z ac))⟩
theorem DH(hS:fF)(m:GM)(hm:m.length<=100000000):Pure prog 67 [.iv (vi m)] (.iv (strs (dh (m.map (·.1))))):=by
 refine ah ab func67 Z (by decide) ntmps67 Z (by simp) Z ?_;rcases Nat.eq_zero_or_pos m.length with h0|h0
 .have h0:=QY.1 h0;subst h0;refine gA Z (EL ab 1 (fun k=>cW (([]:List ak).getD k co)) Z Z Z Z Z Z Z Z Z Z ?_);refine gA Z ?_;refine eY ([]:List ((KC.str).K×Option NM)) (fun _=>⟨[(3,.iv (.cB 1 0 (fun k=>cW (([]:List ak).getD k co)))),(9,.ptr 1 0)],[(1,io (.bL .str Ck ([]:List ((KC.str).K×Option NM)) [] is))],2⟩) (fun _=>True) [] ac
   (zW (hI Z Z (.inl Z) Z trivial)) fun vs _=>?_
  refine fk Z ac (dq Z Z Z Z Z (by decide) (fun _=>?_) fun j x A _=>?_)
  .refine gA Z (aC (JR hS _) Z Z Z Z Z Z ?_);refine gA Z (zL ?_);exact .of_eq (show _=PV.iv (strs (dh [])) by rw[mS];rfl)
  .cases A
 refine gA Z (J2 ab m.length 0 Z Z Z Z Z Z Z Z Z h0 (by omega) (by show 16*m.length<=_;omega) Z (by decide) Z (.inl ⟨rfl,rfl⟩) Z ?_);refine gA Z ?_;refine eY m (fun vs=>⟨[(3,Cj 2 (Bb m vs)),(9,.ptr 1 0)],[(1,io (.bL .str Ck m vs is)),(2,io (ub m.length (Bb m vs)))],3⟩) (fun vs=>vs.Nodup∧ ∀j∈vs,j<m.length) [0] ⟨Qa,by simp⟩
  (zW (hI Z Z (.inl Z) Z (hO Z Z Z trivial))) fun vs Y=>?_
 obtain⟨u,y⟩:=Y;have J:=sL u y;have C:=A9 m vs;refine fk Z ac (dq Z Z Z Z Z (by decide) (fun B=>?_) fun j x A G=>?_)
 .have I:=Ba m vs u y B;have D:Bb m vs≠ []:=fun e=>by
   have:=I.length_eq;rw[e,PX]at this;simp at this;omega
  rw[xT D,xU D];refine fk Z ac (bx [2] (Fz hS (Bb m vs) (by omega)) Z Z Z Z Z (congrArg (fun o=> [io o]) (b4 _).symm) Z Z ?_);refine fk Z ac (dt (.inr Z) Z Z ((sx _ _).trans (by rw[nU I])) ?_);rw[iP,<-I.length_eq]
 .have hk:=ym m vs j x A;have a0: ∀b,b=j::vs->b.Nodup∧ ∀i∈b,i<m.length:=fun b e=>e▸⟨P2.2 ⟨G,u⟩,fun i hi=>(Px.1 hi).elim (fun h=>h▸(Pm.1 A).1) (y i)⟩
  cases hl:Bb m vs with
  |nil=>
   rw[hl,Rk]at hk;refine gA Z (wG ab Z Z Z Z Z Z Z Z Z (by simp;omega) (by simp) (ju Z) Z ?_);refine gA Z ?_;exact⟨j,x,A,G,a0 _ Z,[4],zM ⟨.of_eq (by rw[hk];rfl),oU 2 _ Z,.refl _,rfl,ac⟩ (hI Z Z (.inr Z) Z (hO Z (by rw[hk];rfl) Z ac))⟩
  |cons a r=>
   rw[hl]at hk C;have R:(r.length+1)<=m.length:=by simpa using P9 C J
   refine gA Z ⟨j,x,A,G,a0 _ Z,[4],zM ⟨.of_eq (by rw[hk,uX];rfl),oU 2 _ Z,.refl _,rfl,ac⟩ (hI Z Z (.inr Z) Z (hO Z (by rw[hk,uY,aF,PH];rfl) Z ac))⟩
end
end Go.Proofs.YtllkaddcplhklaaGreatDoor
namespace Go.Proofs.YtllkaddcplhklaaGreatDoor
open Go Go.Al
def Ox(b:Option Nat):IV:= .v (.map b)
def dvR(p:PV):Option Nat:=match p with
 | .iv (.v (.map b))=>b
 |_=>is
abbrev RM:=List ((KC.str).K×Option Nat)
abbrev gO(m:RM):AO:= .map .str Ox is (.map is) dvR m
abbrev w6:=Nat×Nat
def jb(l:List Decl)(B:List w6):RM:=Sy (fun d b=>(d.name,io b.1)) l B
def dz(L:List (Nat×Nat×NM)):bn:=fun b=>(L.find? fun y=>y.1==b).map fun y=> .obj (cI y.2.2) y.2.1
theorem gh(L:List (Nat×Nat×NM)):(dz L).still:=by
 intro b i e h;unfold dz at h;cases hf:L.find? fun y=>y.1==b<;>rw[hf]at h<;>cases h
def rowsOf(l:List Decl)(B:List w6)(hs:List (ak×ak×Nat)):List (Nat×Nat×NM):=Sy (fun d b=>(b.1,b.2,iK hs d.name)) l B
theorem Ct{V:Type}{kc:KC}{ev:V->IV}{z:V}{b:Value}{u:PV->V}(y: ∀M,IR M (ev z) b):dV .eC (.map kc ev z b u []):=
 ⟨id,fun M N U w j x=>⟨#[],0,x,⟨rfl,by simp,by simp,by simp,by simp⟩,y M⟩⟩
structure BOK (l:List Decl) (i:Nat) (B:List w6):Prop where
 len:B.length=i
 nd:(B.map Qk).Nodup
theorem xH(l:List Decl):jb l []=[]:=by cases l<;>rfl
theorem sy(l:List Decl)(hs:List (ak×ak×Nat)):rowsOf l [] hs=[]:=by cases l<;>rfl
theorem yZ(l:List Decl)(hs:List (ak×ak×Nat)):dz (rowsOf l [] hs)=bn.nil:=by rw[sy];rfl
theorem rR{α β γ:Type}[Inhabited α](f:α->β->γ): ∀(l:List α) (B:List β) (x:β),B.length<l.length->Sy f l (B++ [x])=Sy f l B++ [f (l.getD B.length co) x]
 |a::l,[],x,_=>by simp
 |a::l,b::B,x,h=>by
  have:=rR f l B x (by simpa using h);simp[this]
 | [],B,x,h=>absurd h (Rl _)
theorem HM{B:List w6}{b e:Nat}(h:(B.map Qk).Nodup)(hb:b∉B.map Qk):((B++ [(b,e)]).map Qk).Nodup:=by
 rw[PH,QX];exact⟨h,by simp,fun u hu v j g=>hb (by simp at j;subst g;subst j;exact hu)⟩
theorem l4(hs:List (ak×ak×Nat)): ∀(l:List Decl) (B:List w6),B.length<=l.length->(rowsOf l B hs).map Qk=B.map Qk
 |_,[],_=>by simp[sy]
 |d::l,b::B,h=>by
  have:=l4 hs l B (by simpa using h);simp only[rowsOf,Sz,PB]at this ⊢;rw[this]
 | [],b::B,h=>absurd h (by simp)
theorem B4{l:List Decl}{B:List w6}{hs:List (ak×ak×Nat)}{b:Nat}(hl:B.length<=l.length)(h:dz (rowsOf l B hs) b=is):b∉B.map Qk:=by
 rw[<-l4 hs l B hl];intro j;obtain⟨y,u,rfl⟩:=P1.1 j;unfold dz at h;rw[RN,Rx]at h;exact h y u (by simp)
theorem xr(L:List (Nat×Nat×NM))(y:Nat×Nat×NM)(h:y.1∉L.map Qk):dz (L++ [y])=(dz L).put y.1 (.obj (cI y.2.2) y.2.1):=by
 funext c
 unfold dz bn.put;rw[List.find?_append];by_cases b:c=y.1
 .subst b;rw[am Z];have:L.find? (fun z=>z.1==y.1)=is:=Rx.2 fun z j=>by
   simp only[beq_iff_eq];exact fun e=>h (e▸Sh j)
  rw[this];simp
 .rw[be b];have: ¬y.1=c:=fun e=>b e.symm;cases hf:L.find? (fun z=>z.1==c)<;>simp[this,hf]
theorem B3{l:List Decl}{B:List w6}{b e:Nat}(hl:B.length<l.length)(hb:b∉B.map Qk):dz (rowsOf l (B++ [(b,e)]) [])=(dz (rowsOf l B [])).put b (.obj (cI []) e):=by
 have h:rowsOf l (B++ [(b,e)]) []=rowsOf l B []++ [(b,e,[])]:=rR _ l B (b,e) hl;rw[h];exact xr _ _ (by rw[l4 _ _ _ (Nat.le_of_lt hl)];exact hb)
theorem xG: ∀(l:List Decl) (B:List w6),B.length<=l.length->(jb l B).map Qk=(l.take B.length).map Decl.name
 |_,[],_=>by simp[xH]
 |d::l,b::B,h=>by
  have:=xG l B (by simpa using h);simp only[jb,Sz,PB,PO,QS]at this ⊢;rw[this]
 | [],b::B,h=>absurd h (by simp)
theorem HA{V:Type}{m:List ((KC.str).K×V)}{s:ak}{v:V}(h:s∉m.map Qk):cD .str m s v=m++ [(s,v)]:=by
 induction m with
 |nil=>rfl
 |cons x r ih=>
  obtain⟨a,c⟩:=x;simp only[PB,Px,not_or]at h;have: ¬a=s:=fun e=>h.1 e.symm;simp only[cD,be this,ih h.2];rfl
theorem D5{l:List Decl}{B:List w6}{i b e:Nat}(hn:(l.map Decl.name).Nodup)(hi:B.length=i)(hl:i<l.length):cD .str (jb l B) (l.getD i co).name (io b)=jb l (B++ [(b,e)]):=by
 subst hi;have h:jb l (B++ [(b,e)])=jb l B++ [((l.getD B.length co).name,io b)]:=rR _ l B (b,e) hl;rw[h];apply HA;rw[xG l B (Nat.le_of_lt hl)];intro u;have j:l.map Decl.name=(l.take B.length).map Decl.name++(l.drop B.length).map Decl.name:=by rw[<-PH,RS]
 rw[j,QX]at hn;refine hn.2.2 _ u _ (P1.2 ⟨l.getD B.length co,?_,rfl⟩) Z;rw[Pn,Po hl];exact List.mem_drop_iff_getElem.2 ⟨0,by simpa using hl,by simp⟩
def pe(r:aw)(l:Lit):List (ak×ak×Nat):=(named l).map fun t=>(r.head.rel,t,ln l)
def Bh(r:aw):List (ak×ak×Nat):=r.body.flatMap (pe r)
theorem Bt: ∀{L:List (Nat×Nat×NM)} {j:Nat} {y:Nat×Nat×NM},(L.map Qk).Nodup->L[j]? =io y->L.find? (fun z=>z.1==y.1)=io y
 | [],_,_,_,h=>by simp at h
 |x::L,0,y,_,h=>by
  simp only[List.getElem?_cons_zero,Pl]at h;subst h;simp
 |x::L,j+1,y,hn,h=>by
  rw[R6]at h;rw[PB,P2]at hn;have b: ¬x.1=y.1:=fun e=>hn.1 (e▸Sh (P0 h));rw[List.find?_cons_of_neg (by simpa using b)];exact Bt hn.2 h
theorem oO{l:List Decl}{B:List w6}{hs:List (ak×ak×Nat)}{j:Nat}{d:Decl}{b:w6}(hl:B.length=l.length)(hn:(B.map Qk).Nodup)(hd:l[j]? =io d)(hb:B[j]? =io b):dz (rowsOf l B hs) b.1=io (.obj (cI (iK hs d.name)) b.2):=by
 have h:(rowsOf l B hs)[j]? =io (b.1,b.2,iK hs d.name):=by
  unfold rowsOf;rw[SG,hd,hb]
 have u:=Bt (by rw[l4 hs l B (SV hl)];exact hn) h;unfold dz;rw[u];rfl
theorem xq{l:List Decl}{B:List w6}{hs:List (ak×ak×Nat)}{c:Nat}(hl:B.length<=l.length)(h:c∉B.map Qk):dz (rowsOf l B hs) c=is:=by
 rw[<-l4 hs l B hl]at h;unfold dz;rw[RN,Rx];intro y b;simp only[beq_iff_eq];exact fun e=>h (e▸Sh b)
theorem B2{l:List Decl}{B:List w6}{hs:List (ak×ak×Nat)}{j h:Nat}{d:Decl}{b:w6}{t:ak}(hl:B.length=l.length)(hn:(B.map Qk).Nodup)(J:(l.map Decl.name).Nodup)(hd:l[j]? =io d)(hb:B[j]? =io b):
  (dz (rowsOf l B hs)).put b.1 (.obj (cI (C4 (iK hs d.name) t h)) b.2)=dz (rowsOf l B (hs++ [(d.name,t,h)])):=by
 funext c
 unfold bn.put;by_cases y:c=b.1
 .subst y;rw[am Z,oO hl hn hd hb,mT,am Z]
 .rw[be y];by_cases I:c∈B.map Qk
  .obtain⟨Y,x,rfl⟩:=P1.1 I;obtain⟨i,A,rfl⟩:=Rs.1 x;have u:i<l.length:=by omega
   have C:i≠j:=fun e=>y (by subst e;rw[Po A]at hb;cases hb;rfl);rw[oO hl hn (Po u) (Po A),oO hl hn (Po u) (Po A),mT,be];intro e;have R:=(Pm.1 hd)
   obtain⟨D,G⟩:=R;apply C;refine(List.getElem_inj J (h₀:=by simpa using u) (h₁:=by simpa using D)).1 ?_;rw[Q8,Q8,G];exact e.symm
  .rw[xq (SV hl) I,xq (SV hl) I]
theorem Lv{l:List Decl}{B:List w6}{a:ak}(hl:B.length=l.length)(u:(l.map Decl.name).Nodup)(ha:a∈l.map Decl.name): ∃(j:Nat) (d:Decl) (b:w6),l[j]? =io d∧B[j]? =io b∧d.name=a∧dw .str (jb l B) a is=io b.1:=by
 induction l generalizing B with
 |nil=>cases ha
 |cons d l ih=>
  cases B with
  |nil=>cases hl
  |cons b B=>
   by_cases h:d.name=a
   .exact⟨0,d,b,rfl,rfl,h,by simp[jb,dw,h]⟩
   .rw[PB,P2]at u;rw[PB,Px]at ha;obtain⟨j,y,x,h1,A,C,D⟩:=ih (by simpa using hl) u.2 (ha.resolve_left fun e=>h e.symm);exact⟨j+1,y,x,h1,A,C,by simpa[jb,dw,h]using D⟩
def dvG(_:PV):Option NM:=is
theorem Dh{p:Prog}{B:List w6}(hl:B.length=p.aS.length)(hn:(B.map Qk).Nodup){hs:List (ak×ak×Nat)}:Kc (dz (rowsOf p.aS B hs)) (gO (jb p.aS B)) (.map .str Ck is (.map is) dvG (b3 p hs)):=by
 refine .map _ _ _ _ _ _ _ _ _ _ (by simp[b3,jb,hl]) (fun j y u=>?_) fun M=> .v _
 obtain⟨d,hd,rfl⟩: ∃d,p.aS[j]? =io d∧y=(d.name,io (iK hs d.name)):=by
  unfold b3 at u;rw[Ps,Pu]at u;obtain⟨d,h1,x⟩:=u;exact⟨d,h1,x.symm⟩
 have b:j<B.length:=by rw[hl];exact(Pm.1 hd).1
 refine⟨(d.name,io B[j].1),.map (io B[j].1),?_,rfl,rfl,?_⟩
 .unfold jb;rw[SG,hd,Po b]
 .refine .map B[j].1 B[j].2 .str w5 0 (.int .i64 0) OG (iK hs d.name) ?_;exact oO hl hn hd (Po b)
theorem JU(hS:fF)(p:Prog)(hb:p.fit):Pure Tryz.prog 38 [ag p.c] (.bm [.iv (ta p),pB (lc ((dS p).1=0))]):=by
 refine ah ab Tryz.func38 Z (by decide) Tryz.ntmps38 Z (by simp) Z ?_;refine gA Z (zp (c24 p hb) ?_);refine zJ Z Z (fun I=>?_) fun I=>?_
 .have I: ¬(dS p).1=0:=by simpa using I
  rw[ta,be I,decide_eq_false I];exact zU Z
 have I:(dS p).1=0:=by simpa using I
 have hf:=Br I;have w0:=hf.len;rw[ta,am I,decide_eq_true I];refine gM 1 Z ?_;refine NK ?_;refine cT (jg ?_);refine gA Z ?_;refine cT (cT (s9 ⟨[(1,.ptr 0 0),(4,.mp 2),(20,.iv (bu 4 p.aS Decl.c)),(21,pI p.aS.length),(22,pI 0)],[(0,io (az p.c)),(2,io (gO []))],3⟩ ?_ ?_))
 .refine gA Z (vg [1] ?_);exact zW (zK (LO Z (fun _=> .v _) Z ac))
 refine ij (wE 0 p.aS.length (PC _) (fun i (x:ULift.{1} (List w6))=>⟨[(1,.ptr 0 0),(4,.mp 2),(20,.iv (bu 4 p.aS Decl.c)),(21,pI p.aS.length),(22,pI i)],[(0,io (az p.c)),(2,io (gO (jb p.aS x.down)))],3⟩)
  (fun i x Y=>BOK p.aS i x.down∧Y=dz (rowsOf p.aS x.down [])) ⟨[]⟩ [] ⟨⟨rfl,Qa⟩,(yZ p.aS []).symm⟩
  (zW (zK (hM Z (xH p.aS).symm Z ac))) (fun _ _ _ h=>h.2▸gh _) fun i x Y hi hJ=>?_)
 obtain⟨hB,rfl⟩:=hJ;obtain⟨B⟩:=x;refine cT (jg ?_);refine gA Z ?_;refine cT (rF Z (fun h1=>rC ?_) (fun h1=>rE ?_))
 .have h1:i<p.aS.length:=by simpa using h1
  refine cT (ij (cT (jg ?_)));refine gA Z ?_;refine vf (rD 4 ?_);refine gA Z ?_;refine wD (K5 (i:=4) (o':=cI []) Z (Ct fa)) fun t Y C=>?_;obtain⟨rfl,rfl⟩:=C;refine wD (BV (i:=4) (d:=29) (gh _) Z Z ac Z) fun t Y C=>?_;obtain⟨b,e,p0,rfl,rfl⟩:=C;refine rD 1 ?_;refine gA Z ?_;refine s7 (EH (jg ?_));refine gA Z ?_;have a0:=B4 (by rw[hB.len];exact hi) p0;exact⟨h1,⟨B++ [(b,e)]⟩,[],⟨⟨by rw[Pp,hB.len];rfl,HM hB.nd a0⟩,(B3 (by rw[hB.len];exact h1) a0).symm⟩,zW (zK (hM Z (D5 hf.nodup hB.len h1) Z ac))⟩
 have h1:p.aS.length<=i:=by simpa using h1
 have J:B.length=p.aS.length:=by have:B.length=i:=hB.len;omega
 have d0:=hB.nd;clear hB;have z0:p.rules.length<=1000000000:=hb.2.1
 let G:Nat->List (ak×ak×Nat):=fun r=>(p.rules.take r).flatMap Bh
 change GX _ _ [.code _] _ _ _;refine cT (cT (s9 ⟨[(1,.ptr 0 0),(4,.mp 2),(32,.iv (bu 5 p.rules aw.c)),(33,pI p.rules.length),(34,pI 0)],[(0,io (az p.c)),(2,io (gO (jb p.aS B)))],3⟩ ?_ ?_))
 .refine gA Z (vg [] ?_);exact zW (zK (zC ac))
 refine ij (wE 0 p.rules.length (PC _) (fun i (_:PUnit.{2})=>⟨[(1,.ptr 0 0),(4,.mp 2),(32,.iv (bu 5 p.rules aw.c)),(33,pI p.rules.length),(34,pI i)],[(0,io (az p.c)),(2,io (gO (jb p.aS B)))],3⟩)
  (fun i _ Y=>Y=dz (rowsOf p.aS B (G i))) ⟨⟩ [] Z (zW (zK (zC ac))) (fun _ _ _ h=>h▸gh _) fun n _ Y hn hJ=>?_)
 subst hJ;refine cT (jg ?_);refine gA Z ?_;refine cT (rF Z (fun h1=>rC ?_) (fun h1=>rE ?_));rotate_left
 .have h1:p.rules.length<=n:=by simpa using h1
  have m0:G n=cK p:=by show((p.rules.take n).flatMap Bh)=_;rw[PJ h1];rfl
  rw[m0];change GX _ _ [.code _] _ _ _;refine J1 (K6 (i:=2) (o':= .map .str Ck is (.map is) dvG (b3 p (cK p))) Z (Dh J d0)) fun t Y C=>?_;obtain⟨rfl,rfl⟩:=C;refine jg ?_;refine gA Z (lx (.inr Z) Z (iE.map 2 Z (.done (.refl _))))
 have h1:n<p.rules.length:=by simpa using h1
 have hR:p.rules.getD n co∈p.rules:=kH h1;have g0:G (n+1)=G n++Bh (p.rules.getD n co):=by show((p.rules.take (n+1)).flatMap Bh)=_;rw[ct h1,R3];simp;rfl
 have b0:=hb.2.2 _ hR;have A:=b0.1;have u:=hf.Bg _ hR;have y:=hf.lits _ hR;generalize n0:p.rules.getD n co=R at hR g0 b0 A u y;refine cT (ij (cT (jg ?_)));refine gA Z ?_;refine cT (s9 ⟨[(1,.ptr 0 0),(4,.mp 2),(8,.ptr 3 0),(32,.iv (bu 5 p.rules aw.c)),(33,pI p.rules.length),(34,pI n),(39,.iv (lits R.body)),(40,pI R.body.length),(41,pI 0)],[(0,io (az p.c)),(2,io (gO (jb p.aS B))),(3,io (az R.c))],4⟩ ?_ ?_)
 .refine gA Z (vg [] ?_);subst n0;exact zW (zK (zC (zK ac)))
 have t0:R.body.length<=10000000:=by have:=Lit.aG R.body;unfold aw.size at A;omega
 refine ij (wE 0 R.body.length (PC _) (fun i (_:PUnit.{2})=>⟨[(1,.ptr 0 0),(4,.mp 2),(8,.ptr 3 0),(32,.iv (bu 5 p.rules aw.c)),(33,pI p.rules.length),(34,pI n),(39,.iv (lits R.body)),(40,pI R.body.length),(41,pI i)],[(0,io (az p.c)),(2,io (gO (jb p.aS B))),(3,io (az R.c))],4⟩)
  (fun i _ Y=>Y=dz (rowsOf p.aS B (G n++(R.body.take i).flatMap (pe R)))) ⟨⟩ [] (by simp) (zW (zK (zC (zK ac)))) (fun _ _ _ h=>h▸gh _) fun i _ Y v0 hJ=>?_)
 subst hJ;refine cT (jg ?_);refine gA Z ?_;refine cT (rF Z (fun D=>rC ?_) (fun D=>rE ?_));rotate_left
 .have D:R.body.length<=i:=by simpa using D
  rw[PJ D,show G n++R.body.flatMap (pe R)=G (n+1) from g0.symm];change GX _ _ (.code _::_) _ _ _;refine jg ?_;refine gA Z ⟨h1,⟨⟩,[],rfl,zW (zK (zC ac))⟩
 have D:i<R.body.length:=by simpa using D
 have hl:R.body.getD i co∈R.body:=kH D;have i0:(R.body.take (i+1)).flatMap (pe R)=(R.body.take i).flatMap (pe R)++pe R (R.body.getD i co):=by rw[ct D,R3];simp
 have f0:(R.body.getD i co).size<=10000000:=by have:=Lit.bU R.body i D;unfold aw.size at A;omega
 have e0:=y _ hl;generalize r0:R.body.getD i co=l at hl i0 f0 e0;refine cT (ij (cT (jg ?_)));refine gA Z ?_;refine cT (s9 ⟨[(1,.ptr 0 0),(4,.mp 2),(8,.ptr 3 0),(10,.ptr 4 0),(32,.iv (bu 5 p.rules aw.c)),(33,pI p.rules.length),(34,pI n),(39,.iv (lits R.body)),(40,pI R.body.length),(41,pI i),(46,.iv (strs (named l))),(47,pI (named l).length),(48,pI 0)],[(0,io (az p.c)),(2,io (gO (jb p.aS B))),(3,io (az R.c)),(4,io (az l.c))],5⟩ ?_ ?_)
 .subst r0;refine gA Z (zp (AG (R.body.getD i co) (by omega)) ?_);refine gA Z (vg [] ?_);exact zW (zK (zC (zK (zK ac))))
 have x0:=kr l
 refine ij (wE 0 (named l).length (PC _) (fun k (_:PUnit.{2})=>⟨[(1,.ptr 0 0),(4,.mp 2),(8,.ptr 3 0),(10,.ptr 4 0),(32,.iv (bu 5 p.rules aw.c)),(33,pI p.rules.length),(34,pI n),(39,.iv (lits R.body)),(40,pI R.body.length),(41,pI i),(46,.iv (strs (named l))),(47,pI (named l).length),(48,pI k)],[(0,io (az p.c)),(2,io (gO (jb p.aS B))),(3,io (az R.c)),(4,io (az l.c))],5⟩)
  (fun k _ Y=>Y=dz (rowsOf p.aS B ((G n++(R.body.take i).flatMap (pe R))++((named l).take k).map fun t=>(R.head.rel,t,ln l)))) ⟨⟩ [] (by simp) (zW (zK (zC (zK (zK ac))))) (fun _ _ _ h=>h▸gh _) fun k _ Y hk hJ=>?_)
 subst hJ;refine cT (jg ?_);refine gA Z ?_;refine cT (rF Z (fun h3=>rC ?_) (fun h3=>rE ?_));rotate_left
 .have h3:(named l).length<=k:=by simpa using h3
  have eX:(G n++(R.body.take i).flatMap (pe R))++(named l).map (fun t=>(R.head.rel,t,ln l))=G n++(R.body.take (i+1)).flatMap (pe R):=by rw[PK,i0];rfl
  rw[PJ h3,eX];change GX _ _ (.code _::_) _ _ _;refine jg ?_;refine gA Z ⟨D,⟨⟩,[],rfl,zW (zK (zC (zK ac)))⟩
 have h3:k<(named l).length:=by simpa using h3
 obtain⟨j,d,b,hd,j0,q0,k0⟩:=Lv J hf.nodup u;have hX:=oO (hs:=(G n++(R.body.take i).flatMap (pe R))++((named l).take k).map fun t=>(R.head.rel,t,ln l)) J d0 hd j0;have c0:=B2 (hs:=(G n++(R.body.take i).flatMap (pe R))++((named l).take k).map fun t=>(R.head.rel,t,ln l)) (t:=(named l).getD k co) (h:=ln l) J d0 hf.nodup hd j0;rw[q0]at hX c0;have s0:((G n++(R.body.take i).flatMap (pe R))++((named l).take k).map fun t=>(R.head.rel,t,ln l))++ [(R.head.rel,(named l).getD k co,ln l)]=(G n++(R.body.take i).flatMap (pe R))++((named l).take (k+1)).map fun t=>(R.head.rel,t,ln l):=by
  rw[ct h3,PH,PK];rfl
 rw[s0]at c0;generalize(G n++(R.body.take i).flatMap (pe R))++((named l).take k).map (fun t=>(R.head.rel,t,ln l))=hs at hX c0;refine cT (ij (cT (jg ?_)));refine gA Z ?_;refine cT (jg ?_);refine gA Z ?_;refine cT (s9 ⟨[(1,.ptr 0 0),(4,.mp 2),(8,.ptr 3 0),(10,.ptr 4 0),(32,.iv (bu 5 p.rules aw.c)),(33,pI p.rules.length),(34,pI n),(39,.iv (lits R.body)),(40,pI R.body.length),(41,pI i),(46,.iv (strs (named l))),(47,pI (named l).length),(48,pI k),(12,pS ((named l).getD k co)),(13,pI (ln l))],[(0,io (az p.c)),(2,io (gO (jb p.aS B))),(3,io (az R.c)),(4,io (az l.c))],5⟩ ?_ ?_)
 .refine zJ Z Z (fun h4=>?_) fun h4=>?_
  .have h4:l.kind=1:=zT h4;refine gA Z (vg [] ?_);exact zM (bi (bi (bi (bi (bi (bi (bi (bi (bi (bi (bi (bi (bi (bi ⟨.of_eq (by rw[ln,am h4];rfl),rfl,ac⟩)))))))))))))) (zK (zC (zK (zK ac))))
  .have h4: ¬l.kind=1:=zF h4;refine gA Z (vg [] ?_);exact zM (bi (bi (bi (bi (bi (bi (bi (bi (bi (bi (bi (bi (bi (bi ⟨.of_eq (by rw[ln,be h4];rfl),rfl,ac⟩)))))))))))))) (zK (zC (zK (zK ac))))
 refine vf (rD 12 ?_);refine gA Z ?_;refine wD (BU (d:=65) hX (show PV.iv (.v (.map (dw .str (jb p.aS B) R.head.rel is)))=_ by rw[k0])) fun t Y C=>?_;obtain⟨rfl,rfl⟩:=C;refine wD (Dt (b:=b.1) (j:=5) (e:=b.2) (d:=59) (p:= .mp 5) (bn.eQ _ _ _) fun M N U x hu o0 _ hv=>?_) fun t Y C=>?_
 .have hv:VR M N U (PV.iv (.v (.map (dw .str (jb p.aS B) R.head.rel is)))) x:=hv;rw[k0]at hv;cases hv with
  |iv _ _ hi=>cases hi with
   |v=>rw[<-o0];exact .mp 5 hu
 obtain⟨rfl,rfl⟩:=C;refine rD 4 ?_;refine gA Z ?_;refine s7 (EH (J1 (Na (b:=b.1) (e:=b.2) (i:=5) (o:=cI (C4 (iK hs R.head.rel) ((named l).getD k co) (ln l))) (bn.eQ _ _ _) Z Z ac) fun t Y C=>?_));obtain⟨rfl,rfl⟩:=C;rw[bn.Hz];refine jg ?_;refine gA Z ⟨h3,⟨⟩,[],c0,zW (zK (zC (zK (zK ac))))⟩
end Go.Proofs.YtllkaddcplhklaaGreatDoor
namespace Go.Proofs.YtllkaddcplhklaaGreatDoor
open Go Go.Al Go.Proofs.Tryz Go.Tj
def nR(e:Option ak)(i:Nat)(l:List ak):PV:=match e,l with
 |some _,[]=> .sl i 1 0 1
 |_,l=> .sl i 0 l.length 1
def nS(e:Option ak)(l:List ak):AO:=match e,l with
 |some y,[]=> .row 1 [[pS y]]
 |_,l=>aF 1 l cW
theorem kg(σ:Nat->Nat)(e:Option ak)(i:Nat)(l:List ak):(nR e i l).cx σ=nR e (σ i) l:=by cases e<;>cases l<;>rfl
theorem kh(σ:Nat->Nat)(e:Option ak)(l:List ak):(nS e l).cx σ=nS e l:=by
 cases e<;>cases l<;>first|rfl|exact b4 σ
theorem xj{n i:Nat}(h:PL i n=jp)(e:Option ak)(l:List ak):(nR e i l).low n=jp:=by cases e<;>cases l<;>exact h
theorem xm(n:Nat)(e:Option ak)(l:List ak):(nS e l).low n:=by
 cases e with
 |none=>exact dL n
 |some y=>
  cases l with
  |nil=>
   intro k e b;cases k with
   |zero=>cases b;rfl
   |succ k=>cases b
  |cons=>exact dL n
theorem xi{e:Option ak}{i:Nat}{l:List ak}(h:e=is∨l≠ []):nR e i l= .sl i 0 l.length 1:=by
 cases e with
 |none=>rfl
 |some y=>cases l with
  |nil=>exact absurd Z (h.resolve_left (by simp))
  |cons=>rfl
theorem xk{e:Option ak}{l:List ak}(h:e=is∨l≠ []):nS e l=aF 1 l cW:=by
 cases e with
 |none=>rfl
 |some y=>cases l with
  |nil=>exact absurd Z (h.resolve_left (by simp))
  |cons=>rfl
structure TW where
 low:NM
 on:NM
 ring:NM
 stack:List ak
 re:Option ak
def TW.st(w:TW):St ak:=⟨fun a=>dw .str w.low a 0,fun a=>dw .str w.on a 0,fun a=>dw .str w.ring a 0,w.low.length,w.stack⟩
structure TW.Ok (V:List ak) (w:TW):Prop where
 nz: ∀a∈w.low.map Qk,dw .str w.low a 0≠0
 nd:(w.low.map Qk).Nodup
 sub: ∀a∈w.low.map Qk,a∈V
abbrev xb:PV:= .b7 (.func 65) [] [.ptr 0 0,.ptr 1 0,.ptr 2 0,.ptr 3 0,.ptr 4 0,.ptr 5 0]
abbrev tO(G:IV)(w:TW):List AO:=[.cells [.mp 6],.cells [.mp 7],.cells [nR w.re 9 w.stack],.cells [.iv G],.cells [xb],.cells [.mp 8],cI w.low,cI w.on,cI w.ring,nS w.re w.stack]
abbrev tH(G:IV)(w:TW)(k:Nat):AH:=[(0,io (.cells [.mp 6])),(1,io (.cells [.mp 7])),(2,io (.cells [nR w.re k w.stack])),(3,io (.cells [.iv G])),(4,io (.cells [xb])),(5,io (.cells [.mp 8])),
 (6,io (cI w.low)),(7,io (cI w.on)),(8,io (cI w.ring)),(k,io (nS w.re w.stack))]
theorem rV{n k:Nat}{σ:Nat->Nat}{h:AH}{G:IV}{w:TW}{C:PV}{y A B:NM}{o:AO}(b:Ry 9 n=jp)(bk:PL k n=jp)(hs: ∀i,i<9->σ i=i)
  (g0:h.get 0=io (.cells [.mp 6])) (g1:h.get 1=io (.cells [.mp 7])) (g2:h.get 2=io (.cells [C])) (g3:h.get 3=io (.cells [.iv G])) (g4:h.get 4=io (.cells [xb])) (g5:h.get 5=io (.cells [.mp 8]))
  (g6:h.get 6=io (cI y)) (g7:h.get 7=io (cI A)) (g8:h.get 8=io (cI B)) (g9:h.get (σ k)=io o)
  (D:C=nR w.re (σ k) w.stack) (I:y=w.low) (J:A=w.on) (R:B=w.ring) (Y:dV o (nS w.re w.stack)):mP n σ h (tH G w k):=by
 have b9:=Pj b;have bk:=Pj bk;have hb: ∀i,i<9->PL i n=jp:=fun i j=>Qj (by omega);subst D I J R;have r: ∀i,i<9->PV.mp (σ i)=PV.mp i:=fun i j=>by rw[hs i j]
 have u: ∀i,i<9->PV.ptr (σ i) 0=PV.ptr i 0:=fun i j=>by rw[hs i j]
 have x: ∀i,i<9->bj n [PV.mp i]=jp:=fun i j=>by simp only[bj,PV.low,hb i j]
 refine⟨⟨_,by rw[hs 0 (by omega)];exact g0,.of_eq (by simp only[AO.cx,dA,PV.cx,r 6 (by omega)])⟩,by omega,x 6 (by omega),
  ⟨_,by rw[hs 1 (by omega)];exact g1,.of_eq (by simp only[AO.cx,dA,PV.cx,r 7 (by omega)])⟩,by omega,x 7 (by omega),
  ⟨_,by rw[hs 2 (by omega)];exact g2,.of_eq (by simp only[AO.cx,dA,kg])⟩,by omega,by simp only[AO.low,bj,xj (Qj bk)],
  ⟨_,by rw[hs 3 (by omega)];exact g3,.of_eq Z⟩,by omega,rfl,
  ⟨_,by rw[hs 4 (by omega)];exact g4,.of_eq (by simp only[AO.cx,dA,PV.cx,u 0 (by omega),u 1 (by omega),u 2 (by omega),u 3 (by omega),u 4 (by omega),u 5 (by omega)])⟩,by omega,by simp only[AO.low,bj,PV.low,hb 0 (by omega),hb 1 (by omega),hb 2 (by omega),hb 3 (by omega),hb 4 (by omega),hb 5 (by omega)],
  ⟨_,by rw[hs 5 (by omega)];exact g5,.of_eq (by simp only[AO.cx,dA,PV.cx,r 8 (by omega)])⟩,by omega,x 8 (by omega),
  ⟨_,by rw[hs 6 (by omega)];exact g6,.of_eq Z⟩,by omega,ac,
  ⟨_,by rw[hs 7 (by omega)];exact g7,.of_eq Z⟩,by omega,ac,
  ⟨_,by rw[hs 8 (by omega)];exact g8,.of_eq Z⟩,by omega,ac,
  ⟨_,g9,by rw[kh];exact Y⟩,bk,xm _ _ _,ac⟩
theorem vR(m:NM)(b:ak)(v:Int):(fun x=>dw .str (cD .str m b v) x 0)=vL (fun x=>dw .str m x 0) b v:=by
 funext x
 rw[kB,vL];by_cases h:b=x
 .rw[am h,am h.symm]
 .rw[be h,be fun e=>h e.symm]
def TW.push(w:TW)(a:ak):TW:=⟨cD .str w.low a ((w.low.length:Int)+1),cD .str w.on a 1,w.ring,w.stack++ [a],is⟩
theorem TW.key{V:List ak}{w:TW}(h:w.Ok V){a:ak}(h0:w.st.low a=0):a∉w.low.map Qk:=fun g=>h.nz a g h0
theorem qD{m:NM}{a:ak}{v:Int}(h:a∉m.map Qk):(cD .str m a v).length=m.length+1:=by
 have:=congrArg List.length (dC (v:=v) h);simpa using this
theorem TW.HB{V:List ak}{w:TW}(h:w.Ok V){a:ak}(h0:w.st.low a=0):(w.push a).st=Go.Tj.push w.st a:=
 St.eq (vR _ _ _) (vR _ _ _) Z (qD (TW.key h h0)) Z
theorem TW.HC{V:List ak}{w:TW}(h:w.Ok V){a:ak}(h0:w.st.low a=0)(ha:a∈V):(w.push a).Ok V:=by
 have hk:=TW.key h h0;refine⟨fun x b=>?_,?_,fun x b=>?_⟩
 .show dw .str (cD .str w.low a _) x 0≠0;rw[kB];split
  .omega
  .rename_i j;have b:x∈(cD .str w.low a ((w.low.length:Int)+1)).map Qk:=b;rw[dC hk,PI,PA]at b;exact h.nz x (b.resolve_right fun e=>j e.symm)
 .show((cD .str w.low a _).map Qk).Nodup;rw[dC hk,QX];exact⟨h.nd,by simp,fun u hu v y e=>hk (by rw[PA]at y;subst e;subst y;exact hu)⟩
 .have b:x∈(cD .str w.low a ((w.low.length:Int)+1)).map Qk:=b;rw[dC hk,PI,PA]at b;rcases b with b|rfl
  .exact h.sub x b
  .exact ha
theorem TW.len{V:List ak}{w:TW}(h:w.Ok V):w.low.length<=V.length:=by
 have:=QH h.nd (l₂:=V) h.sub;simpa using this
theorem TW.uE{V:List ak}{w:TW}(h:w.Ok V){succ:ak->List ak}{path:List ak}(hI:Inv succ path w.st):w.stack.length<=V.length:=by
 refine QH (l₂:=V) ?_ fun y A=>?_
 .refine Sr ?_ hI.yQ;intro x y u e;subst e;omega
 .have h1:=(hI.uE y).2 A;have b:w.st.low y≠0:=sH hI h1;refine h.sub y (QO fun j=>b (zk j))
def TW.pop(w:TW)(u:List ak)(b:ak)(j:Int):TW:=⟨w.low,cD .str w.on b 2,cD .str w.ring b j,u,io b⟩
theorem TW.D8{w:TW}{u:List ak}{b:ak}(h:w.stack=u++ [b])(j:Int):(w.pop u b j).st=wc j w.st:=by
 have h1:w.st.stack.getLast? =io b:=by show w.stack.getLast? =_;rw[h];simp
 have x:w.st.stack.dropLast=u:=by show w.stack.dropLast=_;rw[h];simp
 unfold wc;rw[h1];exact St.eq Z (vR _ _ _) (vR _ _ _) Z x.symm
theorem TW.Lz{V:List ak}{w:TW}(h:w.Ok V)(u:List ak)(b:ak)(j:Int):(w.pop u b j).Ok V:=⟨h.nz,h.nd,h.sub⟩
theorem Nh(hS:fF){p:Prog}(hf:fz p)(hl:(cK p).length<=100000000)(a:ak):Pure prog 66 [.iv (xZ (iK (cK p) a))] (.iv (strs (bf p a))):=by
 rw[<-xg hf];exact DG hS _ (P9 (DW _ _) hl)
abbrev Mp(a:ak):List PV:=[pS a,.ptr 0 0,.ptr 1 0,.ptr 2 0,.ptr 3 0,.ptr 4 0,.ptr 5 0]
abbrev vF(a:ak):AF:=[(0,pS a),(1,.ptr 0 0),(2,.ptr 1 0),(3,.ptr 2 0),(4,.ptr 3 0),(5,.ptr 4 0),(6,.ptr 5 0)]
def Mb(p:Prog)(f:Nat):Prop:= ∀(path:List ak) (a:ak) (w:TW),w.Ok (ns p)->Inv (bf p) path w.st->w.st.low a=0->a∈ns p->(∀g∈path,lS (bf p) g a)->iX (ns p) w.st<=f->
 Go.Al.Fn prog 65 (Mp a) (tO (vi (b3 p (cK p))) w) fun r h n=> ∃b:TW,b.Ok (ns p)∧b.st=(dJ (bf p) f a w.st).2∧r=pI (dJ (bf p) f a w.st).1∧h=tH (vi (b3 p (cK p))) b 10∧n=11
theorem EI(p:Prog)(hs:List (ak×ak×Nat)){a:ak}(h:a∈p.aS.map Decl.name):(Ck (dw .str (b3 p hs) a is)).pv= .iv (xZ (iK hs a)):=by rw[EJ p hs h];rfl
theorem K1(G:IV)(w:TW){n:Nat}:[io (AO.cells [PV.mp 6]),io (.cells [.mp 7]),io (.cells [nR w.re 11 w.stack]),io (.cells [.iv G]),io (.cells [xb]),io (.cells [.mp 8]),io (cI w.low),io (cI w.on),io (cI w.ring),io (nS w.re w.stack)]=
  (tO G w).map fun o=>io (o.cx (sig [0,1,2,3,4,5,6,7,8,11] n)):=by
 have h1:=kg (sig [0,1,2,3,4,5,6,7,8,11] n) w.re 9 w.stack;have b:=kh (sig [0,1,2,3,4,5,6,7,8,11] n) w.re w.stack;show _=[io (AO.cells [PV.mp 6]),io (.cells [.mp 7]),io (.cells [(nR w.re 9 w.stack).cx (sig [0,1,2,3,4,5,6,7,8,11] n)]),io (.cells [.iv G]),io (.cells [xb]),io (.cells [.mp 8]),io (cI w.low),io (cI w.on),io (cI w.ring),io ((nS w.re w.stack).cx (sig [0,1,2,3,4,5,6,7,8,11] n))]
 rw[h1,b];rfl
theorem Dv(u:List ak)(b:ak):((u++ [b]).map fun x=>(cW x).map PV.iv)[0+((((u.length+1:Nat):Int)-1).toNat)]? =io [pS b]:=by
 rw[PT,show(((u.length+1:Nat):Int)-1).toNat=u.length by omega];simp[cW]
theorem Dw(i:Nat)(u:List ak)(b:ak):(u.length=0∧nR (io b) i u= .sl i 1 0 1)∨(0<u.length∧nR (io b) i u= .sl i 0 u.length 1):=by
 cases u with
 |nil=>exact .inl ⟨rfl,rfl⟩
 |cons x r=>exact .inr ⟨by simp,rfl⟩
theorem xl(u:List ak)(b:ak):dV (aF 1 (u++ [b]) cW) (nS (io b) u):=by
 cases u with
 |nil=>exact .of_eq Z
 |cons x r=>
  have e:nS (io b) (x::r)= .row 1 (((x::r++ [b]).map fun y=>(cW y).map PV.iv).take (x::r).length):=by
   rw[<-List.map_take,List.take_left];rfl
  rw[e];exact .take
theorem rr{p:Prog}: ∀a∈ns p,∀b∈bf p a,b∈ns p:=fun _ _ _ h=>(PZ.1 h).1
theorem Ei{p:Prog}(hf:fz p):(ns p).length<=64:=by
 have:=hf.len;rw[ns,iP,PX];exact this
theorem De(hS:fF){p:Prog}(hf:fz p)(hl:(cK p).length<=100000000)(f:Nat)(ih:Mb p f):Mb p (f+1):=by
 intro path a w hok hI h0 R hp hw;have i0:=Ei hf;have e1:=jD hI.lL R h0;have l1:=TW.len hok;have o1:=TW.uE hok hI;have q0:a∈p.aS.map Decl.name:=by rw[ns,ku]at R;exact R
 have D:=TW.HB hok h0;have t0:=TW.HC hok h0 R;have n1:=QK (eg p a) (ns p);refine ou ab func65 Z (by decide) ntmps65 Z (by simp) ?_;refine go_cut 6 (fun _:Unit=>⟨(9,pI ((w.low.length:Int)+1))::(10,pI ((w.low.length:Int)+1))::vF a,tH (vi (b3 p (cK p))) (w.push a) 10,11⟩) Z ?_ ?_
 .have o0:dw .str (cD .str w.low a ((w.low.length:Int)+1)) a 0=(w.low.length:Int)+1:=by rw[kB,am Z]
  by_cases hu:w.re=is∨w.stack≠ []
  .rw[show tO (vi (b3 p (cK p))) w=[.cells [.mp 6],.cells [.mp 7],.cells [.sl 9 0 w.stack.length 1],.cells [.iv (vi (b3 p (cK p)))],.cells [xb],.cells [.mp 8],cI w.low,cI w.on,cI w.ring,aF 1 w.stack cW] by
    unfold tO;rw[xi hu,xk hu]]
   refine gA Z (Fk () [11] ?_);exact wk Z Z Z ⟨.of_eq (congrArg pI o0),rfl,.of_eq (congrArg pI o0),rfl,bi (bi (bi (bi (bi (bi (bi ac))))))⟩
    (rV (w:=w.push a) Z Z (fun i Y=>fj (by show i<10;omega)) Z Z Z Z Z Z Z Z Z Z (by show _=PV.sl 11 0 (w.stack++ [a]).length 1;rw[Pp];rfl) Z Z Z (.of_eq (by show _=aF 1 (w.stack++ [a]) cW;rw[aF,PH];rfl))) Z
  .obtain⟨y,hy,v0⟩: ∃y,w.re=io y∧w.stack=[]:=by
    cases hg:w.re with
    |none=>exact absurd (.inl hg) hu
    |some y=>exact⟨y,rfl,QO fun h=>hu (.inr h)⟩
   rw[show tO (vi (b3 p (cK p))) w=[.cells [.mp 6],.cells [.mp 7],.cells [.sl 9 1 0 1],.cells [.iv (vi (b3 p (cK p)))],.cells [xb],.cells [.mp 8],cI w.low,cI w.on,cI w.ring,.row 1 [[pS y]]] by
    unfold tO;rw[hy,v0];rfl]
   refine gA Z (wG ab Z Z Z Z Z Z Z Z Z (by simp) (by simp) (ju Z) Z ?_);refine gA Z (Fk () [11] ?_);exact wk Z Z Z ⟨.of_eq (congrArg pI o0),rfl,.of_eq (congrArg pI o0),rfl,bi (bi (bi (bi (bi (bi (bi ac))))))⟩
    (rV (w:=w.push a) Z Z (fun i Y=>fj (by show i<10;omega)) Z Z Z Z Z Z Z Z Z Z (by show _=PV.sl 11 0 (w.stack++ [a]).length 1;rw[v0];rfl) Z Z Z (.of_eq (by show _=aF 1 (w.stack++ [a]) cW;rw[v0];rfl))) Z
 intro _;have Y:=xL hI h0 hp;rw[<-D]at e1 Y;have hm:((w.push a).low.length:Int)=(w.low.length:Int)+1:=by
  have:=qD (v:=(w.low.length:Int)+1) (TW.key hok h0);show(((cD .str w.low a _).length:Nat):Int)=_;rw[this];omega
 have la:(w.push a).st.low a=(w.st.n:Int)+1:=by rw[D];exact iY _ _ _
 have oa:(w.push a).st.on a=1:=by rw[D];exact iY _ _ _
 have g1:eG (bf p) path a w.st [] ((w.st.n:Int)+1,Go.Tj.push w.st a) []:=
  ⟨D▸Y,.refl _,rfl,fun y hy=>(nomatch hy),RK _,fun y hy=>(nomatch hy),fun z hz=>(nomatch hz),fun z hz=>(nomatch hz),⟨a,D▸oa,D▸la,.refl _⟩⟩
 have k0:=fun pa b s=>nM (succ:=bf p) rr f pa b s
 let I:Nat->Int×St ak:=fun i=>((bf p a).take i).foldl (Go.Tj.qw (dJ (bf p) f)) ((w.st.n:Int)+1,Go.Tj.push w.st a)
 have g0: ∀i,∃t,eG (bf p) path a w.st ((bf p a).take i) (I i) t:=fun i=>by
  have:=pZ rr k0 hI h0 R (by rw[<-D];omega) ((bf p a).take i) [] _ [] g1 fun b hb=>SJ hb;rwa[Rk]at this
 refine gM 5 Z (H8 ab (.iv (xZ (iK (cK p) a))) Z Z Z Z (EI p _ q0) Z ?_);refine gA Z (zp (Nh hS hf hl a) ?_);refine gA Z ?_;refine Bm 0 (bf p a).length (PC _) (fun i B=>⟨(9,pI ((w.low.length:Int)+1))::(10,pI (I i).1)::(32,.iv (strs (bf p a)))::(33,pI (bf p a).length)::(34,pI i)::vF a,tH (vi (b3 p (cK p))) B 11,12⟩)
  (fun i B=>B.Ok (ns p)∧B.st=(I i).2) (w.push a) [10] ⟨t0,D⟩
  (wk Z Z Z (bi (bi (bi (bi (bi (bi (bi (bi (bi (bi (bi (bi trivial))))))))))))
   (rV Z Z (fun i Y=>fj (by show i<11;omega)) Z Z Z Z Z Z Z Z Z Z Z Z Z Z (.refl _)) Z) fun i B r1 hJ=>?_
 obtain⟨C,A⟩:=hJ;obtain⟨t2,x⟩:=g0 i;have m1:(bf p a).length<=64:=P9 n1 i0;refine zJ Z Z (fun h1=>?_) fun h1=>?_
 .have h1:i<(bf p a).length:=by simpa using h1
  have d0:I (i+1)=Go.Tj.qw (dJ (bf p) f) (I i) ((bf p a).getD i co):=gQ h1;have hb:((bf p a).getD i co)∈bf p a:=kH h1;have j:Go.Tj.qw (dJ (bf p) f) (I i) ((bf p a).getD i co)=if B.st.low ((bf p a).getD i co)=0 then(min (I i).1 (dJ (bf p) f ((bf p a).getD i co) B.st).1,(dJ (bf p) f ((bf p a).getD i co) B.st).2)
    else if B.st.on ((bf p a).getD i co)=1 then(min (I i).1 (B.st.low ((bf p a).getD i co)),B.st) else(I i):=by rw[A];rfl
  refine zJ Z Z (fun h2=>?_) fun h2=>?_
  .have h2:B.st.low ((bf p a).getD i co)=0:=zT h2;rw[am h2]at j;have b0: ∀g∈path++ [a],lS (bf p) g ((bf p a).getD i co):=by
    intro g hg;have G:(I i).2.on a=1:=(x.inv.uE a).2 (by rw[x.stack];simp);refine .step (x.inv.dn g hg a G ?_) hb;rcases PI.1 hg with e|e
    .have:=x.pa hI h0 g e;omega
    .rw[PA]at e;rw[e];exact RK _
   have q1:iX (ns p) B.st<=f:=by
    have:=ux (V:=ns p) x.le;rw[A];rw[D]at e1;omega
   refine gA Z (qM [0,1,2,3,4,5,6,7,8,11] (ih (path++ [a]) ((bf p a).getD i co) B C (A▸x.inv) h2 (rr a R ((bf p a).getD i co) hb) b0 q1) Z Z Z Z Z (K1 _ _) Z ?_);rintro r h' n' ⟨w3,hok3,hst3,rfl,rfl,rfl⟩;refine⟨_,rfl,?_⟩;refine gA Z ⟨h1,w3,[12],⟨hok3,by rw[d0,j];exact hst3⟩,zM (bi ⟨.of_eq (by rw[d0,j];rfl),rfl,bi (bi (bi (bi (bi (bi (bi (bi (bi (bi ac)))))))))⟩) (rV Z Z (fun i Y=>fj (by show i<11;omega)) Z Z Z Z Z Z Z Z Z Z (kg _ _ _ _) Z Z Z (.of_eq (kh _ _ _)))⟩
  .have h2: ¬B.st.low ((bf p a).getD i co)=0:=zF h2;rw[be h2]at j;refine zJ Z Z (fun h3=>?_) fun h3=>?_
   .have h3:B.st.on ((bf p a).getD i co)=1:=zT h3;rw[am h3]at j;refine gA Z ⟨h1,B,[11],⟨C,by rw[d0,j]⟩,zM (bi ⟨.of_eq (by rw[d0,j];rfl),rfl,bi (bi (bi (bi (bi (bi (bi (bi (bi (bi ac)))))))))⟩) (rV Z Z (fun i Y=>fj (by show i<11;omega)) Z Z Z Z Z Z Z Z Z Z Z Z Z Z (.refl _))⟩
   .have h3: ¬B.st.on ((bf p a).getD i co)=1:=zF h3;rw[be h3]at j;refine gA Z ⟨h1,B,[11],⟨C,by rw[d0,j];exact A⟩,zM (bi ⟨.of_eq (by rw[d0,j];rfl),rfl,bi (bi (bi (bi (bi (bi (bi (bi (bi (bi ac)))))))))⟩) (rV Z Z (fun i Y=>fj (by show i<11;omega)) Z Z Z Z Z Z Z Z Z Z Z Z Z Z (.refl _))⟩
 .have h1:(bf p a).length<=i:=by simpa using h1
  have j1:i=(bf p a).length:=by omega
  subst j1;have n0:dJ (bf p) (f+1) a w.st=rm a ((w.st.n:Int)+1) (I (bf p a).length):=by
   show rm a _ ((bf p a).foldl _ _)=rm a _ (((bf p a).take (bf p a).length).foldl _ _);rw[Rp]
  have a0: ∀(w':TW) (k:Nat) (u:AS) (e:Exit),e= .normal∨e= .ret->10<=k->k<u.nx->iZ nN u f65.results.toList=io (pI (I (bf p a).length).1)->w'.Ok (ns p)->w'.st=(rm a ((w.st.n:Int)+1) (I (bf p a).length)).2->
    mP 11 (sg 10 [k]) u.h (tH (vi (b3 p (cK p))) w' 10)->IS nN f65.results.toList 10 (fun r h n=> ∃w':TW,w'.Ok (ns p)∧w'.st=(dJ (bf p) (f+1) a w.st).2∧r=pI (dJ (bf p) (f+1) a w.st).1∧h=tH (vi (b3 p (cK p))) w' 10∧n=11) e u:=by
   intro w' k u e he hk k1 hr s0 w0 hh;refine rK [k] he hr ⟨w',s0,by rw[n0];exact w0,rfl,rfl,rfl⟩ ⟨rfl,by show 10<=u.nx;omega,by simpa using k1,⟨.of_eq ?_,rfl,ac⟩,hh,?_⟩
   .show pI (I (bf p a).length).1=pI (dJ (bf p) (f+1) a w.st).1;rw[n0];unfold rm;split<;>rfl
   .show[0,1,2,3,4,5,6,7,8,k].Nodup;simp;omega
  generalize I (bf p a).length=q at*
  refine zE Z Z (fun h4=>?_) fun h4=>?_
  .have h4: ¬q.1=(w.st.n:Int)+1:=zF h4;refine gA Z (a0 B 11 _ _ (.inr Z) (by omega) (by show 11<12;omega) Z C (by rw[rm,be h4];exact A) ?_);exact rV Z Z (fun i Y=>fj (by omega)) Z Z Z Z Z Z Z Z Z Z Z Z Z Z (.refl _)
  have h4:q.1=(w.st.n:Int)+1:=zT h4;have hE:(rm a ((w.st.n:Int)+1) q).2=eU a ((w.st.n:Int)+1) q.2.stack.length q.2:=by rw[rm,am h4]
  have G:q.2.on a=1:=(x.inv.uE a).2 (by rw[x.stack];simp);have hF:eU a ((w.st.n:Int)+1) (t2.length+1) q.2=(rm a ((w.st.n:Int)+1) q).2:=by
   rw[hE,pT (by omega) x.stack x.at_ G,pT (by rw[x.stack];simp;omega) x.stack x.at_ G]
  generalize(rm a ((w.st.n:Int)+1) q).2=F at hF a0;refine gA Z ?_;refine gu (σ:={v:TW//v.Ok (ns p)∧((∃t,v.stack=w.stack++a::t∧a∉t∧v.stack.length<=64∧v.st.on a=1∧eU a ((w.st.n:Int)+1) (t.length+1) v.st=F)∨(v.st.on a≠1∧v.st=F))})
   (fun v=>⟨(9,pI ((w.low.length:Int)+1))::(10,pI q.1)::vF a,tH (vi (b3 p (cK p))) v.1 12,13⟩) (fun v=>v.1.stack.length) ⟨B,C,.inl ⟨t2,by rw[show B.stack=B.st.stack from rfl,A];exact x.stack,x.at_,P9 (TW.uE C (A▸x.inv)) i0,by rw[A];exact G,by rw[A];exact hF⟩⟩ [11]
   (zW (rV Z Z (fun i Y=>fj (by show i<12;omega)) Z Z Z Z Z Z Z Z Z Z Z Z Z Z (.refl _))) fun v=>?_
  obtain⟨v,j0,hJ⟩:=v;rcases hJ with⟨t,hs,a1,m0,c0,J⟩|⟨c0,f1⟩
  rotate_left
  .refine zJ Z Z (fun h5=>?_) fun h5=>?_
   .exact absurd (zT h5) c0
   refine gA Z (a0 v 12 _ _ (.inr Z) (by omega) (by show 12<13;omega) Z j0 f1 ?_);exact rV Z Z (fun i Y=>fj (by omega)) Z Z Z Z Z Z Z Z Z Z Z Z Z Z (.refl _)
  have key: ∃u b,v.stack=u++ [b]∧((b=a∧wc ((w.st.n:Int)+1) v.st=F)∨ ∃t',u=w.stack++a::t'∧a∉t'∧b≠a∧eU a ((w.st.n:Int)+1) (t'.length+1) (wc ((w.st.n:Int)+1) v.st)=F):=by
   rcases t.eq_nil_or_concat with e|⟨t',b,e⟩
   .subst e;refine⟨w.stack,a,hs,.inl ⟨rfl,?_⟩⟩;rw[Ra,eU,am c0]at J;exact J
   .rw[SF]at e;subst e;refine⟨w.stack++a::t',b,by rw[hs];simp,.inr ⟨t',rfl,fun h=>a1 (by simp[h]),fun h=>a1 (by simp[h]),?_⟩⟩;rw[eU,am c0,Pp]at J;exact J
  obtain⟨u,b,e0,f0⟩:=key;have s1:u.length+1<=64:=by rw[e0,Pp]at m0;exact m0
  have d1:v.stack≠ []:=by rw[e0];simp
  have x0:v.stack.length=u.length+1:=by rw[e0,Pp];rfl
  have p1:tH (vi (b3 p (cK p))) v 12=[(0,io (.cells [.mp 6])),(1,io (.cells [.mp 7])),(2,io (.cells [.sl 12 0 (u.length+1) 1])),(3,io (.cells [.iv (vi (b3 p (cK p)))])),(4,io (.cells [xb])),(5,io (.cells [.mp 8])),
    (6,io (cI v.low)),(7,io (cI v.on)),(8,io (cI v.ring)),(12,io (aF 1 (u++ [b]) cW))]:=by
   unfold tH;rw[xi (.inr d1),xk (.inr d1),x0,e0]
  show GO prog _ _ _ ⟨_,tH (vi (b3 p (cK p))) v 12,_⟩;rw[p1];refine zE Z Z (fun h5=>?_) fun h5=>?_
  .exact absurd c0 (zF h5)
  refine gM 9 Z (oq ab Z Z Z Z Z (Dv u b) Z Z ?_);have z0:(v.pop u b ((w.st.n:Int)+1)).Ok (ns p)∧((∃t,(v.pop u b ((w.st.n:Int)+1)).stack=w.stack++a::t∧a∉t∧(v.pop u b ((w.st.n:Int)+1)).stack.length<=64∧(v.pop u b ((w.st.n:Int)+1)).st.on a=1∧eU a ((w.st.n:Int)+1) (t.length+1) (v.pop u b ((w.st.n:Int)+1)).st=F)∨((v.pop u b ((w.st.n:Int)+1)).st.on a≠1∧(v.pop u b ((w.st.n:Int)+1)).st=F)):=by
   refine⟨TW.Lz j0 u b _,?_⟩;rcases f0 with⟨rfl,p0⟩|⟨t',hu,r0,i1,p0⟩
   .refine .inr ⟨?_,by rw[TW.D8 e0];exact p0⟩;show dw .str (cD .str v.on b 2) b 0≠1;rw[kB,am Z];decide
   .refine .inl ⟨t',hu,r0,by show u.length<=64;omega,?_,by rw[TW.D8 e0];exact p0⟩;show dw .str (cD .str v.on b 2) a 0=1;rw[kB,be i1];exact c0
  have b1:(v.pop u b ((w.st.n:Int)+1)).stack.length<v.stack.length:=by show u.length<v.stack.length;omega
  rcases Dw 12 u b with hc|hc
  .refine gA Z (Bn ab u.length Z Z Z Z Z Z Z (by omega) (by omega) (by omega) (.inl ⟨hc.1,rfl⟩) Z ?_);refine gA Z ⟨⟨v.pop u b ((w.st.n:Int)+1),z0⟩,[12],b1,zW (rV Z Z (fun i Y=>fj (by show i<12;omega)) Z Z Z Z Z Z Z Z Z Z hc.2.symm Z Z Z (xl u b))⟩
  .refine gA Z (Bn ab u.length Z Z Z Z Z Z Z (by omega) (by omega) (by omega) (.inr ⟨hc.1,rfl⟩) Z ?_);refine gA Z ⟨⟨v.pop u b ((w.st.n:Int)+1),z0⟩,[12],b1,zW (rV Z Z (fun i Y=>fj (by show i<12;omega)) Z Z Z Z Z Z Z Z Z Z hc.2.symm Z Z Z (xl u b))⟩
theorem Mo(hS:fF){p:Prog}(hf:fz p)(hl:(cK p).length<=100000000): ∀f,Mb p f
 |0=>fun path a w hok hI j b u x=>by
  have:=jD hI.lL b j;omega
 |f+1=>De hS hf hl f (Mo hS hf hl f)
theorem B7(hS:fF){p:Prog}(hf:fz p)(hs:List (ak×ak×Nat)):Pure prog 67 [.iv (vi (b3 p hs))] (.iv (strs (ns p))):=by
 have h:=DH hS (b3 p hs) (by have:=hf.len;simp[b3];omega);rw[show(b3 p hs).map (·.1)=p.aS.map Decl.name from zH p hs]at h;exact h
abbrev Hy:PV:= .b7 (.func 65) [] [.ptr 4 0,.ptr 5 0,.ptr 7 0,.ptr 0 0,.ptr 8 0,.ptr 6 0]
abbrev rH(G:IV)(w:TW)(k:Nat):AH:=[(0,io (.cells [.iv G])),(1,io (cI w.low)),(2,io (cI w.on)),(3,io (cI w.ring)),(4,io (.cells [.mp 1])),(5,io (.cells [.mp 2])),(6,io (.cells [.mp 3])),(7,io (.cells [nR w.re k w.stack])),(8,io (.cells [Hy])),(k,io (nS w.re w.stack))]
theorem Ke{n k:Nat}{σ:Nat->Nat}{h:AH}{G:IV}{w:TW}{C:PV}{y A B o:AO}(b:Ry 9 n=jp)(bk:PL k n=jp)(hs: ∀i,i<9->σ i=i)
  (g0:h.get 0=io (.cells [.iv G])) (g1:h.get 1=io y) (g2:h.get 2=io A) (g3:h.get 3=io B)
  (g4:h.get 4=io (.cells [.mp 1])) (g5:h.get 5=io (.cells [.mp 2])) (g6:h.get 6=io (.cells [.mp 3])) (g7:h.get 7=io (.cells [C])) (g8:h.get 8=io (.cells [Hy])) (g9:h.get (σ k)=io o)
  (D:dV y (cI w.low)) (I:dV A (cI w.on)) (J:dV B (cI w.ring)) (R:C=nR w.re (σ k) w.stack) (Y:dV o (nS w.re w.stack)):mP n σ h (rH G w k):=by
 have b9:=Pj b;have bk:=Pj bk;have hb: ∀i,i<9->PL i n=jp:=fun i j=>Qj (by omega);subst R;have r: ∀i,i<9->PV.mp (σ i)=PV.mp i:=fun i j=>by rw[hs i j]
 have u: ∀i,i<9->PV.ptr (σ i) 0=PV.ptr i 0:=fun i j=>by rw[hs i j]
 have x: ∀i,i<9->bj n [PV.mp i]=jp:=fun i j=>by simp only[bj,PV.low,hb i j]
 refine⟨⟨_,by rw[hs 0 (by omega)];exact g0,.of_eq Z⟩,by omega,rfl,
  ⟨_,by rw[hs 1 (by omega)];exact g1,D⟩,by omega,ac,
  ⟨_,by rw[hs 2 (by omega)];exact g2,I⟩,by omega,ac,
  ⟨_,by rw[hs 3 (by omega)];exact g3,J⟩,by omega,ac,
  ⟨_,by rw[hs 4 (by omega)];exact g4,.of_eq (by simp only[AO.cx,dA,PV.cx,r 1 (by omega)])⟩,by omega,x 1 (by omega),
  ⟨_,by rw[hs 5 (by omega)];exact g5,.of_eq (by simp only[AO.cx,dA,PV.cx,r 2 (by omega)])⟩,by omega,x 2 (by omega),
  ⟨_,by rw[hs 6 (by omega)];exact g6,.of_eq (by simp only[AO.cx,dA,PV.cx,r 3 (by omega)])⟩,by omega,x 3 (by omega),
  ⟨_,by rw[hs 7 (by omega)];exact g7,.of_eq (by simp only[AO.cx,dA,kg])⟩,by omega,by simp only[AO.low,bj,xj (Qj bk)],
  ⟨_,by rw[hs 8 (by omega)];exact g8,.of_eq (by simp only[AO.cx,dA,PV.cx,u 0 (by omega),u 4 (by omega),u 5 (by omega),u 6 (by omega),u 7 (by omega),u 8 (by omega)])⟩,by omega,by simp only[AO.low,bj,PV.low,hb 0 (by omega),hb 4 (by omega),hb 5 (by omega),hb 6 (by omega),hb 7 (by omega),hb 8 (by omega)],
  ⟨_,g9,by rw[kh];exact Y⟩,bk,xm _ _ _,ac⟩
theorem sS{V:Type}{kc:KC}{ev:V->IV}{z:V}{b:Value}{u:PV->V}(y: ∀M,IR M (ev z) b):dV .eC (.map kc ev z b u []):=
 ⟨id,fun M N U w j x=>⟨#[],0,x,⟨rfl,by simp,by simp,by simp,by simp⟩,y M⟩⟩
def TW.o:TW:=⟨[],[],[],[],is⟩
theorem Lw(G:IV)(w:TW){n:Nat}:[io (AO.cells [PV.mp 1]),io (.cells [.mp 2]),io (.cells [nR w.re 10 w.stack]),io (.cells [.iv G]),io (.cells [Hy]),io (.cells [.mp 3]),io (cI w.low),io (cI w.on),io (cI w.ring),io (nS w.re w.stack)]=
  (tO G w).map fun o=>io (o.cx (sig [4,5,7,0,8,6,1,2,3,10] n)):=by
 have h1:=kg (sig [4,5,7,0,8,6,1,2,3,10] n) w.re 9 w.stack;have b:=kh (sig [4,5,7,0,8,6,1,2,3,10] n) w.re w.stack;show _=[io (AO.cells [PV.mp 1]),io (.cells [.mp 2]),io (.cells [(nR w.re 9 w.stack).cx (sig [4,5,7,0,8,6,1,2,3,10] n)]),io (.cells [.iv G]),io (.cells [Hy]),io (.cells [.mp 3]),io (cI w.low),io (cI w.on),io (cI w.ring),io ((nS w.re w.stack).cx (sig [4,5,7,0,8,6,1,2,3,10] n))]
 rw[h1,b];rfl
theorem Lf(hS:fF){p:Prog}(hf:fz p)(hl:(cK p).length<=100000000):Go.Al.Fn prog 40 [.iv (vi (b3 p (cK p)))] [] fun r h n=> ∃m:NM,Go.Rg.tP (ns p) (eg p) (fun a=>dw .str m a 0)∧r= .iv (xZ m)∧h=[]∧n=0:=by
 have B:=Ei hf;refine ou ab func40 Z (by decide) ntmps40 Z (by simp) ?_;refine gA Z (zp (B7 hS hf (cK p)) ?_);refine gA Z ?_;refine pf 7 0 1 Z Z ?_
 let x:Nat->St ak:=fun i=>fJ (bf p) (ns p).length ((ns p).take i) St.o
 have y: ∀i,Inv (bf p) [] (x i):=fun i=>(pP rr (Pv _) ((ns p).take i) St.o (fun a h=>SJ h) (JX _)).1
 refine Bm 0 (ns p).length (PC _) (fun i w=>⟨[(3,.ptr 4 0),(4,.ptr 5 0),(5,.ptr 6 0),(6,.ptr 7 0),(7,.ptr 8 0),(15,.iv (strs (ns p))),(16,pI (ns p).length),(17,pI i)],rH (vi (b3 p (cK p))) w 10,11⟩)
  (fun i w=>w.Ok (ns p)∧w.st=x i) TW.o [9] ⟨⟨fun a h=>(nomatch h),Qa,fun a h=>(nomatch h)⟩,rfl⟩
  (wk Z Z Z (bi (bi (bi (bi (bi (bi (bi (bi trivial))))))))
   (Ke Z Z (fun i A=>fj (by show i<10;omega)) Z Z Z Z Z Z Z Z Z Z (sS fa) (sS fa) (sS fa) Z (.of_eq Z)) Z) fun i w A G=>?_
 obtain⟨hok,u⟩:=G;refine zJ Z Z (fun h1=>?_) fun h1=>?_
 .have h1:i<(ns p).length:=by simpa using h1
  have j:x (i+1)=if(x i).low ((ns p).getD i co)=0 then(dJ (bf p) (ns p).length ((ns p).getD i co) (x i)).2 else x i:=gQ h1;refine zJ Z Z (fun b=>?_) fun b=>?_
  .have b:w.st.low ((ns p).getD i co)=0:=zT b;rw[<-u,am b]at j;refine gA Z (qM [4,5,7,0,8,6,1,2,3,10] (Mo hS hf hl (ns p).length [] ((ns p).getD i co) w hok (u▸y i) b (kH h1) (fun g I=>nomatch I) (QK _ _)) Z Z Z Z Z (Lw _ _) Z ?_);rintro r R Y ⟨w3,hok3,hst3,rfl,rfl,rfl⟩;refine⟨_,rfl,?_⟩;refine gA Z ?_
   exact⟨h1,w3,[11],⟨hok3,by rw[j];exact hst3⟩,wk Z Z Z (bi (bi (bi (bi (bi (bi (bi (bi ac))))))))
    (Ke Z Z (fun i A=>fj (by show i<10;omega)) Z Z Z Z Z Z Z Z Z Z (.refl _) (.refl _) (.refl _) (kg _ _ _ _) (.of_eq (kh _ _ _))) Z⟩
  .have b: ¬w.st.low ((ns p).getD i co)=0:=zF b;rw[<-u,be b]at j;refine gA Z ?_
   exact⟨h1,w,[10],⟨hok,j.symm⟩,wk Z Z Z (bi (bi (bi (bi (bi (bi (bi (bi ac))))))))
    (Ke Z Z (fun i A=>fj (by show i<10;omega)) Z Z Z Z Z Z Z Z Z Z (.refl _) (.refl _) (.refl _) Z (.refl _)) Z⟩
 .have h1:(ns p).length<=i:=by simpa using h1
  have J:Go.Rg.tP (ns p) (eg p) (fun a=>dw .str w.ring a 0):=by
   have b:=DZ hf.nodup (Pv (ns p).length);have C:x i=fJ (bf p) (ns p).length (ns p) St.o:=by show fJ _ _ ((ns p).take i) _=_;rw[PJ h1]
   have D:(fun a=>dw .str w.ring a 0)=(fJ (bf p) (ns p).length (ns p) St.o).ring:=by rw[<-C,<-u];rfl
   rw[D];exact b
  refine gA Z ⟨.inr Z,_,rfl,iE.map 3 Z (.done ⟨.iv (xZ w.ring),[],0,[],⟨w.ring,J,rfl,rfl,rfl⟩,?_⟩)⟩;exact⟨rfl,PC _,by simp,⟨.of_eq Z,rfl,ac⟩,ac,Qa⟩
end Go.Proofs.YtllkaddcplhklaaGreatDoor
