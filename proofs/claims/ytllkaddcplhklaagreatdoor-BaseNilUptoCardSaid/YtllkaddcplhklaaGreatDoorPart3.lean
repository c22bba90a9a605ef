/-
  What the proofs of the claims need: part 3 of 5.
-/
import Derived.Test.YtllkaddcplhklaaGreatDoorPart2
import Derived.Sort.EncStr
import Derived.Sort.Grow
import Derived.Sort.Walk0
import Derived.Shelf.Sort.Plain
import Derived.Shelf.Slices.In.SortNone
import Derived.Shelf.Slices.In.SortNone2
import Derived.WalkKit
import Derived.Lib.Builder
import Derived.Lib.UnsafeStr
import Derived.Laws.Externs
import Derived.Shelf.RegionOpenPlain
import Derived.KernelRfl
import Derived.Test.YtllkaddcplhklaaGreatDoorProg
import Derived.Laws.RangeString
import Derived.Shelf.LaysM
import Derived.Shelf.Strconv.Itoa3
import Derived.Lib.ItoaLen
open And renaming intro→OF
open Array renaming eq_empty_of_size_eq_zero→P6,getD_eq_getD_getElem?→Oz,getElem?_append_left→Pc,getElem?_eq_getElem→O4,getElem?_eq_some_iff→Pv,getElem?_modify→Pd,getElem?_setIfInBounds→O5
open Bool renaming and_eq_true→Pq,and_false→QZ,eq_false_iff→QU,eq_iff_iff→PS,false_and→Qg,false_eq_true→Qb,false_or→Qo,not_eq_false'→Qm,not_eq_true'→PF,not_false→Rt,not_true→QS,or_eq_true→Qz,true_and→Rb,true_or→Rs
open ByteArray renaming empty→OI,size→RQ
open Classical renaming byContradiction→PM
open Int renaming ofNat_eq_zero→RY,toNat_natCast→OG
open List.Nodup renaming length_le_of_subset→PK
open List.Pairwise renaming nil→Ri
open List renaming all_cons→RB,all_eq_true→Pj,any_cons→RU,any_eq_false→Pz,any_eq_true→PO,append_assoc→O0,append_nil→Pw,cons_append→PT,ext_getElem?→QE,filterMap_append→RJ,filterMap_cons→RS,filter_cons→Qd,filter_eq_self→Q9,findIdx?_eq_none_iff→Rv,findIdx?_eq_some_iff_getElem→Rh,flatMap_cons→PH,foldl_cons→Pr,getD_cons_succ→PR,getD_cons_zero→Qs,getD_eq_getElem?_getD→OC,getElem?_eq_getElem→OD,getElem?_eq_some_iff→OB,getElem?_map→OH,getElem?_of_mem→Po,getElem?_take→Pn,getElem_map→P7,getElem_mem→Pm,le_antisymm→RD,length_append→OE,length_cons→Pb,length_filter_le→PQ,length_map→O7,length_nil→Qa,length_pos_iff→PJ,length_singleton→PC,length_take→PN,map_append→OX,map_cons→OZ,map_map→Qf,map_nil→P9,mem_append→OW,mem_append_left→Ph,mem_append_right→P8,mem_cons→OP,mem_cons_of_mem→ON,mem_cons_self→OO,mem_filter→Pa,mem_flatMap→Rp,mem_map→Pg,mem_of_getElem?→Pe,mem_range→PW,mem_singleton→OM,nil_append→Qh,nodup_append→PZ,nodup_cons→Pf,nodup_nil→Pk,not_lt→R6,not_mem_nil→Ro,pairwise_cons→PG,perm_ext_iff_of_nodup→P2,range→O9,sum_cons→PU,take_append_drop→QT,take_length→Ql,take_of_length_le→OY,take_succ_cons→PX
open Nat renaming add_assoc→P3,add_zero→Qn,beq→O2,ble→Qx,ble_eq_true_of_le→Pu,blt→O1,le_add_left→Rc,le_add_right→Rn,le_of_ble_eq_true→Oy,le_refl→OL,le_succ→Qv,le_trans→Pp,lt_or_ge→PB,lt_succ_of_lt→PY,lt_succ_self→Qc,min_le_right→R2,mul_one→Ry,sub_zero→Q4,zero_add→O8,zero_le→OS
open Option renaming bind_some→QK,getD_some→PA,map_eq_some_iff→OJ,map_some→PI
open Option.some renaming injEq→OA
set_option maxRecDepth 100000
open Bool renaming false→jp,true→is
open Decidable renaming decide→kw
open Inhabited renaming default→ci
open Option renaming none→io,some→co
open Array renaming range→Rw
open Array renaming getElem?_map→QN
open Nat renaming mul_le_mul_right→O3
open Nat renaming add_mul→PD
open List renaming getElem?_append_right→OQ
open Array renaming getElem?_append_right→QX
open Array renaming getElem?_toList→O6
namespace Go.Al
theorem bi{a b:PV}{c:Bool}{X:Prop}(h:X)(h1:a=b:=by rfl)(h2:c=true:=by rfl):an a b∧c=true∧X:=⟨by subst h1;exact fun _ _ _ _ h=>h,h2,h⟩
theorem bv{i n:Nat}(h:decide ((i:Int)<(n:Int))=true):i<n:=by simpa using h
theorem ce{i n:Nat}(h:decide ((i:Int)<(n:Int))=false):n≤i:=by simpa using h
end Go.Al
namespace Go.Proofs.YtllkaddcplhklaaGreatDoor
open Go Go.Al Go.Proofs.Tryz
mutual
def b6:Expr->List ak
 | .mk k v _ _ args=>if k=1 then[v] else if k=4 then iX args else[]
def iX:List Expr->List ak
 | []=> []
 |e::r=>b6 e++iX r
end
theorem lW: ∀l:List Expr,iX l=l.flatMap b6
 | []=>rfl
 |e::r=>by simp only[iX,PH,lW r]
theorem yQ(e:Expr):b6 e=if e.kind=1 then[e.var] else if e.kind=4 then e.args.flatMap b6 else[]:=by
 cases e with
 |mk k v val op args=>simp only[b6,Expr.kind,Expr.var,Expr.args,lW];rfl
mutual
theorem fK: ∀e:Expr,(b6 e).length<=e.size
 | .mk k v _ _ args=>by
  have:=kQ args;simp only[b6,Expr.size];split
  .simp
  .split
   .omega
   .simp
theorem kQ: ∀l:List Expr,(iX l).length<=Expr.aE l
 | []=>by simp[iX]
 |e::r=>by
  have h1:=fK e;have b:=kQ r;simp only[iX,Expr.aE,OE];omega
end
theorem d135: ∀(n:Nat) (e:Expr) (occ:List ak),e.size<=n->occ.length+e.size<=1000000000000->bI prog 193 [.mp 0,ag e.c] [cy (aD occ)] (.bh []) [(0,co (cy (aD (occ++b6 e))))] 1
 |0,e,_,h,_=>by have:=e.size_pos;omega
 |n+1,e,occ,h,hb=>by
  refine bI.le (args:=[.mp 0,ag e.c1]) ?_ ⟨.refl _,e.DA,ac⟩;have u:=yQ e;have C:=e.size_eq;have B:=bt occ e.var;have A:=fq occ e.var;refine ax ab func193 Z (by decide) ntmps193 Z (by simp) ?_;refine zJ Z Z (fun h1=>?_) fun h1=>?_
  .have h1:e.kind=1:=by simpa using h1
   rw[am h1]at u;refine gA Z (zD [] Z (zW (hM Z (by rw[u,cS];rfl) Z ac)))
  have h1: ¬e.kind=1:=by simpa using h1
  rw[be h1]at u;refine zJ Z Z (fun j=>?_) fun j=>?_
  .have j:e.kind=4:=by simpa using j
   rw[am j]at u;refine gA Z ?_;refine aM 0 e.args.length (OS _) (fun i=>⟨[(0,.mp 0),(3,.ptr 1 0),(18,.iv (bV 7 e.args Expr.c)),(19,pI e.args.length),(20,pI i)],[(0,co (cy (aD (occ++(e.args.take i).flatMap b6))))],2⟩) (fun _=>True) [] ac
    (zW (hM Z (by simp) Z trivial)) fun i G _=>?_
   have y:=Expr.aF e.args;refine zJ Z Z (fun b=>?_) fun b=>?_
   .have b:i<e.args.length:=by simpa using b
    have hs:=bK (f:=b6) b;have I:=Expr.dq e.args i b;have D:=kQ (e.args.take i);rw[lW]at D;refine gA Z (cJ [0] (d135 n (e.args.getD i ci) _ (by omega) (by rw[OE];omega)) Z Z Z Z Z Z Z Z ?_);refine gA Z ⟨b,ac,[],zW (hM Z (by rw[hs,O0]) Z ac)⟩
   .have b:e.args.length<=i:=by simpa using b
    have x:e.args.take i=e.args:=OY b;refine gA Z (zD [] Z (zW (hM Z (by rw[u,x]) Z ac)))
  .have j: ¬e.kind=4:=by simpa using j
   rw[be j]at u;refine gA Z (zD [] Z (zW (hM Z (by rw[u,Pw]) Z ac)))
theorem Ej(e:Expr)(occ:List ak)(hb:occ.length+e.size<=1000000000000):bI prog 193 [.mp 0,ag e.c] [cy (aD occ)] (.bh []) [(0,co (cy (aD (occ++b6 e))))] 1:=d135 e.size e occ (OL _) hb
def cz(l:Lit):List ak:=if l.kind=1∨l.kind=2 then cx l.atom else if l.kind=3 then b6 l.left++b6 l.right else[]
theorem kI(l:Lit):(cz l).length+2<=l.size:=by
 have h1:=gY l.atom;have b:=fK l.left;have j:=fK l.right;rw[l.size_eq];unfold cz;split
 .omega
 .split
  .rw[OE];omega
  .simp;omega
theorem d89(l:Lit)(occ:List ak)(hb:occ.length+l.size<=1000000000000):bI prog 156 [.mp 0,ag l.c] [cy (aD occ)] (.bh []) [(0,co (cy (aD (occ++cz l))))] 1:=by
 have A:=l.size_eq;have B:=fK l.left;refine ax ab func156 Z (by decide) ntmps156 Z (by simp) ?_;refine zJ Z Z (fun j=>?_) fun j=>?_
 .have j:l.kind=1:=zT j;have y:cz l=cx l.atom:=am (.inl j);refine gA Z (zq [0] (d88 occ l.atom (by omega)) ?_);refine gA Z (zD [] Z (zW (hM Z (by rw[y]) Z ac)))
 have j: ¬l.kind=1:=zF j;refine zJ Z Z (fun u=>?_) fun u=>?_
 .have u:l.kind=2:=zT u;have y:cz l=cx l.atom:=am (.inr u);refine gA Z (zq [0] (d88 occ l.atom (by omega)) ?_);refine gA Z (zD [] Z (zW (hM Z (by rw[y]) Z ac)))
 have u: ¬l.kind=2:=zF u;have b:cz l=if l.kind=3 then b6 l.left++b6 l.right else[]:=be (by simp[j,u]);refine zJ Z Z (fun x=>?_) fun x=>?_
 .have x:l.kind=3:=zT x;rw[am x]at b;refine gA Z (zq [0] (Ej l.left occ (by omega)) ?_);refine gA Z (cJ [0] (Ej l.right _ (by rw[OE];omega)) Z Z Z Z Z Z Z Z ?_);refine gA Z (zD [] Z (zW (hM Z (by rw[b,O0]) Z ac)))
 .have x: ¬l.kind=3:=zF x;rw[be x]at b;refine gA Z (zD [] Z (zW (hM Z (by rw[b,Pw]) Z ac)))
def aY(a:ft):List ak:=(if a.func=1 then[] else b6 a.iJ)++a.body.flatMap cz
theorem jq: ∀l:List Lit,(l.flatMap cz).length<=Lit.aE l
 | []=>by simp
 |e::r=>by
  have h1:=kI e;have b:=jq r;rw[PH,OE];simp only[Lit.aE];omega
theorem I8(e:Expr)(hb:e.size<=1000000000000):bI prog 193 [.mp 0,ag e.c] [.eC] (.bh []) [(0,co (cy (aD (b6 e))))] 1:=
 (Ej e [] (by simpa using hb)).IZ ⟨⟨id,fun M N U w j b=>⟨#[],0,b,⟨rfl,by simp[aD],by simp[aD],by simp,by simp⟩,eS M⟩⟩,ac⟩
theorem NW(a:Atom)(hb:a.aj.length<=1000000000000):bI prog 135 [.mp 0,ag a.c] [.eC] (.bh []) [(0,co (cy (aD (cx a))))] 1:=
 (d88 [] a (by simpa using hb)).IZ ⟨⟨id,fun M N U w j b=>⟨#[],0,b,⟨rfl,by simp[aD],by simp[aD],by simp,by simp⟩,eS M⟩⟩,ac⟩
theorem d127(a:ft)(hb:a.size<=1000000000000):bI prog 162 [ag a.c] [] (.mp 0) [(0,co (cy (aD (aY a))))] 1:=by
 refine bI.le (args:=[ag a.c1]) ?_ ⟨a.DA,ac⟩;unfold ft.size at hb;have y:=fK a.iJ;have x:=Lit.aF a.body;refine ax ab func162 Z (by decide) ntmps162 Z (by simp) ?_;refine zJ Z Z (fun h1=>?_) fun h1=>?_
 .have h1: ¬a.func=1:=by simpa using h1
  have j:aY a=b6 a.iJ++a.body.flatMap cz:=by unfold aY;rw[be h1]
  refine gA Z (zq [1] (I8 a.iJ (by omega)) ?_);refine gA Z ?_;refine aM 0 a.body.length (OS _) (fun i=>⟨[(3,.mp 1),(15,.iv (lits a.body)),(16,pI a.body.length),(17,pI i)],[(1,co (cy (aD (b6 a.iJ++(a.body.take i).flatMap cz))))],2⟩) (fun _=>True) [] ac
   (zW (hM Z (by simp) Z trivial)) fun i A _=>?_
  refine zJ Z Z (fun b=>?_) fun b=>?_
  .have b:i<a.body.length:=by simpa using b
   have hs:=bK (f:=cz) b;have B:=Lit.dq a.body i b;have C:=jq (a.body.take i);refine gA Z (cJ [1] (d89 (a.body.getD i ci) _ (by rw[OE];omega)) Z Z Z Z Z Z Z Z ?_);refine gA Z ⟨b,ac,[],zW (hM Z (by rw[hs,O0]) Z ac)⟩
  .have b:a.body.length<=i:=by simpa using b
   have u:a.body.take i=a.body:=OY b;refine gA Z (zD [1] Z (zW (hM Z (by rw[u,j]) Z ac)))
 .have h1:a.func=1:=by simpa using h1
  have j:aY a=a.body.flatMap cz:=by unfold aY;rw[am h1];rfl
  refine gA Z ?_;refine aM 0 a.body.length (OS _) (fun i=>⟨[(3,.mp 1),(15,.iv (lits a.body)),(16,pI a.body.length),(17,pI i)],[(1,co (cy (aD ((a.body.take i).flatMap cz))))],2⟩) (fun _=>True) [] ac
   (zW (KP Z eS Z trivial)) fun i A _=>?_
  refine zJ Z Z (fun b=>?_) fun b=>?_
  .have b:i<a.body.length:=by simpa using b
   have hs:=bK (f:=cz) b;have B:=Lit.dq a.body i b;have C:=jq (a.body.take i);refine gA Z (cJ [1] (d89 (a.body.getD i ci) _ (by omega)) Z Z Z Z Z Z Z Z ?_);refine gA Z ⟨b,ac,[],zW (hM Z (by rw[hs]) Z ac)⟩
  .have b:a.body.length<=i:=by simpa using b
   have u:a.body.take i=a.body:=OY b;refine gA Z (zD [1] Z (zW (hM Z (by rw[u,j]) Z ac)))
def ins:List ak->ak->List ak
 | [],s=> [s]
 |x::r,s=>if x=s then x::r else if Op.bytesLess x.toList s.toList=is then x::ins r s else s::x::r
theorem iU(s:ak): ∀(l a:List ak),l.foldl (dE s) (a,is)=(a++l,is)
 | [],a=>by simp
 |x::r,a=>by
  have:dE s (a,is) x=(a++ [x],is):=by simp[dE]
  rw[Pr,this,iU s r];simp
theorem uI(s:ak): ∀(l a:List ak),(if(l.foldl (dE s) (a,jp)).2 then(l.foldl (dE s) (a,jp)).1 else(l.foldl (dE s) (a,jp)).1++ [s])=a++ins l s
 | [],a=>by simp[ins]
 |x::r,a=>by
  by_cases h1:x=s
  .have:dE s (a,jp) x=(a++ [x],is):=by simp[dE,h1]
   rw[Pr,this,iU];simp[ins,h1]
  .cases h2:Op.bytesLess x.toList s.toList with
   |true=>
    have:dE s (a,jp) x=(a++ [x],jp):=by simp[dE,h1,h2]
    rw[Pr,this,uI s r];simp[ins,h1,h2]
   |false=>
    have:dE s (a,jp) x=(a++ [s]++ [x],is):=by simp[dE,h1,h2]
    rw[Pr,this,iU];simp[ins,h1,h2]
theorem tE(l:List ak)(s:ak):fG l s=ins l s:=by
 have:=uI s l [];simpa[fG]using this
theorem kD{x:ak}: ∀{l:List ak} {s:ak},x∈ins l s↔x∈l∨x=s
 | [],s=>by simp[ins]
 |y::r,s=>by
  simp only[ins];split
  .rename_i h;subst h;simp;exact fun h=> .inl h
  .split
   .simp[kD (l:=r),or_assoc]
   .simp;constructor
    .rintro(h|h|h)
     .exact .inr h
     .exact .inl (.inl h)
     .exact .inl (.inr h)
    .rintro((h|h)|h)
     .exact .inr (.inl h)
     .exact .inr (.inr h)
     .exact .inl h
theorem c4{x s:ak}{l:List ak}:x∈fG l s↔x∈l∨x=s:=by rw[tE];exact kD
theorem p9{x:ak}: ∀{m l:List ak},x∈mg l m↔x∈l∨x∈m
 | [],l=>by simp[mg]
 |y::r,l=>by
  have h:=p9 (x:=x) (m:=r) (l:=fG l y);simp only[mg,Pr]at h ⊢;rw[h,c4,OP,or_assoc]
theorem bu{l:List ak}{s:ak}:dp l s=is↔s∈l:=by
 simp[dp]
theorem en{l:List ak}{s:ak}:dp l s=jp↔s∉l:=by
 rw[<-Bool.not_eq_true,bu]
def ie(l:Lit):List ak:=cz l++if l.kind=4 then[l.bw] else[]
def aC(r:aw):List ak:=cx r.head++r.body.flatMap ie
theorem yw(l:Lit):(ie l).length+1<=l.size:=by
 have:=kI l;unfold ie;rw[OE];split<;>simp<;>omega
theorem lN: ∀l:List Lit,(l.flatMap ie).length<=Lit.aE l
 | []=>by simp
 |e::r=>by
  have h1:=yw e;have b:=lN r;rw[PH,OE];simp only[Lit.aE];omega
theorem vp(r:aw):(aC r).length<=r.size:=by
 have h1:=lN r.body;have b:=gY r.head;unfold aC aw.size;rw[OE];omega
def Ja(r:aw):List IV:=[iS r.head.rel,bV 5 r.head.aj Term.c,lits r.body,iI r.at_.line,iI r.at_.EP,xn (aD (aC r))]
abbrev b8(r:aw):IV:= .jg (Ja r)
theorem c48(r:aw)(hb:r.size<=1000000000000):Pure prog 120 [ag r.c] (.iv (b8 r)):=by
 unfold aw.size at hb;have B:=gY r.head;have A:=Lit.aF r.body;refine ae ab func120 Z (by decide) ntmps120 Z (by simp) Z ?_;refine gA Z (zd [1] (NW r.head (by omega)) ?_);refine gA Z ?_
 refine aM 0 r.body.length (OS _) (fun i=>⟨[(3,.ptr 2 0),(18,.iv (lits r.body)),(19,pI r.body.length),(20,pI i)],
   [(1,co (cy (aD (cx r.head++(r.body.take i).flatMap ie)))),(2,co (.cells [pS r.head.rel,.iv (bV 5 r.head.aj Term.c),.iv (lits r.body),pI r.at_.line,pI r.at_.EP,.mp 1]))],3⟩) (fun _=>True) [] ac
  (zW (hM Z (by simp) Z (zO trivial))) fun i G _=>?_
 refine zJ Z Z (fun j=>?_) fun j=>?_
 .have j:i<r.body.length:=by simpa using j
  have hs:=bK (f:=ie) j;have I:=Lit.dq r.body i j;have J:=lN (r.body.take i);have D:=kI (r.body.getD i ci);refine gA Z (bD ab [1] (d89 (r.body.getD i ci) _ (by rw[OE];omega)) Z Z Z Z Z Z Z Z Z Z Z Z (by(repeat' (first|exact ac|exact rfl|exact an.refl _|exact an.bk (by assumption)|apply OF))<;>first|omega|(simp only[OG];omega)|(simp;done)|(simp;omega)) Z (by(repeat' (first|exact ac|exact rfl|exact an.refl _|exact an.bk (by assumption)|apply OF))<;>first|omega|(simp only[OG];omega)|(simp;done)|(simp;omega)) ?_);refine zJ Z Z (fun u=>?_) fun u=>?_
  .have u:(r.body.getD i ci).kind=4:=zT u;have b:ie (r.body.getD i ci)=cz (r.body.getD i ci)++ [(r.body.getD i ci).bw]:=by unfold ie;rw[am u]
   rw[b]at hs;have C:=bt (cx r.head++(r.body.take i).flatMap ie++cz (r.body.getD i ci)) (r.body.getD i ci).bw;have x:=fq (cx r.head++(r.body.take i).flatMap ie++cz (r.body.getD i ci)) (r.body.getD i ci).bw;rw[OE,OE]at x;refine gA Z ⟨j,ac,[],zW (hM Z (by rw[hs,<-O0,<-O0,cS];rfl) Z (zO ac))⟩
  .have u: ¬(r.body.getD i ci).kind=4:=zF u;have b:ie (r.body.getD i ci)=cz (r.body.getD i ci):=by unfold ie;rw[be u,Pw]
   rw[b]at hs;refine gA Z ⟨j,ac,[],zW (hM Z (by rw[hs,<-O0]) Z (zO ac))⟩
 .have j:r.body.length<=i:=by simpa using j
  have y:r.body.take i=r.body:=OY j;refine fb Z ac (kR (.inr Z) Z (.map 1 Z (.cells 2 _ Z (show _=List.map PV.iv (Ja r) by rw[y];rfl) (.done (.of_eq Z)))))
def aV(occ:List ak)(e:Expr):Bool:=(b6 e).all fun x=>dp occ x
theorem qS{l:List ak}{j:Nat}{x:(KC.str).K×Int}(h:(aD l)[j]? =co x):x.1∈l:=
 ((dH l).2 x.1).1 (Pg.2 ⟨x,Pe h,rfl⟩)
theorem all_keys{l:List ak}{vs:List Nat}(h: ∀j,j<(aD l).length->j∈vs){p:ak->Prop}(hp: ∀j∈vs,∀x,(aD l)[j]? =co x->p x.1): ∀t∈l,p t:=by
 intro t u;obtain⟨x,y,rfl⟩:=Pg.1 (((dH l).2 t).2 u);obtain⟨j,b⟩:=Po y;exact hp j (h j (OB.1 b).1) x b
theorem d125(occ:List ak)(e:Expr)(hb:e.size<=1000000000000):bI prog 197 [.mp 0,ag e.c] [cy (aD occ)] (pB (aV occ e)) [(0,co (cy (aD occ)))] 1:=by
 refine ax ab func197 Z (by decide) ntmps197 Z (by simp) ?_;refine gA Z (zq [2] (I8 e hb) ?_);refine gA Z ?_;refine eQ (aD (b6 e)) (fun vs=>⟨[(0,.mp 0),(12,.ptr 3 0)],[(0,co (cy (aD occ))),(3,co (.bB .str wg (aD (b6 e)) vs io))],4⟩) (fun vs=> ∀j∈vs,∀x,(aD (b6 e))[j]? =co x->x.1∈occ) [] (by simp)
  (zW (zC (hI Z Z (.inl Z) Z trivial))) fun vs D=>?_
 refine fb Z ac (dd Z Z Z Z Z (by decide) (fun b=>?_) fun j x B G=>?_)
 .refine gA Z (zD [] Z (zM ⟨.of_eq (by rw[show aV occ e=is from Pj.2 fun t I=>bu.2 (all_keys b D t I)];rfl),rfl,ac⟩ (zC ac)))
 .have u:=bt occ x.1;refine zJ Z Z (fun h1=>?_) fun h1=>?_
  .have h1:dm .str (aD occ) x.1 0=0:=zT h1;have A:x.1∉occ:=pJ.1 (by rw[u]at h1;omega);refine gA Z (zD [] Z (zM ⟨.of_eq (by rw[show aV occ e=jp from List.all_eq_false.2 ⟨x.1,qS B,by rw[en.2 A];simp⟩];rfl),rfl,ac⟩ (zC ac)))
  .have h1: ¬dm .str (aD occ) x.1 0=0:=zF h1;have A:x.1∈occ:=sH.1 (by rw[u]at h1;omega);refine gA Z ?_
   exact⟨j,x,B,G,fun i hi y C=>by
    rcases OP.1 hi with rfl|hi
    .rw[B]at C;cases C;exact A
    .exact D i hi y C,[],zW (zC (hI Z Z (.inr Z) Z ac))⟩
def aq(r:aw)(lit:Int):Lit:=r.body.getD lit.toNat ci
theorem Lit.jc(l:Lit):l.agg.size+2<=l.size:=by
 rw[l.size_eq];unfold ft.size Lit.agg;dsimp only;omega
theorem nj{a b:ak×Bool}(h:a=b):PV.bh [pS a.1,pB a.2]= .bh [pS b.1,pB b.2]:=by rw[h]
def jw(l:Lit)(b:List ak):ak×Bool:=
 if¬l.kind=3∨ ¬l.op=1 then(OI,jp)
 else if l.left.kind=1∧dp b l.left.var=jp∧(l.right.kind=2∨l.right.kind=1∧dp b l.right.var=is) then(l.left.var,is)
 else if l.right.kind=1∧(if l.left.kind=1 then dp b l.left.var else kw (l.left.kind=2))=is then(l.right.var,!dp b l.right.var)
 else(OI,jp)
def bC(body:List Lit):List ak:=body.flatMap fun l=> [l.left.var,l.right.var,l.bw]
def ck(c k:List ak):Nat:=(c.filter fun x=>!dp k x).length
theorem iC: ∀body:List Lit,(bC body).length=3*body.length
 | []=>rfl
 |l::r=>by have:=iC r;simp only[bC,PH,OE,Pb,Qa]at this ⊢;omega
theorem ox(c k:List ak):ck c k<=c.length:=PQ _ _
theorem ow{v:ak}{k:List ak}: ∀{c:List ak},v∈c->v∉k->ck c (fG k v)<ck c k:=by
 have mono: ∀c:List ak,ck c (fG k v)<=ck c k:=by
  intro c
  induction c with
  |nil=>exact OL _
  |cons x r b=>
   simp only[ck]at b ⊢;simp only[Qd];by_cases h1:x∈k
   .have:dp (fG k v) x=is:=bu.2 (c4.2 (.inl h1));rw[this,bu.2 h1];exact b
   .simp only[en.2 h1,Rt,if_true,Pb];split<;>(try simp only[Pb])<;>omega
 intro c u hk
 induction c with
 |nil=>cases u
 |cons x r b=>
  have y:=mono r;simp only[ck]at b y ⊢;simp only[Qd];by_cases j:x=v
  .subst j;have:dp (fG k x) x=is:=bu.2 (c4.2 (.inr Z));simp[this,en.2 hk];omega
  .have A:v∈r:=by
    rcases OP.1 u with h|h
    .exact absurd h.symm j
    .exact h
   have b:=b A;by_cases h1:x∈k
   .have:dp (fG k v) x=is:=bu.2 (c4.2 (.inl h1));simp[this,bu.2 h1];exact b
   .have:dp (fG k v) x=jp:=en.2 fun h=>by rcases c4.1 h with h|h;exact h1 h;exact j h
    simp[this,en.2 h1];omega
def Be(k:List ak)(l:Lit):List ak:=if l.kind=1 then mg k (oN l.atom) else k
theorem uP{body:List Lit}{l:Lit}(h:l∈body){v:ak}(b:v∈ [l.left.var,l.right.var,l.bw]):v∈bC body:=Rp.2 ⟨l,h,b⟩
def fj(may:Expr->Bool)(occ:List ak)(l:Lit):ak×Bool:=
 if¬l.kind=3∨ ¬l.op=1 then(OI,jp)
 else if l.left.kind=1∧dp occ l.left.var=jp∧may l.right=is then(l.left.var,is)
 else if l.right.kind=1∧dp occ l.right.var=jp∧may l.left=is then(l.right.var,is)
 else(OI,jp)
theorem bW{occ:List ak}{s:ak}:dp occ s=!kw (dm .str (aD occ) s 0=0):=by
 rw[bt];by_cases h:s∈occ
 .have:=sH.2 h;rw[bu.2 h];simp;omega
 .rw[en.2 h,pJ.2 h];rfl
def b4(occ:List ak)(e:Expr):Bool:=kw (e.kind=2)||(kw (e.kind=1)&&dp occ e.var)
theorem lH{a b:Bool}(h:a=b):pB a=pB b:=by rw[h]
theorem d76(occ:List ak)(e:Expr)(hb:e.size<=1000000000000):bI prog 86 [ag e.c,.ptr 1 0] [cy (aD occ),.cells [.mp 0]] (pB (b4 occ e)) [(0,co (cy (aD occ))),(1,co (.cells [.mp 0]))] 2:=by
 have b:=bt occ e.var;have j:=bW (occ:=occ) (s:=e.var);refine ax ab func86 Z (by decide) ntmps86 Z (by simp) ?_
 repeat' (first
  |(refine gA Z (zI (fun _=>?_) (fun _=>?_)))
  |fail)
 all_goals first
  |(refine gA Z (bj [] (.inr Z) Z (zM ⟨.of_eq (lH (a:=is) ?_),rfl,ac⟩ (zC (zO ac))));simp_all [b4];done)
  |(refine gA Z (bj [] (.inr Z) Z (zM ⟨.of_eq (lH (a:=jp) ?_),rfl,ac⟩ (zC (zO ac))));simp_all [b4];done)
  |(refine gA Z (bj [] (.inr Z) Z (zM ⟨.of_eq (lH (a:=kw (dm .str (aD occ) e.var 0>0)) ?_),rfl,ac⟩ (zC (zO ac))));rw[b4,j,b];simp_all;by_cases u:nY occ e.var=0<;>simp[u]<;>omega)
theorem c77(a:ft):Pure prog 87 [ag a.c] (pB jp):=by
 refine ae ab func87 Z (by decide) ntmps87 Z (by simp) Z ?_;exact zU Z
theorem Oc(a:ft):Pure prog 199 [ag a.c] (pB jp):=by
 refine ae ab func199 Z (by decide) ntmps199 Z (by simp) Z ?_;exact zU Z
def lJ(out occ:List ak)(a:ft):Bool:=(aY a).all fun x=>kw (x=a.var)||(!dp out x||dp occ x)
theorem d126(r:aw)(occ:List ak)(a:ft)(hb:a.size<=1000000000000):bI prog 198 [ag a.c,.ptr 1 0,.ptr 2 0] [cy (aD occ),.cells [.iv (b8 r)],.cells [.mp 0]] (pB (lJ (aC r) occ a)) [(0,co (cy (aD occ))),(1,co (.cells [.iv (b8 r)])),(2,co (.cells [.mp 0]))] 3:=by
 refine ax ab func198 Z (by decide) ntmps198 Z (by simp) ?_;refine gA Z (zq [] (d127 a hb) ?_);refine gA Z ?_;refine eQ (aD (aY a)) (fun vs=>⟨[(1,.ptr 1 0),(2,.ptr 2 0),(3,.ptr 3 0),(8,.ptr 5 0)],[(0,co (cy (aD occ))),(1,co (.cells [.iv (b8 r)])),(2,co (.cells [.mp 0])),(3,co (ay a.c)),(5,co (.bB .str wg (aD (aY a)) vs io))],6⟩) (fun vs=> ∀j∈vs,∀x,(aD (aY a))[j]? =co x->(kw (x.1=a.var)||(!dp (aC r) x.1||dp occ x.1))=is) [] (by simp)
  (zW (zC ⟨⟨_,rfl,.of_eq Z⟩,Oy Z,rfl,⟨_,rfl,.of_eq Z⟩,Oy Z,rfl,zK (hI Z Z (.inl Z) Z trivial)⟩)) fun vs G=>?_
 refine fb Z ac (dd Z Z Z Z Z (by decide) (fun b=>?_) fun j x u A=>?_)
 .refine gA Z (zD [] Z (zM ⟨.of_eq (lH (a:=is) (Pj.2 fun t I=>all_keys (p:=fun t=>(kw (t=a.var)||(!dp (aC r) t||dp occ t))=is) b G t I).symm),rfl,ac⟩ (zC ⟨⟨_,rfl,.of_eq Z⟩,Oy Z,rfl,⟨_,rfl,.of_eq Z⟩,Oy Z,rfl,ac⟩)))
 .have more:(kw (x.1=a.var)||(!dp (aC r) x.1||dp occ x.1))=is-> ∀i∈j::vs,∀x,(aD (aY a))[i]? =co x->(kw (x.1=a.var)||(!dp (aC r) x.1||dp occ x.1))=is:=fun h i hi y B=>by
   rcases OP.1 hi with rfl|hi
   .rw[u]at B;cases B;exact h
   .exact G i hi y B
  have C:=bW (occ:=aC r) (s:=x.1);have D:=bW (occ:=occ) (s:=x.1);have J:=bt (aC r) x.1;have R:=bt occ x.1;refine zJ Z Z (fun g1=>?_) fun g1=>?_
  .have g1:kw (x.1=a.var)=jp:=by simpa using g1
   refine zJ Z Z (fun g2=>?_) fun g2=>?_
   .have g2:dp (aC r) x.1=is:=by
     have:=zT g2;rw[C];simp;omega
    refine zJ Z Z (fun g3=>?_) fun g3=>?_
    .have g3:dp occ x.1=jp:=by rw[D,g3];rfl
     refine gA Z (zD [] Z (zM ⟨.of_eq (lH (a:=jp) (List.all_eq_false.2 ⟨x.1,qS u,by rw[g1,g2,g3];simp⟩).symm),rfl,ac⟩ (zC ⟨⟨_,rfl,.of_eq Z⟩,Oy Z,rfl,⟨_,rfl,.of_eq Z⟩,Oy Z,rfl,ac⟩)))
    .have g3:dp occ x.1=is:=by rw[D,g3];rfl
     refine gA Z ⟨j,x,u,A,more (by rw[g3];simp),[],zW (zC ⟨⟨_,rfl,.of_eq Z⟩,Oy Z,rfl,⟨_,rfl,.of_eq Z⟩,Oy Z,rfl,zK (hI Z Z (.inr Z) Z ac)⟩)⟩
   .have g2:dp (aC r) x.1=jp:=by
     have:=zF g2;rw[C];simp;omega
    refine gA Z ⟨j,x,u,A,more (by rw[g2];simp),[],zW (zC ⟨⟨_,rfl,.of_eq Z⟩,Oy Z,rfl,⟨_,rfl,.of_eq Z⟩,Oy Z,rfl,zK (hI Z Z (.inr Z) Z ac)⟩)⟩
  .have g1:kw (x.1=a.var)=is:=by simpa using g1
   refine gA Z ⟨j,x,u,A,more (by rw[g1];simp),[],zW (zC ⟨⟨_,rfl,.of_eq Z⟩,Oy Z,rfl,⟨_,rfl,.of_eq Z⟩,Oy Z,rfl,zK (hI Z Z (.inr Z) Z ac)⟩)⟩
def kA(may:Expr->Bool)(more:ft->Bool)(occ:List ak)(l:Lit):Option ak:=
 if(fj may occ l).2=is then co (fj may occ l).1 else if l.kind=4∧dp occ l.bw=jp∧more l.agg=is then co l.bw else io
def bL(may:Expr->Bool)(more:ft->Bool)(occ:List ak):List Lit->Option ak
 | []=>io
 |l::r=>match kA may more occ l with
  |some v=>co v
  |none=>bL may more occ r
def cO(may:List ak->Expr->Bool)(more:List ak->ft->Bool)(body:List Lit):Nat->List ak->List ak
 |0,occ=>occ
 |n+1,occ=>match bL (may occ) (more occ) occ body with
  |some v=>cO may more body n (occ++ [v])
  |none=>occ
def ba(l:Lit):List ak:=if l.kind=1 then cx l.atom else[]
def bM(may:List ak->Expr->Bool)(more:List ak->ft->Bool)(body:List Lit)(occ:List ak):List ak:=cO may more body (3*body.length+1) (occ++body.flatMap ba)
theorem dT{may:List ak->Expr->Bool}{more:List ak->ft->Bool}{body:List Lit}{n:Nat}{occ:List ak}{v:ak}(h:bL (may occ) (more occ) occ body=co v):cO may more body (n+1) occ=cO may more body n (occ++ [v]):=by
 simp only[cO,h]
theorem dU{may:List ak->Expr->Bool}{more:List ak->ft->Bool}{body:List Lit}{n:Nat}{occ:List ak}(h:bL (may occ) (more occ) occ body=io):cO may more body (n+1) occ=occ:=by
 simp only[cO,h]
theorem jE{may:Expr->Bool}{more:ft->Bool}{occ:List ak}: ∀{l m:List Lit},bL may more occ l=io->bL may more occ (l++m)=bL may more occ m
 | [],_,_=>rfl
 |x::r,m,h=>by
  simp only[bL]at h;split at h
  .cases h
  .rename_i h1;simp only[PT,bL,h1];exact jE h
theorem de{may:Expr->Bool}{more:ft->Bool}{occ:List ak}{l:List Lit}{i:Nat}(h:bL may more occ (l.take i)=io)(hi:i<l.length)(b:kA may more occ (l.getD i ci)=io):bL may more occ (l.take (i+1))=io:=by
 rw[cd hi,jE h];simp only[bL,b]
theorem nV{may:Expr->Bool}{more:ft->Bool}{occ:List ak}{l:List Lit}{i:Nat}{v:ak}(h:bL may more occ (l.take i)=io)(hi:i<l.length)(b:kA may more occ (l.getD i ci)=co v):bL may more occ l=co v:=by
 have e:l=l.take i++(l.getD i ci::l.drop (i+1)):=by
  rw[OC,OD hi,PA,List.getElem_cons_drop,QT]
 rw[e,jE h];simp only[bL,b]
theorem rW{may:Expr->Bool}{more:ft->Bool}{occ:List ak}{l:Lit}{v:ak}(h:kA may more occ l=co v):v∈ [l.left.var,l.right.var,l.bw]∧v∉occ:=by
 unfold kA at h;split at h
 .rename_i h1;simp only[OA]at h;subst h;unfold fj at h1 ⊢;split at h1
  .cases h1
  .rename_i u;rw[be u];split at h1
   .rename_i b;rw[am b];exact⟨by simp,en.1 b.2.1⟩
   .rename_i b;rw[be b];split at h1
    .rename_i j;rw[am j];exact⟨by simp,en.1 j.2.1⟩
    .cases h1
 .split at h
  .rename_i b;simp only[OA]at h;subst h;exact⟨by simp,en.1 b.2.1⟩
  .cases h
theorem iV{may:Expr->Bool}{more:ft->Bool}{occ:List ak}{v:ak}: ∀{l:List Lit},bL may more occ l=co v->v∈bC l∧v∉occ
 | [],h=>by cases h
 |x::r,h=>by
  simp only[bL]at h;split at h
  .rename_i w j;simp only[OA]at h;subst h;obtain⟨h1,b⟩:=rW j;exact⟨uP OO h1,b⟩
  .obtain⟨h1,b⟩:=iV h;refine⟨?_,b⟩;simp only[bC,PH,OW]at h1 ⊢;exact .inr h1
theorem eN: ∀l:List Lit,(l.flatMap ba).length<=Lit.aE l
 | []=>by simp
 |e::r=>by
  have b:=eN r;have j:(ba e).length<=e.size:=by
   have:=gY e.atom;have:=e.size_eq;unfold ba;split
   .omega
   .simp
  rw[PH,OE];simp only[Lit.aE];omega
theorem M9(occ:List ak)(l:Lit)(hb:l.size<=100000000000):bI prog 136 [ag l.c,.bX (.func 197) [.mp 0] [],.mp 0] [cy (aD occ)] (.bh [pS (fj (aV occ) occ l).1,pB (fj (aV occ) occ l).2]) [(0,co (cy (aD occ)))] 1:=by
 have y:=l.size_eq;have u:=bt occ l.left.var;have x:=bt occ l.right.var;refine ax ab func136 Z (by decide) ntmps136 Z (by simp) ?_;refine zE Z Z (fun h1=>?_) fun h1=>?_
 .have h1: ¬l.kind=3:=by simpa using h1
  refine gA Z (zD [] Z (zM ⟨.of_eq (nj (a:=(OI,jp)) (by rw[fj,am (.inl h1)])),rfl,ac⟩ (zC ac)))
 have h1:l.kind=3:=by simpa using h1
 refine zJ Z Z (fun b=>?_) fun b=>?_
 .have b: ¬l.op=1:=by simpa using b
  refine gA Z (zD [] Z (zM ⟨.of_eq (nj (a:=(OI,jp)) (by rw[fj,am (.inr b)])),rfl,ac⟩ (zC ac)))
 have b:l.op=1:=by simpa using b
 have j:fj (aV occ) occ l=if l.left.kind=1∧dp occ l.left.var=jp∧(aV occ) l.right=is then(l.left.var,is) else if l.right.kind=1∧dp occ l.right.var=jp∧(aV occ) l.left=is then(l.right.var,is) else(OI,jp):=by
  rw[fj,be (by simp[h1,b])]
 repeat' (first
  |(refine gA Z (zI (fun _=>?_) (fun _=>?_)))
  |(refine gA Z (cJ [0] (d125 occ l.left (by omega)) Z Z Z Z Z Z Z Z ?_))
  |(refine gA Z (cJ [0] (d125 occ l.right (by omega)) Z Z Z Z Z Z Z Z ?_))
  |fail)
 all_goals first
  |(refine gA Z (bj [] (.inr Z) Z (zM ⟨.of_eq (nj (a:=(OI,jp)) ?_),rfl,ac⟩ (zC ac)));rw[j];simp only[bW] at*;simp_all;done)
  |(refine gA Z (bj [] (.inr Z) Z (zM ⟨.of_eq (nj (a:=(l.left.var,is)) ?_),rfl,ac⟩ (zC ac)));rw[j];simp only[bW] at*;simp_all;done)
  |(refine gA Z (bj [] (.inr Z) Z (zM ⟨.of_eq (nj (a:=(l.right.var,is)) ?_),rfl,ac⟩ (zC ac)));rw[j];simp only[bW] at*;simp_all;done)
  |(exfalso;simp_all;done)
theorem NZ(occ:List ak)(body:List Lit)(hb:occ.length+8*Lit.aE body<=100000000000):bI prog 85 [.iv (lits body),.mp 0,.bX (.func 197) [.mp 0] [],.bX (.func 199) [] []] [cy (aD occ)] (.bh []) [(0,co (cy (aD (bM (fun occ=>aV occ) (fun occ=>fun _=>jp) body occ))))] 1:=by
 have f0:=Lit.aF body;have k0:=eN body;have g0:=iC body;have j0:=ox (bC body) (occ++body.flatMap ba);refine ax ab func85 Z (by decide) ntmps85 Z (by simp) ?_;refine gA Z ?_;refine aM 0 body.length (OS _) (fun i=>⟨[(0,.iv (lits body)),(1,.mp 0),(2,.bX (.func 197) [.mp 0] []),(3,.bX (.func 199) [] []),(14,.iv (lits body)),(15,pI body.length),(16,pI i)],[(0,co (cy (aD (occ++(body.take i).flatMap ba))))],1⟩) (fun _=>True) [] ac
  (zW (hM Z (by simp) Z trivial)) fun i hi _=>?_
 refine zJ Z Z (fun h1=>?_) fun h1=>?_
 .have h1:i<body.length:=by simpa using h1
  have hs:=bK (f:=ba) h1;have hn:=Lit.dq body i h1;have hv:=eN (body.take i);have n0:=(body.getD i ci).size_eq;refine zJ Z Z (fun u=>?_) fun u=>?_
  .have u:(body.getD i ci).kind=1:=by simpa using u
   rw[show ba (body.getD i ci)=_ from am u]at hs;refine gA Z (zq [0] (d88 (occ++(body.take i).flatMap ba) (body.getD i ci).atom (by rw[OE];omega)) ?_);refine gA Z ⟨h1,ac,[],zW (hM Z (by rw[hs,O0]) Z ac)⟩
  .have u: ¬(body.getD i ci).kind=1:=by simpa using u
   rw[show ba (body.getD i ci)=_ from be u,Pw]at hs;refine gA Z ⟨h1,ac,[],zW (hM Z (by rw[hs]) Z ac)⟩
 have h1:body.length<=i:=by simpa using h1
 have e0:body.take i=body:=OY h1;rw[e0];refine gA Z ?_;refine fW (σ:={x:List ak×Nat//bM (fun occ=>aV occ) (fun occ=>fun _=>jp) body occ=cO (fun occ=>aV occ) (fun occ=>fun _=>jp) body (x.2+1) x.1∧ck (bC body) x.1<=x.2∧x.1.length+ck (bC body) x.1<=(occ++body.flatMap ba).length+ck (bC body) (occ++body.flatMap ba)})
  (fun x=>⟨[(0,.iv (lits body)),(1,.mp 0),(2,.bX (.func 197) [.mp 0] []),(3,.bX (.func 199) [] [])],[(0,co (cy (aD x.1.1)))],1⟩) (fun x=>ck (bC body) x.1.1)
  ⟨(occ++body.flatMap ba,3*body.length),rfl,by dsimp only;omega,OL _⟩ [] (zW (zC trivial)) ?_
 rintro⟨⟨ok,f⟩,hx1,hx2,hx3⟩;dsimp only at hx1 hx2 hx3 ⊢;rw[OE]at hx3;refine gA Z ?_;refine aM 0 body.length (OS _) (fun i=>⟨[(0,.iv (lits body)),(1,.mp 0),(2,.bX (.func 197) [.mp 0] []),(3,.bX (.func 199) [] []),(28,.iv (lits body)),(29,pI body.length),(30,pI i)],[(0,co (cy (aD ok)))],1⟩) (fun i=>bL ((fun occ=>aV occ) ok) ((fun occ=>fun _=>jp) ok) ok (body.take i)=io) [] Z
  (zW (zC trivial)) fun i hi C=>?_
 refine zJ Z Z (fun b=>?_) fun b=>?_
 .have b:i<body.length:=by simpa using b
  have m0:=Lit.bN body i b;have d0:=(body.getD i ci).jc;have j: ∀v,kA ((fun occ=>aV occ) ok) ((fun occ=>fun _=>jp) ok) ok (body.getD i ci)=co v->bM (fun occ=>aV occ) (fun occ=>fun _=>jp) body occ=cO (fun occ=>aV occ) (fun occ=>fun _=>jp) body (f-1+1) (ok++ [v])∧ck (bC body) (ok++ [v])<=f-1∧
    (ok++ [v]).length+ck (bC body) (ok++ [v])<=(occ++body.flatMap ba).length+ck (bC body) (occ++body.flatMap ba)∧ck (bC body) (ok++ [v])<ck (bC body) ok:=by
   intro v hv;have Y:=nV C b hv;obtain⟨g1,g2⟩:=iV Y;have i0:=ow g1 g2;have c0:ck (bC body) (ok++ [v])=ck (bC body) (fG ok v):=by
    unfold ck;congr 2
    funext x
    congr 1;rw[PS,bu,bu,c4,OW,OM]
   have I:f-1+1=f:=by omega
   refine⟨?_,by omega,?_,by omega⟩
   .rw[hx1,dT Y,I]
   .rw[OE,OE,PC];omega
  have a0:=bt ok (fj (aV ok) ok (body.getD i ci)).1;have J:=fq ok (fj (aV ok) ok (body.getD i ci)).1;have b0:=bt ok (body.getD i ci).bw;have R:=fq ok (body.getD i ci).bw;refine gA Z (zq [0] (M9 ok (body.getD i ci) (by omega)) ?_);refine zJ Z Z (fun B=>?_) fun B=>?_
  .obtain⟨g1,g2,g3,g4⟩:=j _ (am B);refine gA Z ⟨⟨(_,f-1),g1,g2,g3⟩,[],g4,zW (hM Z (by dsimp only;rw[cS];rfl) Z ac)⟩
  .refine zJ Z Z (fun y=>?_) fun y=>?_
   .have y:(body.getD i ci).kind=4:=by simpa using y
    refine zJ Z Z (fun A=>?_) fun A=>?_
    .have A:dp ok (body.getD i ci).bw=jp:=by rw[bW];simpa using A
     refine gA Z (zp (Oc (body.getD i ci).agg) ?_);refine zJ Z Z (fun G=>?_) fun G=>?_
     .obtain⟨g1,g2,g3,g4⟩:=j _ ((be (by rw[B];simp)).trans (am ⟨y,A,G⟩));refine gA Z ⟨⟨(_,f-1),g1,g2,g3⟩,[],g4,zW (hM Z (by dsimp only;rw[cS];rfl) Z ac)⟩
     .refine gA Z ?_;exact⟨b,de C b ((be (by rw[B];simp)).trans (be (fun h=>nomatch (h.2.2.symm.trans G)))),[],zW (zC ac)⟩
    .have A:dp ok (body.getD i ci).bw=is:=by rw[bW];simpa using A
     refine gA Z ⟨b,de C b ((be (by rw[B];simp)).trans (be (by rw[A];simp))),[],zW (zC ac)⟩
   .have y: ¬(body.getD i ci).kind=4:=by simpa using y
    refine gA Z ⟨b,de C b ((be (by rw[B];simp)).trans (be (fun h=>y h.1))),[],zW (zC ac)⟩
 .have b:body.length<=i:=by simpa using b
  rw[OY b]at C;have D:bM (fun occ=>aV occ) (fun occ=>fun _=>jp) body occ=ok:=by rw[hx1,dU C]
  refine gA Z (zD [] Z (zW (hM Z (by rw[D]) Z ac)))
theorem M8(occ:List ak)(l:Lit)(hb:l.size<=100000000000):bI prog 136 [ag l.c,.bX (.func 86) [] [.ptr 1 0],.mp 0] [cy (aD occ),.cells [.mp 0]] (.bh [pS (fj (b4 occ) occ l).1,pB (fj (b4 occ) occ l).2]) [(0,co (cy (aD occ))),(1,co (.cells [.mp 0]))] 2:=by
 have y:=l.size_eq;have u:=bt occ l.left.var;have x:=bt occ l.right.var;refine ax ab func136 Z (by decide) ntmps136 Z (by simp) ?_;refine zE Z Z (fun h1=>?_) fun h1=>?_
 .have h1: ¬l.kind=3:=by simpa using h1
  refine gA Z (zD [] Z (zM ⟨.of_eq (nj (a:=(OI,jp)) (by rw[fj,am (.inl h1)])),rfl,ac⟩ (zC (zO ac))))
 have h1:l.kind=3:=by simpa using h1
 refine zJ Z Z (fun b=>?_) fun b=>?_
 .have b: ¬l.op=1:=by simpa using b
  refine gA Z (zD [] Z (zM ⟨.of_eq (nj (a:=(OI,jp)) (by rw[fj,am (.inr b)])),rfl,ac⟩ (zC (zO ac))))
 have b:l.op=1:=by simpa using b
 have j:fj (b4 occ) occ l=if l.left.kind=1∧dp occ l.left.var=jp∧(b4 occ) l.right=is then(l.left.var,is) else if l.right.kind=1∧dp occ l.right.var=jp∧(b4 occ) l.left=is then(l.right.var,is) else(OI,jp):=by
  rw[fj,be (by simp[h1,b])]
 repeat' (first
  |(refine gA Z (zI (fun _=>?_) (fun _=>?_)))
  |(refine gA Z (cJ [0,1] (d76 occ l.left (by omega)) Z Z Z Z Z Z Z Z ?_))
  |(refine gA Z (cJ [0,1] (d76 occ l.right (by omega)) Z Z Z Z Z Z Z Z ?_))
  |fail)
 all_goals first
  |(refine gA Z (bj [] (.inr Z) Z (zM ⟨.of_eq (nj (a:=(OI,jp)) ?_),rfl,ac⟩ (zC (zO ac))));rw[j];simp only[bW] at*;simp_all;done)
  |(refine gA Z (bj [] (.inr Z) Z (zM ⟨.of_eq (nj (a:=(l.left.var,is)) ?_),rfl,ac⟩ (zC (zO ac))));rw[j];simp only[bW] at*;simp_all;done)
  |(refine gA Z (bj [] (.inr Z) Z (zM ⟨.of_eq (nj (a:=(l.right.var,is)) ?_),rfl,ac⟩ (zC (zO ac))));rw[j];simp only[bW] at*;simp_all;done)
  |(exfalso;simp_all;done)
theorem NY(occ:List ak)(body:List Lit)(hb:occ.length+8*Lit.aE body<=100000000000):bI prog 85 [.iv (lits body),.mp 0,.bX (.func 86) [] [.ptr 1 0],.bX (.func 87) [] []] [cy (aD occ),.cells [.mp 0]] (.bh []) [(0,co (cy (aD (bM (fun occ=>b4 occ) (fun occ=>fun _=>jp) body occ)))),(1,co (.cells [.mp 0]))] 2:=by
 have f0:=Lit.aF body;have k0:=eN body;have g0:=iC body;have j0:=ox (bC body) (occ++body.flatMap ba);refine ax ab func85 Z (by decide) ntmps85 Z (by simp) ?_;refine gA Z ?_;refine aM 0 body.length (OS _) (fun i=>⟨[(0,.iv (lits body)),(1,.mp 0),(2,.bX (.func 86) [] [.ptr 1 0]),(3,.bX (.func 87) [] []),(14,.iv (lits body)),(15,pI body.length),(16,pI i)],[(0,co (cy (aD (occ++(body.take i).flatMap ba)))),(1,co (.cells [.mp 0]))],2⟩) (fun _=>True) [] ac
  (zW (hM Z (by simp) Z (zO trivial))) fun i hi _=>?_
 refine zJ Z Z (fun h1=>?_) fun h1=>?_
 .have h1:i<body.length:=by simpa using h1
  have hs:=bK (f:=ba) h1;have hn:=Lit.dq body i h1;have hv:=eN (body.take i);have n0:=(body.getD i ci).size_eq;refine zJ Z Z (fun u=>?_) fun u=>?_
  .have u:(body.getD i ci).kind=1:=by simpa using u
   rw[show ba (body.getD i ci)=_ from am u]at hs;refine gA Z (zq [0] (d88 (occ++(body.take i).flatMap ba) (body.getD i ci).atom (by rw[OE];omega)) ?_);refine gA Z ⟨h1,ac,[],zW (hM Z (by rw[hs,O0]) Z (zO ac))⟩
  .have u: ¬(body.getD i ci).kind=1:=by simpa using u
   rw[show ba (body.getD i ci)=_ from be u,Pw]at hs;refine gA Z ⟨h1,ac,[],zW (hM Z (by rw[hs]) Z (zO ac))⟩
 have h1:body.length<=i:=by simpa using h1
 have e0:body.take i=body:=OY h1;rw[e0];refine gA Z ?_;refine fW (σ:={x:List ak×Nat//bM (fun occ=>b4 occ) (fun occ=>fun _=>jp) body occ=cO (fun occ=>b4 occ) (fun occ=>fun _=>jp) body (x.2+1) x.1∧ck (bC body) x.1<=x.2∧x.1.length+ck (bC body) x.1<=(occ++body.flatMap ba).length+ck (bC body) (occ++body.flatMap ba)})
  (fun x=>⟨[(0,.iv (lits body)),(1,.mp 0),(2,.bX (.func 86) [] [.ptr 1 0]),(3,.bX (.func 87) [] [])],[(0,co (cy (aD x.1.1))),(1,co (.cells [.mp 0]))],2⟩) (fun x=>ck (bC body) x.1.1)
  ⟨(occ++body.flatMap ba,3*body.length),rfl,by dsimp only;omega,OL _⟩ [] (zW (zC (zO trivial))) ?_
 rintro⟨⟨ok,f⟩,hx1,hx2,hx3⟩;dsimp only at hx1 hx2 hx3 ⊢;rw[OE]at hx3;refine gA Z ?_;refine aM 0 body.length (OS _) (fun i=>⟨[(0,.iv (lits body)),(1,.mp 0),(2,.bX (.func 86) [] [.ptr 1 0]),(3,.bX (.func 87) [] []),(28,.iv (lits body)),(29,pI body.length),(30,pI i)],[(0,co (cy (aD ok))),(1,co (.cells [.mp 0]))],2⟩) (fun i=>bL ((fun occ=>b4 occ) ok) ((fun occ=>fun _=>jp) ok) ok (body.take i)=io) [] Z
  (zW (zC (zO trivial))) fun i hi C=>?_
 refine zJ Z Z (fun b=>?_) fun b=>?_
 .have b:i<body.length:=by simpa using b
  have m0:=Lit.bN body i b;have d0:=(body.getD i ci).jc;have j: ∀v,kA ((fun occ=>b4 occ) ok) ((fun occ=>fun _=>jp) ok) ok (body.getD i ci)=co v->bM (fun occ=>b4 occ) (fun occ=>fun _=>jp) body occ=cO (fun occ=>b4 occ) (fun occ=>fun _=>jp) body (f-1+1) (ok++ [v])∧ck (bC body) (ok++ [v])<=f-1∧
    (ok++ [v]).length+ck (bC body) (ok++ [v])<=(occ++body.flatMap ba).length+ck (bC body) (occ++body.flatMap ba)∧ck (bC body) (ok++ [v])<ck (bC body) ok:=by
   intro v hv;have Y:=nV C b hv;obtain⟨g1,g2⟩:=iV Y;have i0:=ow g1 g2;have c0:ck (bC body) (ok++ [v])=ck (bC body) (fG ok v):=by
    unfold ck;congr 2
    funext x
    congr 1;rw[PS,bu,bu,c4,OW,OM]
   have I:f-1+1=f:=by omega
   refine⟨?_,by omega,?_,by omega⟩
   .rw[hx1,dT Y,I]
   .rw[OE,OE,PC];omega
  have a0:=bt ok (fj (b4 ok) ok (body.getD i ci)).1;have J:=fq ok (fj (b4 ok) ok (body.getD i ci)).1;have b0:=bt ok (body.getD i ci).bw;have R:=fq ok (body.getD i ci).bw;refine gA Z (zq [0,1] (M8 ok (body.getD i ci) (by omega)) ?_);refine zJ Z Z (fun B=>?_) fun B=>?_
  .obtain⟨g1,g2,g3,g4⟩:=j _ (am B);refine gA Z ⟨⟨(_,f-1),g1,g2,g3⟩,[],g4,zW (hM Z (by dsimp only;rw[cS];rfl) Z (zO ac))⟩
  .refine zJ Z Z (fun y=>?_) fun y=>?_
   .have y:(body.getD i ci).kind=4:=by simpa using y
    refine zJ Z Z (fun A=>?_) fun A=>?_
    .have A:dp ok (body.getD i ci).bw=jp:=by rw[bW];simpa using A
     refine gA Z (zp (c77 (body.getD i ci).agg) ?_);refine zJ Z Z (fun G=>?_) fun G=>?_
     .obtain⟨g1,g2,g3,g4⟩:=j _ ((be (by rw[B];simp)).trans (am ⟨y,A,G⟩));refine gA Z ⟨⟨(_,f-1),g1,g2,g3⟩,[],g4,zW (hM Z (by dsimp only;rw[cS];rfl) Z (zO ac))⟩
     .refine gA Z ?_;exact⟨b,de C b ((be (by rw[B];simp)).trans (be (fun h=>nomatch (h.2.2.symm.trans G)))),[],zW (zC (zO ac))⟩
    .have A:dp ok (body.getD i ci).bw=is:=by rw[bW];simpa using A
     refine gA Z ⟨b,de C b ((be (by rw[B];simp)).trans (be (by rw[A];simp))),[],zW (zC (zO ac))⟩
   .have y: ¬(body.getD i ci).kind=4:=by simpa using y
    refine gA Z ⟨b,de C b ((be (by rw[B];simp)).trans (be (fun h=>y h.1))),[],zW (zC (zO ac))⟩
 .have b:body.length<=i:=by simpa using b
  rw[OY b]at C;have D:bM (fun occ=>b4 occ) (fun occ=>fun _=>jp) body occ=ok:=by rw[hx1,dU C]
  refine gA Z (zD [] Z (zW (hM Z (by rw[D]) Z (zO ac))))
theorem M7(r:aw)(occ:List ak)(l:Lit)(hb:l.size<=100000000000):bI prog 136 [ag l.c,.bX (.func 197) [.mp 0] [],.mp 0] [cy (aD occ),.cells [.iv (b8 r)],.cells [.mp 0]] (.bh [pS (fj (aV occ) occ l).1,pB (fj (aV occ) occ l).2]) [(0,co (cy (aD occ))),(1,co (.cells [.iv (b8 r)])),(2,co (.cells [.mp 0]))] 3:=by
 have y:=l.size_eq;have u:=bt occ l.left.var;have x:=bt occ l.right.var;refine ax ab func136 Z (by decide) ntmps136 Z (by simp) ?_;refine zE Z Z (fun h1=>?_) fun h1=>?_
 .have h1: ¬l.kind=3:=by simpa using h1
  refine gA Z (zD [] Z (zM ⟨.of_eq (nj (a:=(OI,jp)) (by rw[fj,am (.inl h1)])),rfl,ac⟩ (zC ⟨⟨_,rfl,.of_eq Z⟩,Oy Z,rfl,⟨_,rfl,.of_eq Z⟩,Oy Z,rfl,ac⟩)))
 have h1:l.kind=3:=by simpa using h1
 refine zJ Z Z (fun b=>?_) fun b=>?_
 .have b: ¬l.op=1:=by simpa using b
  refine gA Z (zD [] Z (zM ⟨.of_eq (nj (a:=(OI,jp)) (by rw[fj,am (.inr b)])),rfl,ac⟩ (zC ⟨⟨_,rfl,.of_eq Z⟩,Oy Z,rfl,⟨_,rfl,.of_eq Z⟩,Oy Z,rfl,ac⟩)))
 have b:l.op=1:=by simpa using b
 have j:fj (aV occ) occ l=if l.left.kind=1∧dp occ l.left.var=jp∧(aV occ) l.right=is then(l.left.var,is) else if l.right.kind=1∧dp occ l.right.var=jp∧(aV occ) l.left=is then(l.right.var,is) else(OI,jp):=by
  rw[fj,be (by simp[h1,b])]
 repeat' (first
  |(refine gA Z (zI (fun _=>?_) (fun _=>?_)))
  |(refine gA Z (cJ [0] (d125 occ l.left (by omega)) Z Z Z Z Z Z Z Z ?_))
  |(refine gA Z (cJ [0] (d125 occ l.right (by omega)) Z Z Z Z Z Z Z Z ?_))
  |fail)
 all_goals first
  |(refine gA Z (bj [] (.inr Z) Z (zM ⟨.of_eq (nj (a:=(OI,jp)) ?_),rfl,ac⟩ (zC ⟨⟨_,rfl,.of_eq Z⟩,Oy Z,rfl,⟨_,rfl,.of_eq Z⟩,Oy Z,rfl,ac⟩)));rw[j];simp only[bW] at*;simp_all;done)
  |(refine gA Z (bj [] (.inr Z) Z (zM ⟨.of_eq (nj (a:=(l.left.var,is)) ?_),rfl,ac⟩ (zC ⟨⟨_,rfl,.of_eq Z⟩,Oy Z,rfl,⟨_,rfl,.of_eq Z⟩,Oy Z,rfl,ac⟩)));rw[j];simp only[bW] at*;simp_all;done)
  |(refine gA Z (bj [] (.inr Z) Z (zM ⟨.of_eq (nj (a:=(l.right.var,is)) ?_),rfl,ac⟩ (zC ⟨⟨_,rfl,.of_eq Z⟩,Oy Z,rfl,⟨_,rfl,.of_eq Z⟩,Oy Z,rfl,ac⟩)));rw[j];simp only[bW] at*;simp_all;done)
  |(exfalso;simp_all;done)
theorem NX(r:aw)(occ:List ak)(body:List Lit)(hb:occ.length+8*Lit.aE body<=100000000000):bI prog 85 [.iv (lits body),.mp 0,.bX (.func 197) [.mp 0] [],.bX (.func 198) [] [.ptr 1 0,.ptr 2 0]] [cy (aD occ),.cells [.iv (b8 r)],.cells [.mp 0]] (.bh []) [(0,co (cy (aD (bM (fun occ=>aV occ) (fun occ=>lJ (aC r) occ) body occ)))),(1,co (.cells [.iv (b8 r)])),(2,co (.cells [.mp 0]))] 3:=by
 have f0:=Lit.aF body;have k0:=eN body;have g0:=iC body;have j0:=ox (bC body) (occ++body.flatMap ba);refine ax ab func85 Z (by decide) ntmps85 Z (by simp) ?_;refine gA Z ?_;refine aM 0 body.length (OS _) (fun i=>⟨[(0,.iv (lits body)),(1,.mp 0),(2,.bX (.func 197) [.mp 0] []),(3,.bX (.func 198) [] [.ptr 1 0,.ptr 2 0]),(14,.iv (lits body)),(15,pI body.length),(16,pI i)],[(0,co (cy (aD (occ++(body.take i).flatMap ba)))),(1,co (.cells [.iv (b8 r)])),(2,co (.cells [.mp 0]))],3⟩) (fun _=>True) [] ac
  (zW (hM Z (by simp) Z ⟨⟨_,rfl,.of_eq Z⟩,Oy Z,rfl,⟨_,rfl,.of_eq Z⟩,Oy Z,rfl,ac⟩)) fun i hi _=>?_
 refine zJ Z Z (fun h1=>?_) fun h1=>?_
 .have h1:i<body.length:=by simpa using h1
  have hs:=bK (f:=ba) h1;have hn:=Lit.dq body i h1;have hv:=eN (body.take i);have n0:=(body.getD i ci).size_eq;refine zJ Z Z (fun u=>?_) fun u=>?_
  .have u:(body.getD i ci).kind=1:=by simpa using u
   rw[show ba (body.getD i ci)=_ from am u]at hs;refine gA Z (zq [0] (d88 (occ++(body.take i).flatMap ba) (body.getD i ci).atom (by rw[OE];omega)) ?_);refine gA Z ⟨h1,ac,[],zW (hM Z (by rw[hs,O0]) Z ⟨⟨_,rfl,.of_eq Z⟩,Oy Z,rfl,⟨_,rfl,.of_eq Z⟩,Oy Z,rfl,ac⟩)⟩
  .have u: ¬(body.getD i ci).kind=1:=by simpa using u
   rw[show ba (body.getD i ci)=_ from be u,Pw]at hs;refine gA Z ⟨h1,ac,[],zW (hM Z (by rw[hs]) Z ⟨⟨_,rfl,.of_eq Z⟩,Oy Z,rfl,⟨_,rfl,.of_eq Z⟩,Oy Z,rfl,ac⟩)⟩
 have h1:body.length<=i:=by simpa using h1
 have e0:body.take i=body:=OY h1;rw[e0];refine gA Z ?_;refine fW (σ:={x:List ak×Nat//bM (fun occ=>aV occ) (fun occ=>lJ (aC r) occ) body occ=cO (fun occ=>aV occ) (fun occ=>lJ (aC r) occ) body (x.2+1) x.1∧ck (bC body) x.1<=x.2∧x.1.length+ck (bC body) x.1<=(occ++body.flatMap ba).length+ck (bC body) (occ++body.flatMap ba)})
  (fun x=>⟨[(0,.iv (lits body)),(1,.mp 0),(2,.bX (.func 197) [.mp 0] []),(3,.bX (.func 198) [] [.ptr 1 0,.ptr 2 0])],[(0,co (cy (aD x.1.1))),(1,co (.cells [.iv (b8 r)])),(2,co (.cells [.mp 0]))],3⟩) (fun x=>ck (bC body) x.1.1)
  ⟨(occ++body.flatMap ba,3*body.length),rfl,by dsimp only;omega,OL _⟩ [] (zW (zC ⟨⟨_,rfl,.of_eq Z⟩,Oy Z,rfl,⟨_,rfl,.of_eq Z⟩,Oy Z,rfl,ac⟩)) ?_
 rintro⟨⟨ok,f⟩,hx1,hx2,hx3⟩;dsimp only at hx1 hx2 hx3 ⊢;rw[OE]at hx3;refine gA Z ?_;refine aM 0 body.length (OS _) (fun i=>⟨[(0,.iv (lits body)),(1,.mp 0),(2,.bX (.func 197) [.mp 0] []),(3,.bX (.func 198) [] [.ptr 1 0,.ptr 2 0]),(28,.iv (lits body)),(29,pI body.length),(30,pI i)],[(0,co (cy (aD ok))),(1,co (.cells [.iv (b8 r)])),(2,co (.cells [.mp 0]))],3⟩) (fun i=>bL ((fun occ=>aV occ) ok) ((fun occ=>lJ (aC r) occ) ok) ok (body.take i)=io) [] Z
  (zW (zC ⟨⟨_,rfl,.of_eq Z⟩,Oy Z,rfl,⟨_,rfl,.of_eq Z⟩,Oy Z,rfl,ac⟩)) fun i hi C=>?_
 refine zJ Z Z (fun b=>?_) fun b=>?_
 .have b:i<body.length:=by simpa using b
  have m0:=Lit.bN body i b;have d0:=(body.getD i ci).jc;have j: ∀v,kA ((fun occ=>aV occ) ok) ((fun occ=>lJ (aC r) occ) ok) ok (body.getD i ci)=co v->bM (fun occ=>aV occ) (fun occ=>lJ (aC r) occ) body occ=cO (fun occ=>aV occ) (fun occ=>lJ (aC r) occ) body (f-1+1) (ok++ [v])∧ck (bC body) (ok++ [v])<=f-1∧
    (ok++ [v]).length+ck (bC body) (ok++ [v])<=(occ++body.flatMap ba).length+ck (bC body) (occ++body.flatMap ba)∧ck (bC body) (ok++ [v])<ck (bC body) ok:=by
   intro v hv;have Y:=nV C b hv;obtain⟨g1,g2⟩:=iV Y;have i0:=ow g1 g2;have c0:ck (bC body) (ok++ [v])=ck (bC body) (fG ok v):=by
    unfold ck;congr 2
    funext x
    congr 1;rw[PS,bu,bu,c4,OW,OM]
   have I:f-1+1=f:=by omega
   refine⟨?_,by omega,?_,by omega⟩
   .rw[hx1,dT Y,I]
   .rw[OE,OE,PC];omega
  have a0:=bt ok (fj (aV ok) ok (body.getD i ci)).1;have J:=fq ok (fj (aV ok) ok (body.getD i ci)).1;have b0:=bt ok (body.getD i ci).bw;have R:=fq ok (body.getD i ci).bw;refine gA Z (zq [0,1,2] (M7 r ok (body.getD i ci) (by omega)) ?_);refine zJ Z Z (fun B=>?_) fun B=>?_
  .obtain⟨g1,g2,g3,g4⟩:=j _ (am B);refine gA Z ⟨⟨(_,f-1),g1,g2,g3⟩,[],g4,zW (hM Z (by dsimp only;rw[cS];rfl) Z ⟨⟨_,rfl,.of_eq Z⟩,Oy Z,rfl,⟨_,rfl,.of_eq Z⟩,Oy Z,rfl,ac⟩)⟩
  .refine zJ Z Z (fun y=>?_) fun y=>?_
   .have y:(body.getD i ci).kind=4:=by simpa using y
    refine zJ Z Z (fun A=>?_) fun A=>?_
    .have A:dp ok (body.getD i ci).bw=jp:=by rw[bW];simpa using A
     refine gA Z (zq [0,1,2] (d126 r ok (body.getD i ci).agg (by omega)) ?_);refine zJ Z Z (fun G=>?_) fun G=>?_
     .obtain⟨g1,g2,g3,g4⟩:=j _ ((be (by rw[B];simp)).trans (am ⟨y,A,G⟩));refine gA Z ⟨⟨(_,f-1),g1,g2,g3⟩,[],g4,zW (hM Z (by dsimp only;rw[cS];rfl) Z ⟨⟨_,rfl,.of_eq Z⟩,Oy Z,rfl,⟨_,rfl,.of_eq Z⟩,Oy Z,rfl,ac⟩)⟩
     .refine gA Z ?_;exact⟨b,de C b ((be (by rw[B];simp)).trans (be (fun h=>nomatch (h.2.2.symm.trans G)))),[],zW (zC ⟨⟨_,rfl,.of_eq Z⟩,Oy Z,rfl,⟨_,rfl,.of_eq Z⟩,Oy Z,rfl,ac⟩)⟩
    .have A:dp ok (body.getD i ci).bw=is:=by rw[bW];simpa using A
     refine gA Z ⟨b,de C b ((be (by rw[B];simp)).trans (be (by rw[A];simp))),[],zW (zC ⟨⟨_,rfl,.of_eq Z⟩,Oy Z,rfl,⟨_,rfl,.of_eq Z⟩,Oy Z,rfl,ac⟩)⟩
   .have y: ¬(body.getD i ci).kind=4:=by simpa using y
    refine gA Z ⟨b,de C b ((be (by rw[B];simp)).trans (be (fun h=>y h.1))),[],zW (zC ⟨⟨_,rfl,.of_eq Z⟩,Oy Z,rfl,⟨_,rfl,.of_eq Z⟩,Oy Z,rfl,ac⟩)⟩
 .have b:body.length<=i:=by simpa using b
  rw[OY b]at C;have D:bM (fun occ=>aV occ) (fun occ=>lJ (aC r) occ) body occ=ok:=by rw[hx1,dU C]
  refine gA Z (zD [] Z (zW (hM Z (by rw[D]) Z ⟨⟨_,rfl,.of_eq Z⟩,Oy Z,rfl,⟨_,rfl,.of_eq Z⟩,Oy Z,rfl,ac⟩)))
theorem qR:dN .eC (cy (aD [])):=⟨id,fun M N U w j b=>⟨#[],0,b,⟨rfl,by simp[aD],by simp[aD],by simp,by simp⟩,eS M⟩⟩
def bJ(r:aw):List ak:=bM (fun b=>aV b) (fun b=>lJ (aC r) b) r.body []
theorem M4(r:aw)(hb:8*Lit.aE r.body<=100000000000):bI prog 85 [.iv (lits r.body),.mp 0,.bX (.func 197) [.mp 0] [],.bX (.func 198) [] [.ptr 1 0,.ptr 2 0]] [.eC,.cells [.iv (b8 r)],.cells [.mp 0]] (.bh []) [(0,co (cy (aD (bJ r)))),(1,co (.cells [.iv (b8 r)])),(2,co (.cells [.mp 0]))] 3:=
 bI.IZ (NX r [] r.body (by simp;omega)) ⟨qR,.refl _,.refl _,ac⟩
theorem d73(r:aw)(hb:8*r.size<=100000000000):bI prog 168 [.iv (b8 r)] [] (.mp 0) [(0,co (cy (aD (bJ r))))] 1:=by
 unfold aw.size at hb;refine ax ab func168 Z (by decide) ntmps168 Z (by simp) ?_;refine gA Z (zd [1,0,2] (M4 r (by omega)) ?_);refine gA Z (zD [1] Z (zW (zC ac)))
def Lg(p:List ak->Prop)(q:PV)(h:AH)(n:Nat):Prop:= ∃ok,p ok∧q= .mp 0∧h=[(0,co (cy (aD ok)))]∧n=1
def DI(r:aw)(a:ft)(occ:List ak):Prop:=occ.Nodup∧ ∀x,x∈occ↔x∈aY a∧x∈aC r
theorem uk{l m:List ak}(h:l.Nodup)(hs: ∀x∈l,x∈m):l.length<=m.length:=PK h hs
theorem jd(a:ft):(aY a).length<=a.size:=by
 have h1:=jq a.body;have b:=fK a.iJ;unfold aY ft.size;rw[OE];split
 .rw[Qa];omega
 .omega
theorem I9(a:ft)(hb:a.size<=100000000000):bI prog 162 [ag a.c1] [] (.mp 0) [(0,co (cy (aD (aY a))))] 1:=bI.le (d127 a (by omega)) ⟨a.G0,ac⟩
theorem d161(r:aw)(a:ft)(hb:16*a.size<=100000000000):Al.Fn prog 169 [.iv (b8 r),ag a.c] [] (Lg fun ok=> ∃occ,DI r a occ∧ok=bM (fun occ=>aV occ) (fun _=>fun _=>jp) a.body occ):=by
 have e0:=jd a;have f0:Lit.aE a.body<=a.size:=by unfold ft.size;omega
 refine Al.Fn.le (args:=[.iv (b8 r),ag a.c1]) ?_ ⟨.refl _,a.DA,ac⟩;refine nT ab func169 Z (by decide) ntmps169 Z (by simp) ?_;refine gA Z (zq [] (I9 a (by omega)) ?_);refine gA Z ?_
 let b:List Nat->List ak:=fun vs=>(vs.reverse.filterMap fun j=>((aD (aY a))[j]?).bind fun x=>if dp (aC r) x.1 then co x.1 else io)
 refine eQ (aD (aY a)) (fun vs=>⟨[(0,.iv (b8 r)),(3,.ptr 0 0),(5,.mp 1),(10,.ptr 3 0)],[(0,co (ay a.c1)),(1,co (cy (aD (b vs)))),(3,co (.bB .str wg (aD (aY a)) vs io))],4⟩)
  (fun vs=>(b vs).Nodup∧ ∀x,x∈b vs↔x∈aC r∧ ∃j∈vs,∃y,(aD (aY a))[j]? =co y∧y.1=x) [] ⟨Pk,by simp[b]⟩
  (zW (zK (KP Z eS Z (hI Z Z (.inl Z) Z trivial)))) fun vs hJ=>?_
 obtain⟨B,C⟩:=hJ;have g0:(b vs).length<=(aY a).length:=uk B fun x D=>by
  obtain⟨_,j,_,y,h2,rfl⟩:=(C x).1 D;exact qS h2
 refine fb Z ac (dd Z Z Z Z Z (by decide) (fun Y=>?_) fun j x D R=>?_)
 .have b0:DI r a (b vs):=⟨B,fun x=>by
   rw[C];constructor
   .rintro⟨h1,j,h2,y,A,rfl⟩;exact⟨qS A,h1⟩
   .rintro⟨h1,h2⟩;refine⟨h2,?_⟩;obtain⟨y,hy,rfl⟩:=Pg.1 (((dH (aY a)).2 x).2 h1);obtain⟨j,R⟩:=Po hy
    exact⟨j,Y j (OB.1 R).1,y,R,rfl⟩⟩
  refine gA Z (zq [1] (NZ (b vs) a.body (by omega)) ?_);refine fb Z ac (qZ [1] (.inr Z) Z ⟨_,⟨b vs,b0,rfl⟩,rfl,rfl,rfl⟩ (zW (zC ac)))
 .have h5:=bW (occ:=aC r) (s:=x.1);have h7:=bt (aC r) x.1;have h8:=bt (b vs) x.1;have h9:=fq (b vs) x.1;have G:x.1∉b vs:=fun h=>by
   obtain⟨_,i,hi,y,h2,A⟩:=(C x.1).1 h;have d0:=(dH (aY a)).1;have:i=j:=by
    have I:=(OB.1 h2)
    have J:=(OB.1 D)
    obtain⟨I,a0⟩:=I;obtain⟨J,c0⟩:=J;refine(List.getElem_inj (i:=i) (j:=j) (h₀:=by rw[O7];exact I) (h₁:=by rw[O7];exact J) d0).1 ?_;rw[P7,P7,a0,c0,A]
   exact R (this▸hi)
  have u:b (j::vs)=b vs++if dp (aC r) x.1 then[x.1] else[]:=by
   simp only[b,List.reverse_cons,RJ,RS,List.filterMap_nil,D,QK];congr 1;cases dp (aC r) x.1<;>rfl
  have step:(b (j::vs)).Nodup∧ ∀z,z∈b (j::vs)↔z∈aC r∧ ∃i∈j::vs,∃y,(aD (aY a))[i]? =co y∧y.1=z:=by
   rw[u];constructor
   .split
    .rw[PZ];refine⟨B,Pf.2 ⟨Ro,Pk⟩,fun p hp q hq e=>?_⟩;rw[OM]at hq;exact G ((e.trans hq)▸hp)
    .rw[Pw];exact B
   .intro z;rw[OW,C];constructor
    .rintro(⟨h1,i,h2,A⟩|h1)
     .exact⟨h1,i,ON _ h2,A⟩
     .split at h1
      .rename_i h2;rw[OM]at h1;exact⟨h1▸bu.1 h2,j,OO,x,D,h1.symm⟩
      .cases h1
    .rintro⟨h1,i,h2,y,A,h4⟩;rcases OP.1 h2 with rfl|h2
     .rw[D]at A;cases A;exact .inr (by rw[am (bu.2 (h4▸h1))];simp[h4])
     .exact .inl ⟨h1,i,h2,y,A,h4⟩
  refine zJ Z Z (fun g1=>?_) fun g1=>?_
  .have g1:dp (aC r) x.1=is:=by
    have:=zT g1;rw[h5];simp;omega
   rw[g1,am Z]at u;refine gA Z ⟨j,x,D,R,step,[],zW (zK (hM Z (by rw[u,cS];rfl) Z (hI Z Z (.inr Z) Z ac)))⟩
  .have g1:dp (aC r) x.1=jp:=by
    have:=zF g1;rw[h5];simp;omega
   rw[g1,be (by simp),Pw]at u;refine gA Z ⟨j,x,D,R,step,[],zW (zK (hM Z (by rw[u]) Z (hI Z Z (.inr Z) Z ac)))⟩
end Go.Proofs.YtllkaddcplhklaaGreatDoor
namespace Go.Proofs.YtllkaddcplhklaaGreatDoor
open Go Go.Al
def ly(s:ak):List UInt8:=s.data.toList
def Kz(l:List UInt8):ak:=⟨l.toArray⟩
theorem qP(s:ak):Kz (ly s)=s:=by simp[ly,Kz]
theorem F0(l:List UInt8):ly (Kz l)=l:=by simp[ly,Kz]
def cZ(l:List (List UInt8)):List (List UInt8):=l.mergeSort fun x y=>kw (x<=y)
def c8(l:List ak):List ak:=(cZ (l.map ly)).map Kz
def fM:Prop:=
 (∀(b b0 a0:Nat) (j:List (List UInt8)) (w:World),Go.Sort.Holds encStr w b b0 j.toArray->b<w.heap.size->j.length<4611686018427387904->
  Calls Tryz.prog 84 #[.slice (co ⟨b,b0,io⟩) j.length a0] w fun e w'=>
   e= .returned (.tuple #[])∧ ∃n os,w'=Go.Sort.grow (Go.Sort.putRow encStr (Go.Sort.ahead w n) b b0 (j.mergeSort fun x y=>kw (x<=y)).toArray) os)∧
 (∀(p:Option Addr) (a0:Nat) (w:World),Calls Tryz.prog 84 #[.slice p 0 a0] w fun e w'=>e= .returned (.tuple #[])∧w'=w)
theorem iz(l:List ak):(c8 l).length=l.length:=by simp[c8,cZ]
theorem mj:c8 []=[]:=by simp[c8,cZ]
theorem oW(l:List ak):(c8 l).map ly=cZ (l.map ly):=by
 unfold c8;rw[Qf];have:ly ∘ Kz=id:=by funext x;exact F0 x
 rw[this,List.map_id]
theorem wU{l:List ak}{k:Nat}{e:List PV}(h:(l.map fun x=>(cM x).map PV.iv)[k]? =co e): ∃s,l[k]? =co s∧e=[pS s]:=by
 rw[OH,OJ]at h;obtain⟨s,h1,rfl⟩:=h;exact⟨s,h1,rfl⟩
theorem Ey(hS:fM)(l:List ak)(hl:l.length<=1000000000000):bI Tryz.prog 84 [.sl 0 0 l.length 1] [aT 1 l cM] (.bh []) [(0,co (aT 1 (c8 l) cM))] 1:=by
 refine⟨bc Tryz.func84 Z (by decide),fun M N w vs hr J hv=>?_⟩;obtain⟨v,rfl⟩: ∃v,vs=[v]:=by
  cases vs with
  |nil=>cases J
  |cons v r=>cases r with
   |nil=>exact⟨v,rfl⟩
   |cons a b=>simp at J
 have B:=hv 0 _ Z;simp only[Qs]at B;have n0:=hr.obj 0 _ Z;cases l with
 |nil=>
  have e0:v= .slice io 0 0:=by
   generalize hq:PV.sl 0 0 ([]:List ak).length 1=q at B;cases B with
   |sl i off len sz a0 h h0 h1 hc he=>cases hq;simp at h0
   |lC i sz h=>rfl
   |_=>cases hq
  subst e0;refine(hS.2 io 0 w).mono ?_;rintro e w' ⟨rfl,rfl⟩;refine⟨_,M,N,.bh [],_,1,rfl,⟨rfl,rfl,rfl⟩,?_,?_,.bh [] #[] Z (by simp)⟩
  .rw[mj];exact .refl _ _ _ _ _
  .rw[mj];exact hr
 |cons s0 r=>
  generalize hL:s0::r=L at*
  have c0:0<L.length:=by rw[<-hL];simp
  obtain⟨a0,e0⟩: ∃a0,v= .slice (co ⟨N.az 0,0,io⟩) L.length a0:=by
   generalize hn:L.length=n at B c0;generalize hq:PV.sl 0 0 n 1=q at B;cases B with
   |sl i off len sz a0 h h0 h1 hc he=>cases hq;exact⟨a0,by simp⟩
   |lC i sz h=>cases hq;omega
   |_=>cases hq
  subst e0;rcases n0 with h0|⟨_,c,T,h1,h2,h3,h4,h5⟩
  .rw[<-hL]at h0;cases h0
  rw[O7]at h3;have g0:(aT 1 L cM).real=is:=by rw[<-hL];rfl
  have d0: ∀j s,L[j]? =co s->c.getD j undef= .string s:=fun j s I=>by
   have:=h5 j [pS s] 0 (pS s) (by rw[OH,I];rfl) Z;rw[Ry,Qn]at this;generalize c.getD j undef=y at this ⊢;cases this with
   |iv _ _ h=>cases h;rfl
  have m0:=hr.lt (i:=0) Z g0;have k0:(L.map ly).length=L.length:=by simp
  have hH:Go.Sort.Holds encStr w (N.az 0) 0 (L.map ly).toArray:=by
   intro j I;have i0:j<L.length:=by simpa using I
   have f0:j<c.size:=by omega
   have:=d0 j L[j] (OD i0);rw[Oz,O4 f0,PA]at this;constructor
   .simp only[World.cell?,h1,O8,Option.isSome_none,Qb,if_false];rw[O4 f0,this,getElem!_pos _ j I];simp[encStr,ly]
   .simp[World.frozen?,h1]
  have C:=hS.1 (N.az 0) 0 a0 (L.map ly) w hH m0 (by omega);rw[k0]at C;refine C.mono ?_;rintro e w' ⟨rfl,n,os,rfl⟩
  let R:=Go.Sort.putRow encStr (Go.Sort.ahead w n) (N.az 0) 0 ((L.map ly).mergeSort fun x y=>kw (x<=y)).toArray
  have Y:(cZ (L.map ly)).length=L.length:=by simp[cZ]
  have A:Ext M N (· <1) (cP 0 [aT 1 L cM]) w M N (· <1) ((0,co (aT 1 (c8 L) cM))::cP 0 [aT 1 L cM]) R∧Rel M N (· <1) ((0,co (aT 1 (c8 L) cM))::cP 0 [aT 1 L cM]) R:=by
   refine hr.write (i:=0) (o0:=aT 1 L cM) Z g0 R (aT 1 (c8 L) cM) Z Z Z ?_ ?_ ?_ (Rn _ _)
   .show(Go.Sort.putRow _ _ _ _ _).heap.size=_;rw[Go.Sort.size_putRow];rfl
   .intro b hb;show((w.heap.modify (N.az 0) _))[b]? =_;rw[Pd,be (fun e=>hb e.symm)]
   .refine .inr ⟨Nat.one_pos,Go.Sort.putCells encStr 0 (cZ (L.map ly)).toArray c,T,?_,?_,?_,?_,?_⟩
    .show((w.heap.modify (N.az 0) _))[N.az 0]? =_;rw[Pd,am Z,h1];rfl
    .simp[Go.Sort.putCells,h2]
    .rw[O7,iz];simp[Go.Sort.putCells];omega
    .intro k e he;obtain⟨s,_,rfl⟩:=wU he;rfl
    .intro k e j p he hp;obtain⟨s,hs,rfl⟩:=wU he;have I:j=0:=by
      rcases j with _|j
      .rfl
      .simp at hp
     subst I;cases hp;have hk:k<L.length:=by
      have:=(OB.1 hs).1;rwa[iz]at this
     have p0:(cZ (L.map ly))[k]? =co (ly s):=by
      rw[<-oW,OH,hs];rfl
     have j0:k<c.size:=by omega
     have b0:(Go.Sort.putCells encStr 0 (cZ (L.map ly)).toArray c).getD (k*1+0) undef= .string s:=by
      rw[Ry,Qn,Oz];simp only[Go.Sort.putCells,Array.getElem?_mapIdx];rw[O4 j0,PI,PA,am ⟨OS _,by simp[Y];omega⟩,Q4];rw[getElem!_pos _ k (by simp[Y];omega)];have h9:(cZ (L.map ly)).toArray[k]'(by simp[Y];omega)=ly s:=by
       rw[List.getElem_toArray];exact(OB.1 p0).2
      rw[h9];simp[encStr,ly]
     rw[b0];exact .iv _ _ (.v _)
  have D:Rel M N (· <1) ((0,co (aT 1 (c8 L) cM))::cP 0 [aT 1 L cM]) (Go.Sort.grow R os):=A.2.more fun b hb=>by
   show(R.heap++os)[b]? =_;rw[Pc hb]
  have q0:R.heap.size=w.heap.size:=by
   show(Go.Sort.putRow _ _ _ _ _).heap.size=_;rw[Go.Sort.size_putRow];rfl
  have u: ∀i o,AH.get [(0,co (aT 1 (c8 L) cM))] i=co o->AH.get ((0,co (aT 1 (c8 L) cM))::cP 0 [aT 1 L cM]) i=co o:=by
   intro i o h;rw[AH.au]at h ⊢;split at h
   .rename_i h6;rw[am h6];exact h
   .simp[AH.get]at h
  refine⟨_,M,N,.bh [],_,1,rfl,⟨rfl,rfl,rfl⟩,⟨A.1.os,A.1.tape,⟨A.1.output.out,A.1.output.drawn⟩,?_,?_,.refl _,fun b c h1 h2=>(nomatch (h1.symm.trans h2)),.refl _ _,fun _ h=>h,fun i o G=>A.1.ff i o (u i o G)⟩,?_,.bh [] #[] Z (by simp)⟩
  .show w.heap.size<=(Go.Sort.grow R os).heap.size;rw[Go.Sort.size_grow,q0];omega
  .intro b hb hn;have h7:=A.1.dc b hb hn;show(R.heap++os)[b]? =_;rw[Pc (by omega)];exact h7
  .exact⟨D.dR,fun i o G=>D.used i o (u i o G),fun i o G=>D.dD i o (u i o G),fun i o G=>D.obj i o (u i o G),fun i j o p G I=>D.inj i j o p (u i o G) (u j p I)⟩
end Go.Proofs.YtllkaddcplhklaaGreatDoor
namespace Go.Proofs.YtllkaddcplhklaaGreatDoor
open Go Go.Al Go.Proofs.Tryz
theorem eF(l:List (List UInt8)):(cZ l).Perm l:=List.mergeSort_perm _ _
theorem gl(l:List (List UInt8)):(cZ l).Pairwise (fun x y=>kw (x<=y)=is):=
 List.pairwise_mergeSort (le:=fun x y=>kw (x<=y)) (fun a b c h1 j=>by simp only[decide_eq_true_eq] at*;exact List.le_trans h1 j)
  (fun a b=>by
   rcases List.le_total a b with h|h
   .simp[h]
   .simp[h]) l
theorem AN{a b:List (List UInt8)}(h:a.Perm b)(ha:a.Pairwise (fun x y=>kw (x<=y)=is))(hb:b.Pairwise (fun x y=>kw (x<=y)=is)):a=b:=
 List.Perm.eq_of_pairwise (fun x y _ _ h1 j=>RD (zT h1) (zT j)) ha hb h
theorem nr{a b:List ak}(h:a.Perm b):c8 a=c8 b:=by
 unfold c8;rw[AN (((eF _).trans (h.map ly)).trans (eF _).symm) (gl _) (gl _)]
theorem jV{x:ak}{l:List ak}:x∈c8 l↔x∈l:=by
 unfold c8;rw[Pg];constructor
 .rintro⟨b,hb,rfl⟩;obtain⟨s,hs,rfl⟩:=Pg.1 ((eF _).mem_iff.1 hb);rwa[qP]
 .intro h;exact⟨ly x,(eF _).mem_iff.2 (Pg.2 ⟨x,h,rfl⟩),qP x⟩
def fD(m:NM)(vs:List Nat):List ak:=vs.reverse.filterMap fun j=>(m[j]?).map (·.1)
theorem jr(m:NM)(vs:List Nat)(j:Nat)(x:(KC.str).K×Int)(h:m[j]? =co x):fD m (j::vs)=fD m vs++ [x.1]:=by
 simp[fD,RJ,h]
theorem sb(m:NM)(vs:List Nat):(fD m vs).length<=vs.length:=by
 unfold fD;have:=List.length_filterMap_le (fun j=>(m[j]?).map (·.1)) vs.reverse;rwa[List.length_reverse]at this
theorem vI(m:NM):(O9 m.length).filterMap (fun j=>(m[j]?).map (·.1))=m.map (·.1):=by
 apply QE;intro k;have h:(O9 m.length).filterMap (fun j=>(m[j]?).map (·.1))=(O9 m.length).map (fun j=>(m.getD j (OI,0)).1):=by
  rw[show(fun j=>(m.getD j (OI,0)).1)=fun j=>(m.getD j (OI,0)).1 from rfl];have key: ∀l:List Nat,(∀j∈l,j<m.length)->l.filterMap (fun j=>(m[j]?).map (·.1))=l.map (fun j=>(m.getD j (OI,0)).1):=by
   intro l
   induction l with
   |nil=>simp
   |cons j r ih=>
    intro h;have b:=h j OO;rw[RS,OD b,ih fun k hk=>h k (ON _ hk)];simp[b]
  exact key _ fun j b=>PW.1 b
 rw[h];by_cases hk:k<m.length
 .simp[hk]
 .simp[hk]
theorem iL(m:NM)(vs:List Nat)(hn:vs.Nodup)(hb: ∀j∈vs,j<m.length)(b: ∀j,j<m.length->j∈vs):(fD m vs).Perm (m.map (·.1)):=by
 rw[<-vI];unfold fD;apply List.Perm.filterMap;refine(List.reverse_perm _).trans ?_;rw[P2 hn List.nodup_range];intro j;rw[PW];exact⟨hb j,b j⟩
def ey(m:NM):List ak:=c8 (m.map (·.1))
theorem rT{vs:List Nat}{n:Nat}(h:vs.Nodup)(hb: ∀j∈vs,j<n):vs.length<=n:=by
 have:=PK h (l₂:=O9 n) fun j b=>PW.2 (hb j b);rwa[List.length_range]at this
theorem rG(σ:Nat->Nat)(l:List ak):(l.map fun x=>(cM x).map PV.iv).map (cW σ)=l.map fun x=>(cM x).map PV.iv:=by
 simp only[Qf,cM,OZ,P9];rfl
theorem c51(hS:fM)(m:NM)(hm:m.length<=100000000):Pure prog 88 [.iv (xn m)] (.iv (strs (ey m))):=by
 refine ae ab func88 Z (by decide) ntmps88 Z (by simp) Z ?_;refine gA Z ?_;refine mv 3 1 Z ?_;refine eQ m (fun vs=>⟨[(3,.sl 2 0 (fD m vs).length 1),(6,.ptr 0 0)],[(0,co (.bB .str wg m vs io)),(2,co (aT 1 (fD m vs) cM))],3⟩) (fun vs=>vs.Nodup∧ ∀j∈vs,j<m.length) [1] ⟨Pk,by simp⟩
  (zW (hI Z Z (.inl Z) Z (zS trivial))) fun vs C=>?_
 obtain⟨b,u⟩:=C;have I:=rT b u;have G:=sb m vs;refine fb Z ac (dd Z Z Z Z Z (by decide) (fun y=>?_) fun j x A B=>?_)
 .refine fb Z ac (cJ [2] (Ey hS (fD m vs) (by omega)) Z Z Z Z Z (congrArg (fun o=> [co o]) (b3 _).symm) Z Z ?_);refine fb Z ac (dh (.inr Z) Z Z ((rG _ _).trans (by rw[ey,nr (iL m vs b u y)])) ?_);rw[ey,iz,<-(iL m vs b u y).length_eq]
 .have hk:=jr m vs j x A;refine gA Z ⟨j,x,A,B,⟨Pf.2 ⟨B,b⟩,fun i D=>(OP.1 D).elim (fun h=>h▸(OB.1 A).1) (u i)⟩,[4],zM ⟨.row (by rw[hk,OE];rfl),rfl,bi ac⟩ (hI Z Z (.inr Z) Z (hR Z (by rw[hk,OX];rfl) Z ac))⟩
theorem GC{P:Program}{k:FuncId}{kc:KC}{V:Type}{e:V->IV}{z:V}{D:Value}{G:PV->V}{m:List (kc.K×V)}{y:IV}(h:Al.Pure P k [.iv (.dJ kc e z D m)] (.iv y)):bI P k [.mp 0] [.map kc e z D G m] (.iv y) [] 1:=by
 refine⟨h.1,fun M N w vs R hl Y=>?_⟩;obtain⟨A,h1,I,h3,J⟩:=oG (n:=1) R (i:=0) Z;have B:Rel A N (· <0) (cP 0 []) w:=⟨I.dR,fun i o u=>(nomatch u),fun i o u=>(nomatch u),fun i o u=>(nomatch u),fun i j o p u=>(nomatch u)⟩
 refine(h.2 A N w vs B hl fun j p C=>?_).mono ?_
 .cases j with
  |zero=>
   cases C;have:=J _ _ (Y 0 _ Z);generalize vs.getD 0 undef=x at this ⊢;cases this with
   |iv _ _ h=>exact .iv _ _ h
  |succ j=>cases C
 .rintro _ w' ⟨x,M',N',r,h',n',rfl,⟨rfl,rfl,rfl⟩,hx,hrr,hvr⟩;refine⟨x,M',N,.iv y,[],1,rfl,⟨rfl,rfl,rfl⟩,?_,⟨hrr.dR,fun i o u=>(nomatch u),fun i o u=>(nomatch u),fun i o u=>(nomatch u),fun i j o p u=>(nomatch u)⟩,?_⟩
  .refine⟨hx.os,hx.tape,hx.output,hx.size,fun b hb hn=>hx.dc b hb fun i o u=>(nomatch u),h1.mO.trans hx.mO,fun b c g1 g2=>?_,.refl _ _,fun _ h=>h,fun i o u=>(nomatch u)⟩;cases g3:A b with
   |some c'=>exact h1.fO b c' g1 g3
   |none=>
    rcases hx.fO b c g3 g2 with g4|⟨i,o,g4,_⟩
    .exact .inl g4
    .exact nomatch g4
  .cases hvr with
   |iv _ _ h=>exact .iv _ _ h
theorem N6(hS:fM)(m:NM)(hm:m.length<=100000000):bI prog 88 [.mp 0] [cy m] (.iv (strs (ey m))) [] 1:=GC (c51 hS m hm)
theorem qm: ∀{m:NM} (_:(m.map (·.1)).Nodup) (k:ak),jh .str m k=m.filter fun x=>!kw (x.1=k)
 | [],_,k=>rfl
 |(a,b)::r,h,k=>by
  rw[OZ,Pf]at h;by_cases hk:a=k
  .subst hk;have:r.filter (fun x=>!kw (x.1=a))=r:=Q9.2 fun x j=>by
    have:x.1≠a:=fun e=>h.1 (e▸Pg.2 ⟨x,j,rfl⟩);simp[this]
   simp[jh,this]
  .have u:=qm h.2 k;simp[jh,hk,u]
theorem tm{m:NM}{p:(KC.str).K×Int->Bool}(h:(m.map (·.1)).Nodup):((m.filter p).map (·.1)).Nodup:=h.sublist ((List.filter_sublist).map _)
theorem lX: ∀(b:List ak) {m:NM} (_:(m.map (·.1)).Nodup),b.foldl (fun m k=>jh .str m k) m=m.filter fun x=>!dp b x.1
 | [],m,h=>(Q9.2 fun _ _=>rfl).symm
 |k::r,m,h=>by
  rw[Pr,qm h,lX r (tm h),List.filter_filter];congr 1
  funext x
  by_cases hk:x.1=k
  .simp[dp,hk]
  .have: ¬k=x.1:=fun e=>hk e.symm
   simp[dp,hk,this]
def jY(r:aw)(a:ft):NM:=(aD (aY a)).filter fun x=>!dp (aC r) x.1
theorem jT(l:List ak):(aD l).length<=l.length:=by
 have h:=dH l;have:=uk h.1 fun x b=>(h.2 x).1 b;rwa[O7]at this
theorem d79(r:aw)(a:ft)(hb:a.size<=100000000000):bI prog 157 [.iv (b8 r),ag a.c] [] (.mp 0) [(0,co (cy (jY r a)))] 1:=by
 refine bI.le (args:=[.iv (b8 r),ag a.c1]) ?_ ⟨.refl _,a.DA,ac⟩;have I:=jd a;have A:=(dH (aY a)).1;refine ax ab func157 Z (by decide) ntmps157 Z (by simp) ?_;refine gA Z (zq [] (I9 a (by omega)) ?_);refine gA Z ?_;refine eQ (aD (aC r)) (fun vs=>⟨[(5,.mp 1),(13,.ptr 2 0)],[(1,co (cy ((fD (aD (aC r)) vs).foldl (fun m k=>jh .str m k) (aD (aY a))))),(2,co (.bB .str wg (aD (aC r)) vs io))],3⟩)
  (fun vs=>vs.Nodup∧ ∀j∈vs,j<(aD (aC r)).length) [] ⟨Pk,by simp⟩
  (zW (zC (hI Z Z (.inl Z) Z trivial))) fun vs G=>?_
 obtain⟨b,u⟩:=G;refine fb Z ac (dd Z Z Z Z Z (by decide) (fun y=>?_) fun j x C D=>?_)
 .have B:(fD (aD (aC r)) vs).foldl (fun m k=>jh .str m k) (aD (aY a))=jY r a:=by
   rw[lX _ A];unfold jY;congr 1
   funext x
   congr 1;rw[PS,bu,bu,(iL _ vs b u y).mem_iff];exact(dH (aC r)).2 x.1
  rw[B];refine gA Z (zD [1] Z (zW (zC ac)))
 .have hk:=jr (aD (aC r)) vs j x C;refine gA Z ⟨j,x,C,D,⟨Pf.2 ⟨D,b⟩,fun i J=>(OP.1 J).elim (fun h=>h▸(OB.1 C).1) (u i)⟩,[],zW (hM Z (by rw[hk,List.foldl_append];rfl) Z (hI Z Z (.inr Z) Z ac))⟩
theorem qn{may:List ak->Expr->Bool}{more:List ak->ft->Bool}{body:List Lit}: ∀(n:Nat) (occ:List ak),(cO may more body n occ).length<=occ.length+n
 |0,occ=>OL _
 |n+1,occ=>by
  cases h:bL (may occ) (more occ) occ body with
  |none=>rw[dU h];omega
  |some v=>
   rw[dT h];have:=qn (may:=may) (more:=more) (body:=body) n (occ++ [v]);rw[OE,PC]at this;omega
theorem qq{may:List ak->Expr->Bool}{more:List ak->ft->Bool}{body:List Lit}(occ:List ak):(bM may more body occ).length<=occ.length+4*Lit.aE body+1:=by
 have h1:=qn (may:=may) (more:=more) (body:=body) (3*body.length+1) (occ++body.flatMap ba);have b:=eN body;have j:=Lit.aF body;rw[OE]at h1;unfold bM;omega
theorem yy(r:aw):(bJ r).length<=4*Lit.aE r.body+1:=by
 have:=qq (may:=fun b=>aV b) (more:=fun b=>lJ (aC r) b) (body:=r.body) [];rw[Qa]at this;unfold bJ;omega
def mM(r:aw):List ak:=bM (fun b=>b4 b) (fun _=>fun _=>jp) r.body []
theorem Bf(r:aw):(mM r).length<=4*Lit.aE r.body+1:=by
 have:=qq (may:=fun b=>b4 b) (more:=fun _=>fun _=>jp) (body:=r.body) [];rw[Qa]at this;unfold mM;omega
theorem M5(r:aw)(hb:8*Lit.aE r.body<=100000000000):bI prog 85 [.iv (lits r.body),.mp 0,.bX (.func 86) [] [.ptr 1 0],.bX (.func 87) [] []] [.eC,.cells [.mp 0]] (.bh []) [(0,co (cy (aD (mM r)))),(1,co (.cells [.mp 0]))] 2:=
 bI.IZ (NY [] r.body (by simp;omega)) ⟨qR,.refl _,ac⟩
theorem c33(hS:fM)(r:aw)(hb:r.size<=10000000):Pure prog 68 [ag r.c] (.iv (strs (ey (aD (mM r))))):=by
 have h1:=jT (mM r);have b:=Bf r;have j:Lit.aE r.body<=r.size:=Rc _ _;refine ae ab func68 Z (by decide) ntmps68 Z (by simp) Z ?_;refine gA Z ?_;refine gA Z (zq [1,2] (M5 r (by omega)) ?_);refine gA Z (zq [1] (N6 hS (aD (mM r)) (by omega)) ?_);exact zU Z
def vC(r:aw)(lit:Int):List ak:=if lit<0∨(r.body.length:Int)<=lit∨ ¬(aq r lit).kind=4 then[] else ey (jY r (aq r lit).agg)
theorem nW{P:Program}{k:FuncId}{args:List PV}{os:List AO}{r:PV}{h:AH}{n0:Nat}(hc:hP P k){n:Nat}(hn: ∃sz b,PV.iv (.cp sz n b)∈args)(hh:n<=maxLen->bI P k args os r h n0):bI P k args os r h n0:=D2 hc hn hh
def nP{α:Type}(p:α->Bool)(l:List α):Int:=match l.findIdx? p with
 |some i=>i
 |none=> -1
theorem eY{α:Type}{p:α->Bool}{l:List α}(h:l.any p=jp):nP p l= -1:=by
 have:l.findIdx? p=io:=by
  rw[Rv];intro x b;have:=Pz.1 h x b;simpa using this
 rw[nP,this]
theorem fT{α:Type}[Inhabited α]{p:α->Bool}{l:List α}{i:Nat}(h:(l.take i).any p=jp)(hi:i<l.length)(hp:p (l.getD i ci)=is):nP p l=i:=by
 have:l.findIdx? p=co i:=by
  rw[Rh];have b:l.getD i ci=l[i]:=by simp[hi]
  refine⟨hi,b▸hp,fun j u=>?_⟩;have:=Pz.1 h l[j] (List.mem_iff_getElem?.2 ⟨j,by rw[Pn,am u,OD (by omega)]⟩);simpa using this
 rw[nP,this]
theorem fU{α:Type}(p:α->Bool)(l:List α):kw (nP p l>=0)=l.any p:=by
 unfold nP;cases h:l.findIdx? p with
 |none=>
  have:=Rv.1 h;have:l.any p=jp:=Pz.2 fun x j=>by simp[this x j]
  rw[this];rfl
 |some i=>
  obtain⟨h1,b,_⟩:=Rh.1 h;rw[PO.2 ⟨_,Pm h1,b⟩];simp
theorem BY{a b:Int}(h:a=b):pI a=pI b:=by rw[h]
theorem Oi(x:Int):Pure prog 117 [pI x] (pB (!kw (x=1)&&!kw (x=2))):=by
 refine ae ab func117 Z (by decide) ntmps117 Z (by simp) Z ?_
 repeat' (first|(refine gA Z (zI (fun _=>?_) (fun _=>?_)))|(refine gA Z (zL (.of_eq ?_))))
 all_goals(refine(lH ?_:pB _=pB _);simp_all)
theorem Oh(t:Term):Pure prog 160 [ag t.c] (pB (kw (t.kind=3))):=by
 refine ae ab func160 Z (by decide) ntmps160 Z (by simp) Z ?_;exact zU Z
theorem Og(t:Lit):Pure prog 161 [ag t.c] (pB (kw (t.kind=4))):=by
 refine ae ab func161 Z (by decide) ntmps161 Z (by simp) Z ?_;exact zU Z
def cL(v:dM):Int:=if v.kind=1 then(if v.sym=OI∧ -2147483647<=v.num∧v.num<=2147483647 then 0 else 20) else if v.kind=2 then(if v.num=0∧v.sym.size<=64 then 0 else 20) else 20
theorem Nc(v:dM):Pure prog 141 [ag v.c] (pI (cL v)):=by
 refine ae ab func141 Z (by decide) ntmps141 Z (by simp) Z ?_
 repeat' (first|(refine gA Z (zI (fun _=>?_) (fun _=>?_)))|(refine gA Z (zL (.of_eq ?_))))
 all_goals(refine(BY ?_:pI _=pI _);have hE:(⟨#[]⟩:ByteArray)=OI:=rfl;simp_all [cL];try omega)
def Decl.z:Decl:=⟨OI,[],⟨0,0⟩⟩
def Aq(d:Decl):IV:= .agg d.c
def Ef:Value:= .agg #[.string OI,.slice io 0 0,.int .i64 0,.int .i64 0]
def intOf:List IV->Int
 | [.v (.int .i64 n)]=>n
 |_=>0
def NS:PV->Decl
 | .agg [.iv (.v (.string s)),.iv (.cp _ n el),.iv (.v (.int _ a)),.iv (.v (.int _ b))]=>⟨s,(O9 n).map fun k=>intOf (el k),⟨a,b⟩⟩
 |_=>Decl.z
abbrev DM:=List ((KC.str).K×Decl)
abbrev I6(m:DM):AO:= .map .str Aq Decl.z Ef NS m
abbrev MZ(m:DM):IV:= .dJ .str Aq Decl.z Ef m
theorem I4(d:Decl):NS (ag d.c)=d:=by
 show(⟨d.name,(O9 d.types.length).map fun k=>intOf (j5 (d.types.getD k ci)),⟨d.at_.line,d.at_.EP⟩⟩:Decl)=d;have:(O9 d.types.length).map (fun k=>intOf (j5 (d.types.getD k ci)))=d.types:=by
  apply QE;intro k;by_cases hk:k<d.types.length
  .simp[hk,intOf,j5]
  .simp[hk]
 rw[this]
theorem Ee: ∀M,IR M (Aq Decl.z) Ef:=fun M=>by
 refine .agg _ _ Z fun j p b=>?_
 match j,b with
 |0,b=>cases b;exact .v _
 |1,b=>cases b;exact .fh _ _ _ _
 |2,b=>cases b;exact .v _
 |3,b=>cases b;exact .v _
 |j+4,b=>simp[Decl.c]at b
theorem Nt(l:List IV):an (ag l) (.iv (.agg l)):=by
 intro M N U x h;generalize b:ag l=q at h;cases h with
 |agg cs ys hl hr=>
  cases b;refine .iv _ _ (.agg _ _ (by simpa using hl) fun j p u=>?_);have:=hr j (.iv p) (by rw[OH,u];rfl);generalize ys.getD j undef=y at this ⊢;cases this with
  |iv _ _ h=>exact h
 |_=>cases b
theorem Eg(d:Decl):an (ag d.c) (.iv (Aq (NS (ag d.c)))):=by rw[I4];exact Nt _
def iu(m:DM)(d:Decl):DM:=if cV .str m d.name=is then m else cq .str m d.name d
def pW(p:Prog):DM:=p.aR.foldl iu []
abbrev cv(p:Prog):IV:=MZ (pW p)
theorem rL{V:Type}: ∀(m:List ((KC.str).K×V)) (k:ak) (v:V),(cq .str m k v).length<=m.length+1
 | [],_,_=>by simp[cq]
 |(a,b)::r,k,v=>by
  have:=rL r k v;simp only[cq];split
  .simp
  .simp only[Pb];omega
theorem d50(p:Prog)(hb:p.aR.length<=1000000000000):bI prog 73 [ag p.c] [] (.mp 0) [(0,co (I6 (pW p)))] 1:=by
 refine ax ab func73 Z (by decide) ntmps73 Z (by simp) ?_;refine gA Z ?_;refine aM 0 p.aR.length (OS _) (fun i=>⟨[(3,.mp 1),(13,.iv (bV 4 p.aR Decl.c)),(14,pI p.aR.length),(15,pI i)],[(1,co (I6 ((p.aR.take i).foldl iu [])))],2⟩) (fun _=>True) [] ac
  (zW (KP Z Ee Z trivial)) fun i u _=>?_
 refine zJ Z Z (fun h1=>?_) fun h1=>?_
 .have h1:i<p.aR.length:=by simpa using h1
  have hs:=gq (g:=iu) (b:=[]) h1;refine zJ Z Z (fun j=>?_) fun j=>?_
  .have j:cV .str ((p.aR.take i).foldl iu []) (p.aR.getD i ci).name=jp:=by simpa using j
   rw[iu,be (by rw[j];simp)]at hs;refine fb Z ?_ ?_
   .repeat' (first|exact ac|exact rfl|exact Eg _|exact an.refl _|apply OF)
    all_goals omega
   exact⟨h1,ac,[],zW (hM Z (by rw[hs,<-I4 (p.aR.getD i ci)];rfl) Z ac)⟩
  .have j:cV .str ((p.aR.take i).foldl iu []) (p.aR.getD i ci).name=is:=by simpa using j
   rw[iu,am j]at hs;refine gA Z ⟨h1,ac,[],zW (hM Z (by rw[hs]) Z ac)⟩
 .have h1:p.aR.length<=i:=by simpa using h1
  rw[OY h1];refine gA Z (zD [1] Z (zW (zC ac)))
def sX(p:Prog)(a:Atom):Bool:=!cV .str (pW p) a.rel
def fE(p:Prog)(s:ak):Decl:=dm .str (pW p) s Decl.z
def vY(p:Prog)(a:Atom):Bool:=!kw ((a.aj.length:Int)=((fE p a.rel).types.length:Int))
theorem d113(p:Prog)(a:Atom):bI prog 125 [ag a.c,.ptr 0 0] [.cells [.iv (cv p)]] (pB (sX p a)) [(0,co (.cells [.iv (cv p)]))] 1:=by
 refine ax ab func125 Z (by decide) ntmps125 Z (by simp) ?_;refine gA Z (zD [] Z (zM ⟨.of_eq Z,rfl,ac⟩ (zO ac)))
theorem d115(p:Prog)(a:Atom):bI prog 127 [ag a.c,.ptr 0 0] [.cells [.iv (cv p)]] (pB (vY p a)) [(0,co (.cells [.iv (cv p)]))] 1:=by
 refine ax ab func127 Z (by decide) ntmps127 Z (by simp) ?_;refine gA Z (zD [] Z (zM ⟨.of_eq Z,rfl,ac⟩ (zO ac)))
theorem i187(l:List Int):bI prog 152 [.iv (bV 1 l j5),.bX (.func 117) [] []] [] (pI (nP (fun x=>!kw (x=1)&&!kw (x=2)) l)) [] 0:=by
 refine nW (bc func152 Z (by decide)) ⟨_,_,OO⟩ fun j=>?_;simp only[maxLen]at j;refine ax ab func152 Z (by decide) ntmps152 Z (by simp) ?_;refine gA Z ?_
 refine aM 0 l.length (OS _) (fun i=>⟨[(0,.iv (bV 1 l j5)),(1,.bX (.func 117) [] []),(7,pI l.length),(8,pI i)],[],0⟩) (fun i=>(l.take i).any (fun x=>!kw (x=1)&&!kw (x=2))=jp) [] (by simp)
  (zW trivial) fun i y u=>?_
 refine zJ Z Z (fun h1=>?_) fun h1=>?_
 .have h1:i<l.length:=by simpa using h1
  refine gA Z (zp (Oi (l.getD i ci)) ?_);refine zJ Z Z (fun b=>?_) fun b=>?_
  .have b:(fun x=>!kw (x=1)&&!kw (x=2)) (l.getD i ci)=is:=b;rw[fT u h1 b];refine gA Z (zD [] Z (zW ac))
  .have b:(fun x=>!kw (x=1)&&!kw (x=2)) (l.getD i ci)=jp:=b;refine gA Z ⟨h1,(cC u h1).2 b,[],zW ac⟩
 .have h1:l.length<=i:=by simpa using h1
  rw[eY (any_none u h1)];refine gA Z (zD [] Z (zW ac))
theorem d153(l:List Int):bI prog 116 [.iv (bV 1 l j5),.bX (.func 117) [] []] [] (pB (l.any (fun x=>!kw (x=1)&&!kw (x=2)))) [] 0:=by
 refine ax ab func116 Z (by decide) ntmps116 Z (by simp) ?_;refine gA Z (zq [] (i187 l) ?_);refine gA Z (zD [] Z (zM ⟨.of_eq (lH (fU _ l)),rfl,ac⟩ ac))
theorem i191(l:List Term):bI prog 194 [.iv (bV 5 l Term.c),.bX (.func 160) [] []] [] (pI (nP (fun x:Term=>kw (x.kind=3)) l)) [] 0:=by
 refine nW (bc func194 Z (by decide)) ⟨_,_,OO⟩ fun j=>?_;simp only[maxLen]at j;refine ax ab func194 Z (by decide) ntmps194 Z (by simp) ?_;refine gA Z ?_
 refine aM 0 l.length (OS _) (fun i=>⟨[(0,.iv (bV 5 l Term.c)),(1,.bX (.func 160) [] []),(7,pI l.length),(8,pI i)],[],0⟩) (fun i=>(l.take i).any (fun x:Term=>kw (x.kind=3))=jp) [] (by simp)
  (zW trivial) fun i y u=>?_
 refine zJ Z Z (fun h1=>?_) fun h1=>?_
 .have h1:i<l.length:=by simpa using h1
  refine gA Z (zp (Oh (l.getD i ci)) ?_);refine zJ Z Z (fun b=>?_) fun b=>?_
  .have b:(fun x:Term=>kw (x.kind=3)) (l.getD i ci)=is:=b;rw[fT u h1 b];refine gA Z (zD [] Z (zW ac))
  .have b:(fun x:Term=>kw (x.kind=3)) (l.getD i ci)=jp:=b;refine gA Z ⟨h1,(cC u h1).2 b,[],zW ac⟩
 .have h1:l.length<=i:=by simpa using h1
  rw[eY (any_none u h1)];refine gA Z (zD [] Z (zW ac))
theorem d157(l:List Term):bI prog 159 [.iv (bV 5 l Term.c),.bX (.func 160) [] []] [] (pB (l.any (fun x:Term=>kw (x.kind=3)))) [] 0:=by
 refine ax ab func159 Z (by decide) ntmps159 Z (by simp) ?_;refine gA Z (zq [] (i191 l) ?_);refine gA Z (zD [] Z (zM ⟨.of_eq (lH (fU _ l)),rfl,ac⟩ ac))
theorem i192(l:List Lit):bI prog 137 [.iv (bV 30 l Lit.c),.bX (.func 161) [] []] [] (pI (nP (fun x:Lit=>kw (x.kind=4)) l)) [] 0:=by
 refine nW (bc func137 Z (by decide)) ⟨_,_,OO⟩ fun j=>?_;simp only[maxLen]at j;refine ax ab func137 Z (by decide) ntmps137 Z (by simp) ?_;refine gA Z ?_
 refine aM 0 l.length (OS _) (fun i=>⟨[(0,.iv (bV 30 l Lit.c)),(1,.bX (.func 161) [] []),(7,pI l.length),(8,pI i)],[],0⟩) (fun i=>(l.take i).any (fun x:Lit=>kw (x.kind=4))=jp) [] (by simp)
  (zW trivial) fun i y u=>?_
 refine zJ Z Z (fun h1=>?_) fun h1=>?_
 .have h1:i<l.length:=by simpa using h1
  refine gA Z (zp (Og (l.getD i ci)) ?_);refine zJ Z Z (fun b=>?_) fun b=>?_
  .have b:(fun x:Lit=>kw (x.kind=4)) (l.getD i ci)=is:=b;rw[fT u h1 b];refine gA Z (zD [] Z (zW ac))
  .have b:(fun x:Lit=>kw (x.kind=4)) (l.getD i ci)=jp:=b;refine gA Z ⟨h1,(cC u h1).2 b,[],zW ac⟩
 .have h1:l.length<=i:=by simpa using h1
  rw[eY (any_none u h1)];refine gA Z (zD [] Z (zW ac))
theorem d159(l:List Lit):bI prog 90 [.iv (bV 30 l Lit.c),.bX (.func 161) [] []] [] (pB (l.any (fun x:Lit=>kw (x.kind=4)))) [] 0:=by
 refine ax ab func90 Z (by decide) ntmps90 Z (by simp) ?_;refine gA Z (zq [] (i192 l) ?_);refine gA Z (zD [] Z (zM ⟨.of_eq (lH (fU _ l)),rfl,ac⟩ ac))
theorem MO(p:Prog)(l:List Atom):bI prog 158 [.iv (bV 2 l Atom.c),.bX (.func 125) [] [.ptr 0 0]] [.cells [.iv (cv p)]] (pI (nP (fun x:Atom=>sX p x) l)) [(0,co (.cells [.iv (cv p)]))] 1:=by
 refine nW (bc func158 Z (by decide)) ⟨_,_,OO⟩ fun j=>?_;simp only[maxLen]at j;refine ax ab func158 Z (by decide) ntmps158 Z (by simp) ?_;refine gA Z ?_
 refine aM 0 l.length (OS _) (fun i=>⟨[(0,.iv (bV 2 l Atom.c)),(1,.bX (.func 125) [] [.ptr 0 0]),(7,pI l.length),(8,pI i)],[(0,co (.cells [.iv (cv p)]))],1⟩) (fun i=>(l.take i).any (fun x:Atom=>sX p x)=jp) [] (by simp)
  (zW (zO trivial)) fun i y u=>?_
 refine zJ Z Z (fun h1=>?_) fun h1=>?_
 .have h1:i<l.length:=by simpa using h1
  refine gA Z (zq [0] (d113 p (l.getD i ci)) ?_);refine zJ Z Z (fun b=>?_) fun b=>?_
  .have b:(fun x:Atom=>sX p x) (l.getD i ci)=is:=b;rw[fT u h1 b];refine gA Z (zD [] Z (zW (zO ac)))
  .have b:(fun x:Atom=>sX p x) (l.getD i ci)=jp:=b;refine gA Z ⟨h1,(cC u h1).2 b,[],zW (zO ac)⟩
 .have h1:l.length<=i:=by simpa using h1
  rw[eY (any_none u h1)];refine gA Z (zD [] Z (zW (zO ac)))
theorem Nb(p:Prog)(l:List Atom):bI prog 123 [.iv (bV 2 l Atom.c),.bX (.func 125) [] [.ptr 0 0]] [.cells [.iv (cv p)]] (pB (l.any (fun x:Atom=>sX p x))) [(0,co (.cells [.iv (cv p)]))] 1:=by
 refine ax ab func123 Z (by decide) ntmps123 Z (by simp) ?_;refine gA Z (zq [0] (MO p l) ?_);refine gA Z (zD [] Z (zM ⟨.of_eq (lH (fU _ l)),rfl,ac⟩ (zO ac)))
theorem MN(p:Prog)(l:List Atom):bI prog 158 [.iv (bV 2 l Atom.c),.bX (.func 127) [] [.ptr 0 0]] [.cells [.iv (cv p)]] (pI (nP (fun x:Atom=>vY p x) l)) [(0,co (.cells [.iv (cv p)]))] 1:=by
 refine nW (bc func158 Z (by decide)) ⟨_,_,OO⟩ fun j=>?_;simp only[maxLen]at j;refine ax ab func158 Z (by decide) ntmps158 Z (by simp) ?_;refine gA Z ?_
 refine aM 0 l.length (OS _) (fun i=>⟨[(0,.iv (bV 2 l Atom.c)),(1,.bX (.func 127) [] [.ptr 0 0]),(7,pI l.length),(8,pI i)],[(0,co (.cells [.iv (cv p)]))],1⟩) (fun i=>(l.take i).any (fun x:Atom=>vY p x)=jp) [] (by simp)
  (zW (zO trivial)) fun i y u=>?_
 refine zJ Z Z (fun h1=>?_) fun h1=>?_
 .have h1:i<l.length:=by simpa using h1
  refine gA Z (zq [0] (d115 p (l.getD i ci)) ?_);refine zJ Z Z (fun b=>?_) fun b=>?_
  .have b:(fun x:Atom=>vY p x) (l.getD i ci)=is:=b;rw[fT u h1 b];refine gA Z (zD [] Z (zW (zO ac)))
  .have b:(fun x:Atom=>vY p x) (l.getD i ci)=jp:=b;refine gA Z ⟨h1,(cC u h1).2 b,[],zW (zO ac)⟩
 .have h1:l.length<=i:=by simpa using h1
  rw[eY (any_none u h1)];refine gA Z (zD [] Z (zW (zO ac)))
theorem Na(p:Prog)(l:List Atom):bI prog 123 [.iv (bV 2 l Atom.c),.bX (.func 127) [] [.ptr 0 0]] [.cells [.iv (cv p)]] (pB (l.any (fun x:Atom=>vY p x))) [(0,co (.cells [.iv (cv p)]))] 1:=by
 refine ax ab func123 Z (by decide) ntmps123 Z (by simp) ?_;refine gA Z (zq [0] (MN p l) ?_);refine gA Z (zD [] Z (zM ⟨.of_eq (lH (fU _ l)),rfl,ac⟩ (zO ac)))
def ct(l:Lit):List Atom:=if l.kind=1∨l.kind=2 then[l.atom] else[]
theorem nG: ∀l:List Lit,(l.flatMap ct).length<=l.length
 | []=>by simp
 |x::r=>by
  have h1:=nG r;have b:(ct x).length<=1:=by unfold ct;split<;>simp
  simp only[PH,OE,Pb];omega
def vD(r:aw)(lit:Int):List Lit:=if(aq r lit).kind=4 then(aq r lit).ar else[aq r lit]
def ep(r:aw)(lit:Int):List Atom:=if lit<0 then[r.head] else(vD r lit).flatMap ct
theorem GW(r:aw)(lit:Int)(h:0<=lit):km (.cp 30 ((lit+1).toNat-lit.toNat) (fun j=>(r.body.getD (lit.toNat+j) ci).c)) (lits [aq r lit]):=by
 have e:(lit+1).toNat-lit.toNat=1:=by omega
 rw[e]
 exact .cp Z (fun j b=>by
  have:j=0:=by omega
  subst this;rfl)
theorem Nf(r:aw)(lit:Int)(h1:lit<r.body.length)(hb:r.size<=1000000000000):Pure prog 124 [ag r.c,pI lit] (.iv (bV 2 (ep r lit) Atom.c)):=by
 have R:=Lit.aF r.body;have h0:Lit.aE r.body<=r.size:=Rc _ _;refine ae ab func124 Z (by decide) ntmps124 Z (by simp) Z ?_;refine zJ Z Z (fun A=>?_) fun A=>?_
 .have A:lit<0:=by simpa using A
  refine gA Z (dh (by first|exact .inr Z|exact .inl Z) Z Z (by rw[ep,am A];rfl) (by rw[ep,am A];rfl))
 have A: ¬lit<0:=by simpa using A
 have hk:lit.toNat<r.body.length:=by omega
 have I:=Lit.bN r.body lit.toNat hk;have b0:=(aq r lit).size_eq;have c0:=Lit.aF (aq r lit).ar;have a0:(aq r lit).size<=Lit.aE r.body:=I;refine zJ Z Z (fun B=>?_) fun B=>?_
 .have B:(aq r lit).kind=4:=by simpa[aq]using B
  have y:ep r lit=(aq r lit).ar.flatMap ct:=by rw[ep,be A,vD,am B]
  refine gA Z ?_;refine mv 6 2 Z ?_;refine aM 0 ((aq r lit).ar).length (OS _) (fun i=>⟨[(6,.sl 2 0 ((((aq r lit).ar).take i).flatMap ct).length 2),(30,.iv (lits ((aq r lit).ar))),(31,pI ((aq r lit).ar).length),(32,pI i)],[(2,co (aT 2 ((((aq r lit).ar).take i).flatMap ct) Atom.c))],3⟩) (fun _=>True) [1] ac
   (zM (bi ⟨.iv (lO _),rfl,bi (bi trivial)⟩) (zS trivial)) fun i Y _=>?_
  have G:=nG (((aq r lit).ar).take i);have J:(((aq r lit).ar).take i).length<=((aq r lit).ar).length:=by rw[PN];exact R2 _ _
  have D:((aq r lit).ar).length<=1000000000000:=by first|omega|(rw[PC];omega)
  refine zJ Z Z (fun b=>?_) fun b=>?_
  .have b:i<((aq r lit).ar).length:=zN b;have hs:=bK (f:=ct) b;have j:((((aq r lit).ar).getD i ci).kind=1∨(((aq r lit).ar).getD i ci).kind=2)->(((aq r lit).ar).take (i+1)).flatMap ct=(((aq r lit).ar).take i).flatMap ct++ [(((aq r lit).ar).getD i ci).atom]:=fun h=>by rw[hs,ct,am h]
   have C: ¬((((aq r lit).ar).getD i ci).kind=1∨(((aq r lit).ar).getD i ci).kind=2)->(((aq r lit).ar).take (i+1)).flatMap ct=(((aq r lit).ar).take i).flatMap ct:=fun h=>by rw[hs,ct,be h,Pw]
   refine zJ Z Z (fun u=>?_) fun u=>?_
   .have u: ¬(((aq r lit).ar).getD i ci).kind=1:=by simpa using u
    refine zJ Z Z (fun x=>?_) fun x=>?_
    .have x:(((aq r lit).ar).getD i ci).kind=2:=by simpa using x
     have hs:=j (.inr x);refine gA Z ⟨b,ac,[5],zM ⟨.row (by rw[hs,OE];rfl),rfl,bi (bi (bi ac))⟩ (hR Z (by rw[hs,OX];rfl) Z ac)⟩
    .have x: ¬(((aq r lit).ar).getD i ci).kind=2:=by simpa using x
     have hs:=C (fun h=>h.elim u x);refine gA Z ⟨b,ac,[2],zM ⟨.row (by rw[hs]),rfl,bi (bi (bi ac))⟩ (hR Z (by rw[hs]) Z ac)⟩
   .have u:(((aq r lit).ar).getD i ci).kind=1:=by simpa using u
    have hs:=j (.inl u);refine gA Z ⟨b,ac,[5],zM ⟨.row (by rw[hs,OE];rfl),rfl,bi (bi (bi ac))⟩ (hR Z (by rw[hs,OX];rfl) Z ac)⟩
  .have b:((aq r lit).ar).length<=i:=zG b;rw[OY b] at*
   refine gA Z (dh (by first|exact .inr Z|exact .inl Z) Z Z (by rw[y]) (by rw[y]))
 .have B: ¬(aq r lit).kind=4:=by simpa[aq]using B
  have y:ep r lit=[aq r lit].flatMap ct:=by rw[ep,be A,vD,be B]
  refine gA Z ?_;refine mv 6 2 Z ?_;refine aM 0 ([aq r lit]).length (OS _) (fun i=>⟨[(6,.sl 2 0 ((([aq r lit]).take i).flatMap ct).length 2),(30,.iv (lits ([aq r lit]))),(31,pI ([aq r lit]).length),(32,pI i)],[(2,co (aT 2 ((([aq r lit]).take i).flatMap ct) Atom.c))],3⟩) (fun _=>True) [1] ac
   (zM (bi ⟨.iv (GW r lit (by omega)),rfl,.of_eq (BY (by simp only[PC];omega)),rfl,bi trivial⟩) (zS trivial)) fun i Y _=>?_
  have G:=nG (([aq r lit]).take i);have J:(([aq r lit]).take i).length<=([aq r lit]).length:=by rw[PN];exact R2 _ _
  have D:([aq r lit]).length<=1000000000000:=by first|omega|(rw[PC];omega)
  refine zJ Z Z (fun b=>?_) fun b=>?_
  .have b:i<([aq r lit]).length:=zN b;have hs:=bK (f:=ct) b;have j:((([aq r lit]).getD i ci).kind=1∨(([aq r lit]).getD i ci).kind=2)->(([aq r lit]).take (i+1)).flatMap ct=(([aq r lit]).take i).flatMap ct++ [(([aq r lit]).getD i ci).atom]:=fun h=>by rw[hs,ct,am h]
   have C: ¬((([aq r lit]).getD i ci).kind=1∨(([aq r lit]).getD i ci).kind=2)->(([aq r lit]).take (i+1)).flatMap ct=(([aq r lit]).take i).flatMap ct:=fun h=>by rw[hs,ct,be h,Pw]
   refine zJ Z Z (fun u=>?_) fun u=>?_
   .have u: ¬(([aq r lit]).getD i ci).kind=1:=by simpa using u
    refine zJ Z Z (fun x=>?_) fun x=>?_
    .have x:(([aq r lit]).getD i ci).kind=2:=by simpa using x
     have hs:=j (.inr x);refine gA Z ⟨b,ac,[5],zM ⟨.row (by rw[hs,OE];rfl),rfl,bi (bi (bi ac))⟩ (hR Z (by rw[hs,OX];rfl) Z ac)⟩
    .have x: ¬(([aq r lit]).getD i ci).kind=2:=by simpa using x
     have hs:=C (fun h=>h.elim u x);refine gA Z ⟨b,ac,[2],zM ⟨.row (by rw[hs]),rfl,bi (bi (bi ac))⟩ (hR Z (by rw[hs]) Z ac)⟩
   .have u:(([aq r lit]).getD i ci).kind=1:=by simpa using u
    have hs:=j (.inl u);refine gA Z ⟨b,ac,[5],zM ⟨.row (by rw[hs,OE];rfl),rfl,bi (bi (bi ac))⟩ (hR Z (by rw[hs,OX];rfl) Z ac)⟩
  .have b:([aq r lit]).length<=i:=zG b;rw[OY b] at*
   refine gA Z (dh (by first|exact .inr Z|exact .inl Z) Z Z (by rw[y]) (by rw[y]))
theorem d110(p:Prog)(r:aw)(lit:Int)(h1:lit<r.body.length)(hb:r.size<=1000000000000):bI prog 122 [pI lit,.ptr 0 0,.ptr 1 0] [ay r.c,.cells [.iv (cv p)]] (pB ((ep r lit).any fun x=>sX p x)) [(0,co (ay r.c)),(1,co (.cells [.iv (cv p)]))] 2:=by
 refine ax ab func122 Z (by decide) ntmps122 Z (by simp) ?_;refine gA Z (zp (Nf r lit h1 hb) ?_);refine gA Z (zq [1] (Nb p (ep r lit)) ?_);refine gA Z (zD [] Z (zW (zK (zO ac))))
theorem d114(p:Prog)(r:aw)(lit:Int)(h1:lit<r.body.length)(hb:r.size<=1000000000000):bI prog 126 [pI lit,.ptr 0 0,.ptr 1 0] [ay r.c,.cells [.iv (cv p)]] (pB ((ep r lit).any fun x=>vY p x)) [(0,co (ay r.c)),(1,co (.cells [.iv (cv p)]))] 2:=by
 refine ax ab func126 Z (by decide) ntmps126 Z (by simp) ?_;refine gA Z (zp (Nf r lit h1 hb) ?_);refine gA Z (zq [1] (Na p (ep r lit)) ?_);refine gA Z (zD [] Z (zW (zK (zO ac))))
def kr(r:aw)(lit:Int):Bool:=if lit<0 then r.head.aj.any fun x=>kw (x.kind=3) else if(aq r lit).kind=4 then((aq r lit).ar.any fun x=>kw (x.kind=4))||dp (aY (aq r lit).agg) (aq r lit).bw else jp
theorem On(r:aw)(lit:Int)(h1:lit<r.body.length)(hb:r.size<=100000000):Pure prog 129 [ag r.c,pI lit] (pB (kr r lit)):=by
 have G:=Lit.aF r.body;have R:Lit.aE r.body<=r.size:=Rc _ _;refine ae ab func129 Z (by decide) ntmps129 Z (by simp) Z ?_;refine zJ Z Z (fun b=>?_) fun b=>?_
 .have b:lit<0:=by simpa using b
  refine gA Z (zq [] (d157 r.head.aj) ?_);refine gA Z (zL (.of_eq ?_));rw[kr,am b];rfl
 have b: ¬lit<0:=by simpa using b
 have hk:lit.toNat<r.body.length:=by omega
 have B:=Lit.bN r.body lit.toNat hk;have C:=(aq r lit).jc;have I:(aq r lit).size<=Lit.aE r.body:=B;have D:=jd (aq r lit).agg;refine zJ Z Z (fun j=>?_) fun j=>?_
 .have j: ¬(aq r lit).kind=4:=by simpa[aq]using j
  refine gA Z (zL (.of_eq ?_));rw[kr,be b,be j]
 have j:(aq r lit).kind=4:=by simpa[aq]using j
 refine gA Z (cJ [] (bI.le (aa:=[.iv (sN (aq r lit).ar),.bX (.func 161) [] []]) (d159 (aq r lit).ar) ⟨.iv (lO _),.refl _,ac⟩) Z Z Z Z Z Z Z Z ?_);refine zE Z Z (fun u=>?_) fun u=>?_
 .have u:((aq r lit).ar.any fun x=>kw (x.kind=4))=jp:=u;have A:=bt (aY (aq r lit).agg) (aq r lit).bw;have y:=bW (occ:=aY (aq r lit).agg) (s:=(aq r lit).bw);refine gA Z (zd [] (d127 (aq r lit).agg (by omega)) ?_);refine gA Z (zL (.of_eq ?_));refine(lH ?_:pB (kw (dm .str (aD (aY (aq r lit).agg)) (aq r lit).bw 0>0))=_);rw[kr,be b,am j,u,y,A,Qo];by_cases J:nY (aY (aq r lit).agg) (aq r lit).bw=0<;>simp[J];omega
 .have u:((aq r lit).ar.any fun x=>kw (x.kind=4))=is:=u;refine gA Z (zL (.of_eq ?_));rw[kr,be b,am j,u];rfl
theorem d116(r:aw)(lit:Int)(h1:lit<r.body.length)(hb:r.size<=100000000):bI prog 128 [pI lit,.ptr 0 0] [ay r.c] (pB (kr r lit)) [(0,co (ay r.c))] 1:=by
 refine ax ab func128 Z (by decide) ntmps128 Z (by simp) ?_;refine gA Z (zp (On r lit h1 hb) ?_);refine gA Z (zD [] Z (zW (zK ac)))
def pc(r:aw)(lit:Int):Pos:=if lit<0 then r.at_ else(aq r lit).at
theorem Ez(r:aw)(lit:Int)(h1:lit<r.body.length):Pure prog 133 [ag r.c,pI lit] (ag [iI (pc r lit).line,iI (pc r lit).EP]):=by
 refine ae ab func133 Z (by decide) ntmps133 Z (by simp) Z ?_;refine zJ Z Z (fun b=>?_) fun b=>?_
 .have b:lit<0:=by simpa using b
  refine gA Z (zL (.of_eq ?_));rw[pc,am b];rfl
 have b: ¬lit<0:=by simpa using b
 refine gA Z (zL (.of_eq ?_));rw[pc,be b];rfl
def kH(r:aw)(l:Lit):Nat:=if l.kind=4 then(jY r l.agg).length else 0
def Cv(r:aw):Nat:=r.body.foldl (fun n l=>n+kH r l) (aD (aC r)).length
theorem ur(r:aw)(l:Lit):kH r l<=l.size:=by
 unfold kH;split
 .have h1:(jY r l.agg).length<=(aD (aY l.agg)).length:=PQ _ _;have b:=jT (aY l.agg);have j:=jd l.agg;have u:=l.jc;omega
 .omega
theorem wG(r:aw): ∀(l:List Lit) (n:Nat),l.foldl (fun n l=>n+kH r l) n<=n+Lit.aE l
 | [],n=>by simp
 |x::t,n=>by
  have h1:=wG r t (n+kH r x);have b:=ur r x;simp only[Pr,Lit.aE];omega
theorem Oo(r:aw)(hb:r.size<=100000000):Pure prog 121 [.iv (b8 r)] (pI (Cv r)):=by
 have y:=Lit.aF r.body;have G:Lit.aE r.body<=r.size:=Rc _ _;have J:=vp r;have A:=jT (aC r);refine ae ab func121 Z (by decide) ntmps121 Z (by simp) Z ?_;refine gA Z ?_;refine aM 0 r.body.length (OS _) (fun i=>⟨[(0,.iv (b8 r)),(3,pI (((r.body.take i).foldl (fun n l=>n+kH r l) (aD (aC r)).length:Nat))),(15,.iv (lits r.body)),(16,pI r.body.length),(17,pI i)],[],0⟩) (fun _=>True) [] ac
  (zW trivial) fun i I _=>?_
 have B:=wG r (r.body.take i) (aD (aC r)).length;have C:=Lit.rB r.body i;refine zJ Z Z (fun h1=>?_) fun h1=>?_
 .have h1:i<r.body.length:=by simpa using h1
  have hs:=gq (g:=fun n l=>n+kH r l) (b:=(aD (aC r)).length) h1;have D:=Lit.bN r.body i h1;have x:=(r.body.getD i ci).jc;have u:=ur r (r.body.getD i ci);refine zJ Z Z (fun j=>?_) fun j=>?_
  .have j:(r.body.getD i ci).kind=4:=by simpa using j
   rw[kH,am j]at hs u;refine gA Z (zq [] (d79 r (r.body.getD i ci).agg (by omega)) ?_);refine gA Z ⟨h1,ac,[],zM (bi ⟨.of_eq (BY (by rw[hs];rfl)),rfl,bi (bi (bi ac))⟩) ac⟩
  .have j: ¬(r.body.getD i ci).kind=4:=by simpa using j
   rw[kH,be j]at hs;refine gA Z ⟨h1,ac,[],zM (bi ⟨.of_eq (BY (by rw[hs];rfl)),rfl,bi (bi (bi ac))⟩) ac⟩
 .have h1:r.body.length<=i:=by simpa using h1
  refine gA Z (zL (.of_eq ?_));rw[OY h1];rfl
section
section
variable {may:List ak->Expr->Bool} {more:List ak->ft->Bool} {body:List Lit}
theorem qo: ∀(n:Nat) (occ:List ak),ck (bC body) occ<n->bL (may (cO may more body n occ)) (more (cO may more body n occ)) (cO may more body n occ) body=io
 |0,occ,h=>by omega
 |n+1,occ,h=>by
  cases hv:bL (may occ) (more occ) occ body with
  |none=>rw[dU hv];exact hv
  |some v=>
   rw[dT hv];refine qo n _ ?_;obtain⟨g1,g2⟩:=iV hv;have j:=ow g1 g2;have b:ck (bC body) (occ++ [v])=ck (bC body) (fG occ v):=by
    unfold ck;congr 2
    funext x
    congr 1;rw[PS,bu,bu,c4,OW,OM]
   omega
theorem qs(occ:List ak):bL (may (bM may more body occ)) (more (bM may more body occ)) (bM may more body occ) body=io:=by
 refine qo _ _ ?_;have h1:=ox (bC body) (occ++body.flatMap ba);have b:=iC body;omega
theorem lZ: ∀(n:Nat) (occ:List ak),∀x∈occ,x∈cO may more body n occ
 |0,occ,x,h=>h
 |n+1,occ,x,h=>by
  cases hv:bL (may occ) (more occ) occ body with
  |none=>rw[dU hv];exact h
  |some v=>rw[dT hv];exact lZ n _ x (Ph _ h)
theorem lU{m1:Expr->Bool}{m2:ft->Bool}{occ:List ak}: ∀{l:List Lit},bL m1 m2 occ l=io-> ∀x∈l,kA m1 m2 occ x=io
 | [],_,x,hx=>by cases hx
 |y::r,h,x,hx=>by
  simp only[bL]at h;split at h
  .cases h
  .rename_i h1;rcases OP.1 hx with rfl|hx
   .exact h1
   .exact lU h x hx
theorem qi{m1:Expr->Bool}{m2:ft->Bool}{occ:List ak}{v:ak}: ∀{l:List Lit},bL m1 m2 occ l=co v-> ∃x∈l,kA m1 m2 occ x=co v
 | [],h=>by cases h
 |y::r,h=>by
  simp only[bL]at h;split at h
  .rename_i w j;exact⟨y,OO,j.trans h⟩
  .obtain⟨x,u,b⟩:=qi h;exact⟨x,ON _ u,b⟩
variable (hmay: ∀a b:List ak,(∀x∈a,x∈b)-> ∀e,may a e=is->may b e=is) (hmore: ∀a b:List ak,(∀x∈a,x∈b)-> ∀e,more a e=is->more b e=is)
include hmay hmore
theorem zA{occ C:List ak}(b: ∀x∈occ,x∈C){l:Lit}{v:ak}(h:kA (may occ) (more occ) occ l=co v)(hC:kA (may C) (more C) C l=io):v∈C:=by
 have hl: ∀y,y∉C->dp C y=jp:=fun y I=>en.2 I;have hnew:=(rW h).2;refine PM fun D=>?_;unfold kA at h hC;by_cases j:(fj (may occ) occ l).2=is
 .rw[am j]at h;simp only[OA]at h;have B:(fj (may C) C l).2=is:=by
   unfold fj at j h ⊢;split at j
   .cases j
   .rename_i G;rw[be G]at h ⊢;split at j
    .rename_i h1;rw[am h1]at h;have A:l.left.var=v:=h;rw[am ⟨h1.1,by rw[A];exact hl v D,hmay occ C b _ h1.2.2⟩]
    .rename_i h1;rw[be h1]at h;split at j
     .rename_i u;rw[am u]at h;have A:l.right.var=v:=h;split
      .rfl
      .rw[am ⟨u.1,by rw[A];exact hl v D,hmay occ C b _ u.2.2⟩]
     .cases j
  rw[am B]at hC;cases hC
 .rw[be j]at h;split at h
  .rename_i u;simp only[OA]at h;split at hC
   .cases hC
   .rw[am ⟨u.1,by rw[h];exact hl v D,hmore occ C b _ u.2.2⟩]at hC;cases hC
  .cases h
theorem lY{C:List ak}(hC:bL (may C) (more C) C body=io): ∀(n:Nat) (occ:List ak),(∀x∈occ,x∈C)-> ∀x∈cO may more body n occ,x∈C
 |0,occ,h,x,hx=>h x hx
 |n+1,occ,h,x,hx=>by
  cases hv:bL (may occ) (more occ) occ body with
  |none=>rw[dU hv]at hx;exact h x hx
  |some v=>
   rw[dT hv]at hx;refine lY hC n _ (fun y hy=>?_) x hx;rcases OW.1 hy with hy|hy
   .exact h y hy
   .rw[OM]at hy;subst hy;obtain⟨l,hl,b⟩:=qi hv;exact zA hmay hmore h b (lU hC l hl)
theorem qp{j b:List ak}(h: ∀x∈j,x∈b): ∀x∈bM may more body j,x∈bM may more body b:=by
 refine lY hmay hmore (qs b) _ _ fun x hx=>?_;refine lZ _ _ x ?_;rcases OW.1 hx with hx|hx
 .exact Ph _ (h x hx)
 .exact P8 _ hx
end
theorem oM(a b:List ak)(h: ∀x∈a,x∈b)(e:Expr)(hc:aV a e=is):aV b e=is:=by
 unfold aV at*
 rw[Pj] at*
 exact fun x j=>bu.2 (h x (bu.1 (hc x j)))
theorem xc(a b:List ak)(h: ∀x∈a,x∈b)(e:Expr)(hc:b4 a e=is):b4 b e=is:=by
 unfold b4 at*
 cases hk:kw (e.kind=2) with
 |true=>simp
 |false=>
  rw[hk,Qo,Pq]at hc;rw[Qo,Pq];exact⟨hc.1,bu.2 (h _ (bu.1 hc.2))⟩
def yG(r:aw)(a:ft):List ak:=((aD (aY a)).map (·.1)).filter fun x=>dp (aC r) x
def yp(r:aw)(a:ft):List ak:=bM (fun b=>aV b) (fun _=>fun _=>jp) a.body (yG r a)
theorem GG{r:aw}{a:ft}{occ:List ak}(h:DI r a occ)(s:ak):dp (bM (fun occ=>aV occ) (fun _=>fun _=>jp) a.body occ) s=dp (yp r a) s:=by
 have j: ∀x,x∈yG r a↔x∈occ:=fun x=>by
  unfold yG;rw[Pa,(dH (aY a)).2 x,bu,h.2 x]
 rw[PS,bu,bu];exact⟨qp (more:=fun _=>fun _=>jp) oM (fun _ _ _ _ h=>h) (fun x b=>(j x).2 b) s,qp (more:=fun _=>fun _=>jp) oM (fun _ _ _ _ h=>h) (fun x b=>(j x).1 b) s⟩
def r6(r:aw)(m:NM):Bool:=m.any fun x=>!dp (bJ r) x.1
theorem lK{r:aw}{m:NM}(h: ∀j,j<m.length-> ∀x,m[j]? =co x->dp (bJ r) x.1=is):r6 r m=jp:=by
 refine Pz.2 fun x u=>?_;obtain⟨j,b⟩:=Po u;rw[h j (OB.1 b).1 x b];simp
theorem nL{r:aw}{m:NM}{j:Nat}{x:(KC.str).K×Int}(h:m[j]? =co x)(b:dp (bJ r) x.1=jp):r6 r m=is:=
 PO.2 ⟨x,Pe h,by rw[b];rfl⟩
def j4(r:aw)(a:ft):NM:=(aD (aY a)).filter fun x=>!dp ((jY r a).map (·.1)) x.1
def jC(r:aw)(lit:Int):Bool:=
 if lit<0 then r6 r (aD (cx r.head))
 else if(aq r lit).kind=4 then(jY r (aq r lit).agg).any (fun x=>!dp (yp r (aq r lit).agg) x.1)||r6 r (bump (j4 r (aq r lit).agg) (aq r lit).bw)
 else r6 r (aD (cz (aq r lit)))
theorem NV(a:Atom)(hb:a.aj.length<=100000000000):bI prog 135 [.mp 0,ag a.c] [.eC] (.bh []) [(0,co (cy (aD (cx a))))] 1:=
 bI.IZ (d88 [] a (by simp;omega)) ⟨qR,ac⟩
theorem NU(l:Lit)(hb:l.size<=100000000000):bI prog 156 [.mp 0,ag l.c] [.eC] (.bh []) [(0,co (cy (aD (cz l))))] 1:=
 bI.IZ (d89 l [] (by simp;omega)) ⟨qR,ac⟩
theorem uu(f:ak->Bool)(s:ak): ∀(m:NM),dm .str (m.filter fun x=>f x.1) s 0=if f s=is then dm .str m s 0 else 0
 | []=>by simp[dm]
 |(a,b)::r=>by
  have j:=uu f s r;cases hf:f a with
  |true=>
   rw[List.filter_cons_of_pos (by exact hf)];simp only[dm];split
   .rename_i h;subst h;rw[am hf]
   .exact j
  |false=>
   rw[List.filter_cons_of_neg (by simp[hf]),j];simp only[dm];split
   .rename_i h;split
    .rename_i u;subst u;rw[hf]at h;cases h
    .rfl
   .rfl
theorem GU(r:aw)(a:ft)(s:ak):0<=dm .str (j4 r a) s 0∧dm .str (j4 r a) s 0<=nY (aY a) s:=by
 have h1:=bt (aY a) s;have b:=uu (fun x=>!dp ((jY r a).map (·.1)) x) s (aD (aY a));unfold j4;rw[b,h1];split<;>omega
set_option maxHeartbeats 2000000 in
theorem Ol(r:aw)(lit:Int)(hl:lit<r.body.length)(hb:r.size<=10000000):Pure prog 132 [.iv (b8 r),pI lit] (pB (jC r lit)):=by
 have s0:=Lit.aF r.body;have h0:Lit.aE r.body<=r.size:=Rc _ _;have p0:r.head.aj.length<=r.size:=Rn _ _;have x0:=yy r;refine ae ab func132 Z (by decide) ntmps132 Z (by simp) Z ?_;refine gA Z (zq [] (d73 r (by omega)) ?_);refine zJ Z Z (fun D=>?_) fun D=>?_
 .have D:lit<0:=by simpa using D
  refine gA Z (zq [1] (NV r.head (by omega)) ?_);refine gA Z ?_;have e0:(aD (cx r.head)).length<=1000000000000:=by have:=jT (cx r.head);have:=gY r.head;omega
  refine eQ (aD (cx r.head)) (fun vs=>⟨[(5,.mp 0),(76,.ptr 2 0)],[(0,co (cy (aD (bJ r)))),(2,co (.bB .str wg (aD (cx r.head)) vs io))],3⟩) (fun vs=> ∀j∈vs,∀x,(aD (cx r.head))[j]? =co x->dp (bJ r) x.1=is) [] (by simp)
   (zW (zC (hI Z Z (.inl Z) Z trivial))) fun vs G=>?_
  refine fb Z ac (dd Z Z Z Z Z (by decide) (fun u=>?_) fun j x b B=>?_)
  .refine gA Z (zL (.of_eq ?_));refine(lH ?_:pB jp=_);rw[jC,am D,lK fun j B x b=>G j (u j B) x b]
  .have Y:=bt (bJ r) x.1;have A:=bW (occ:=bJ r) (s:=x.1);refine zJ Z Z (fun g1=>?_) fun g1=>?_
   .have g1:dp (bJ r) x.1=jp:=by
     have:=zT g1;rw[A];simp;omega
    refine gA Z (zL (.of_eq ?_));refine(lH ?_:pB is=_);rw[jC,am D,nL b g1]
   .have g1:dp (bJ r) x.1=is:=by
     have:=zF g1;rw[A];simp;omega
    refine gA Z ?_
    exact⟨j,x,b,B,fun i hi y C=>by
     rcases OP.1 hi with rfl|hi
     .rw[b]at C;cases C;exact g1
     .exact G i hi y C,[],zW (zC (hI Z Z (.inr Z) Z ac))⟩
 have D: ¬lit<0:=by simpa using D
 have hk:lit.toNat<r.body.length:=by omega
 have o0:=Lit.bN r.body lit.toNat hk;have q0:=(aq r lit).jc;have v0:(aq r lit).size<=Lit.aE r.body:=o0;have r0:=jd (aq r lit).agg;have n0:=kI (aq r lit);refine zE Z Z (fun I=>?_) fun I=>?_
 .have I: ¬(aq r lit).kind=4:=by simpa[aq]using I
  refine gA Z (zq [1] (NU (aq r lit) (by omega)) ?_);refine gA Z ?_;have e0:(aD (cz (aq r lit))).length<=1000000000000:=by have:=jT (cz (aq r lit));omega
  refine eQ (aD (cz (aq r lit))) (fun vs=>⟨[(5,.mp 0),(76,.ptr 3 0)],[(0,co (cy (aD (bJ r)))),(3,co (.bB .str wg (aD (cz (aq r lit))) vs io))],4⟩) (fun vs=> ∀j∈vs,∀x,(aD (cz (aq r lit)))[j]? =co x->dp (bJ r) x.1=is) [] (by simp)
   (zW (zC (hI Z Z (.inl Z) Z trivial))) fun vs G=>?_
  refine fb Z ac (dd Z Z Z Z Z (by decide) (fun u=>?_) fun j x b B=>?_)
  .refine gA Z (zL (.of_eq ?_));refine(lH ?_:pB jp=_);rw[jC,be D,be I,lK fun j B x b=>G j (u j B) x b]
  .have Y:=bt (bJ r) x.1;have A:=bW (occ:=bJ r) (s:=x.1);refine zJ Z Z (fun g1=>?_) fun g1=>?_
   .have g1:dp (bJ r) x.1=jp:=by
     have:=zT g1;rw[A];simp;omega
    refine gA Z (zL (.of_eq ?_));refine(lH ?_:pB is=_);rw[jC,be D,be I,nL b g1]
   .have g1:dp (bJ r) x.1=is:=by
     have:=zF g1;rw[A];simp;omega
    refine gA Z ?_
    exact⟨j,x,b,B,fun i hi y C=>by
     rcases OP.1 hi with rfl|hi
     .rw[b]at C;cases C;exact g1
     .exact G i hi y C,[],zW (zC (hI Z Z (.inr Z) Z ac))⟩
 have I:(aq r lit).kind=4:=by simpa[aq]using I
 refine gA Z (xJ [] (d161 r (aq r lit).agg (by omega)) Z Z Z Z Z Z Z fun q h' n' hR=>?_);obtain⟨ok,⟨occ,i0,hok⟩,rfl,rfl,rfl⟩:=hR;have a0: ∀s,dp ok s=dp (yp r (aq r lit).agg) s:=fun s=>by rw[hok];exact GG i0 s
 refine⟨_,rfl,?_⟩;have z0:=jT (aY (aq r lit).agg);have w0:(jY r (aq r lit).agg).length<=(aD (aY (aq r lit).agg)).length:=PQ _ _;have t0:(j4 r (aq r lit).agg).length<=(aD (aY (aq r lit).agg)).length:=PQ _ _;have j0:=(dH (aY (aq r lit).agg)).1;refine gA Z (zq [] (d79 r (aq r lit).agg (by omega)) ?_);refine gA Z ?_;refine eQ (jY r (aq r lit).agg) (fun vs=>⟨[(0,.iv (b8 r)),(5,.mp 0),(7,.ptr 2 0),(8,.mp 3),(43,.ptr 5 0)],[(0,co (cy (aD (bJ r)))),(2,co (ay (aq r lit).c)),(3,co (cy (aD ok))),(5,co (.bB .str wg (jY r (aq r lit).agg) vs io))],6⟩) (fun vs=> ∀j∈vs,∀x,(jY r (aq r lit).agg)[j]? =co x->dp (yp r (aq r lit).agg) x.1=is) [] (by simp)
  (zW (zC (zK (zC (hI Z Z (.inl Z) Z trivial))))) fun vs G=>?_
 refine fb Z ac (dd Z Z Z Z Z (by decide) (fun u=>?_) fun j x b B=>?_);rotate_left
 .have Y:=bt ok x.1;have A:=bW (occ:=ok) (s:=x.1);have J:=a0 x.1;refine zJ Z Z (fun g1=>?_) fun g1=>?_
  .have g1:dp (yp r (aq r lit).agg) x.1=jp:=by
    have:=zT g1;rw[<-J,A];simp;omega
   refine gA Z (zL (.of_eq ?_));refine(lH ?_:pB is=_);rw[jC,be D,am I,PO.2 ⟨x,Pe b,by rw[g1];rfl⟩,Rs]
  .have g1:dp (yp r (aq r lit).agg) x.1=is:=by
    have:=zF g1;rw[<-J,A];simp;omega
   refine gA Z ?_
   exact⟨j,x,b,B,fun i hi y C=>by
    rcases OP.1 hi with rfl|hi
    .rw[b]at C;cases C;exact g1
    .exact G i hi y C,[],zW (zC (zK (zC (hI Z Z (.inr Z) Z ac))))⟩
 have hA:(jY r (aq r lit).agg).any (fun x=>!dp (yp r (aq r lit).agg) x.1)=jp:=Pz.2 fun x b=>by
  obtain⟨j,B⟩:=Po b;rw[G j (u j (OB.1 B).1) x B];simp
 refine gA Z (zq [] (d127 (aq r lit).agg (by omega)) ?_);refine gA Z (zq [] (d79 r (aq r lit).agg (by omega)) ?_);refine gA Z ?_;refine eQ (jY r (aq r lit).agg) (fun vs=>⟨[(5,.mp 0),(6,.mp 6),(7,.ptr 2 0),(59,.ptr 8 0)],[(0,co (cy (aD (bJ r)))),(2,co (ay (aq r lit).c)),(6,co (cy ((fD (jY r (aq r lit).agg) vs).foldl (fun m k=>jh .str m k) (aD (aY (aq r lit).agg))))),(8,co (.bB .str wg (jY r (aq r lit).agg) vs io))],9⟩) (fun vs=>vs.Nodup∧ ∀j∈vs,j<(jY r (aq r lit).agg).length) [] ⟨Pk,by simp⟩
  (zW (zC (zK (zC (hI Z Z (.inl Z) Z trivial))))) fun b0 f0=>?_
 obtain⟨c0,d0⟩:=f0;refine fb Z ac (dd Z Z Z Z Z (by decide) (fun R=>?_) fun j x b B=>?_);rotate_left
 .have hk:=jr (jY r (aq r lit).agg) b0 j x b;refine gA Z ⟨j,x,b,B,⟨Pf.2 ⟨B,c0⟩,fun i hi=>(OP.1 hi).elim (fun h=>h▸(OB.1 b).1) (d0 i)⟩,[],zW (zC (zK (hM Z (by rw[hk,List.foldl_append];rfl) Z (hI Z Z (.inr Z) Z ac))))⟩
 have k0:(fD (jY r (aq r lit).agg) b0).foldl (fun m k=>jh .str m k) (aD (aY (aq r lit).agg))=j4 r (aq r lit).agg:=by
  rw[lX _ j0];unfold j4;congr 1
  funext x
  congr 1;rw[PS,bu,bu,(iL _ b0 c0 d0 R).mem_iff]
 rw[k0];have m0:=GU r (aq r lit).agg (aq r lit).bw;have g0:=fq (aY (aq r lit).agg) (aq r lit).bw;refine gA Z ?_;have e0:(bump (j4 r (aq r lit).agg) (aq r lit).bw).length<=1000000000000:=by have:=rL (j4 r (aq r lit).agg) (aq r lit).bw (dm .str (j4 r (aq r lit).agg) (aq r lit).bw 0+1);unfold bump;omega
 refine eQ (bump (j4 r (aq r lit).agg) (aq r lit).bw) (fun vs=>⟨[(5,.mp 0),(76,.ptr 9 0)],[(0,co (cy (aD (bJ r)))),(9,co (.bB .str wg (bump (j4 r (aq r lit).agg) (aq r lit).bw) vs io))],10⟩) (fun vs=> ∀j∈vs,∀x,(bump (j4 r (aq r lit).agg) (aq r lit).bw)[j]? =co x->dp (bJ r) x.1=is) [] (by simp)
  (zW (zC (hI Z Z (.inl Z) Z trivial))) fun vs G=>?_
 refine fb Z ac (dd Z Z Z Z Z (by decide) (fun u=>?_) fun j x b B=>?_)
 .refine gA Z (zL (.of_eq ?_));refine(lH ?_:pB jp=_);rw[jC,be D,am I,hA,Qo,lK fun j B x b=>G j (u j B) x b]
 .have Y:=bt (bJ r) x.1;have A:=bW (occ:=bJ r) (s:=x.1);refine zJ Z Z (fun g1=>?_) fun g1=>?_
  .have g1:dp (bJ r) x.1=jp:=by
    have:=zT g1;rw[A];simp;omega
   refine gA Z (zL (.of_eq ?_));refine(lH ?_:pB is=_);rw[jC,be D,am I,hA,Qo,nL b g1]
  .have g1:dp (bJ r) x.1=is:=by
    have:=zF g1;rw[A];simp;omega
   refine gA Z ?_
   exact⟨j,x,b,B,fun i hi y C=>by
    rcases OP.1 hi with rfl|hi
    .rw[b]at C;cases C;exact g1
    .exact G i hi y C,[],zW (zC (hI Z Z (.inr Z) Z ac))⟩
end
end Go.Proofs.YtllkaddcplhklaaGreatDoor
namespace Go.Proofs.YtllkaddcplhklaaGreatDoor
open Go Go.Al
def GS(a b:ak):Prop:=ly a<ly b
theorem Jb(a b:ak):Op.bytesLess a.toList b.toList=is↔GS a b:=by
 rw[ByteArray.toList_eq,ByteArray.toList_eq,bytesLess_eq,decide_eq_true_eq];rfl
theorem u3{a b:ak}(h:ly a=ly b):a=b:=by rw[<-qP a,<-qP b,h]
theorem uq{a b c:ak}(h:GS a b)(k:GS b c):GS a c:=List.lt_trans h k
theorem kE(a:ak): ¬GS a a:=List.lt_irrefl _
theorem GR{a b:ak}(h: ¬a=b)(k: ¬GS a b):GS b a:=by
 refine PM fun j=>h (u3 (RD ?_ ?_))
 .exact R6.1 j
 .exact R6.1 k
abbrev uX(l:List ak):Prop:=l.Pairwise GS
theorem sd: ∀{l:List ak} (_:uX l) (s:ak),uX (ins l s)
 | [],_,s=>List.pairwise_singleton _ _
 |x::r,h,s=>by
  obtain⟨h1,u⟩:=PG.1 h;simp only[ins];split
  .exact h
  .rename_i j;split
   .rename_i b;have b:=(Jb x s).1 b;refine PG.2 ⟨fun y hy=>?_,sd u s⟩;rcases kD.1 hy with hy|rfl
    .exact h1 y hy
    .exact b
   .rename_i b;have b:GS s x:=GR j fun h=>b ((Jb x s).2 h);refine PG.2 ⟨fun y hy=>?_,h⟩;rcases OP.1 hy with rfl|hy
    .exact b
    .exact uq b (h1 y hy)
theorem n9{l:List ak}(h:uX l)(s:ak):uX (fG l s):=by rw[tE];exact sd h s
theorem lu: ∀{m l:List ak} (_:uX l),uX (mg l m)
 | [],_,h=>h
 |x::r,_,h=>lu (m:=r) (n9 h x)
theorem nq: ∀{a b:List ak},uX a->uX b->(∀x,x∈a↔x∈b)->a=b
 | [],[],_,_,_=>rfl
 | [],y::s,_,_,h=>by have:=(h y).2 OO;cases this
 |x::r,[],_,_,h=>by have:=(h x).1 OO;cases this
 |x::r,y::s,ha,hb,h=>by
  obtain⟨A,a2⟩:=PG.1 ha;obtain⟨B,C⟩:=PG.1 hb;have u:x=y:=by
   rcases OP.1 ((h x).1 OO) with h1|h1
   .exact h1
   .rcases OP.1 ((h y).2 OO) with h2|h2
    .exact h2.symm
    .exact absurd (uq (B x h1) (A y h2)) (kE _)
  subst u;rw[nq a2 C fun z=>?_];constructor
  .intro j;rcases OP.1 ((h z).1 (ON _ j)) with rfl|h3
   .exact absurd (A z j) (kE _)
   .exact h3
  .intro j;rcases OP.1 ((h z).2 (ON _ j)) with rfl|h3
   .exact absurd (B z j) (kE _)
   .exact h3
theorem il{l:List ak}(h:l.Nodup):uX (c8 l):=by
 have h1:=gl (l.map ly);rw[<-oW]at h1;have C:(c8 l).Nodup:=by
  have D:((c8 l).map ly).Perm (l.map ly):=by rw[oW];exact eF _
  have u:(l.map ly).Nodup:=List.Pairwise.map ly (fun a b j e=>j (u3 e)) h;have:=D.nodup_iff.2 u;exact List.Pairwise.of_map ly (fun a b j e=>j (by rw[e])) this
 have x:(c8 l).Pairwise fun a b=>ly a<=ly b:=(List.pairwise_map.1 h1).imp fun{a b} j=>zT j;refine(List.Pairwise.and x C).imp fun{a b} j=>?_;obtain⟨y,A⟩:=j;exact PM fun B=>A (u3 (RD y (R6.1 B)))
theorem FX{m:NM}{l:List ak}(hm:(m.map (·.1)).Nodup)(hl:uX l)(h: ∀x,x∈m.map (·.1)↔x∈l):ey m=l:=by
 refine nq (il hm) hl fun x=>?_;rw[ey,jV];exact h x
theorem Cf{occ l:List ak}(hl:uX l)(h: ∀x,x∈occ↔x∈l):ey (aD occ)=l:=
 FX (dH occ).1 hl fun x=>((dH occ).2 x).trans (h x)
theorem mP{x:ak}: ∀{l:List Term} {a:List ak},x∈l.foldl x6 a↔x∈a∨x∈l.flatMap fun t=>if t.kind=1 then[t.var] else[]
 | [],a=>by simp
 |t::r,a=>by
  rw[Pr,mP,PH,OW];unfold x6;split
  .rw[c4,OM,or_assoc]
  .simp
theorem vA{x:ak}{a:Atom}:x∈oN a↔x∈cx a:=by
 unfold oN cx;rw[mP];simp
def Mh(a:List ak×Bool)(l:Lit):List ak×Bool:=if(jw l a.1).2=is then(fG a.1 (jw l a.1).1,is) else a
def o5(body:List Lit)(k:List ak):List ak×Bool:=body.foldl Mh (k,jp)
def rM(body:List Lit):Nat->List ak->List ak
 |0,k=>k
 |n+1,k=>if(o5 body k).2=is then rM body n (o5 body k).1 else(o5 body k).1
theorem xb{body:List Lit}{n:Nat}{k:List ak}:rM body (n+1) k=if(o5 body k).2=is then rM body n (o5 body k).1 else(o5 body k).1:=rfl
def jB(r:aw):List ak:=rM r.body (3*r.body.length+1) (r.body.foldl Be [])
section
section
variable (stp:List ak->Lit->ak×Bool)
def gS(a:List ak×Bool)(l:Lit):List ak×Bool:=if(stp a.1 l).2=is then(fG a.1 (stp a.1 l).1,is) else a
def gR(body:List Lit)(k:List ak):List ak×Bool:=body.foldl (gS stp) (k,jp)
def gN(body:List Lit):Nat->List ak->List ak
 |0,k=>k
 |n+1,k=>if(gR stp body k).2=is then gN body n (gR stp body k).1 else(gR stp body k).1
variable {stp}
theorem Ai: ∀(body:List Lit) (k:List ak),(body.foldl (gS stp) (k,is)).2=is
 | [],k=>rfl
 |l::r,k=>by
  rw[Pr];have: ∃b,gS stp (k,is) l=(b,is):=by
   unfold gS;split
   .exact⟨_,rfl⟩
   .exact⟨_,rfl⟩
  obtain⟨b,hk⟩:=this;rw[hk];exact Ai r b
theorem xM: ∀{body:List Lit} {k:List ak},(body.foldl (gS stp) (k,jp)).2=jp->(body.foldl (gS stp) (k,jp)).1=k∧ ∀l∈body,(stp k l).2=jp
 | [],k,_=>⟨rfl,by simp⟩
 |l::r,k,h=>by
  rw[Pr]at h ⊢;cases hs:(stp k l).2 with
  |true=>
   have:gS stp (k,jp) l=(fG k (stp k l).1,is):=am hs;rw[this,Ai]at h;cases h
  |false=>
   have:gS stp (k,jp) l=(k,jp):=be (by rw[hs];simp);rw[this]at h ⊢;obtain⟨h1,b⟩:=xM h
   exact⟨h1,fun x hx=>by
    rcases OP.1 hx with rfl|hx
    .exact hs
    .exact b x hx⟩
theorem yM: ∀(body:List Lit) (a:List ak×Bool),∀x∈a.1,x∈(body.foldl (gS stp) a).1
 | [],a,x,h=>h
 |l::r,a,x,h=>by
  rw[Pr];refine yM r _ x ?_;unfold gS;split
  .exact c4.2 (.inl h)
  .exact h
theorem D0{body:List Lit}: ∀(n:Nat) (k:List ak),∀x∈k,x∈gN stp body n k
 |0,k,x,h=>h
 |n+1,k,x,h=>by
  unfold gN;split
  .exact D0 n _ x (yM body (k,jp) x h)
  .exact yM body (k,jp) x h
theorem px: ∀(body:List Lit) (a:List ak×Bool),uX a.1->uX (body.foldl (gS stp) a).1
 | [],a,h=>h
 |l::r,a,h=>by
  rw[Pr];refine px r _ ?_;unfold gS;split
  .exact n9 h _
  .exact h
theorem uF{body:List Lit}: ∀(n:Nat) (k:List ak),uX k->uX (gN stp body n k)
 |0,k,h=>h
 |n+1,k,h=>by
  unfold gN;split
  .exact uF n _ (px body (k,jp) h)
  .exact px body (k,jp) h
variable (hnew: ∀(k:List ak) (l:Lit),(stp k l).2=is->(stp k l).1∈ [l.left.var,l.right.var,l.bw]∧(stp k l).1∉k)
include hnew
theorem Ah{c:List ak}: ∀{body:List Lit} {a:List ak×Bool},(∀l∈body,∀v∈ [l.left.var,l.right.var,l.bw],v∈c)->
  ck c (body.foldl (gS stp) a).1<=ck c a.1∧((body.foldl (gS stp) a).2=is->a.2=is∨ck c (body.foldl (gS stp) a).1<ck c a.1)
 | [],a,_=>⟨OL _,fun h=> .inl h⟩
 |l::r,a,hc=>by
  have h1:ck c (gS stp a l).1<=ck c a.1∧((gS stp a l).2=is->a.2=is∨ck c (gS stp a l).1<ck c a.1):=by
   unfold gS;split
   .rename_i h;obtain⟨g1,g2⟩:=hnew _ _ h;have:=ow (hc l OO _ g1) g2;exact⟨by dsimp only;omega,fun _=> .inr this⟩
   .exact⟨OL _,fun h=> .inl h⟩
  obtain⟨g1,g2⟩:=Ah (body:=r) (a:=gS stp a l) fun l hl=>hc l (ON _ hl);rw[Pr];refine⟨by omega,fun h=>?_⟩;rcases g2 h with g3|g3
  .rcases h1.2 g3 with g4|g4
   .exact .inl g4
   .exact .inr (by omega)
  .exact .inr (by omega)
theorem DZ{body:List Lit}: ∀(n:Nat) (k:List ak),ck (bC body) k<n-> ∀l∈body,(stp (gN stp body n k) l).2=jp
 |0,k,h,_,_=>by omega
 |n+1,k,h,l,hl=>by
  unfold gN;cases hr:(gR stp body k).2 with
  |true=>
   rw[am Z];refine DZ n _ ?_ l hl;obtain⟨_,g2⟩:=Ah hnew (c:=bC body) (body:=body) (a:=(k,jp)) fun l hl v b=>uP hl b;rcases g2 hr with g3|g3
   .cases g3
   .unfold gR;dsimp only at g3;omega
  |false=>
   rw[be (by simp)];obtain⟨g1,g2⟩:=xM hr;unfold gR;rw[g1];exact g2 l hl
end
theorem lT{m1:Expr->Bool}{m2:ft->Bool}{occ:List ak}: ∀{l:List Lit},(∀x∈l,kA m1 m2 occ x=io)->bL m1 m2 occ l=io
 | [],_=>rfl
 |y::r,h=>by
  simp only[bL,h y OO];exact lT fun x b=>h x (ON _ b)
section
variable {stp:List ak->Lit->ak×Bool} {may:List ak->Expr->Bool} {more:List ak->ft->Bool} {body:List Lit}
variable (hE: ∀(k:List ak) (l:Lit),kA (may k) (more k) k l=if(stp k l).2=is then co (stp k l).1 else io)
variable (hmay: ∀a b:List ak,(∀x∈a,x∈b)-> ∀e,may a e=is->may b e=is) (hmore: ∀a b:List ak,(∀x∈a,x∈b)-> ∀e,more a e=is->more b e=is)
include hE
theorem F2(k:List ak)(l:Lit)(h:(stp k l).2=is):(stp k l).1∈ [l.left.var,l.right.var,l.bw]∧(stp k l).1∉k:=by
 have:=hE k l;rw[am h]at this;exact rW this
include hmay hmore
theorem DX{C:List ak}(hC: ∀l∈body,kA (may C) (more C) C l=io): ∀(b:List Lit) (a:List ak×Bool),(∀l∈b,l∈body)->(∀x∈a.1,x∈C)-> ∀x∈(b.foldl (gS stp) a).1,x∈C
 | [],a,_,h,x,hx=>h x hx
 |l::r,a,hb,h,x,hx=>by
  rw[Pr]at hx;refine DX hC r _ (fun l hl=>hb l (ON _ hl)) (fun y j=>?_) x hx;unfold gS at j;split at j
  .rename_i hs;rcases c4.1 j with j|rfl
   .exact h y j
   .have:=hE a.1 l;rw[am hs]at this;exact zA hmay hmore h this (hC l (hb l OO))
  .exact h y j
theorem DY{C:List ak}(hC: ∀l∈body,kA (may C) (more C) C l=io): ∀(n:Nat) (k:List ak),(∀x∈k,x∈C)-> ∀x∈gN stp body n k,x∈C
 |0,k,h,x,hx=>h x hx
 |n+1,k,h,x,hx=>by
  unfold gN at hx;have b:=DX hE hmay hmore hC body (k,jp) (fun _ h=>h) h;split at hx
  .exact DY hC n _ b x hx
  .exact b x hx
theorem wL{k occ:List ak}(hk: ∀x,x∈k↔x∈occ++body.flatMap ba)(x:ak):x∈gN stp body (3*body.length+1) k↔x∈bM may more body occ:=by
 constructor
 .refine DY hE hmay hmore (C:=bM may more body occ) (lU (qs occ)) _ _ (fun y b=>?_) x;exact lZ _ _ y ((hk y).1 b)
 .refine lY hmay hmore (C:=gN stp body (3*body.length+1) k) (lT fun l hl=>?_) _ _ (fun y b=>D0 _ _ y ((hk y).2 b)) x;have h1:=ox (bC body) k;have j:=iC body;rw[hE,DZ (F2 hE) _ _ (by omega) l hl,be (by simp)]
end
theorem xq{x:ak}: ∀{l:List Lit} {a:List ak},x∈l.foldl Be a↔x∈a∨x∈l.flatMap ba
 | [],a=>by simp
 |t::r,a=>by
  rw[Pr,xq,PH,OW];by_cases hk:t.kind=1
  .rw[show Be a t=mg a (oN t.atom) from am hk,show ba t=cx t.atom from am hk,p9,vA,or_assoc]
  .rw[show Be a t=a from be hk,show ba t=[] from be hk];simp
theorem p4: ∀(l:List Lit) (a:List ak),uX a->uX (l.foldl Be a)
 | [],a,h=>h
 |t::r,a,h=>by
  rw[Pr];refine p4 r _ ?_;unfold Be;split
  .exact lu h
  .exact h
theorem Dj(k:List ak)(l:Lit):kA (b4 k) (fun _=>jp) k l=if(jw l k).2=is then co (jw l k).1 else io:=by
 unfold kA;rw[be (c:=l.kind=4∧_) (fun h=>Bool.noConfusion h.2.2)];have:(if(fj (b4 k) k l).2=is then co (fj (b4 k) k l).1 else io)=if(jw l k).2=is then co (jw l k).1 else io:=by
  unfold fj jw b4;split
  .rfl
  .by_cases b:l.left.kind=1<;>by_cases a2:l.right.kind=1<;>by_cases a3:l.left.kind=2<;>by_cases a4:l.right.kind=2<;>cases a5:dp k l.left.var<;>cases a6:dp k l.right.var<;>simp_all
 exact this
theorem uc(body:List Lit): ∀(n:Nat) (k:List ak),rM body n k=gN (fun k l=>jw l k) body n k
 |0,k=>rfl
 |n+1,k=>by
  rw[xb,uc body n];rfl
theorem told_plain(r:aw):ey (aD (mM r))=jB r:=by
 unfold jB;rw[uc];refine Cf (uF _ _ (p4 _ _ Ri)) fun x=>?_;exact(wL (may:=fun b=>b4 b) (more:=fun _=>fun _=>jp) Dj xc (fun _ _ _ _ h=>h) (fun y=>by rw[xq];simp) x).symm
end
end Go.Proofs.YtllkaddcplhklaaGreatDoor
namespace Go.Proofs
open Go.Shelf
def Tryz.xy:Go.Shelf.Ren:=⟨fun|190=>84|125=>76|258=>134|128=>103|129=>104|302=>170|303=>171|304=>172|305=>173|306=>174|307=>175|308=>176|309=>177|310=>178|333=>200|329=>143|330=>144|334=>201|335=>202|336=>203|344=>211|n=>n,fun|31=>129|9=>9|3=>3|46=>147|0=>0|51=>175|53=>177|4=>4|183=>168|182=>167|131=>172|5=>5|218=>210|222=>214|228=>258|229=>259|n=>n,fun|n=>n⟩
theorem Tryz.zR:Go.Proofs.Lays.n190 Tryz.prog Tryz.xy:={
 mixed:=by kernel_rfl
 f125:=Tryz.func76.trans (congrArg co (by kernel_rfl))
 f128:=Tryz.func103.trans (congrArg co (by kernel_rfl))
 f129:=Tryz.func104.trans (congrArg co (by kernel_rfl))
 f190:=Tryz.func84.trans (congrArg co (by kernel_rfl))
 f258:=Tryz.func134.trans (congrArg co (by kernel_rfl))
 f302:=Tryz.func170.trans (congrArg co (by kernel_rfl))
 f303:=Tryz.func171.trans (congrArg co (by kernel_rfl))
 f304:=Tryz.func172.trans (congrArg co (by kernel_rfl))
 f305:=Tryz.func173.trans (congrArg co (by kernel_rfl))
 f306:=Tryz.func174.trans (congrArg co (by kernel_rfl))
 f307:=Tryz.func175.trans (congrArg co (by kernel_rfl))
 f308:=Tryz.func176.trans (congrArg co (by kernel_rfl))
 f309:=Tryz.func177.trans (congrArg co (by kernel_rfl))
 f310:=Tryz.func178.trans (congrArg co (by kernel_rfl))
 f329:=Tryz.func143.trans (congrArg co (by kernel_rfl))
 f330:=Tryz.func144.trans (congrArg co (by kernel_rfl))
 f333:=Tryz.func200.trans (congrArg co (by kernel_rfl))
 f334:=Tryz.func201.trans (congrArg co (by kernel_rfl))
 f335:=Tryz.func202.trans (congrArg co (by kernel_rfl))
 f336:=Tryz.func203.trans (congrArg co (by kernel_rfl))
 f344:=Tryz.func211.trans (congrArg co (by kernel_rfl))
 t0:=Tryz.underlying0
 a0:=Tryz.isAgg0
 z0:=Tryz.sizeOf0
 v0:=Tryz.zeroValue0
 t3:=Tryz.underlying3
 a3:=Tryz.isAgg3
 z3:=Tryz.sizeOf3
 v3:=Tryz.zeroValue3
 t4:=Tryz.underlying4
 a4:=Tryz.isAgg4
 z4:=Tryz.sizeOf4
 v4:=Tryz.zeroValue4
 t5:=Tryz.underlying5
 a5:=Tryz.isAgg5
 z5:=Tryz.sizeOf5
 v5:=Tryz.zeroValue5
 t9:=Tryz.underlying9
 a9:=Tryz.isAgg9
 z9:=Tryz.sizeOf9
 v9:=Tryz.zeroValue9
 t31:=Tryz.underlying129
 a31:=Tryz.isAgg129
 z31:=Tryz.sizeOf129
 v31:=Tryz.zeroValue129
 t46:=Tryz.underlying147
 a46:=Tryz.isAgg147
 z46:=Tryz.sizeOf147
 v46:=Tryz.zeroValue147
 t51:=Tryz.underlying175
 a51:=Tryz.isAgg175
 z51:=Tryz.sizeOf175
 v51:=Tryz.zeroValue175
 t53:=Tryz.underlying177
 a53:=Tryz.isAgg177
 z53:=Tryz.sizeOf177
 v53:=Tryz.zeroValue177
 t131:=Tryz.underlying172
 a131:=Tryz.isAgg172
 z131:=Tryz.sizeOf172
 v131:=Tryz.zeroValue172
 t182:=Tryz.underlying167
 a182:=Tryz.isAgg167
 z182:=Tryz.sizeOf167
 v182:=Tryz.zeroValue167
 t183:=Tryz.underlying168
 a183:=Tryz.isAgg168
 z183:=Tryz.sizeOf168
 v183:=Tryz.zeroValue168
 t218:=Tryz.underlying210
 a218:=Tryz.isAgg210
 z218:=Tryz.sizeOf210
 v218:=Tryz.zeroValue210
 t222:=Tryz.underlying214
 a222:=Tryz.isAgg214
 z222:=Tryz.sizeOf214
 v222:=Tryz.zeroValue214
 t228:=Tryz.underlying258
 a228:=Tryz.isAgg258
 z228:=Tryz.sizeOf258
 v228:=Tryz.zeroValue258
 t229:=Tryz.underlying259
 a229:=Tryz.isAgg259
 z229:=Tryz.sizeOf259
 v229:=Tryz.zeroValue259}
theorem YtllkaddcplhklaaGreatDoor.IM:YtllkaddcplhklaaGreatDoor.fM:=
 ⟨fun u b0 a0 x w hH b j=>Any.slices_Sort_string Tryz.zR u b0 a0 x w hH b j,fun p a0 w=>Any.slices_Sort_string_none Tryz.zR p a0 w⟩
end Go.Proofs
namespace Go.Proofs.YtllkaddcplhklaaGreatDoor
open Go Go.Al
theorem fL{α:Type}[Inhabited α]{f:α->List IV}(h: ∀x,ew ((f x).map .iv)=is)(l:List α):allOnes ((O9 l.length).map fun k=>(f (l.getD k ci)).map PV.iv)=is:=by rw[u9];exact qu h l
def Prog.size(p:Prog):Nat:=p.aR.length+(p.aR.map fun d=>d.types.length).sum+p.rules.length+(p.rules.map aw.size).sum
theorem u5{α:Type}[Inhabited α](f:α->Nat): ∀(l:List α) (i:Nat),i<l.length->f (l.getD i ci)<=(l.map f).sum
 |x::r,0,_=>by simp
 |x::r,i+1,h=>by
  have:=u5 f r i (by simpa using h);simp only[PR,OZ,PU];omega
theorem wT{α:Type}(i sz n b:Nat)(l:List α)(f:α->List IV):(aT b l f).qO i sz n:=by
 intro k e j p u A;rw[OH,OJ]at u;obtain⟨x,_,rfl⟩:=u;rw[OH,OJ]at A;obtain⟨y,_,rfl⟩:=A;exact⟨y,rfl⟩
theorem N7(r:aw)(hb:r.size<=10000000):Pure Tryz.prog 68 [ag r.c] (.iv (strs (jB r))):=told_plain r▸c33 IM r hb
end Go.Proofs.YtllkaddcplhklaaGreatDoor
namespace Go.Proofs.YtllkaddcplhklaaGreatDoor
open Go.Proofs.Tryz
open Go
section
set_option maxHeartbeats 2000000
theorem z7: ∃j,prog.info? 223=co j∧j.size=2:=by
 have h:(prog.info? 223).map (fun i=>i.size)=co 2:=by kernel_rfl
 rw[OJ]at h;exact h
theorem GZ:liesAt prog prog.depth 225 (4/prog.cellsOf 225) 0 223 1=is:=by kernel_rfl
theorem Hv(b:Nat)(w:World)(h0:w.cell? ⟨b,0,io⟩=co (.pointer (co ⟨b,0,io⟩))):
  Calls prog 213 #[.pointer (co ⟨b,0,io⟩)] w fun e w'=>e= .returned (.tuple #[])∧w'=w:=by
 obtain⟨j,u,_⟩:=z7
 go_enter func213,ntmps213
 go_wp2
 rw[Lib.run_neq_ptr_same w _ underlying220 u]
 go_wp2
 go_end0
 exact⟨rfl,rfl⟩
theorem Ex(b:Nat)(w:World)(h0:w.cell? ⟨b,0,io⟩=co (.pointer io))(u:w.shape? b=co (225,4))(A:w.frozen? ⟨b,0,io⟩=jp):
  Calls prog 213 #[.pointer (co ⟨b,0,io⟩)] w fun e w'=>e= .returned (.tuple #[])∧w'=w.setCell ⟨b,0,io⟩ (.pointer (co ⟨b,0,io⟩)):=by
 obtain⟨j,y,x⟩:=z7
 go_enter func213,ntmps213
 go_wp2
 rw[Lib.run_to_unsafe w ⟨b,0,io⟩ underlying220 underlying291 y (by rw[x];decide) u (by show 0<4;decide)];simp only[Result.andThen];rw[Oper.upon_value]
 go_wp2
 rw[run_callFunc_extern func218 (by kernel_rfl) (by kernel_rfl) (by kernel_rfl) (e:=Extern.AbiNoEscape.same) (by kernel_rfl)];rw[Lib.run_noEscape];simp only[Result.andThen];rw[Oper.upon_value]
 go_wp2
 rw[Lib.run_from_unsafe w ⟨b,0,io⟩ underlying291 underlying220 y u GZ];simp only[Result.andThen];rw[Oper.upon_value]
 go_wp2
 go_end0
 exact⟨rfl,rfl⟩
theorem K5:prog.cellsOf 5=1:=by kernel_rfl
theorem Hy(b g cap:Nat)(p x y:Value)(u:Array Value)(l:List UInt8)(w:World)(D:w.heap[b]? =co (.cells #[p,.slice (co ⟨g,0,io⟩) l.length cap,x,y] 225 (0,0)))(hg:w.heap[g]? =co (.cells u 5 (0,0)))
  (hl:l.length<=u.size) (J:l.length<=cap) (G:cap<=maxLen) (B: ∀(j:Nat) (x:UInt8),l[j]? =co x->u.getD j undef= .int .u8 (x.toNat:Int)) (h0:l≠ []):
  Calls prog 189 #[.pointer (co ⟨b,0,io⟩)] w fun e w'=>e= .returned (.string ⟨l.toArray⟩)∧w'=w.drew.freeze ⟨g,0,io⟩ l.length:=by
 have b0:l.length≠0:=by simpa using h0
 have c1:w.drew.cell? ⟨b,1,io⟩=co (.slice (co ⟨g,0,io⟩) l.length cap):=by
  have:w.drew.heap[b]? =co (.cells #[p,.slice (co ⟨g,0,io⟩) l.length cap,x,y] 225 (0,0)):=D;rw[Lib.cell_of_heap this];rfl
 have Y:(Builtin.unsafeSliceData_ #[221] 281 #[.slice (co ⟨g,0,io⟩) l.length cap]).run prog w.drew= .ok (.pointer (co ⟨g,0,io⟩)) w.drew:=
  Lib.run_unsafeSliceData_row _ _ _ _ _ _ (by omega)
 have a0:(Builtin.unsafeString_ #[281,3] 9 #[.pointer (co ⟨g,0,io⟩),.int .i64 l.length]).run prog w.drew= .ok (.string ⟨l.toArray⟩) (w.drew.freeze ⟨g,0,io⟩ l.length):=by
  refine Lib.run_unsafeString_row w.drew 281 3 9 5 underlying281 K5 g u.size (by have A:w.drew.heap[g]? =co (.cells u 5 (0,0)):=hg;simp[World.shape?,A]) l h0 (by omega) (by unfold maxLen at G;omega) ?_;intro j x R;have C:j<u.size:=by have:=(OB.1 R).1;omega
  have:=B j x R;rw[Oz,O4 C]at this;show w.drew.cell? _=_;have A:w.drew.heap[g]? =co (.cells u 5 (0,0)):=hg;rw[Al.di,O8];simp only[World.cell?,A];simpa[C]using this
 have I:prog.follows .mixedOrders=is:=rfl
 go_enter func189,ntmps189
 go_wp2
 go_region_o
 all_goals(go_wp2;go_ret;exact⟨rfl,rfl⟩)
theorem K7(b:Nat)(p x y:Value)(w:World)(j:w.heap[b]? =co (.cells #[p,.slice io 0 0,x,y] 225 (0,0))):
  Calls prog 189 #[.pointer (co ⟨b,0,io⟩)] w fun e w'=>e= .returned (.string ⟨#[]⟩)∧w'=w.drew:=by
 have B:(W:World)->(Builtin.unsafeString_ #[281,3] 9 #[.pointer io,.int .i64 0]).run prog W= .ok (.string .empty) W:=fun W=>Lib.run_unsafeString_none W _ _ _ io
 have c1:w.drew.cell? ⟨b,1,io⟩=co (.slice io 0 0):=by
  have:w.drew.heap[b]? =co (.cells #[p,.slice io 0 0,x,y] 225 (0,0)):=j;rw[Lib.cell_of_heap this];rfl
 have A:(Builtin.unsafeSliceData_ #[221] 281 #[.slice io 0 0]).run prog w.drew= .ok (.pointer io) w.drew:=rfl;have u:prog.follows .mixedOrders=is:=rfl
 go_enter func189,ntmps189
 go_wp2
 go_region_o
 all_goals(go_wp2;go_ret;exact⟨rfl,rfl⟩)
end
end Go.Proofs.YtllkaddcplhklaaGreatDoor
namespace Go.Proofs.YtllkaddcplhklaaGreatDoor
open Go Go.Al Go.Proofs.Tryz
def GF(c:Nat):Bool:=(kw (97<=c)&&kw (c<=122))||((kw (65<=c)&&kw (c<=90))||((kw (48<=c)&&kw (c<=57))||decide (c=95)))
def okB(b:UInt8):Bool:=GF b.toNat
def hd(s:ak):Int:=((s.data.toList.getD 0 0).toNat:Int)
def rh(s:ak)(b hi:Int):Bool:=!kw (s=⟨#[]⟩)&&(kw (s.size<=32)&&(kw (b<=hd s)&&(kw (hd s<=hi)&&s.data.toList.all okB)))
theorem Db{c:Nat}(h:GF c=is):c<128:=by
 simp only[GF,Qz,Pq,decide_eq_true_eq]at h;omega
theorem F9{s:ak}(h: ¬s=⟨#[]⟩):0<s.size:=by
 refine Nat.pos_of_ne_zero fun b=>h ?_;have:s.data= #[]:=P6 b;cases s;simp_all
theorem Of(c:Nat):Pure prog 180 [.iv (.v (.int .i32 (c:Int)))] (pB (!GF c)):=by
 refine ae ab func180 Z (by decide) ntmps180 Z (by simp) Z ?_
 repeat' (first|(refine gA Z (zI (fun _=>?_) (fun _=>?_)))|(refine gA Z (zL (.of_eq ?_))))
 all_goals(refine(lH ?_:pB _=pB _))
 all_goals(simp only[QS,Rt,decide_eq_true_eq,decide_eq_false_iff_not] at*;rw[PS];simp[GF];omega)
theorem Eh{s:ak}{i:Nat}(h:i<s.size)(hb:okB (s.data.toList.getD i 0)=is):Utf8.decode s i=((s.data.toList.getD i 0).toNat,1):=by
 have b:(s[i]'h)=s.data.toList.getD i 0:=by
  have:i<s.data.toList.length:=by simpa using h
  rw[OC,OD this];simp;rfl
 have:=decode_ascii s i h (by rw[b];exact Db hb);rw[this,b]
theorem K3{s:ak}{i:Nat}(h:i<s.size)(hb:okB (s.data.toList.getD i 0)=jp):GF (Utf8.decode s i).1=jp:=by
 by_cases h1:(s.data.toList.getD i 0).toNat<128
 .have b:(s[i]'h)=s.data.toList.getD i 0:=by
   have:i<s.data.toList.length:=by simpa using h
   rw[OC,OD this];simp;rfl
  have:=decode_ascii s i h (by rw[b];exact h1);rw[this,b];exact hb
 .have b:(s.get! (i+0)).toNat=(s.data.toList.getD i 0).toNat:=by
   have:i<s.data.toList.length:=by simpa using h
   rw[OC,OD this];simp[ByteArray.get!,getElem!_pos,h]
  have:128<=(Utf8.decode s i).1:=by
   simp only[Utf8.decode,b,be h1]
   repeat' split
   all_goals(dsimp only[Utf8.runeError];(try simp only[Pq,decide_eq_true_eq] at*);omega)
  cases hk:GF (Utf8.decode s i).1 with
  |false=>rfl
  |true=>have:=Db hk;omega
def Ax(s:ak):Int:=nP (fun b=>!okB b) s.data.toList
theorem d217(s:ak):bI prog 212 [pS s,.bX (.func 180) [] [],pB is] [] (pI (Ax s)) [] 0:=by
 have A:s.data.toList.length=s.size:=by simp
 refine ax ab func212 Z (by decide) ntmps212 Z (by simp) ?_;refine gA Z ?_;refine uD ab Z Z Z Z Z Z Z ?_;refine gA Z ?_;refine aM 0 s.size (OS _) (fun i=>⟨[(0,pS s),(1,.bX (.func 180) [] []),(2,pB is),(10,.ptr 0 0)],[(0,co (.c9 s i))],1⟩) (fun i=>(s.data.toList.take i).any (fun b=>!okB b)=jp) [] (by simp)
  (zW ⟨⟨_,rfl,.of_eq Z⟩,Oy Z,ac,ac⟩) fun i B x=>?_
 refine gA Z ?_;refine j6 Z Z Z Z Z Z (fun h1=>?_) (fun h1=>?_)
 .have j:s.data.toList.length<=i:=by omega
  rw[Ax,eY (any_none x j)];refine gA Z (zD [] Z (zW ac))
 .have u:i<s.data.toList.length:=by omega
  have y:s.data.toList.getD i ci=s.data.toList.getD i 0:=rfl;refine gA Z (zp (Of (Utf8.decode s i).1) ?_);refine zJ Z Z (fun j=>?_) fun j=>?_
  .have j:GF (Utf8.decode s i).1=jp:=by simpa using j
   have hb:okB (s.data.toList.getD i 0)=jp:=by
    cases hk:okB (s.data.toList.getD i 0) with
    |false=>rfl
    |true=>
     rw[Eh h1 hk]at j;exact absurd (hk.symm.trans j) (by simp)
   rw[Ax,fT x u (by rw[y,hb];rfl)];refine gA Z (zD [] Z (zW ac))
  .have j:GF (Utf8.decode s i).1=is:=by simpa using j
   have hb:okB (s.data.toList.getD i 0)=is:=by
    cases hk:okB (s.data.toList.getD i 0) with
    |true=>rfl
    |false=>exact absurd ((K3 h1 hk).symm.trans j) (by simp)
   have hd:=Eh h1 hb;refine gA Z ⟨h1,(cC x u).2 (by rw[y,hb];rfl),[],zW ⟨⟨_,rfl,.of_eq (by rw[hd];rfl)⟩,Oy Z,ac,ac⟩⟩
theorem HE(l:List UInt8):(l.any fun b=>!okB b)=!l.all okB:=by
 induction l with
 |nil=>rfl
 |cons x r ih=>simp only[RU,RB,ih];cases okB x<;>rfl
theorem d203(s:ak):bI prog 204 [pS s,.bX (.func 180) [] []] [] (pI (Ax s)) [] 0:=by
 refine ax ab func204 Z (by decide) ntmps204 Z (by simp) ?_;refine gA Z (zq [] (d217 s) ?_);refine gA Z (zD [] Z (zW ac))
theorem d180(s:ak):bI prog 179 [pS s,.bX (.func 180) [] []] [] (pB (!s.data.toList.all okB)) [] 0:=by
 refine ax ab func179 Z (by decide) ntmps179 Z (by simp) ?_;refine gA Z (zq [] (d203 s) ?_);refine gA Z (zD [] Z (zM ⟨.of_eq (lH ((fU _ _).trans (HE _))),rfl,ac⟩ ac))
theorem Nd(s:ak)(x hi:Int):Pure prog 138 [pS s,.iv (.v (.int .u8 x)),.iv (.v (.int .u8 hi))] (pB (rh s x hi)):=by
 refine ae ab func138 Z (by decide) ntmps138 Z (by simp) Z ?_;refine zE Z Z (fun h1=>?_) fun h1=>?_
 .have h1:s=⟨#[]⟩:=zT h1;refine gA Z (zL (.of_eq ?_));refine(lH ?_:pB _=pB _);subst h1;rfl
 have h1: ¬s=⟨#[]⟩:=zF h1;have y:=F9 h1;refine zE Z Z (fun b=>?_) fun b=>?_
 .have b:32<s.size:=zN b;refine gA Z (zL (.of_eq ?_));refine(lH ?_:pB _=pB _);have: ¬s.size<=32:=by omega
  simp[rh,this]
 have b:s.size<=32:=by have:=zF b;omega
 refine zE Z Z (fun j=>?_) fun j=>?_
 .have j:hd s<x:=zT j;refine gA Z (zL (.of_eq ?_));refine(lH ?_:pB _=pB _);have: ¬x<=hd s:=by omega
  simp[rh,this]
 have j:x<=hd s:=by have: ¬hd s<x:=zF j;omega
 refine zJ Z Z (fun u=>?_) fun u=>?_
 .have u:hi<hd s:=zT u;refine gA Z (zL (.of_eq ?_));refine(lH ?_:pB _=pB _);have: ¬hd s<=hi:=by omega
  simp[rh,this]
 have u:hd s<=hi:=by have: ¬hd s>hi:=zF u;omega
 refine gA Z (zq [] (d180 s) ?_);refine gA Z (zL (.of_eq ?_));refine(lH ?_:pB _=pB _);simp[rh,h1,b,j,u]
def Mw:List ak:=[⟨#[114,101,108,97,116,105,111,110]⟩,⟨#[110,111,116]⟩,⟨#[110,117,109]⟩,⟨#[115,121,109]⟩,⟨#[109,111,100]⟩,⟨#[99,111,117,110,116]⟩,⟨#[115,117,109]⟩,⟨#[109,105,110]⟩,⟨#[109,97,120]⟩]
def Mx(s:ak):Bool:=Mw.any fun x=>kw (s=x)
def ik(s:ak):Bool:=!Mx s&&rh s 97 122
def eU(s:ak):Bool:=rh s 65 90
theorem yZ(s:ak):Pure prog 187 [pS s] (pB (eU s)):=by
 refine ae ab func187 Z (by decide) ntmps187 Z (by simp) Z ?_;refine gA Z (zp (Nd s 65 90) ?_);exact zU Z
theorem Ns(s:ak):Pure prog 93 [pS s] (pB (ik s)):=by
 refine ae ab func93 Z (by decide) ntmps93 Z (by simp) Z ?_
 repeat' (first|(refine gA Z (zI (fun _=>?_) (fun _=>?_)))|(refine gA Z (zp (Nd s 97 122) ?_))|(refine gA Z (zL (.of_eq ?_))))
 all_goals(refine(lH ?_:pB _=pB _))
 all_goals(simp only[ik,Mx,Mw,RU,List.any_nil, *];rfl)
theorem Oj(v:dM):Pure prog 140 [ag v.c] (pB (!kw (cL v=0))):=by
 refine ae ab func140 Z (by decide) ntmps140 Z (by simp) Z ?_;refine gA Z (zp (Nc v) ?_);exact zU Z
theorem i182(l:List dM):bI prog 181 [.iv (bV 3 l dM.c),.bX (.func 140) [] []] [] (pI (nP (fun x:dM=>!kw (cL x=0)) l)) [] 0:=by
 refine nW (bc func181 Z (by decide)) ⟨_,_,OO⟩ fun j=>?_;simp only[maxLen]at j;refine ax ab func181 Z (by decide) ntmps181 Z (by simp) ?_;refine gA Z ?_
 refine aM 0 l.length (OS _) (fun i=>⟨[(0,.iv (bV 3 l dM.c)),(1,.bX (.func 140) [] []),(7,pI l.length),(8,pI i)],[],0⟩) (fun i=>(l.take i).any (fun x:dM=>!kw (cL x=0))=jp) [] (by simp)
  (zW trivial) fun i y u=>?_
 refine zJ Z Z (fun h1=>?_) fun h1=>?_
 .have h1:i<l.length:=by simpa using h1
  refine gA Z (zp (Oj (l.getD i ci)) ?_);refine zJ Z Z (fun b=>?_) fun b=>?_
  .have b:(fun x:dM=>!kw (cL x=0)) (l.getD i ci)=is:=b;rw[fT u h1 b];refine gA Z (zD [] Z (zW ac))
  .have b:(fun x:dM=>!kw (cL x=0)) (l.getD i ci)=jp:=b;refine gA Z ⟨h1,(cC u h1).2 b,[],zW ac⟩
 .have h1:l.length<=i:=by simpa using h1
  rw[eY (any_none u h1)];refine gA Z (zD [] Z (zW ac))
theorem d141(l:List dM):bI prog 139 [.iv (bV 3 l dM.c),.bX (.func 140) [] []] [] (pB (l.any (fun x:dM=>!kw (cL x=0)))) [] 0:=by
 refine ax ab func139 Z (by decide) ntmps139 Z (by simp) ?_;refine gA Z (zq [] (i182 l) ?_);refine gA Z (zD [] Z (zM ⟨.of_eq (lH (fU _ l)),rfl,ac⟩ ac))
def jF(f:Fact):Bool:=ik f.rel&&(kw (f.args.length<=8)&&f.args.all fun v=>kw (cL v=0))
theorem EG(l:List dM):(l.any fun x:dM=>!kw (cL x=0))=!l.all fun v=>kw (cL v=0):=by
 induction l with
 |nil=>rfl
 |cons x r ih=>simp only[RU,RB,ih];cases kw (cL x=0)<;>rfl
theorem c98(l:List dM):Pure prog 94 [.iv (bV 3 l dM.c)] (pB (l.all fun v=>kw (cL v=0))):=by
 refine ae ab func94 Z (by decide) ntmps94 Z (by simp) Z ?_;refine gA Z (zq [] (d141 l) ?_);refine gA Z (zL (.of_eq ?_));refine(lH ?_:pB _=pB _);rw[EG,Bool.not_not]
theorem c55(f:Fact):Pure prog 74 [ag f.c] (pI (if jF f then 0 else 20)):=by
 refine ae ab func74 Z (by decide) ntmps74 Z (by simp) Z ?_
 repeat' (first|(refine gA Z (zI (fun _=>?_) (fun _=>?_)))|(refine gA Z (zp (Ns f.rel) ?_))|(refine gA Z (zp (c98 f.args) ?_))|(refine gA Z (zL (.of_eq ?_))))
 all_goals(refine(BY ?_:pI _=pI _))
 all_goals(simp only[jF];simp_all)
 all_goals omega
section
theorem Rel.yq{M:Mem}{N:Nm}{U:Nat->Prop}{h u:AH}{w:World}(hr:Rel M N U h w)(e: ∀i,AH.get u i=h.get i):Rel M N U u w:=
 ⟨hr.dR,fun i o b=>hr.used i o (by rw[<-e];exact b),fun i o b=>hr.dD i o (by rw[<-e];exact b),fun i o b=>hr.obj i o (by rw[<-e];exact b),fun i j o p b x=>hr.inj i j o p (by rw[<-e];exact b) (by rw[<-e];exact x)⟩
theorem Ext.yq{M j:Mem}{N u:Nm}{U x:Nat->Prop}{h0 h y:AH}{w w':World}(b:Ext M N U h0 w j u x h w')(e: ∀i,AH.get y i=h.get i):Ext M N U h0 w j u x y w':=
 ⟨b.os,b.tape,b.output,b.size,b.dc,b.mO,b.fO,b.nm,b.ule,fun i o A=>b.ff i o (by rw[<-e];exact A)⟩
structure WS where
 fr:Bool
 l:List UInt8
 bad:Bool
 br:Int
abbrev WS.oR(w:WS)(i j:Nat):AO:= .cells [.dY w.fr i,.sl j 0 w.l.length 1,pB w.bad,pI w.br] (co 225)
abbrev WS.c(w:WS):AO:=w.oR 0 1
abbrev WS.O(w:WS):List AO:=[w.c,.bf w.l 5]
abbrev WS.H(w:WS):AH:=[(0,co (w.oR 0 2)),(2,co (.bf w.l 5))]
theorem d204(w:WS):bI prog 213 [.ptr 0 0] w.O (.bh []) [(0,co ({w with fr:=jp}:WS).c),(1,co (.bf w.l 5))] 2:=by
 refine⟨bc func213 Z (by decide),fun M N wd vs J A hv=>?_⟩;obtain⟨v,rfl⟩: ∃v,vs=[v]:=by
  cases vs with
  |nil=>cases A
  |cons v r=>cases r with
   |nil=>exact⟨v,rfl⟩
   |cons a b=>simp at A
 have R:VR M N (· <2) (.ptr 0 0) v:=hv 0 _ Z;have Y:v= .pointer (co ⟨N.az 0,0,io⟩):=by cases R;rfl
 subst Y;have G:AH.get (cP 0 w.O) 0=co w.c:=rfl;obtain⟨c,T,h1,h2,h3,h4,h5⟩:=J.obj 0 _ G;have hT:=h5 225 Z;subst hT;have B:c.size=4:=h3.symm;have a0:N.az 0<wd.heap.size:=(Pv.1 h1).1;have I:c.getD 0 undef= .pointer (bif w.fr then io else co ⟨N.az 0,0,io⟩):=by
  have:=h4 0 _ Z;generalize c.getD 0 undef=x at this;cases this;rfl
 have u:wd.cell? ⟨N.az 0,0,io⟩=co (c.getD 0 undef):=by
  rw[Lib.cell_of_heap h1,Oz,O4 (by omega)];rfl
 rw[I]at u;show Calls prog 213 #[_] wd _;cases hfr:w.fr with
 |false=>
  rw[hfr]at u;refine(Hv (N.az 0) wd u).mono ?_;rintro e w' ⟨rfl,rfl⟩;have hw:({w with fr:=jp}:WS)=w:=by cases w;simp_all
  rw[hw];exact⟨_,M,N,.bh [],_,2,rfl,⟨rfl,rfl,rfl⟩,.refl _ _ _ _ _,J,.bh [] #[] Z (by simp)⟩
 |true=>
  rw[hfr]at u;refine(Ex (N.az 0) wd u (by simp[World.shape?,h1,B]) (Lib.frozen_of_heap h1 0)).mono ?_;rintro e w' ⟨rfl,rfl⟩;have C:(wd.setCell ⟨N.az 0,0,io⟩ (.pointer (co ⟨N.az 0,0,io⟩))).heap[N.az 0]? =co (.cells (c.setIfInBounds 0 (.pointer (co ⟨N.az 0,0,io⟩))) 225 (0,0)):=by
   simp[World.setCell,Pd,h1]
  obtain⟨g1,g2⟩:=J.write (i:=0) (o0:=w.c) G Z (wd.setCell ⟨N.az 0,0,io⟩ (.pointer (co ⟨N.az 0,0,io⟩))) ({w with fr:=jp}:WS).c Z Z Z (by simp[World.setCell]) (fun b hb=>by
   simp only[World.setCell,Pd]
   rw[be (fun e=>hb e.symm)]) ⟨_,225,C,by simpa using h2,by simp[B],fun j p D=>by
    match j,D with
    |0,D=>
     cases D;rw[Oz,O5];simp only[if_true,B];exact .dY jp 0 (by show 0<2;decide)
    |j+1,D=>
     have:=h4 (j+1) p (by exact D);rw[Oz,O5,be (by omega)];rw[Oz]at this
     exact this,h5⟩
  have y: ∀i,AH.get [(0,co ({w with fr:=jp}:WS).c),(1,co (.bf w.l 5))] i=AH.get ((0,co ({w with fr:=jp}:WS).c)::cP 0 w.O) i:=by
   intro i
   match i with
   |0=>rfl
   |1=>rfl
   |i+2=>rfl
  exact⟨_,M,N,.bh [],_,2,rfl,⟨rfl,rfl,rfl⟩,Ext.yq g1 y,Rel.yq g2 y,.bh [] #[] Z (by simp)⟩
theorem d150(w:WS):bI prog 189 [.ptr 0 0] w.O (pS ⟨w.l.toArray⟩) [] 2:=by
 refine⟨bc func189 Z (by decide),fun M N wd vs hr D hv=>?_⟩;obtain⟨v,rfl⟩: ∃v,vs=[v]:=by
  cases vs with
  |nil=>cases D
  |cons v r=>cases r with
   |nil=>exact⟨v,rfl⟩
   |cons a b=>simp at D
 have j0:VR M N (· <2) (.ptr 0 0) v:=hv 0 _ Z;have k0:v= .pointer (co ⟨N.az 0,0,io⟩):=by cases j0;rfl
 subst k0;have i0:AH.get (cP 0 w.O) 0=co w.c:=rfl;have G:AH.get (cP 0 w.O) 1=co (.bf w.l 5):=rfl;obtain⟨c,T,h1,h2,h3,h4,h5⟩:=hr.obj 0 _ i0;have hT:=h5 225 Z;subst hT;have e0:c.size=4:=h3.symm;have b0: ∀(x1:Value),c.getD 1 undef=x1-> ∃p x y,c= #[p,x1,x,y]:=by
  intro x1 B;refine⟨c.getD 0 undef,c.getD 2 undef,c.getD 3 undef,?_⟩;apply Array.ext
  .simpa using e0
  .intro i u m0
   match i,u with
   |0,u=>simp[Oz,u]
   |1,u=>rw[<-B];simp[Oz,u]
   |2,u=>simp[Oz,u]
   |3,u=>simp[Oz,u]
   |i+4,u=>omega
 have A:=h4 1 _ Z;have I:=hr.obj 1 _ G;show Calls prog 189 #[_] wd _;by_cases hl:w.l=[]
 .have B:c.getD 1 undef= .slice io 0 0:=by
   generalize c.getD 1 undef=x at A;rw[hl]at A;generalize J:PV.sl 1 0 ([]:List UInt8).length 1=q at A;cases A with
   |sl i off len sz a0 h h0 h1 hc he=>cases J;simp at h0
   |lC i sz h=>rfl
   |_=>cases J
  obtain⟨p,x,y,rfl⟩:=b0 _ B;refine(K7 (N.az 0) p x y wd h1).mono ?_;rintro e w' ⟨rfl,rfl⟩;refine⟨.string ⟨#[]⟩,M,N,pS ⟨w.l.toArray⟩,[],2,rfl,⟨rfl,rfl,rfl⟩,?_,?_,.iv _ _ (by rw[hl];exact .v _)⟩
  .have:=Ext.drew (M:=M) (N:=N) (U:=(· <w.O.length)) (h:=cP 0 w.O) (w:=wd);exact⟨this.os,this.tape,this.output,this.size,this.dc,this.mO,this.fO,this.nm,this.ule,fun i o u=>(nomatch u)⟩
  .exact⟨hr.drew.dR,fun i o u=>(nomatch u),fun i o u=>(nomatch u),fun i o u=>(nomatch u),fun i j o p u=>(nomatch u)⟩
 .have Y:0<w.l.length:=PJ.2 hl;obtain⟨a0,B,R,f0⟩: ∃a0,c.getD 1 undef= .slice (co ⟨N.az 1,0,io⟩) w.l.length a0∧w.l.length<=a0∧a0<=maxLen:=by
   generalize c.getD 1 undef=x at A;generalize hn:w.l.length=n at A Y;generalize J:PV.sl 1 0 n 1=q at A;cases A with
   |sl i off len sz a0 h h0 hl hc he=>cases J;exact⟨a0,by simp,hl,hc⟩
   |lC i sz h=>cases J;omega
   |_=>cases J
  rcases I with I|⟨d0,q1,q2,q3,q4⟩
  .exact absurd I hl
  obtain⟨p,x,y,rfl⟩:=b0 _ B;refine(Hy (N.az 0) (N.az 1) a0 p x y d0 w.l wd h1 q1 q3 R f0 q4 hl).mono ?_;rintro e w' ⟨rfl,rfl⟩;have c0:(AO.bf w.l 5).real=is:=by cases hll:w.l with
   |nil=>exact absurd hll hl
   |cons=>rfl
  have hk: ∀b,b≠N.az 1->(wd.drew.freeze ⟨N.az 1,0,io⟩ w.l.length).heap[b]? =wd.heap[b]? :=by
   intro b hb;unfold World.freeze;split
   .rfl
   .show(wd.heap.modify _ _)[b]? =_;simp only[Pd];rw[be (fun e=>hb e.symm)]
  have C:(wd.drew.freeze ⟨N.az 1,0,io⟩ w.l.length).os=wd.os∧(wd.drew.freeze ⟨N.az 1,0,io⟩ w.l.length).tape=wd.tape∧(wd.drew.freeze ⟨N.az 1,0,io⟩ w.l.length).output=wd.output∧(wd.drew.freeze ⟨N.az 1,0,io⟩ w.l.length).heap.size=wd.heap.size:=by
   unfold World.freeze;split
   .exact⟨rfl,rfl,rfl,rfl⟩
   .exact⟨rfl,rfl,rfl,by show(wd.heap.modify _ _).size=_;simp⟩
  refine⟨_,M,N,pS ⟨w.l.toArray⟩,[],2,rfl,⟨rfl,rfl,rfl⟩,?_,?_,.iv _ _ (.v _)⟩
  .exact⟨C.1,C.2.1,⟨C.2.2.1,by unfold World.freeze;split<;>exact Qv _⟩,by rw[C.2.2.2];exact OL _,fun b hb hn=>hk b fun e=>hn 1 _ G c0 e.symm,.refl _,fun b c h1 h2=>by simp[h1]at h2,.refl _ _,fun _ h=>h,fun i o u=>(nomatch u)⟩
  .refine⟨fun b d hb=>?_,fun i o u=>(nomatch u),fun i o u=>(nomatch u),fun i o u=>(nomatch u),fun i j o p u=>(nomatch u)⟩;have g0:b≠N.az 1:=fun e=>by
    have:=hr.dD 1 _ G c0;rw[<-e,hb]at this;cases this
   exact(hr.dR b d hb).mono (hk b g0)
section
variable {nt:NT} {Q:AQ} {k:List KI} {s:AS}
def wS(s:AS)(w':WS)(i j:Nat):AS:=match s with|⟨f,h,n⟩=>⟨f,(i,co (w'.oR i n))::(n,co (.bf w'.l 5))::(i,io)::(j,io)::h,n+1⟩
theorem Lq(s:AS)(w':WS)(i j:Nat):wS s w' i j=⟨s.f,(i,co (w'.oR i s.nx))::(s.nx,co (.bf w'.l 5))::(i,io)::(j,io)::s.h,s.nx+1⟩:=by cases s;rfl
def Lp(s:AS)(w':WS)(i j m:Nat):AS:=match s with|⟨f,h,n⟩=>⟨f,(i,co (w'.oR i n))::(n,co (.bf w'.l 5))::(i,io)::(j,io)::(m,io)::h,n+1⟩
theorem Jf(s:AS)(w':WS)(i j m:Nat):Lp s w' i j m=⟨s.f,(i,co (w'.oR i s.nx))::(s.nx,co (.bf w'.l 5))::(i,io)::(j,io)::(m,io)::s.h,s.nx+1⟩:=by cases s;rfl
theorem wi{o:Oper}{c:Call}{g:FuncId}{args u:List PV}{w w':WS}{r:PV}{i j:Nat}{s':AS}(hc:bI prog g (.ptr 0 0::args) w.O r w'.H 3)(ho:o.op= .call c)(ha:bz s.f c=co (g,.ptr i 0::u))
  (hi:s.h.get i=co (w.oR i j)) (hj:s.h.get j=co (.bf w.l 5)) (hlt:O1 i s.nx=is) (hlj:O1 j s.nx=is) (hne:O2 i j=jp) (has:u=args) (hlow:bb 0 args=is) (hr:r.low 0=is)
  (hp:putDst nt o r (wS s w' i j)=co s'):OT prog nt o s (fun t=>t=s'):=by
 have y:i≠j:=fun e=>by subst e;simp at hne
 have A:([i,j]:List Nat).Nodup:=by simp[y]
 have C: ∀x∈ [i,j],x<s.nx:=by
  intro x B;simp only[OP,Ro,or_false]at B;rcases B with rfl|rfl
  .exact Oy hlt
  .exact Oy hlj
 subst has;have b: ∀σ,cW σ u=u:=fun σ=>fR σ u hlow;refine kV ho ha hc A C ?_ ?_ ?_
 .simp only[OZ,P9,hi,hj];rfl
 .simp only[cW,b];rfl
 .rintro q D n0 ⟨rfl,rfl,rfl⟩;rw[PV.ir _ _ hr];rw[Lq]at hp;exact⟨s',hp,rfl⟩
theorem MS{all rest:List Oper}{o:Oper}{c:Call}{g:FuncId}{args b:List PV}{w w':WS}{r:PV}{i j:Nat}{s':AS}(hc:bI prog g (.ptr 0 0::args) w.O r w'.H 3)(ho:o.op= .call c)(hg:o.guard=io)(ha:bz s.f c=co (g,.ptr i 0::b))
  (hi:s.h.get i=co (w.oR i j)) (hj:s.h.get j=co (.bf w.l 5)) (hlt:O1 i s.nx=is) (hlj:O1 j s.nx=is) (hne:O2 i j=jp) (has:b=args) (hlow:bb 0 args=is) (hr:r.low 0=is)
  (hp:putDst nt o r (wS s w' i j)=co s') (h:GO prog nt (.ops all rest::k) Q s'):GO prog nt (.ops all (o::rest)::k) Q s:=
 cG hg (wi hc ho ha hi hj hlt hlj hne has hlow hr hp) fun t u=>by subst u;exact h
theorem fV{all rest:List Oper}{o:Oper}{c:Call}{g:FuncId}{args b:List PV}{w w':WS}{r:PV}{i j:Nat}{s':AS}(hc:bI prog g (.ptr 0 0::args) w.O r w'.H 3)(h:GO prog nt (.ops all rest::k) Q s')(ho:o.op= .call c:=by exact rfl)(hg:o.guard=io:=by exact rfl)(ha:bz s.f c=co (g,.ptr i 0::b):=by exact rfl)(hi:s.h.get i=co (w.oR i j):=by exact rfl)(hj:s.h.get j=co (.bf w.l 5):=by exact rfl)(hlt:O1 i s.nx=is:=by exact rfl)(hlj:O1 j s.nx=is:=by exact rfl)(hne:O2 i j=jp:=by exact rfl)(has:b=args:=by exact rfl)(hlow:bb 0 args=is:=by exact rfl)(hr:r.low 0=is:=by exact rfl)(hp:putDst nt o r (wS s w' i j)=co s':=by exact rfl):GO prog nt (.ops all (o::rest)::k) Q s:=MS (hc:=hc) (ho:=ho) (hg:=hg) (ha:=ha) (hi:=hi) (hj:=hj) (hlt:=hlt) (hlj:=hlj) (hne:=hne) (has:=has) (hlow:=hlow) (hr:=hr) (hp:=hp) (h:=h)
theorem y4{o:Oper}{c:Call}{g:FuncId}{b:List ak}{w w':WS}{i j m n:Nat}{s':AS}(hc:bI prog g [.ptr 0 0,.sl 2 0 b.length 1] [w.c,.bf w.l 5,aT 1 b cM] (.bh []) [(0,co (w'.oR 0 3)),(3,co (.bf w'.l 5))] 4)(ho:o.op= .call c)(ha:bz s.f c=co (g,[.ptr i 0,.sl m 0 n 1]))
  (hi:s.h.get i=co (w.oR i j)) (hj:s.h.get j=co (.bf w.l 5)) (hm:s.h.get m=co (aT 1 b cM)) (hn:n=b.length) (hlt:O1 i s.nx=is) (hlj:O1 j s.nx=is) (hlm:O1 m s.nx=is) (hnd:ch [i,j,m]=is)
  (hp:putDst nt o (.bh []) (Lp s w' i j m)=co s'):OT prog nt o s (fun t=>t=s'):=by
 have y: ∀x∈ [i,j,m],x<s.nx:=by
  intro x u;simp only[OP,Ro,or_false]at u;rcases u with rfl|rfl|rfl
  .exact Oy hlt
  .exact Oy hlj
  .exact Oy hlm
 subst hn;refine kV ho ha hc (ej hnd) y ?_ Z ?_
 .simp only[OZ,P9,hi,hj,hm,b3];rfl
 .rintro q A n0 ⟨rfl,rfl,rfl⟩;rw[Jf]at hp;exact⟨s',hp,rfl⟩
theorem go_wp{all rest:List Oper}{o:Oper}{c:Call}{g:FuncId}{b:List ak}{w w':WS}{i j m n:Nat}{s':AS}(hc:bI prog g [.ptr 0 0,.sl 2 0 b.length 1] [w.c,.bf w.l 5,aT 1 b cM] (.bh []) [(0,co (w'.oR 0 3)),(3,co (.bf w'.l 5))] 4)(ho:o.op= .call c)(hg:o.guard=io)(ha:bz s.f c=co (g,[.ptr i 0,.sl m 0 n 1]))
  (hi:s.h.get i=co (w.oR i j)) (hj:s.h.get j=co (.bf w.l 5)) (hm:s.h.get m=co (aT 1 b cM)) (hn:n=b.length) (hlt:O1 i s.nx=is) (hlj:O1 j s.nx=is) (hlm:O1 m s.nx=is) (hnd:ch [i,j,m]=is)
  (hp:putDst nt o (.bh []) (Lp s w' i j m)=co s')
  (h:GO prog nt (.ops all rest::k) Q s'):GO prog nt (.ops all (o::rest)::k) Q s:=
 cG hg (y4 hc ho ha hi hj hm hn hlt hlj hlm hnd hp) fun t u=>by subst u;exact h
theorem gT{all rest:List Oper}{o:Oper}{c:Call}{g:FuncId}{b:List ak}{w w':WS}{i j m n:Nat}{s':AS}(hc:bI prog g [.ptr 0 0,.sl 2 0 b.length 1] [w.c,.bf w.l 5,aT 1 b cM] (.bh []) [(0,co (w'.oR 0 3)),(3,co (.bf w'.l 5))] 4)(h:GO prog nt (.ops all rest::k) Q s')(ho:o.op= .call c:=by exact rfl)(hg:o.guard=io:=by exact rfl)(ha:bz s.f c=co (g,[.ptr i 0,.sl m 0 n 1]):=by exact rfl)(hi:s.h.get i=co (w.oR i j):=by exact rfl)(hj:s.h.get j=co (.bf w.l 5):=by exact rfl)(hm:s.h.get m=co (aT 1 b cM):=by exact rfl)(hn:n=b.length:=by exact rfl)(hlt:O1 i s.nx=is:=by exact rfl)(hlj:O1 j s.nx=is:=by exact rfl)(hlm:O1 m s.nx=is:=by exact rfl)(hnd:ch [i,j,m]=is:=by exact rfl)(hp:putDst nt o (.bh []) (Lp s w' i j m)=co s':=by exact rfl):GO prog nt (.ops all (o::rest)::k) Q s:=go_wp (hc:=hc) (ho:=ho) (hg:=hg) (ha:=ha) (hi:=hi) (hj:=hj) (hm:=hm) (hn:=hn) (hlt:=hlt) (hlj:=hlj) (hlm:=hlm) (hnd:=hnd) (hp:=hp) (h:=h)
theorem vN{all:List Oper}{todo pend:List (Nat×Oper)}{u:Nat}{A y:Prop}{o:Oper}{c:Call}{g:FuncId}{b:List ak}{w w':WS}{i j m n:Nat}{s':AS}(hc:bI prog g [.ptr 0 0,.sl 2 0 b.length 1] [w.c,.bf w.l 5,aT 1 b cM] (.bh []) [(0,co (w'.oR 0 3)),(3,co (.bf w'.l 5))] 4)
  (hrd:eH todo=[(u,o)]) (ho:o.op= .call c) (ha:bz s.f c=co (g,[.ptr i 0,.sl m 0 n 1]))
  (hi:s.h.get i=co (w.oR i j)) (hj:s.h.get j=co (.bf w.l 5)) (hm:s.h.get m=co (aT 1 b cM)) (hn:n=b.length) (hlt:O1 i s.nx=is) (hlj:O1 j s.nx=is) (hlm:O1 m s.nx=is) (hnd:ch [i,j,m]=is)
  (hp:putDst nt o (.bh []) (Lp s w' i j m)=co s')
  (hg:bS nt all s.f o=co is) (hpb:gI all pend o=is) (hE:mH todo [u]=is)
  (hag:mI ni nt all s todo pend=co A) (hCA:A) (hag2:dy ni nt all s' (aX pend o)=co y) (hC2:y)
  (h:GO prog nt (.bR all (todo.filter fun x=>!O2 x.1 u) (aX pend o)::k) Q s'):GO prog nt (.bR all todo pend::k) Q s:=
 kO ab hrd hg hpb hE hag hCA (y4 hc ho ha hi hj hm hn hlt hlj hlm hnd hp) hag2 hC2 h
theorem MT{all:List Oper}{todo pend:List (Nat×Oper)}{b:Nat}{y u:Prop}{o:Oper}{c:Call}{g:FuncId}{args A:List PV}{w w':WS}{r:PV}{i j:Nat}{s':AS}(hc:bI prog g (.ptr 0 0::args) w.O r w'.H 3)
  (hrd:eH todo=[(b,o)]) (ho:o.op= .call c) (ha:bz s.f c=co (g,.ptr i 0::A))
  (hi:s.h.get i=co (w.oR i j)) (hj:s.h.get j=co (.bf w.l 5)) (hlt:O1 i s.nx=is) (hlj:O1 j s.nx=is) (hne:O2 i j=jp) (has:A=args) (hlow:bb 0 args=is) (hr:r.low 0=is)
  (hp:putDst nt o r (wS s w' i j)=co s')
  (hg:bS nt all s.f o=co is) (hpb:gI all pend o=is) (hE:mH todo [b]=is)
  (hag:mI ni nt all s todo pend=co y) (hCA:y) (hag2:dy ni nt all s' (aX pend o)=co u) (hC2:u)
  (h:GO prog nt (.bR all (todo.filter fun x=>!O2 x.1 b) (aX pend o)::k) Q s'):GO prog nt (.bR all todo pend::k) Q s:=
 kO ab hrd hg hpb hE hag hCA (wi hc ho ha hi hj hlt hlj hne has hlow hr hp) hag2 hC2 h
theorem tq{all:List Oper}{todo pend:List (Nat×Oper)}{b:Nat}{y u:Prop}{o:Oper}{c:Call}{g:FuncId}{args A:List PV}{w w':WS}{r:PV}{i j:Nat}{s':AS}(hc:bI prog g (.ptr 0 0::args) w.O r w'.H 3)(h:GO prog nt (.bR all (todo.filter fun x=>!O2 x.1 b) (aX pend o)::k) Q s')(hrd:eH todo=[(b,o)]:=by exact rfl)(ho:o.op= .call c:=by exact rfl)(ha:bz s.f c=co (g,.ptr i 0::A):=by exact rfl)(hi:s.h.get i=co (w.oR i j):=by exact rfl)(hj:s.h.get j=co (.bf w.l 5):=by exact rfl)(hlt:O1 i s.nx=is:=by exact rfl)(hlj:O1 j s.nx=is:=by exact rfl)(hne:O2 i j=jp:=by exact rfl)(has:A=args:=by exact rfl)(hlow:bb 0 args=is:=by exact rfl)(hr:r.low 0=is:=by exact rfl)(hp:putDst nt o r (wS s w' i j)=co s':=by exact rfl)(hg:bS nt all s.f o=co is:=by exact rfl)(hpb:gI all pend o=is:=by exact rfl)(hE:mH todo [b]=is:=by exact rfl)(hag:mI ni nt all s todo pend=co y:=by exact rfl)(hCA:y:=by(repeat' (first|exact ac|exact rfl|exact an.refl _|exact an.bk (by assumption)|apply OF))<;>first|omega|(simp only[OG];omega)|(simp;done)|(simp;omega))(hag2:dy ni nt all s' (aX pend o)=co u:=by exact rfl)(hC2:u:=by(repeat' (first|exact ac|exact rfl|exact an.refl _|exact an.bk (by assumption)|apply OF))<;>first|omega|(simp only[OG];omega)|(simp;done)|(simp;omega)):GO prog nt (.bR all todo pend::k) Q s:=MT (hc:=hc) (hrd:=hrd) (ho:=ho) (ha:=ha) (hi:=hi) (hj:=hj) (hlt:=hlt) (hlj:=hlj) (hne:=hne) (has:=has) (hlow:=hlow) (hr:=hr) (hp:=hp) (hg:=hg) (hpb:=hpb) (hE:=hE) (hag:=hag) (hCA:=hCA) (hag2:=hag2) (hC2:=hC2) (h:=h)
theorem D7{l:List ResultVar}{r r0 a b c d:PV}{e:Exit}{w':WS}{j n:Nat}(he:e= .normal∨e= .ret)(hr:iF ni s l=co r0)(hi:s.h.get 0=co (.cells [a,b,c,d] (co 225)))(ha:a= .dY w'.fr 0)(hb:b= .sl j 0 n 1)(hn:n=w'.l.length)(hc:an c (pB w'.bad))(hd:an d (pI w'.br))
  (hj:s.h.get j=co (.bf w'.l 5)) (hlj:O1 j s.nx=is) (hne:O2 0 j=jp) (hns:Qx 2 s.nx=is)
  (hrl:an r0 r) (hlow:r.low 0=is) (hlow3:r.low 3=is):y2 ni l 2 r w'.H 3 e s:=by
 subst ha;subst hb;subst hn;refine bj [j] he hr ⟨rfl,Oy hns,fun x u=>?_,⟨?_,hlow3,ac⟩,⟨⟨_,hi,.cells ⟨.refl _,.refl _,hc,hd,ac⟩⟩,Oy Z,rfl,⟨.bf w'.l 5,hj,.of_eq Z⟩,Oy Z,ac,ac⟩,?_⟩
 .simp only[OM]at u;subst u;exact Oy hlj
 .rw[PV.ir _ _ hlow];exact hrl
 .have:(0:Nat)≠j:=fun e=>by subst e;simp at hne
  show([0,j]:List Nat).Nodup;simpa using this
theorem gx{l:List ResultVar}{r r0 a b c d:PV}{e:Exit}{w':WS}{j n:Nat}(he:e= .normal∨e= .ret:=by first|exact .inr Z|exact .inl Z)(hr:iF ni s l=co r0:=by exact rfl)(hi:s.h.get 0=co (.cells [a,b,c,d] (co 225)):=by exact rfl)(ha:a= .dY w'.fr 0:=by exact rfl)(hb:b= .sl j 0 n 1:=by exact rfl)(hn:n=w'.l.length:=by exact rfl)(hc:an c (pB w'.bad):=by first|exact .refl _|exact .kb _)(hd:an d (pI w'.br):=by first|exact .refl _|exact .kb _)(hj:s.h.get j=co (.bf w'.l 5):=by exact rfl)(hlj:O1 j s.nx=is:=by exact rfl)(hne:O2 0 j=jp:=by exact rfl)(hns:Qx 2 s.nx=is:=by exact rfl)(hrl:an r0 r:=by exact .refl _)(hlow:r.low 0=is:=by exact rfl)(hlow3:r.low 3=is:=by exact rfl):y2 ni l 2 r w'.H 3 e s:=D7 (he:=he) (hr:=hr) (hi:=hi) (ha:=ha) (hb:=hb) (hn:=hn) (hc:=hc) (hd:=hd) (hj:=hj) (hlj:=hlj) (hne:=hne) (hns:=hns) (hrl:=hrl) (hlow:=hlow) (hlow3:=hlow3)
theorem Nw{n0 j m:Nat}{B:AF}{w w':WS}{a b c d:PV}(hw:w=w')(hi:s.h.get 0=co (.cells [a,b,c,d] (co 225)))(ha:a= .dY w.fr 0)(hb:b= .sl j 0 m 1)(hm:m=w.l.length)(hc:an c (pB w.bad))(hd:an d (pI w.br))(hj:s.h.get j=co (.bf w.l 5))
  (hlj:O1 j s.nx=is) (hne:O2 0 j=jp) (h0:O1 0 n0=is) (hns:Qx n0 s.nx=is) (hf:B2 (n0+1) (sg n0 [j]) s.f B):Wk n0 [j] s ⟨B,[(0,co (w'.oR 0 n0)),(n0,co (.bf w'.l 5))],n0+1⟩:=by
 subst hw;subst ha;subst hb;subst hm;have u:0<n0:=Oy h0;have s0:sg n0 [j] 0=0:=fa u;have C:O1 n0 n0=jp:=QU.2 fun e=>absurd (Oy e) (by omega);have D:O1 0 (n0+1)=is:=Pu (by omega);have G:O1 n0 (n0+1)=is:=Pu (by omega);have y:sg n0 [j] n0=j:=by simp[sg,C]
 refine⟨rfl,Oy hns,fun x A=>?_,hf,⟨⟨_,by rw[s0];exact hi,?_⟩,PY u,?_,⟨.bf w.l 5,by rw[y];exact hj,.of_eq Z⟩,Qc _,ac,ac⟩,?_⟩
 .simp only[OM]at A;subst A;exact Oy hlj
 .simp only[AO.cj,cW,PV.cj,s0,y];exact .cells ⟨.refl _,.refl _,hc,hd,ac⟩
 .simp[AO.low,bb,PV.low,D,G]
 .have:(0:Nat)≠j:=fun e=>by subst e;simp at hne
  simp only[dX,s0,y];simpa using this
theorem n4{n0 j m:Nat}{u:AF}{w w':WS}{a b c d:PV}(hw:w=w')(hi:s.h.get 0=co (.cells [a,b,c,d] (co 225)):=by exact rfl)(ha:a= .dY w.fr 0:=by exact rfl)(hb:b= .sl j 0 m 1:=by exact rfl)(hm:m=w.l.length:=by exact rfl)(hc:an c (pB w.bad):=by first|exact .refl _|exact .kb _)(hd:an d (pI w.br):=by first|exact .refl _|exact .kb _)(hj:s.h.get j=co (.bf w.l 5):=by exact rfl)(hlj:O1 j s.nx=is:=by exact rfl)(hne:O2 0 j=jp:=by exact rfl)(h0:O1 0 n0=is:=by exact rfl)(hns:Qx n0 s.nx=is:=by exact rfl)(hf:B2 (n0+1) (sg n0 [j]) s.f u:=by repeat' (first|exact ac|exact an.refl _|exact rfl|apply OF)):Wk n0 [j] s ⟨u,[(0,co (w'.oR 0 n0)),(n0,co (.bf w'.l 5))],n0+1⟩:=Nw (hw:=hw) (hi:=hi) (ha:=ha) (hb:=hb) (hm:=hm) (hc:=hc) (hd:=hd) (hj:=hj) (hlj:=hlj) (hne:=hne) (h0:=h0) (hns:=hns) (hf:=hf)
end
end
def w6(w:WS)(s:ak):WS:=⟨jp,w.l++s.data.toList,w.bad,w.br⟩
theorem d183(w:WS)(s:ak)(hb:w.l.length+s.size<=140737488355328):bI prog 205 [.ptr 0 0,pS s] w.O (.bh [pI s.size,.iv (.v .nilIface)]) (w6 w s).H 3:=by
 refine ax ab func205 Z (by decide) ntmps205 Z (by simp) ?_;refine gA Z (zq [0,1] (d204 w) ?_);refine gA Z ?_;refine G7 ab Z Z Z Z Z Z Z Z Z Z Z Z Z Z Z Z hb ?_;refine gA Z gx
def aP(w:WS)(b:Bool):WS:=⟨w.fr,w.l,w.bad||!b,w.br⟩
theorem GL(w:WS){b:Bool}(h:(!b)=jp):aP w b=w:=by cases w;simp_all [aP]
theorem GN(w:WS){b:Bool}(h:(!b)=is):aP w b=⟨w.fr,w.l,is,w.br⟩:=by cases w;simp_all [aP]
theorem d146(w:WS)(b:Bool):bI prog 185 [.ptr 0 0,pB b] w.O (.bh []) (aP w b).H 3:=by
 refine ax ab func185 Z (by decide) ntmps185 Z (by simp) ?_;refine zJ Z Z (fun h=>?_) fun h=>?_
 .rw[GN w h];refine gA Z gx
 .rw[GL w h];refine gA Z gx
def aS(w:WS)(b:List ak):WS:=b.foldl w6 w
def eG(b:List ak):Nat:=(b.map RQ).sum
theorem CZ(w:WS)(s:ak):(w6 w s).l.length=w.l.length+s.size:=by simp[w6]
theorem gH: ∀(b:List ak) (w:WS),(aS w b).l.length=w.l.length+eG b
 | [],w=>by simp[aS,eG]
 |s::r,w=>by
  have:=gH r (w6 w s);simp only[aS,Pr]at this ⊢;rw[this,CZ];simp[eG];omega
theorem rD: ∀(b:List ak) (i:Nat),i<b.length->eG (b.take i)+(b.getD i ci).size<=eG b
 | [],i,h=>by simp at h
 |s::r,0,_=>by simp[eG]
 |s::r,i+1,h=>by
  have:=rD r i (by simpa using h);simp[eG]at this ⊢;omega
theorem d147(w:WS)(j:List ak)(hl:j.length<=1000)(hb:w.l.length+eG j<=140737488355328):bI prog 186 [.ptr 0 0,.sl 2 0 j.length 1] [w.c,.bf w.l 5,aT 1 j cM] (.bh []) [(0,co ((aS w j).oR 0 3)),(3,co (.bf (aS w j).l 5))] 4:=by
 refine ax ab func186 Z (by decide) ntmps186 Z (by simp) ?_;refine gA Z ?_;refine vL 2 (fun k=>cM (j.getD k ci)) Z (gz Z) (by simp[AF.qO,PV.dC,kY]) ⟨(by simp[AO.qO,dQ,PV.dC]),ac,wT _ _ _ _ _ _,ac⟩ ?_;refine aM 0 j.length (OS _) (fun i=>⟨[(0,.ptr 0 0),(6,.iv (strs j)),(7,pI j.length),(8,pI i)],[(0,co ((aS w (j.take i)).oR 0 3)),(3,co (.bf (aS w (j.take i)).l 5))],4⟩) (fun _=>True) [1] ac
  (zM (bi ⟨.cp Z (fun k _=>by rw[O8]),rfl,bi (bi trivial)⟩) ⟨⟨_,rfl,.of_eq Z⟩,Oy Z,rfl,⟨_,rfl,.of_eq Z⟩,Oy Z,ac,ac⟩) fun i x _=>?_
 refine zJ Z Z (fun h1=>?_) fun h1=>?_
 .have h1:i<j.length:=zN h1;have hs:aS w (j.take (i+1))=w6 (aS w (j.take i)) (j.getD i ci):=gq (g:=w6) (b:=w) h1;have u:=gH (j.take i) w;have y:=rD j i h1;refine gA Z (fV (d183 (aS w (j.take i)) (j.getD i ci) (by omega)) ?_);refine gA Z ⟨h1,ac,[4],zW ⟨⟨_,rfl,.of_eq (by rw[hs];rfl)⟩,Oy Z,rfl,⟨_,rfl,.of_eq (by rw[hs];rfl)⟩,Oy Z,ac,ac⟩⟩
 .have h1:j.length<=i:=zG h1;rw[OY h1];refine gA Z (zD [3] Z (zW ⟨⟨_,rfl,.of_eq Z⟩,Oy Z,rfl,⟨_,rfl,.of_eq Z⟩,Oy Z,ac,ac⟩))
end Go.Proofs.YtllkaddcplhklaaGreatDoor
namespace Go.Proofs
open Go.Shelf
def Tryz.vH:Go.Shelf.Ren:=⟨fun|171=>219|243=>221|246=>222|283=>223|284=>224|285=>225|286=>226|129=>104|317=>227|318=>228|319=>229|320=>230|337=>231|338=>232|n=>n,fun|3=>3|9=>9|2=>2|4=>4|171=>295|0=>0|53=>177|37=>221|5=>5|173=>297|212=>300|51=>175|20=>20|213=>301|46=>147|232=>302|233=>303|n=>n,fun|17=>1|18=>2|19=>3|n=>n⟩
theorem Tryz.DB:Go.Proofs.LaysM.n171 Tryz.prog Tryz.vH:={
 mixed:=by kernel_rfl
 f129:=Tryz.func104.trans (congrArg co (by kernel_rfl))
 f171:=Tryz.func219.trans (congrArg co (by kernel_rfl))
 f243:=Tryz.func221.trans (congrArg co (by kernel_rfl))
 f246:=Tryz.func222.trans (congrArg co (by kernel_rfl))
 f283:=Tryz.func223.trans (congrArg co (by kernel_rfl))
 f284:=Tryz.func224.trans (congrArg co (by kernel_rfl))
 f285:=Tryz.func225.trans (congrArg co (by kernel_rfl))
 f286:=Tryz.func226.trans (congrArg co (by kernel_rfl))
 f317:=Tryz.func227.trans (congrArg co (by kernel_rfl))
 f318:=Tryz.func228.trans (congrArg co (by kernel_rfl))
 f319:=Tryz.func229.trans (congrArg co (by kernel_rfl))
 f320:=Tryz.func230.trans (congrArg co (by kernel_rfl))
 f337:=Tryz.func231.trans (congrArg co (by kernel_rfl))
 f338:=Tryz.func232.trans (congrArg co (by kernel_rfl))
 t0:=Tryz.underlying0
 a0:=Tryz.isAgg0
 z0:=Tryz.sizeOf0
 v0:=Tryz.zeroValue0
 t2:=Tryz.underlying2
 a2:=Tryz.isAgg2
 z2:=Tryz.sizeOf2
 v2:=Tryz.zeroValue2
 t3:=Tryz.underlying3
 a3:=Tryz.isAgg3
 z3:=Tryz.sizeOf3
 v3:=Tryz.zeroValue3
 t4:=Tryz.underlying4
 a4:=Tryz.isAgg4
 z4:=Tryz.sizeOf4
 v4:=Tryz.zeroValue4
 t5:=Tryz.underlying5
 a5:=Tryz.isAgg5
 z5:=Tryz.sizeOf5
 v5:=Tryz.zeroValue5
 t9:=Tryz.underlying9
 a9:=Tryz.isAgg9
 z9:=Tryz.sizeOf9
 v9:=Tryz.zeroValue9
 t20:=Tryz.underlying20
 a20:=Tryz.isAgg20
 z20:=Tryz.sizeOf20
 v20:=Tryz.zeroValue20
 t37:=Tryz.underlying221
 a37:=Tryz.isAgg221
 z37:=Tryz.sizeOf221
 v37:=Tryz.zeroValue221
 t46:=Tryz.underlying147
 a46:=Tryz.isAgg147
 z46:=Tryz.sizeOf147
 v46:=Tryz.zeroValue147
 t51:=Tryz.underlying175
 a51:=Tryz.isAgg175
 z51:=Tryz.sizeOf175
 v51:=Tryz.zeroValue175
 t53:=Tryz.underlying177
 a53:=Tryz.isAgg177
 z53:=Tryz.sizeOf177
 v53:=Tryz.zeroValue177
 t171:=Tryz.underlying295
 a171:=Tryz.isAgg295
 z171:=Tryz.sizeOf295
 v171:=Tryz.zeroValue295
 t173:=Tryz.underlying297
 a173:=Tryz.isAgg297
 z173:=Tryz.sizeOf297
 v173:=Tryz.zeroValue297
 t212:=Tryz.underlying300
 a212:=Tryz.isAgg300
 z212:=Tryz.sizeOf300
 v212:=Tryz.zeroValue300
 t213:=Tryz.underlying301
 a213:=Tryz.isAgg301
 z213:=Tryz.sizeOf301
 t232:=Tryz.underlying302
 a232:=Tryz.isAgg302
 z232:=Tryz.sizeOf302
 v232:=Tryz.zeroValue302
 t233:=Tryz.underlying303
 a233:=Tryz.isAgg303
 z233:=Tryz.sizeOf303
 v233:=Tryz.zeroValue303
 g17:=by kernel_rfl
 g18:=by kernel_rfl
 g19:=by kernel_rfl
 i0:=by kernel_rfl
 i2:=by kernel_rfl
 i3:=by kernel_rfl
 i4:=by kernel_rfl
 i5:=by kernel_rfl
 i9:=by kernel_rfl
 i20:=by kernel_rfl
 i37:=by kernel_rfl
 i46:=by kernel_rfl
 i51:=by kernel_rfl
 i53:=by kernel_rfl
 i171:=by kernel_rfl
 i173:=by kernel_rfl
 i212:=by kernel_rfl
 i232:=by kernel_rfl
 i233:=by kernel_rfl
 m17:=by kernel_rfl
 m18:=by kernel_rfl
 m19:=by kernel_rfl}
theorem YtllkaddcplhklaaGreatDoor.ML (n:Int) (h0: -9223372036854775808<=n) (h1:n<=9223372036854775807) (w:World) (b:Lib.TabIs Tryz.prog w "internal/strconv.uint64pow10" .u64 Lib.pow10Tab):
  Calls Tryz.prog 219 #[.int .i64 n] w fun e w'=>e= .returned (.string ⟨(Lib.itoa n).toArray⟩)∧ ∃k os,w'=Go.Sort.grow (w.drewN k) os:=Any.strconv_Itoa Tryz.DB n h0 h1 w b
end Go.Proofs
namespace Go.Proofs.YtllkaddcplhklaaGreatDoor
open Go Go.Al Go.Proofs.Tryz
theorem NQ:prog.globalNamed "internal/strconv.uint64pow10" =co 1:=by kernel_rfl
theorem pow_eq:nF=Lib.pow10Tab:=by decide
theorem Ny{M:Mem}{N:Nm}{U:Nat->Prop}{h:AH}{w:World}(hr:Rel M N U h w):Lib.TabIs prog w "internal/strconv.uint64pow10" .u64 Lib.pow10Tab:=by
 obtain⟨T,b,h1⟩:=hr.dR 1 _ (M.Hh 1 _ Z);show World.var? _ _ _=_;simp only[World.var?,NQ,QK,h1,pow_eq]
theorem Oa(n:Int)(h0: -9223372036854775808<=n)(h1:n<=9223372036854775807):Pure prog 219 [pI n] (pS ⟨(Lib.itoa n).toArray⟩):=by
 refine⟨bc func219 Z (by decide),fun M N w vs y x D=>?_⟩;obtain⟨v,rfl⟩: ∃v,vs=[v]:=by
  cases vs with
  |nil=>cases x
  |cons v r=>cases r with
   |nil=>exact⟨v,rfl⟩
   |cons a b=>simp at x
 have A:VR M N (· <0) (pI n) v:=D 0 _ Z;have B:v= .int .i64 n:=by
  cases A with
  |iv _ _ h=>cases h;rfl
 subst B;refine(ML n h0 h1 w (Ny y)).mono ?_;rintro e w' ⟨rfl,k,os,rfl⟩;have hk: ∀b,b<w.heap.size->(Go.Sort.grow (w.drewN k) os).heap[b]? =w.heap[b]? :=fun b hb=>by
  show(w.heap++os)[b]? =_;rw[Pc hb]
 refine⟨_,M,N,pS ⟨(Lib.itoa n).toArray⟩,[],0,rfl,⟨rfl,rfl,rfl⟩,⟨rfl,rfl,⟨rfl,Rn _ _⟩,?_,fun b hb _=>hk b hb,.refl _,fun b c h1 C=>(nomatch (h1.symm.trans C)),.refl _ _,fun _ h=>h,fun i o u=>(nomatch u)⟩,⟨fun b c hb=>?_,fun i o u=>(nomatch u),fun i o u=>(nomatch u),fun i o u=>(nomatch u),fun i j o p u=>(nomatch u)⟩,.iv _ _ (.v _)⟩
 .show w.heap.size<=(w.heap++os).size;simp
 .exact(y.dR b c hb).mono (hk b (y.dR b c hb).lt)
def NP:ak:=⟨#[48,49,50,51,52,53,54,55,56,57,65,66,67,68,69,70]⟩
def Lk(c:UInt8):Int:=(c.toNat:Int).fdiv (2 ^ min (Int.toNat 4) IntKind.u8.bits)
def Lj(c:UInt8):Int:=IntKind.u8.wrap ((BitVec.ofInt IntKind.u8.bits (c.toNat:Int)&&&BitVec.ofInt IntKind.u8.bits 15).toNat:Int)
theorem KO(c:UInt8):0<=Lk c∧Lk c<16:=by
 have h:c.toNat<256:=c.toNat_lt;have e:Lk c=(c.toNat:Int)/16:=by
  unfold Lk;have:(2:Int) ^ min (Int.toNat 4) IntKind.u8.bits=16:=by decide
  rw[this];exact Int.fdiv_eq_ediv_of_nonneg _ (by decide)
 rw[e];omega
theorem KJ: ∀c:UInt8,0<=Lj c∧Lj c<16:=by
 intro c;have h: ∀n:Fin 256,0<=Lj (UInt8.ofNat n.val)∧Lj (UInt8.ofNat n.val)<16:=by decide
 have:=h ⟨c.toNat,c.toNat_lt⟩;simpa using this
def MP(n:Int):UInt8:=NP.data.toList.getD n.toNat 0
def qB(c:UInt8):List UInt8:=if c.toNat=34∨c.toNat=92 then[92,c] else if c.toNat=10 then[92,110] else if c.toNat<32∨126<c.toNat then[92,120,MP (Lk c),MP (Lj c)] else[c]
theorem Ku(c:UInt8):(qB c).length<=4:=by
 unfold qB
 repeat' split
 all_goals simp
def pd(s:ak)(i:Nat):List UInt8:=34::(s.data.toList.take i).flatMap qB
def o9(s:ak):ak:=⟨(34::s.data.toList.flatMap qB++ [34]).toArray⟩
theorem rO(s:ak): ∀i,(pd s i).length<=1+4*i
 |0=>by simp[pd]
 |i+1=>by
  have h:=rO s i;rcases PB i s.data.toList.length with hi|hi
  .have:=Ku (s.data.toList.getD i ci);simp only[pd,Pb]at h ⊢;rw[bK hi,OE];omega
  .simp only[pd,OY hi]at h;simp only[pd,OY (by omega:s.data.toList.length<=i+1)];omega
theorem Bg{s:ak}{i:Nat}(h:i<s.data.toList.length):pd s (i+1)=pd s i++qB (s.data.toList.getD i ci):=by
 simp only[pd,bK h,PT]
theorem N9(s:ak)(hs:s.size<=1000):Pure prog 220 [pS s] (pS (o9 s)):=by
 have hl:s.data.toList.length=s.size:=by simp
 refine ae ab func220 Z (by decide) ntmps220 Z (by simp) Z ?_;refine gA Z ?_;refine BE ab Z Z Z Z Z Z Z Z Z Z Z (by omega) ?_;refine gA Z ?_;refine aM 0 s.data.toList.length (OS _) (fun i=>⟨[(3,.sl 1 0 (pd s i).length 1),(8,.iv (.cp 1 s.data.toList.length fun k=>sK (s.data.toList.getD k ci))),(9,pI s.data.toList.length),(10,pI i)],[(1,co (aT 1 (pd s i) sK))],2⟩) (fun _=>True) [0] ac
  (zW (zS trivial)) fun i I _=>?_
 have J:=rO s i;refine zE Z Z (fun h1=>?_) fun h1=>?_
 .have h1:s.data.toList.length<=i:=zG h1;refine gA Z ?_;refine Hg ab (pd s i++ [34]) Z Z Z Z Z Z Z Z Z Z Z Z (by rw[OX];rfl) (by rw[OE];rfl) ?_;refine gA Z (zL (.of_eq ?_));simp only[pd,o9,OY h1];rfl
 have h1:i<s.data.toList.length:=zN h1;have b:=Bg h1;have j:s.data.toList.getD (i:Int).toNat ci=s.data.toList.getD i ci:=rfl;generalize G:s.data.toList.getD i ci=c at b j;refine zJ Z Z (fun A=>?_) fun A=>?_
 .have A:c.toNat=34:=by have:=zT A;rw[j]at this;omega
  rw[qB,am (.inl A)]at b;refine gA Z ⟨h1,ac,[3],zM ⟨.row (by rw[b,OE];rfl),rfl,bi (bi (bi ac))⟩ (hR Z (by rw[b,OX,<-G];rfl) Z ac)⟩
 have A: ¬c.toNat=34:=by have:=zF A;rw[j]at this;omega
 refine zJ Z Z (fun B=>?_) fun B=>?_
 .have B:c.toNat=92:=by have:=zT B;rw[j]at this;omega
  rw[qB,am (.inr B)]at b;refine gA Z ⟨h1,ac,[3],zM ⟨.row (by rw[b,OE];rfl),rfl,bi (bi (bi ac))⟩ (hR Z (by rw[b,OX,<-G];rfl) Z ac)⟩
 have B: ¬c.toNat=92:=by have:=zF B;rw[j]at this;omega
 rw[qB,be (by omega)]at b;refine zJ Z Z (fun y=>?_) fun y=>?_
 .have y:c.toNat=10:=by have:=zT y;rw[j]at this;omega
  rw[am y]at b;refine gA Z ⟨h1,ac,[3],zM ⟨.row (by rw[b,OE];rfl),rfl,bi (bi (bi ac))⟩ (hR Z (by rw[b,OX];rfl) Z ac)⟩
 have y: ¬c.toNat=10:=by have:=zF y;rw[j]at this;omega
 rw[be y]at b;have u:=KO c;have x:=KJ c;rw[<-G]at u x;simp only[Lk,Lj]at u x;refine zJ Z Z (fun C=>?_) fun C=>?_
 .have C:c.toNat<32:=by have:=zT C;rw[j]at this;omega
  rw[am (.inl C)]at b;refine fb Z (by(repeat' (first|exact ac|exact rfl|exact an.refl _|exact u|exact x|apply OF))<;>first|omega|exact u.1|exact u.2|exact x.1|exact x.2|simp) ?_;exact⟨h1,ac,[3],zM ⟨.row (by rw[b,OE];rfl),rfl,bi (bi (bi ac))⟩ (hR Z (by rw[b,OX,<-G];rfl) Z ac)⟩
 have C: ¬c.toNat<32:=by have:=zF C;rw[j]at this;omega
 refine zJ Z Z (fun D=>?_) fun D=>?_
 .have D:126<c.toNat:=by have:=zT D;rw[j]at this;omega
  rw[am (.inr D)]at b;refine fb Z (by(repeat' (first|exact ac|exact rfl|exact an.refl _|exact u|exact x|apply OF))<;>first|omega|exact u.1|exact u.2|exact x.1|exact x.2|simp) ?_;exact⟨h1,ac,[3],zM ⟨.row (by rw[b,OE];rfl),rfl,bi (bi (bi ac))⟩ (hR Z (by rw[b,OX,<-G];rfl) Z ac)⟩
 have D: ¬126<c.toNat:=by have:=zF D;rw[j]at this;omega
 rw[be (by omega)]at b;refine gA Z ⟨h1,ac,[3],zM ⟨.row (by rw[b,OE];rfl),rfl,bi (bi (bi ac))⟩ (hR Z (by rw[b,OX,<-G];rfl) Z ac)⟩
def tK(v:dM):ak:=if v.kind=1 then⟨(Lib.itoa v.num).toArray⟩ else if ik v.sym then v.sym else o9 v.sym
theorem rv{v:dM}(h:cL v=0)(h1:v.kind=1): -2147483647<=v.num∧v.num<=2147483647:=by
 unfold cL at h;rw[am h1]at h;split at h
 .rename_i b;exact b.2
 .cases h
theorem ru{v:dM}(h:cL v=0)(h1: ¬v.kind=1):v.sym.size<=64:=by
 unfold cL at h;rw[be h1]at h;split at h
 .split at h
  .rename_i b;exact b.2
  .cases h
 .cases h
theorem Ob(v:dM)(j:cL v=0):Pure prog 214 [ag v.c] (pS (tK v)):=by
 refine ae ab func214 Z (by decide) ntmps214 Z (by simp) Z ?_;refine zJ Z Z (fun h1=>?_) fun h1=>?_
 .have h1:v.kind=1:=by simpa using h1
  have:=rv j h1;refine gA Z (zp (Oa v.num (by omega) (by omega)) ?_);refine gA Z (zL (.of_eq ?_));rw[tK,am h1];rfl
 have h1: ¬v.kind=1:=by simpa using h1
 have hs:=ru j h1;refine gA Z (zp (Ns v.sym) ?_);refine zJ Z Z (fun b=>?_) fun b=>?_
 .have b:ik v.sym=is:=b;refine gA Z (zL (.of_eq ?_));rw[tK,be h1,am b];rfl
 .have b:ik v.sym=jp:=b;refine gA Z (zp (N9 v.sym (by omega)) ?_);refine gA Z (zL (.of_eq ?_));rw[tK,be h1,be (by rw[b];simp)];rfl
def pP(v:dM):ak:=if cL v=0 then tK v else⟨#[]⟩
theorem Oe(v:dM):Pure prog 206 [ag v.c] (.bh [pS (pP v),pI (cL v)]):=by
 refine ae ab func206 Z (by decide) ntmps206 Z (by simp) Z ?_;refine gA Z (zp (Nc v) ?_);refine zJ Z Z (fun h1=>?_) fun h1=>?_
 .have h1: ¬cL v=0:=by simpa using h1
  refine gA Z (zL (.of_eq ?_));rw[pP,be h1];rfl
 .have h1:cL v=0:=by simpa using h1
  refine gA Z (zp (Ob v h1) ?_);refine gA Z (zL (.of_eq ?_));rw[pP,am h1,h1];rfl
def lv(w:WS)(v:dM):WS:=aS (aP w (kw (cL v=0))) [pP v]
theorem d149(w:WS)(v:dM)(hb:w.l.length<=1000000000000)(b:(pP v).size<=1000):bI prog 188 [.ptr 0 0,ag v.c] w.O (.bh []) (lv w v).H 3:=by
 refine ax ab func188 Z (by decide) ntmps188 Z (by simp) ?_;refine gA Z (zp (Oe v) ?_);refine gA Z (MS (d146 ⟨_,_,_,_⟩ (kw (cL v=0))) Z Z Z Z Z Z Z Z Z Z Z Z ?_);refine gA Z (go_wp (d147 ⟨_,_,_,_⟩ [pP v] (by simp) (by simp[eG,aP];omega)) Z Z Z Z Z Z Z Z Z Z Z Z ?_);refine gA Z gx
def cg(op:Int):Int:=if op=1∨op=2 then 1 else if op=3∨op=4∨op=5 then 2 else if op=6 then 3 else 0
theorem Hw(op:Int):Pure prog 208 [pI op] (pI (cg op)):=by
 refine ae ab func208 Z (by decide) ntmps208 Z (by simp) Z ?_
 repeat' (first|(refine gA Z (zI (fun _=>?_) (fun _=>?_)))|(refine gA Z (zL (.of_eq ?_))))
 all_goals(refine(BY ?_:pI _=pI _);simp only[QS,Rt,decide_eq_true_eq,decide_eq_false_iff_not] at*;simp_all [cg])
def dx(e:Expr):Int:=if e.kind=4 then cg e.op else 4
theorem BS(e:Expr):Pure prog 216 [ag e.c] (pI (dx e)):=by
 refine ae ab func216 Z (by decide) ntmps216 Z (by simp) Z ?_
 repeat' (first|(refine gA Z (zI (fun _=>?_) (fun _=>?_)))|(refine gA Z (zp (Hw e.op) ?_))|(refine gA Z (zL (.of_eq ?_))))
 all_goals(refine(BY ?_:pI _=pI _);simp_all [dx])
def dz(v:dM):Bool:=kw (v.kind=0)&&(kw (v.num=0)&&(kw (v.sym=OI)&&is))
def ix(e:Expr):Bool:=kw (e.kind=0)&&(kw (e.var=⟨#[]⟩)&&(dz e.val&&(kw (e.op=0)&&kw ((e.args.length:Int)=0))))
theorem Hx(e:Expr):Pure prog 207 [ag e.c] (pB (ix e)):=by
 refine ae ab func207 Z (by decide) ntmps207 Z (by simp) Z ?_
 repeat' (first|(refine gA Z (zI (fun _=>?_) (fun _=>?_)))|(refine gA Z (zL (.of_eq ?_))))
 all_goals(refine(lH ?_:pB _=pB _))
 all_goals(simp only[ix,dz, *];rfl)
def jD(l:Lit):Bool:=
 (kw (l.kind=1)||decide (l.kind=2)||!(!kw (l.atom.rel=⟨#[]⟩)||decide ((l.atom.aj.length:Int)>0)))&&
 ((!(!kw (l.kind=3))||!(!kw (l.op=0)||(!ix l.left||!ix l.right)))&&
 (kw (l.kind=4)||(kw (l.dL=0)&&(kw (l.bw=⟨#[]⟩)&&(ix l.ji&&kw ((l.ar.length:Int)=0))))))
set_option maxHeartbeats 4000000 in
theorem Od(l:Lit):Pure prog 190 [ag l.c] (pB (jD l)):=by
 refine ae ab func190 Z (by decide) ntmps190 Z (by simp) Z ?_
 repeat' (first|(refine gA Z (zI (fun _=>?_) (fun _=>?_)))|(refine gA Z (zp (Hx l.left) ?_))|(refine gA Z (zp (Hx l.right) ?_))|(refine gA Z (zp (Hx l.ji) ?_))|(refine gA Z (zL (.of_eq ?_))))
 all_goals(refine(lH ?_:pB _=pB _))
 all_goals(try simp only[QS,Rt] at*)
 all_goals(simp_all [jD])
def lf(op:Int):ak:=if op=1 then⟨#[43]⟩ else if op=2 then⟨#[45]⟩ else if op=3 then⟨#[42]⟩ else if op=4 then⟨#[47]⟩ else⟨#[109,111,100]⟩
def sgL:ak:=⟨#[43,45,42,47]⟩
theorem N8(op:Int):Pure prog 217 [pI op] (pS (lf op)):=by
 refine ae ab func217 Z (by decide) ntmps217 Z (by simp) Z ?_;refine gA Z ?_;refine uD ab Z Z Z Z Z Z Z ?_;refine gA Z ?_;refine aM 0 4 (by decide) (fun i=>⟨[(0,pI op),(5,.ptr 0 0)],[(0,co (.c9 sgL i))],1⟩) (fun i=> ∀k:Nat,k<i-> ¬(k:Int)+1=op) [] (by simp)
  (zW ⟨⟨_,rfl,.of_eq Z⟩,Oy Z,ac,ac⟩) fun i B b=>?_
 have u:i=0∨i=1∨i=2∨i=3∨i=4:=by omega
 rcases u with rfl|rfl|rfl|rfl|rfl
 .refine gA Z ?_;refine j6 Z Z Z Z Z Z (fun h=>absurd h (by decide)) (fun _=>?_);refine zJ Z Z (fun h=>?_) fun h=>?_
  .have h:op=1:=by have:=zT h;omega
   refine gA Z ?_;refine qX ab Z Z Z Z Z Z Z Z Z ?_;refine gA Z (zL (.of_eq ?_));refine(congrArg pS ?_:pS _=pS _);subst h;decide
  .have h: ¬op=1:=by have:=zF h;omega
   refine gA Z ⟨by decide,fun k hk=>(by rcases(by omega:k<0∨k=0) with j|rfl;exact b k j;omega),[],zW ⟨⟨_,rfl,.of_eq Z⟩,Oy Z,ac,ac⟩⟩
 .refine gA Z ?_;refine j6 Z Z Z Z Z Z (fun h=>absurd h (by decide)) (fun _=>?_);refine zJ Z Z (fun h=>?_) fun h=>?_
  .have h:op=2:=by have:=zT h;omega
   refine gA Z ?_;refine qX ab Z Z Z Z Z Z Z Z Z ?_;refine gA Z (zL (.of_eq ?_));refine(congrArg pS ?_:pS _=pS _);subst h;decide
  .have h: ¬op=2:=by have:=zF h;omega
   refine gA Z ⟨by decide,fun k hk=>(by rcases(by omega:k<1∨k=1) with j|rfl;exact b k j;omega),[],zW ⟨⟨_,rfl,.of_eq Z⟩,Oy Z,ac,ac⟩⟩
 .refine gA Z ?_;refine j6 Z Z Z Z Z Z (fun h=>absurd h (by decide)) (fun _=>?_);refine zJ Z Z (fun h=>?_) fun h=>?_
  .have h:op=3:=by have:=zT h;omega
   refine gA Z ?_;refine qX ab Z Z Z Z Z Z Z Z Z ?_;refine gA Z (zL (.of_eq ?_));refine(congrArg pS ?_:pS _=pS _);subst h;decide
  .have h: ¬op=3:=by have:=zF h;omega
   refine gA Z ⟨by decide,fun k hk=>(by rcases(by omega:k<2∨k=2) with j|rfl;exact b k j;omega),[],zW ⟨⟨_,rfl,.of_eq Z⟩,Oy Z,ac,ac⟩⟩
 .refine gA Z ?_;refine j6 Z Z Z Z Z Z (fun h=>absurd h (by decide)) (fun _=>?_);refine zJ Z Z (fun h=>?_) fun h=>?_
  .have h:op=4:=by have:=zT h;omega
   refine gA Z ?_;refine qX ab Z Z Z Z Z Z Z Z Z ?_;refine gA Z (zL (.of_eq ?_));refine(congrArg pS ?_:pS _=pS _);subst h;decide
  .have h: ¬op=4:=by have:=zF h;omega
   refine gA Z ⟨by decide,fun k hk=>(by rcases(by omega:k<3∨k=3) with j|rfl;exact b k j;omega),[],zW ⟨⟨_,rfl,.of_eq Z⟩,Oy Z,ac,ac⟩⟩
 .refine gA Z ?_;refine j6 Z Z Z Z Z Z (fun _=>?_) (fun h=>absurd h (by decide));refine gA Z (zL (.of_eq ?_));have h1:=b 0 (by decide);have x:=b 1 (by decide);have y:=b 2 (by decide);have A:=b 3 (by decide);rw[lf,be (by omega),be (by omega),be (by omega),be (by omega)];rfl
theorem yn(s:ak):(o9 s).size<=2+4*s.size:=by
 have h:=rO s s.data.toList.length;simp only[pd,Ql,Pb]at h;have e:(o9 s).size=(34::s.data.toList.flatMap qB++ [34]).length:=by simp[o9,RQ]
 have:s.data.toList.length=s.size:=by simp
 rw[e,OE,Pb,PC];omega
theorem oU(v:dM):(pP v).size<=300:=by
 unfold pP;split
 .rename_i b;unfold tK;split
  .rename_i h1;have:=rv b h1;have j:=Lib.itoa_length_le v.num (by omega) (by omega);have e:(⟨(Lib.itoa v.num).toArray⟩:ByteArray).size=(Lib.itoa v.num).length:=by simp[RQ]
   omega
  .rename_i h1;have j:=ru b h1;split
   .omega
   .have:=yn v.sym;omega
 .decide
mutual
def Expr.ts:Expr->Nat
 | .mk _ v _ _ args=>v.size+400+Expr.mE args
def Expr.mE:List Expr->Nat
 | []=>0
 |e::r=>e.ts+Expr.mE r
end
theorem Expr.pO(e:Expr):e.ts=e.var.size+400+Expr.mE e.args:=by cases e;rfl
theorem Expr.u2: ∀(l:List Expr) (k:Nat),k<l.length->(l.getD k ci).ts<=Expr.mE l
 |e::r,0,_=>by simp[Expr.mE]
 |e::r,k+1,h=>by
  have:=Expr.u2 r k (by simpa using h);simp only[PR,Expr.mE];omega
 | [],k,h=>by simp at h
theorem Expr.zb: ∀(l:List Expr),l.length=2->(l.getD 0 ci).ts+(l.getD 1 ci).ts<=Expr.mE l
 | [a,b],_=>by simp[Expr.mE]
 | [],h=>by simp at h
 | [a],h=>by simp at h
 |a::b::c::r,h=>by simp at h
def sM:ak:=⟨#[45]⟩
def sO:ak:=⟨#[40]⟩
def sC:ak:=⟨#[41]⟩
def zj:ak:=⟨#[32]⟩
def l9(w:WS):WS:=⟨w.fr,w.l,is,w.br⟩
def mN(e:Expr):Bool:=eU e.var&&(dz e.val&&(kw (e.op=0)&&kw ((e.args.length:Int)=0)))
def oq(e:Expr):Bool:=kw (e.var=⟨#[]⟩)&&(kw (e.op=0)&&kw ((e.args.length:Int)=0))
def qz(e:Expr):Bool:=kw (e.var=⟨#[]⟩)&&(dz e.val&&kw (cg e.op>0))
def bT(e:Expr):Expr:=e.args.getD 0 ci
def v7(e:Expr):Expr:=e.args.getD 1 ci
def vv(e:Expr):Bool:=kw (e.kind=2)&&kw (e.val.kind=1)
def lg(a:Expr):Bool:=kw (dx a<3)||(vv a&&kw (a.val.num>0))
def iK(w:WS)(e:Expr)(k:WS):WS:=
 if w.bad=is then l9 w else if e.kind=1 then aS (aP w (mN e)) [e.var] else if e.kind=2 then lv (aP w (oq e)) e.val else if e.kind=4 then k else l9 w
def jS(a0:Bool->WS->Expr->WS)(w:WS)(e:Expr):WS:=
 if w.bad=is then l9 w else if e.op=6 then
  (if e.args.length=1 then a0 (lg (bT e)) (if(vv (bT e)&&kw ((bT e).val.num=0))=is then aS (aS w [sM]) [sM] else aS w [sM]) (bT e) else l9 w)
 else if e.args.length=2 then a0 (kw (dx (v7 e)<=cg e.op)) (aS (a0 (kw (dx (bT e)<cg e.op)) w (bT e)) [zj,lf e.op,zj]) (v7 e) else l9 w
def cB:Nat->WS->Expr->WS
 |0,w,_=>l9 w
 |1,w,e=>iK w e (l9 (aP w (qz e)))
 |m+2,w,e=>iK w e (jS (fun b w a=>if b=is then aS (cB m (aS w [sO]) a) [sC] else cB (m+1) w a) (aP w (qz e)) e)
def tB(m:Nat)(b:Bool)(w:WS)(a:Expr):WS:=if b=is then aS (cB m (aS w [sO]) a) [sC] else cB (m+1) w a
theorem aL(w:WS)(b:Bool):(aP w b).l=w.l:=rfl
theorem eT(w:WS):(l9 w).l=w.l:=rfl
theorem bE(s:ak):eG [s]=s.size:=by simp[eG]
theorem wH(op:Int):(lf op).size<=3:=by
 unfold lf
 repeat' split
 all_goals decide
theorem aI(w:WS)(s:ak):(aS w [s]).l.length=w.l.length+s.size:=by rw[gH,bE]
theorem rq(w:WS)(v:dM):(lv w v).l.length<=w.l.length+300:=by
 have:=oU v;rw[lv,aI,aL];omega
theorem ux(w k:WS)(e:Expr)(h:k.l.length<=w.l.length+e.ts):(iK w e k).l.length<=w.l.length+e.ts:=by
 have:=e.pO;unfold iK
 repeat' split
 .rw[eT];omega
 .rw[aI,aL];omega
 .have:=rq (aP w (oq e)) e.val;rw[aL]at this;omega
 .exact h
 .rw[eT];omega
theorem Bj(a0:Bool->WS->Expr->WS)(j: ∀b w a,(a0 b w a).l.length<=w.l.length+(2+a.ts))(w:WS)(e:Expr):(jS a0 w e).l.length<=w.l.length+e.ts:=by
 have B:=e.pO;unfold jS;split
 .rw[eT];omega
 split
 .split
  .rename_i h1;have y:=Expr.u2 e.args 0 (by omega);have u:sM.size=1:=rfl;split
   .have:=j (lg (bT e)) (aS (aS w [sM]) [sM]) (bT e);rw[aI,aI]at this;simp only[bT]at this ⊢;omega
   .have:=j (lg (bT e)) (aS w [sM]) (bT e);rw[aI]at this;simp only[bT]at this ⊢;omega
  .rw[eT];omega
 .split
  .rename_i h1;have y:=Expr.zb e.args h1;have x:=j (kw (dx (v7 e)<=cg e.op)) (aS (a0 (kw (dx (bT e)<cg e.op)) w (bT e)) [zj,lf e.op,zj]) (v7 e);have C:=j (kw (dx (bT e)<cg e.op)) w (bT e);have D:=wH e.op;have u:zj.size=1:=rfl;rw[gH]at x;have A:eG [zj,lf e.op,zj]=1+((lf e.op).size+1):=by simp[eG,u]
   simp only[bT,v7] at*;omega
  .rw[eT];omega
theorem cT: ∀(n:Nat) (w:WS) (e:Expr),(cB n w e).l.length<=w.l.length+e.ts
 |0,w,e=>by rw[cB,eT];omega
 |1,w,e=>by rw[cB];exact ux _ _ _ (by rw[eT,aL];omega)
 |m+2,w,e=>by
  rw[cB];refine ux _ _ _ ?_
  have:=Bj (fun j w a=>if j=is then aS (cB m (aS w [sO]) a) [sC] else cB (m+1) w a) (fun b w a=>by
   split
   .have h1:=cT m (aS w [sO]) a;have u:sO.size=1:=rfl;have x:sC.size=1:=rfl;rw[aI]at h1 ⊢;omega
   .have:=cT (m+1) w a
    omega) (aP w (qz e)) e
  rwa[aL]at this
theorem EC(m:Nat)(b:Bool)(w:WS)(a:Expr):(tB m b w a).l.length<=w.l.length+(2+a.ts):=by
 unfold tB;split
 .have h1:=cT m (aS w [sO]) a;have j:sO.size=1:=rfl;have u:sC.size=1:=rfl;rw[aI]at h1 ⊢;omega
 .have:=cT (m+1) w a;omega
def PE(n:Nat):Prop:= ∀(d:Int) (w:WS) (e:Expr),d+1=n->w.l.length+e.ts<=1000000000->bI prog 191 [.ptr 0 0,ag e.c,pI d] w.O (.bh []) (cB n w e).H 3
theorem d225(n:Nat)(hn:n<=1000)(x:PE (n+1))(y:PE n)(b:Bool)(d:Int)(hd:d=n)(w:WS)(e:Expr)(hb:w.l.length+e.ts+2<=1000000000):bI prog 215 [.ptr 0 0,ag e.c,pB b,pI d] w.O (.bh []) (tB n b w e).H 3:=by
 refine ax ab func215 Z (by decide) ntmps215 Z (by simp) ?_;refine zJ Z Z (fun h=>?_) fun h=>?_
 .have h:b=jp:=by simpa using h
  rw[tB,be (by rw[h];simp)];refine gA Z (fV (x d w e (by omega) (by omega)) ?_);refine gA Z gx
 .have h:b=is:=by simpa using h
  rw[tB,am h];have j:sO.size=1:=rfl;have u:sC.size=1:=rfl;have hl:=cT n (aS w [sO]) e;have A:=aI w sO;refine gA Z (gT (d147 w [sO] (by simp) (by rw[bE,j];omega)) ?_);refine gA Z (fV (y (d-1) (aS w [sO]) e (by omega) (by omega)) ?_);refine gA Z (gT (d147 (cB n (aS w [sO]) e) [sC] (by simp) (by rw[bE,u];omega)) ?_);refine gA Z gx
theorem M6(d:Int)(hd:d<0)(w:WS)(e:Expr):bI prog 209 [.ptr 0 0,ag e.c,pI d] w.O (.bh []) (l9 w).H 3:=by
 refine ax ab func209 Z (by decide) ntmps209 Z (by simp) ?_
 repeat' (first
  |((rename_i h;exact absurd hd (zF h)))
  |(refine gA Z (zI (fun _=>?_) (fun _=>?_)))
  |(refine gA Z (D7 (by first|exact .inr Z|exact .inl Z) Z Z Z Z Z (by first|exact .refl _|exact .kb _) (by first|exact .refl _|exact .kb _) Z Z Z Z (.refl _) Z Z)))
set_option maxHeartbeats 2000000 in
theorem d213(m:Nat)(hm:m<=900)(G:PE (m+1))(I:PE m)(d:Int)(hd:d=m)(w:WS)(e:Expr)(hb:w.l.length+e.ts<=1000000000):bI prog 209 [.ptr 0 0,ag e.c,pI d] w.O (.bh []) (jS (tB m) w e).H 3:=by
 refine bI.le (aa:=[.ptr 0 0,ag e.c,pI d]) (args:=[.ptr 0 0,ag e.c1,pI d]) ?_ ⟨.refl _,e.DA,.refl _,ac⟩;have e0:=e.pO;have D:sM.size=1:=rfl;have x:m<=1000:=by omega
 refine ax ab func209 Z (by decide) ntmps209 Z (by simp) ?_;refine zJ Z Z (fun J=>?_) fun J=>?_
 .have J:e.op=6:=zT J;refine zE Z Z (fun h1=>?_) fun h1=>?_
  .have h1:w.bad=is:=h1;rw[jS,am h1];refine gA Z gx
  have h1: ¬w.bad=is:=by rw[show w.bad=jp from h1];simp
  refine zE Z Z (fun B=>?_) fun B=>?_
  .have B: ¬e.args.length=1:=by simp at B;omega
   rw[jS,be h1,am J,be B];refine gA Z gx
  have B:e.args.length=1:=by simp at B;omega
  have hg:(bT e).ts<=_:=Expr.u2 e.args 0 (by omega);have j:jS (tB m) w e=tB m (lg (bT e)) (if(vv (bT e)&&kw ((bT e).val.num=0))=is then aS (aS w [sM]) [sM] else aS w [sM]) (bT e):=by rw[jS,be h1,am J,am B]
  have b0:e.args.getD 0 ci=bT e:=rfl;refine zJ Z Z (fun h3=>?_) fun h3=>?_
  .exact absurd (zT h3) (by omega)
  refine zE Z Z (fun h7=>?_) fun h7=>?_
  .exact absurd (zF h7) (by simp)
  have y:=aI w sM;refine zJ Z Z (fun hk=>?_) fun hk=>?_
  .have a0:(bT e).kind=2:=zT hk;refine gA Z (gT (d147 w [sM] (by simp) (by rw[bE,D];omega)) ?_);refine zE Z Z (fun hv=>?_) fun hv=>?_
   .have C: ¬(bT e).val.kind=1:=zF hv;have A:vv (bT e)=jp:=by rw[vv,decide_eq_false C,QZ]
    rw[A,Qg,be (by simp)]at j;refine gA Z (y3 (BS (bT e)) ?_);refine zJ Z Z (fun u=>?_) fun u=>?_
    .have b:dx (bT e)<3:=zT u;rw[lg,decide_eq_true b,Rs]at j;rw[j];refine gA Z (tq (d225 m x G I is d hd (aS w [sM]) (bT e) (by rw[y,D];omega)) ?_);refine gA Z gx
    .have b: ¬dx (bT e)<3:=zF u;refine zJ Z Z (fun R=>?_) fun R=>?_
     .exact absurd (zT R) C
     rw[lg,decide_eq_false b,Qo,A,Qg]at j;rw[j];refine gA Z (tq (d225 m x G I jp d hd (aS w [sM]) (bT e) (by rw[y,D];omega)) ?_);refine gA Z gx
   .have C:(bT e).val.kind=1:=zT hv;have A:vv (bT e)=is:=by rw[vv,decide_eq_true C,decide_eq_true a0];rfl
    rw[A,Rb]at j;refine zJ Z Z (fun h0=>?_) fun h0=>?_
    .have Y:(bT e).val.num=0:=zT h0;rw[am (decide_eq_true Y)]at j;refine gA Z (gT (d147 (aS w [sM]) [sM] (by simp) (by rw[bE,y,D];omega)) ?_);refine gA Z (y3 (BS (bT e)) ?_);refine zJ Z Z (fun u=>?_) fun u=>?_
     .have b:dx (bT e)<3:=zT u;rw[lg,decide_eq_true b,Rs]at j;rw[j];refine gA Z (tq (d225 m x G I is d hd (aS (aS w [sM]) [sM]) (bT e) (by rw[aI,y,D];omega)) ?_);refine gA Z gx
     .have b: ¬dx (bT e)<3:=zF u;refine zE Z Z (fun R=>?_) fun R=>?_
      .exact absurd C (zF R)
      rw[lg,decide_eq_false b,Qo,A,Rb]at j;rw[j];refine gA Z (tq (d225 m x G I (kw ((bT e).val.num>0)) d hd (aS (aS w [sM]) [sM]) (bT e) (by rw[aI,y,D];omega)) ?_);refine gA Z gx
    .have Y: ¬(bT e).val.num=0:=zF h0;rw[be (by simpa using Y)]at j;refine gA Z (y3 (BS (bT e)) ?_);refine zJ Z Z (fun u=>?_) fun u=>?_
     .have b:dx (bT e)<3:=zT u;rw[lg,decide_eq_true b,Rs]at j;rw[j];refine gA Z (tq (d225 m x G I is d hd (aS w [sM]) (bT e) (by rw[y,D];omega)) ?_);refine gA Z gx
     .have b: ¬dx (bT e)<3:=zF u;refine zE Z Z (fun R=>?_) fun R=>?_
      .exact absurd C (zF R)
      rw[lg,decide_eq_false b,Qo,A,Rb]at j;rw[j];refine gA Z (tq (d225 m x G I (kw ((bT e).val.num>0)) d hd (aS w [sM]) (bT e) (by rw[y,D];omega)) ?_);refine gA Z gx
  .have a0: ¬(bT e).kind=2:=zF hk;have A:vv (bT e)=jp:=by rw[vv,decide_eq_false a0];rfl
   rw[A,Qg,be (by simp)]at j;refine gA Z (gT (d147 w [sM] (by simp) (by rw[bE,D];omega)) ?_);refine gA Z (y3 (BS (bT e)) ?_);refine zJ Z Z (fun u=>?_) fun u=>?_
   .have b:dx (bT e)<3:=zT u;rw[lg,decide_eq_true b,Rs]at j;rw[j];refine gA Z (tq (d225 m x G I is d hd (aS w [sM]) (bT e) (by rw[y,D];omega)) ?_);refine gA Z gx
   .have b: ¬dx (bT e)<3:=zF u;rw[lg,decide_eq_false b,Qo,A,Qg]at j;rw[j];refine gA Z (tq (d225 m x G I jp d hd (aS w [sM]) (bT e) (by rw[y,D];omega)) ?_);refine gA Z gx
 .have J: ¬e.op=6:=zF J;refine zE Z Z (fun h1=>?_) fun h1=>?_
  .have h1:w.bad=is:=h1;rw[jS,am h1];refine gA Z gx
  have h1: ¬w.bad=is:=by rw[show w.bad=jp from h1];simp
  refine zE Z Z (fun B=>?_) fun B=>?_
  .have B: ¬e.args.length=2:=by simp at B;omega
   rw[jS,be h1,be J,be B];refine gA Z gx
  have B:e.args.length=2:=by simp at B;omega
  have hg:(bT e).ts+(v7 e).ts<=_:=Expr.zb e.args B;rw[jS,be h1,be J,am B];refine zJ Z Z (fun h3=>?_) fun h3=>?_
  .exact absurd (zT h3) (by omega)
  refine zJ Z Z (fun h7=>?_) fun h7=>?_
  .exact absurd (zT h7) (by simp)
  refine gA Z (y3 (BS (bT e)) ?_);refine gA Z (y3 (Hw e.op) ?_);refine gA Z (tq (d225 m x G I (kw (dx (bT e)<cg e.op)) d hd w (bT e) (by omega)) ?_);refine gA Z (zp (N8 e.op) ?_);have c0:=EC m (kw (dx (bT e)<cg e.op)) w (bT e);have d0:=wH e.op;have e2:zj.size=1:=rfl;have e3:eG [zj,lf e.op,zj]=1+((lf e.op).size+1):=by simp[eG,e2]
  refine gA Z (gT (d147 (tB m (kw (dx (bT e)<cg e.op)) w (bT e)) [zj,lf e.op,zj] (by simp) (by rw[e3];omega)) ?_);refine gA Z (y3 (BS (v7 e)) ?_);refine gA Z (y3 (Hw e.op) ?_);refine gA Z (tq (d225 m x G I (kw (dx (v7 e)<=cg e.op)) d hd (aS (tB m (kw (dx (bT e)<cg e.op)) w (bT e)) [zj,lf e.op,zj]) (v7 e) (by rw[gH,e3];omega)) ?_);refine gA Z gx
theorem d189(d:Int)(I:0<=d)(J:d<=1000)(w:WS)(e:Expr)(hb:w.l.length+e.ts<=1000000000)(k:WS)(hk:bI prog 209 [.ptr 0 0,ag e.c,pI (d-1)] (aP w (qz e)).O (.bh []) k.H 3):bI prog 191 [.ptr 0 0,ag e.c,pI d] w.O (.bh []) (iK w e k).H 3:=by
 have R:=e.pO;refine ax ab func191 Z (by decide) ntmps191 Z (by simp) ?_;refine zE Z Z (fun h1=>?_) fun h1=>?_
 .have h1:w.bad=is:=h1;rw[iK,am h1];refine gA Z gx
 have A: ¬w.bad=is:=by rw[show w.bad=jp from h1];simp
 refine zJ Z Z (fun G=>?_) fun G=>?_
 .exact absurd (zT G) (by omega)
 refine zJ Z Z (fun B=>?_) fun B=>?_
 .have j:e.kind=1:=zT B;have y:iK w e k=aS (aP w (mN e)) [e.var]:=by rw[iK,be A,am j]
  rw[y];refine gA Z (zp (yZ e.var) ?_);refine zE Z Z (fun g0=>?_) fun g0=>?_
  .have b:mN e=jp:=by simp only[mN,dz, *];rfl
   rw[b];refine gA Z (fV (d146 w jp) ?_);refine gA Z (gT (d147 (aP w jp) [e.var] (by simp) (by rw[bE,aL];omega)) ?_);refine gA Z gx
  refine zE Z Z (fun g1=>?_) fun g1=>?_
  .have b:mN e=jp:=by simp only[mN,dz, *];rfl
   rw[b];refine gA Z (fV (d146 w jp) ?_);refine gA Z (gT (d147 (aP w jp) [e.var] (by simp) (by rw[bE,aL];omega)) ?_);refine gA Z gx
  refine zE Z Z (fun g2=>?_) fun g2=>?_
  .have b:mN e=jp:=by simp only[mN,dz, *];rfl
   rw[b];refine gA Z (fV (d146 w jp) ?_);refine gA Z (gT (d147 (aP w jp) [e.var] (by simp) (by rw[bE,aL];omega)) ?_);refine gA Z gx
  have b:mN e=kw ((e.args.length:Int)=0):=by simp only[mN,dz, *];rfl
  rw[b];refine gA Z (fV (d146 w (kw ((e.args.length:Int)=0))) ?_);refine gA Z (gT (d147 (aP w (kw ((e.args.length:Int)=0))) [e.var] (by simp) (by rw[bE,aL];omega)) ?_);refine gA Z gx
 have j: ¬e.kind=1:=zF B;refine zJ Z Z (fun C=>?_) fun C=>?_
 .have u:e.kind=2:=zT C;have y:iK w e k=lv (aP w (oq e)) e.val:=by rw[iK,be A,be j,am u]
  rw[y];have Y:=oU e.val;refine zE Z Z (fun g0=>?_) fun g0=>?_
  .have b:oq e=jp:=by simp only[oq,dz, *];rfl
   rw[b];refine gA Z (fV (d146 w jp) ?_);refine gA Z (fV (d149 (aP w jp) e.val (by rw[aL];omega) (by omega)) ?_);refine gA Z gx
  refine zE Z Z (fun g1=>?_) fun g1=>?_
  .have b:oq e=jp:=by simp only[oq,dz, *];rfl
   rw[b];refine gA Z (fV (d146 w jp) ?_);refine gA Z (fV (d149 (aP w jp) e.val (by rw[aL];omega) (by omega)) ?_);refine gA Z gx
  have b:oq e=kw ((e.args.length:Int)=0):=by simp only[oq,dz, *];rfl
  rw[b];refine gA Z (fV (d146 w (kw ((e.args.length:Int)=0))) ?_);refine gA Z (fV (d149 (aP w (kw ((e.args.length:Int)=0))) e.val (by rw[aL];omega) (by omega)) ?_);refine gA Z gx
 have u: ¬e.kind=2:=zF C;refine zJ Z Z (fun D=>?_) fun D=>?_
 .have x:e.kind=4:=zT D;have y:iK w e k=k:=by rw[iK,be A,be j,be u,am x]
  rw[y];refine zE Z Z (fun g0=>?_) fun g0=>?_
  .have b:qz e=jp:=by simp only[qz,dz, *];rfl
   rw[b]at hk;refine gA Z (fV (d146 w jp) ?_);refine gA Z (fV (hk) ?_);refine gA Z gx
  refine zE Z Z (fun g1=>?_) fun g1=>?_
  .have b:qz e=jp:=by simp only[qz,dz, *];rfl
   rw[b]at hk;refine gA Z (fV (d146 w jp) ?_);refine gA Z (fV (hk) ?_);refine gA Z gx
  refine gA Z (zp (Hw e.op) ?_);have b:qz e=kw (cg e.op>0):=by simp only[qz,dz, *];rfl
  rw[b]at hk;refine gA Z (fV (d146 w (kw (cg e.op>0))) ?_);refine gA Z (fV (hk) ?_);refine gA Z gx
 have x: ¬e.kind=4:=zF D;rw[iK,be A,be j,be u,be x];refine gA Z gx
theorem pe0:PE 0:=fun d w e hd hb=>by
 refine ax ab func191 Z (by decide) ntmps191 Z (by simp) ?_;rw[cB]
 repeat' (first
  |((rename_i h;exact absurd (by omega:d<0) (zF h)))
  |(refine gA Z (zI (fun _=>?_) (fun _=>?_)))
  |(refine gA Z (D7 (by first|exact .inr Z|exact .inl Z) Z Z Z Z Z (by first|exact .refl _|exact .kb _) (by first|exact .refl _|exact .kb _) Z Z Z Z (.refl _) Z Z)))
theorem yo: ∀n,n<=900->PE n
 |0,_=>pe0
 |1,_=>fun d w e hd hb=>d189 d (by omega) (by omega) w e hb _ (M6 (d-1) (by omega) (aP w (qz e)) e)
 |m+2,h=>fun d w e hd hb=>d189 d (by omega) (by omega) w e (by omega) _ (d213 m (by omega) (yo (m+1) (by omega)) (yo m (by omega)) (d-1) (by omega) (aP w (qz e)) e (by rw[aL];omega))
theorem mW(w:WS)(e:Expr)(hb:w.l.length+e.ts<=900000000):bI prog 191 [.ptr 0 0,ag e.c,pI 16] w.O (.bh []) (cB 17 w e).H 3:=yo 17 (by omega) 16 w e (by omega) (by omega)
def wP:ak:=⟨#[44,32]⟩
def Ka:ak:=⟨#[95]⟩
def gd(i:Nat)(w:WS):WS:=if i=0 then w else aS w [wP]
def vt(t:Term):Bool:=eU t.var&&dz t.val
def vu(t:Term):Bool:=kw (t.var=⟨#[]⟩)&&dz t.val
def jk(w:WS)(t:Term):WS:=
 if t.kind=1 then aS (aP w (vt t)) [t.var] else if t.kind=2 then lv (aP w (kw (t.var=⟨#[]⟩))) t.val else if t.kind=3 then aS (aP w (vu t)) [Ka] else l9 w
def fc(l:List Term)(w:WS):Nat->WS
 |0=>w
 |i+1=>jk (gd i (fc l w i)) (l.getD i ci)
def iY(w:WS)(a:Atom):WS:=aS (fc a.aj (aS (aP w (ik a.rel)) [a.rel,sO]) a.aj.length) [sC]
def Term.ts(t:Term):Nat:=t.var.size+310
def Atom.ts(a:Atom):Nat:=a.rel.size+10+(a.aj.map Term.ts).sum
theorem kS(i:Nat)(w:WS):(gd i w).l.length<=w.l.length+2:=by
 have e:wP.size=2:=rfl;unfold gd;split
 .omega
 .rw[aI,e];omega
theorem AG(w:WS)(t:Term):(jk w t).l.length<=w.l.length+300+t.var.size:=by
 have e:Ka.size=1:=rfl;unfold jk
 repeat' split
 .rw[aI,aL];omega
 .have:=rq (aP w (kw (t.var=⟨#[]⟩))) t.val;rw[aL]at this;omega
 .rw[aI,aL,e];omega
 .rw[eT];omega
theorem tM: ∀(l:List Term) (i:Nat),i<l.length->((l.take i).map Term.ts).sum+(l.getD i ci).ts<=(l.map Term.ts).sum
 | [],i,h=>by simp at h
 |s::r,0,_=>by simp
 |s::r,i+1,h=>by
  have:=tM r i (by simpa using h);simp at this ⊢;omega
theorem zc: ∀(l:List Term) (i:Nat),((l.take i).map Term.ts).sum<=(l.map Term.ts).sum
 | [],i=>by simp
 |s::r,0=>by simp
 |s::r,i+1=>by have:=zc r i;simp at this ⊢;omega
theorem nk(l:List Term)(w:WS): ∀i,i<=l.length->(fc l w i).l.length<=w.l.length+((l.take i).map Term.ts).sum
 |0,_=>by simp[fc]
 |i+1,h=>by
  have h1:=nk l w i (by omega);have b:=kS i (fc l w i);have j:=AG (gd i (fc l w i)) (l.getD i ci);have u:(l.getD i ci).ts=(l.getD i ci).var.size+310:=rfl;have x:((l.take (i+1)).map Term.ts).sum=((l.take i).map Term.ts).sum+(l.getD i ci).ts:=by
   rw[cd (by omega),OX,List.sum_append];simp
  rw[fc];omega
theorem uU(w:WS)(a:Atom):(iY w a).l.length<=w.l.length+a.ts:=by
 have b:sO.size=1:=rfl;have j:sC.size=1:=rfl;have u:eG [a.rel,sO]=a.rel.size+1:=by simp[eG,b]
 have h1:=nk a.aj (aS (aP w (ik a.rel)) [a.rel,sO]) a.aj.length (OL _);rw[gH,u,aL,Ql]at h1;rw[iY,aI,j];unfold Atom.ts;omega
theorem uw: ∀l:List Term,l.length<=(l.map Term.ts).sum
 | []=>by simp
 |t::r=>by have:=uw r;simp[Term.ts]at this ⊢;omega
set_option maxHeartbeats 1000000 in
theorem d104(w:WS)(a:Atom)(hb:w.l.length+a.ts<=900000000):bI prog 153 [.ptr 0 0,ag a.c] w.O (.bh []) (iY w a).H 3:=by
 have J:sO.size=1:=rfl;have R:sC.size=1:=rfl;have y:wP.size=2:=rfl;have e5:Ka.size=1:=rfl;have I:eG [a.rel,sO]=a.rel.size+1:=by simp[eG,J]
 have i0:a.ts=a.rel.size+10+(a.aj.map Term.ts).sum:=rfl;have d0:=uw a.aj;have b0:(aS (aP w (ik a.rel)) [a.rel,sO]).l.length=w.l.length+(a.rel.size+1):=by rw[gH,I,aL]
 refine ax ab func153 Z (by decide) ntmps153 Z (by simp) ?_;refine gA Z (zp (Ns a.rel) ?_);refine gA Z (fV (d146 w (ik a.rel)) ?_);refine gA Z (gT (d147 (aP w (ik a.rel)) [a.rel,sO] (by simp) (by rw[I,aL];omega)) ?_);generalize Y:aS (aP w (ik a.rel)) [a.rel,sO]=w1 at*
 refine gA Z ?_;refine aM 0 a.aj.length (OS _) (fun i=>⟨[(0,.ptr 0 0),(17,.iv (bV 5 a.aj Term.c)),(18,pI a.aj.length),(19,pI i)],[(0,co ((fc a.aj w1 i).oR 0 6)),(6,co (.bf (fc a.aj w1 i).l 5))],7⟩) (fun _=>True) _ ac
  (Nw (w:=w1) Z Z Z Z Z (.refl _) (.refl _) Z Z Z Z Z (bi (bi (bi (bi trivial))))) fun i hi _=>?_
 have c0:=nk a.aj w1 i hi;have e0:=zc a.aj i;refine zE Z Z (fun h1=>?_) fun h1=>?_
 .have h1:a.aj.length<=i:=zG h1;have G:i=a.aj.length:=by omega
  subst G;refine gA Z (gT (d147 (fc a.aj w1 a.aj.length) [sC] (by simp) (by rw[bE,R];omega)) ?_);rw[iY,Y];refine gA Z gx
 have h1:i<a.aj.length:=zN h1;have f0:=tM a.aj i h1;have hs:fc a.aj w1 (i+1)=jk (gd i (fc a.aj w1 i)) (a.aj.getD i ci):=rfl;have ht:(a.aj.getD i ci).ts=(a.aj.getD i ci).var.size+310:=rfl;have j0:=oU (a.aj.getD i ci).val;have a0:=kS i (fc a.aj w1 i);generalize hT:fc a.aj w1 i=w2 at*
 refine zJ Z Z (fun A=>?_) fun A=>?_
 .have A: ¬i=0:=by have:=zT A;omega
  rw[gd,be A]at hs;refine gA Z (gT (d147 w2 [wP] (by simp) (by rw[bE,y];omega)) ?_);refine zJ Z Z (fun B=>?_) fun B=>?_
  .have b:(a.aj.getD i ci).kind=1:=zT B;rw[jk,am b]at hs;refine gA Z (zp (yZ (a.aj.getD i ci).var) ?_);refine zE Z Z (fun g0=>?_) fun g0=>?_
   .have u:vt (a.aj.getD i ci)=jp:=by have g:eU (a.aj.getD i ci).var=jp:=g0;rw[vt,g];rfl
    rw[u]at hs;refine gA Z (fV (d146 (aS w2 [wP]) jp) ?_);refine gA Z (gT (d147 (aP (aS w2 [wP]) jp) [(a.aj.getD i ci).var] (by simp) (by rw[bE,aL];first|omega|(rw[aI,y];omega))) ?_);refine gA Z ⟨h1,ac,_,n4 (hs.symm)⟩
   have u:vt (a.aj.getD i ci)=dz (a.aj.getD i ci).val:=by have g:eU (a.aj.getD i ci).var=is:=g0;rw[vt,g];rfl
   rw[u]at hs;refine gA Z (fV (d146 (aS w2 [wP]) (dz (a.aj.getD i ci).val)) ?_);refine gA Z (gT (d147 (aP (aS w2 [wP]) (dz (a.aj.getD i ci).val)) [(a.aj.getD i ci).var] (by simp) (by rw[bE,aL];first|omega|(rw[aI,y];omega))) ?_);refine gA Z ⟨h1,ac,_,n4 (hs.symm)⟩
  have b: ¬(a.aj.getD i ci).kind=1:=zF B;refine zJ Z Z (fun C=>?_) fun C=>?_
  .have j:(a.aj.getD i ci).kind=2:=zT C;rw[jk,be b,am j]at hs;refine gA Z (fV (d146 (aS w2 [wP]) (kw ((a.aj.getD i ci).var=⟨#[]⟩))) ?_);refine gA Z (fV (d149 (aP (aS w2 [wP]) (kw ((a.aj.getD i ci).var=⟨#[]⟩))) (a.aj.getD i ci).val (by rw[aL];first|omega|(rw[aI,y];omega)) (by omega)) ?_);refine gA Z ⟨h1,ac,_,n4 (hs.symm)⟩
  have j: ¬(a.aj.getD i ci).kind=2:=zF C;refine zJ Z Z (fun D=>?_) fun D=>?_
  .have x:(a.aj.getD i ci).kind=3:=zT D;rw[jk,be b,be j,am x]at hs;refine zE Z Z (fun g0=>?_) fun g0=>?_
   .have u:vu (a.aj.getD i ci)=jp:=by have g:kw ((a.aj.getD i ci).var=⟨#[]⟩)=jp:=g0;rw[vu,g];rfl
    rw[u]at hs;refine gA Z (fV (d146 (aS w2 [wP]) jp) ?_);refine gA Z (gT (d147 (aP (aS w2 [wP]) jp) [Ka] (by simp) (by rw[bE,aL];first|omega|(rw[aI,y];omega))) ?_);refine gA Z ⟨h1,ac,_,n4 (hs.symm)⟩
   have u:vu (a.aj.getD i ci)=dz (a.aj.getD i ci).val:=by have g:kw ((a.aj.getD i ci).var=⟨#[]⟩)=is:=g0;rw[vu,g];rfl
   rw[u]at hs;refine gA Z (fV (d146 (aS w2 [wP]) (dz (a.aj.getD i ci).val)) ?_);refine gA Z (gT (d147 (aP (aS w2 [wP]) (dz (a.aj.getD i ci).val)) [Ka] (by simp) (by rw[bE,aL];first|omega|(rw[aI,y];omega))) ?_);refine gA Z ⟨h1,ac,_,n4 (hs.symm)⟩
  have x: ¬(a.aj.getD i ci).kind=3:=zF D;rw[jk,be b,be j,be x]at hs;refine gA Z ⟨h1,ac,_,n4 (hs.symm)⟩
 .have A:i=0:=by have:=zF A;omega
  rw[gd,am A]at hs;refine zJ Z Z (fun B=>?_) fun B=>?_
  .have b:(a.aj.getD i ci).kind=1:=zT B;rw[jk,am b]at hs;refine gA Z (zp (yZ (a.aj.getD i ci).var) ?_);refine zE Z Z (fun g0=>?_) fun g0=>?_
   .have u:vt (a.aj.getD i ci)=jp:=by have g:eU (a.aj.getD i ci).var=jp:=g0;rw[vt,g];rfl
    rw[u]at hs;refine gA Z (fV (d146 w2 jp) ?_);refine gA Z (gT (d147 (aP w2 jp) [(a.aj.getD i ci).var] (by simp) (by rw[bE,aL];first|omega|(rw[aI,y];omega))) ?_);refine gA Z ⟨h1,ac,_,n4 (hs.symm)⟩
   have u:vt (a.aj.getD i ci)=dz (a.aj.getD i ci).val:=by have g:eU (a.aj.getD i ci).var=is:=g0;rw[vt,g];rfl
   rw[u]at hs;refine gA Z (fV (d146 w2 (dz (a.aj.getD i ci).val)) ?_);refine gA Z (gT (d147 (aP w2 (dz (a.aj.getD i ci).val)) [(a.aj.getD i ci).var] (by simp) (by rw[bE,aL];first|omega|(rw[aI,y];omega))) ?_);refine gA Z ⟨h1,ac,_,n4 (hs.symm)⟩
  have b: ¬(a.aj.getD i ci).kind=1:=zF B;refine zJ Z Z (fun C=>?_) fun C=>?_
  .have j:(a.aj.getD i ci).kind=2:=zT C;rw[jk,be b,am j]at hs;refine gA Z (fV (d146 w2 (kw ((a.aj.getD i ci).var=⟨#[]⟩))) ?_);refine gA Z (fV (d149 (aP w2 (kw ((a.aj.getD i ci).var=⟨#[]⟩))) (a.aj.getD i ci).val (by rw[aL];first|omega|(rw[aI,y];omega)) (by omega)) ?_);refine gA Z ⟨h1,ac,_,n4 (hs.symm)⟩
  have j: ¬(a.aj.getD i ci).kind=2:=zF C;refine zJ Z Z (fun D=>?_) fun D=>?_
  .have x:(a.aj.getD i ci).kind=3:=zT D;rw[jk,be b,be j,am x]at hs;refine zE Z Z (fun g0=>?_) fun g0=>?_
   .have u:vu (a.aj.getD i ci)=jp:=by have g:kw ((a.aj.getD i ci).var=⟨#[]⟩)=jp:=g0;rw[vu,g];rfl
    rw[u]at hs;refine gA Z (fV (d146 w2 jp) ?_);refine gA Z (gT (d147 (aP w2 jp) [Ka] (by simp) (by rw[bE,aL];first|omega|(rw[aI,y];omega))) ?_);refine gA Z ⟨h1,ac,_,n4 (hs.symm)⟩
   have u:vu (a.aj.getD i ci)=dz (a.aj.getD i ci).val:=by have g:kw ((a.aj.getD i ci).var=⟨#[]⟩)=is:=g0;rw[vu,g];rfl
   rw[u]at hs;refine gA Z (fV (d146 w2 (dz (a.aj.getD i ci).val)) ?_);refine gA Z (gT (d147 (aP w2 (dz (a.aj.getD i ci).val)) [Ka] (by simp) (by rw[bE,aL];first|omega|(rw[aI,y];omega))) ?_);refine gA Z ⟨h1,ac,_,n4 (hs.symm)⟩
  have x: ¬(a.aj.getD i ci).kind=3:=zF D;rw[jk,be b,be j,be x]at hs;refine gA Z ⟨h1,ac,_,n4 (hs.symm)⟩
end Go.Proofs.YtllkaddcplhklaaGreatDoor
namespace Go.Proofs.YtllkaddcplhklaaGreatDoor
open Go Go.Al
def ye:ak:=⟨#[110,111,116,32]⟩
def oX:ak:=⟨#[32,61,32]⟩
def oY:ak:=⟨#[32,123,32]⟩
def BX:ak:=⟨#[32,58,32]⟩
def wO:ak:=⟨#[32,125]⟩
def sI(op:Int):ak:=if op=1 then⟨#[32,61,32]⟩ else if op=2 then⟨#[32,33,61,32]⟩ else if op=3 then⟨#[32,60,32]⟩ else if op=4 then⟨#[32,60,61,32]⟩ else if op=5 then⟨#[32,62,32]⟩ else⟨#[32,62,61,32]⟩
def ig(f:Int):ak:=if f=1 then⟨#[99,111,117,110,116]⟩ else if f=2 then⟨#[115,117,109]⟩ else if f=3 then⟨#[109,105,110]⟩ else⟨#[109,97,120]⟩
def s9(w:WS)(n:Int):WS:=⟨w.fr,w.l,w.bad,w.br+n⟩
def cR(f:Lit->WS->WS)(l:List Lit)(w:WS):Nat->WS
 |0=>w
 |i+1=>if(cR f l w i).bad=is then cR f l w i else f (l.getD i ci) (gd i (cR f l w i))
def n3(w:WS)(a:ft):WS:=if a.func=1 then aP w (ix a.iJ) else aS (cB 17 w a.iJ) [BX]
def wb(f:Lit->WS->WS)(w:WS)(a:ft):WS:=
 if a.func<1∨5<=a.func∨16<=w.br∨a.body.length=0 then l9 w
 else aS (s9 (cR f a.body (s9 (n3 (aS (aP w (eU a.var)) [a.var,oX,ig a.func,oY]) a) 1) a.body.length) (-1)) [wO]
def yx(f:Lit->WS->WS)(l:Lit)(w:WS):WS:=
 if l.kind=2 then iY (aS w [ye]) l.atom else if l.kind=1 then iY w l.atom
 else if l.kind=3 then(if l.op<1∨7<=l.op then l9 (cB 17 w l.left) else cB 17 (aS (cB 17 w l.left) [sI l.op]) l.right)
 else if l.kind=4 then wb f w l.agg else l9 w
def dt:Nat->Lit->WS->WS
 |0,_,w=>w
 |n+1,l,w=>yx (dt n) l (aP w (jD l))
theorem cF: ∀(b:List ak) (w:WS),(aS w b).br=w.br
 | [],w=>rfl
 |s::r,w=>cF r (w6 w s)
theorem rX(w:WS)(b:Bool):(aP w b).br=w.br:=rfl
theorem HA(w:WS):(l9 w).br=w.br:=rfl
theorem tG(w:WS)(v:dM):(lv w v).br=w.br:=by rw[lv,cF];rfl
theorem xw(w k:WS)(e:Expr)(h:k.br=w.br):(iK w e k).br=w.br:=by
 unfold iK
 repeat' split
 .rfl
 .rw[cF];rfl
 .rw[tG];rfl
 .exact h
 .rfl
theorem C8(a0:Bool->WS->Expr->WS)(j: ∀b w a,(a0 b w a).br=w.br)(w:WS)(e:Expr):(jS a0 w e).br=w.br:=by
 unfold jS
 repeat' split
 .rfl
 .rw[j,cF,cF]
 .rw[j,cF]
 .rfl
 .rw[j,cF,j]
 .rfl
theorem ki: ∀(n:Nat) (w:WS) (e:Expr),(cB n w e).br=w.br
 |0,w,e=>rfl
 |1,w,e=>by rw[cB];exact xw _ _ _ Z
 |m+2,w,e=>by
  rw[cB];refine xw _ _ _ ?_;rw[C8 _ (fun b w a=>?_)]
  .rfl
  .split
   .rw[cF,ki m,cF]
   .exact ki (m+1) _ _
theorem pH(i:Nat)(w:WS):(gd i w).br=w.br:=by
 unfold gd;split
 .rfl
 .exact cF _ _
theorem Ch(w:WS)(t:Term):(jk w t).br=w.br:=by
 unfold jk
 repeat' split
 .rw[cF];rfl
 .rw[tG];rfl
 .rw[cF];rfl
 .rfl
theorem tL(l:List Term)(w:WS): ∀i,(fc l w i).br=w.br
 |0=>rfl
 |i+1=>by rw[fc,Ch,pH,tL l w i]
theorem xW(w:WS)(a:Atom):(iY w a).br=w.br:=by rw[iY,cF,tL,cF];rfl
theorem l5(f:Lit->WS->WS)(hf: ∀l w,(f l w).br=w.br)(l:List Lit)(w:WS): ∀i,(cR f l w i).br=w.br
 |0=>rfl
 |i+1=>by
  rw[cR];split
  .exact l5 f hf l w i
  .rw[hf,pH,l5 f hf l w i]
theorem Dc(w:WS)(a:ft):(n3 w a).br=w.br:=by
 unfold n3;split
 .rfl
 .rw[cF,ki]
theorem HG(f:Lit->WS->WS)(hf: ∀l w,(f l w).br=w.br)(w:WS)(a:ft):(wb f w a).br=w.br:=by
 unfold wb;split
 .rfl
 .rw[cF];show(cR _ _ _ _).br+ -1=_;rw[l5 f hf];show(n3 _ _).br+1+ -1=_;rw[Dc,cF,rX];omega
theorem GY(f:Lit->WS->WS)(hf: ∀l w,(f l w).br=w.br)(l:Lit)(w:WS):(yx f l w).br=w.br:=by
 unfold yx
 repeat' split
 .rw[xW,cF]
 .exact xW _ _
 .rw[HA,ki]
 .rw[ki,cF,ki]
 .exact HG f hf _ _
 .rfl
theorem vE: ∀(n:Nat) (l:Lit) (w:WS),(dt n l w).br=w.br
 |0,_,_=>rfl
 |n+1,l,w=>by rw[dt,GY (dt n) (vE n)];rfl
mutual
def Lit.ts:Lit->Nat
 | .mk _ a _ l r _ v o b _=>100+a.ts+l.ts+r.ts+v.size+o.ts+Lit.mE b
def Lit.mE:List Lit->Nat
 | []=>0
 |e::r=>e.ts+Lit.mE r
end
theorem Lit.pO(l:Lit):l.ts=100+l.atom.ts+l.left.ts+l.right.ts+l.bw.size+l.ji.ts+Lit.mE l.ar:=by cases l;rfl
theorem Lit.wq: ∀(l:List Lit) (i:Nat),i<l.length->Lit.mE (l.take i)+(l.getD i ci).ts<=Lit.mE l
 | [],i,h=>by simp at h
 |s::r,0,_=>by simp[Lit.mE]
 |s::r,i+1,h=>by
  have:=Lit.wq r i (by simpa using h);simp only[PX,Lit.mE,PR];omega
theorem Lit.Cd: ∀(l:List Lit) (i:Nat),Lit.mE (l.take i)<=Lit.mE l
 | [],i=>by simp
 |s::r,0=>by simp[Lit.mE]
 |s::r,i+1=>by have:=Lit.Cd r i;simp only[PX,Lit.mE];omega
theorem Lit.JU(l:Lit):100<=l.ts:=by rw[l.pO];omega
theorem En(op:Int):(sI op).size<=4:=by
 unfold sI
 repeat' split
 all_goals decide
theorem xN(op:Int):(ig op).size<=5:=by
 unfold ig
 repeat' split
 all_goals decide
def HI(f:Lit->WS->WS):Prop:= ∀l w,(f l w).l.length+4<=w.l.length+l.ts
theorem mz(f:Lit->WS->WS)(hf:HI f)(l:List Lit)(w:WS): ∀i,i<=l.length->(cR f l w i).l.length<=w.l.length+Lit.mE (l.take i)
 |0,_=>by simp[cR,Lit.mE]
 |i+1,h=>by
  have h1:=mz f hf l w i (by omega);have y:Lit.mE (l.take (i+1))=Lit.mE (l.take i)+(l.getD i ci).ts:=by
   rw[cd (by omega)];have: ∀(a:List Lit) (b:Lit),Lit.mE (a++ [b])=Lit.mE a+b.ts:=by
    intro a b
    induction a with
    |nil=>simp[Lit.mE]
    |cons x r ih=>simp only[PT,Lit.mE,ih];omega
   exact this _ _
  rw[cR];split
  .omega
  .have j:=hf (l.getD i ci) (gd i (cR f l w i));have u:=kS i (cR f l w i);omega
theorem zx(w:WS)(a:ft):(n3 w a).l.length<=w.l.length+a.iJ.ts+3:=by
 have e:BX.size=3:=rfl;unfold n3;split
 .rw[aL];omega
 .have:=cT 17 w a.iJ;rw[aI,e];omega
theorem uA(w:WS)(a:ft):(aS (aP w (eU a.var)) [a.var,oX,ig a.func,oY]).l.length<=w.l.length+a.var.size+11:=by
 have b:oX.size=3:=rfl;have j:oY.size=3:=rfl;have h:=xN a.func;have e:eG [a.var,oX,ig a.func,oY]=a.var.size+(3+((ig a.func).size+3)):=by simp[eG,b,j]
 rw[gH,aL,e];omega
theorem EH(f:Lit->WS->WS)(hf:HI f)(w:WS)(a:ft):(wb f w a).l.length<=w.l.length+a.var.size+a.iJ.ts+Lit.mE a.body+20:=by
 have e:wO.size=2:=rfl;unfold wb;split
 .rw[eT];omega
 .rw[aI,e];show(cR _ _ _ _).l.length+2<=_;have h1:=mz f hf a.body (s9 (n3 (aS (aP w (eU a.var)) [a.var,oX,ig a.func,oY]) a) 1) a.body.length (OL _);rw[Ql]at h1;have b:=zx (aS (aP w (eU a.var)) [a.var,oX,ig a.func,oY]) a;have j:=uA w a;have u:(s9 (n3 (aS (aP w (eU a.var)) [a.var,oX,ig a.func,oY]) a) 1).l.length=(n3 (aS (aP w (eU a.var)) [a.var,oX,ig a.func,oY]) a).l.length:=rfl;omega
theorem Dx(f:Lit->WS->WS)(hf:HI f)(l:Lit)(w:WS):(yx f l w).l.length+4<=w.l.length+l.ts:=by
 have x:=l.pO;have e:ye.size=4:=rfl;unfold yx
 repeat' split
 .have h1:=uU (aS w [ye]) l.atom;rw[aI,e]at h1;omega
 .have h1:=uU w l.atom;omega
 .have h1:=cT 17 w l.left;rw[eT];omega
 .have h1:=cT 17 w l.left;have b:=cT 17 (aS (cB 17 w l.left) [sI l.op]) l.right;have j:=En l.op;rw[aI]at b;omega
 .have h1:=EH f hf w l.agg;have b:l.agg.var=l.bw:=rfl;have j:l.agg.iJ=l.ji:=rfl;have u:l.agg.body=l.ar:=rfl;rw[b,j,u]at h1;omega
 .rw[eT];omega
theorem r8: ∀n,HI (dt n)
 |0=>fun l w=>by have:=l.JU;rw[dt];omega
 |n+1=>fun l w=>Dx (dt n) (r8 n) l (aP w (jD l))
theorem uS{f:Lit->WS->WS}{l:List Lit}{w:WS}{i:Nat}(h:(cR f l w i).bad=is): ∀k,cR f l w (i+k)=cR f l w i
 |0=>rfl
 |k+1=>by
  have:=uS h k;rw[<-P3,cR,this,am h]
end Go.Proofs.YtllkaddcplhklaaGreatDoor
namespace Go.Proofs.YtllkaddcplhklaaGreatDoor
open Go Go.Al Go.Proofs.Tryz
def EK(n:Nat):Prop:= ∀(l:Lit) (w:WS),l.size<=n->0<=w.br->w.br<=16->w.l.length+l.ts<=900000000->bI prog 155 [.ptr 0 0,ag l.c] w.O (.bh []) (dt n l w).H 3
set_option maxHeartbeats 1000000 in
theorem d214(n:Nat)(C:EK n)(w:WS)(b:List Lit)(hs:Lit.aE b<=n)(G:0<=w.br)(I:w.br<=16)(hb:w.l.length+Lit.mE b+2<=900000000)(hn:n<=100000000):
  bI prog 210 [.ptr 0 0,.iv (lits b)] w.O (.bh []) (cR (dt n) b w b.length).H 3:=by
 have D:wP.size=2:=rfl;have a0:=Lit.aF b;refine ax ab func210 Z (by decide) ntmps210 Z (by simp) ?_;refine gA Z ?_;refine aM 0 b.length (OS _) (fun i=>⟨[(0,.ptr 0 0),(6,.iv (lits b)),(7,pI b.length),(8,pI i)],[(0,co ((cR (dt n) b w i).oR 0 2)),(2,co (.bf (cR (dt n) b w i).l 5))],3⟩) (fun _=>True) _ ac
  (Nw (w:=w) Z Z Z Z Z (.refl _) (.refl _) Z Z Z Z Z (bi (bi (bi (bi trivial))))) fun i R _=>?_
 have Y:=mz (dt n) (r8 n) b w i R;have J:=l5 (dt n) (vE n) b w i;have c0:=Lit.Cd b i;refine zE Z Z (fun h1=>?_) fun h1=>?_
 .have h1:b.length<=i:=zG h1;have B:i=b.length:=by omega
  subst B;refine gA Z gx
 have h1:i<b.length:=zN h1;have d0:=Lit.wq b i h1;have b0:=Lit.bN b i h1;have j:cR (dt n) b w (i+1)=if(cR (dt n) b w i).bad=is then cR (dt n) b w i else dt n (b.getD i ci) (gd i (cR (dt n) b w i)):=rfl;have u:=fun h=>uS (f:=dt n) (l:=b) (w:=w) (i:=i) h (b.length-i);rw[Nat.add_sub_cancel' (Nat.le_of_lt h1)]at u;have A:=kS i (cR (dt n) b w i);have y:=pH i (cR (dt n) b w i);generalize cR (dt n) b w i=w2 at*
 refine zJ Z Z (fun g=>?_) fun g=>?_
 .have g:w2.bad=is:=g;rw[u g];refine gA Z gx
 have g: ¬w2.bad=is:=by
  have g:w2.bad=jp:=g;rw[g];decide
 rw[be g]at j;refine zJ Z Z (fun x=>?_) fun x=>?_
 .have x: ¬i=0:=by have:=zT x;omega
  rw[gd,be x]at j A y;refine gA Z (gT (d147 w2 [wP] (by simp) (by rw[bE,D];omega)) ?_);refine gA Z (fV (C (b.getD i ci) (aS w2 [wP]) (by omega) (by omega) (by omega) (by omega)) ?_);refine gA Z ⟨h1,ac,_,n4 (j.symm)⟩
 .have x:i=0:=by have:=zF x;omega
  rw[gd,am x]at j A y;refine gA Z (fV (C (b.getD i ci) w2 (by omega) (by omega) (by omega) (by omega)) ?_);refine gA Z ⟨h1,ac,_,n4 (j.symm)⟩
def ft.ts(a:ft):Nat:=a.var.size+a.iJ.ts+Lit.mE a.body
set_option maxHeartbeats 4000000 in
theorem d190(n:Nat)(ih:EK n)(w:WS)(a:ft)(hs:Lit.aE a.body<=n)(a0:0<=w.br)(b0:w.br<=16)(hb:w.l.length+a.ts+30<=900000000)(hn:n<=100000000):
  bI prog 192 [.ptr 0 0,ag a.c] w.O (.bh []) (wb (dt n) w a).H 3:=by
 refine bI.le (args:=[.ptr 0 0,ag a.c1]) ?_ ⟨.refl _,a.DA,ac⟩;have Y:wO.size=2:=rfl;have e5:BX.size=3:=rfl;have c0:=Lit.aF a.body;have d0:a.ts=a.var.size+a.iJ.ts+Lit.mE a.body:=rfl;have hW: ¬(a.func<1∨5<=a.func∨16<=w.br∨a.body.length=0)->wb (dt n) w a=aS (s9 (cR (dt n) a.body (s9 (n3 (aS (aP w (eU a.var)) [a.var,oX,ig a.func,oY]) a) 1) a.body.length) (-1)) [wO]:=fun h=>be h;have R:a.func<1∨5<=a.func∨16<=w.br∨a.body.length=0->wb (dt n) w a=l9 w:=fun h=>am h;have hh:=uA w a;have y:=zx (aS (aP w (eU a.var)) [a.var,oX,ig a.func,oY]) a;have u:=Dc (aS (aP w (eU a.var)) [a.var,oX,ig a.func,oY]) a;rw[cF,rX]at u;have A:(s9 (n3 (aS (aP w (eU a.var)) [a.var,oX,ig a.func,oY]) a) 1).l.length=(n3 (aS (aP w (eU a.var)) [a.var,oX,ig a.func,oY]) a).l.length:=rfl;have B:(s9 (n3 (aS (aP w (eU a.var)) [a.var,oX,ig a.func,oY]) a) 1).br=(n3 (aS (aP w (eU a.var)) [a.var,oX,ig a.func,oY]) a).br+1:=rfl;have x:=mz (dt n) (r8 n) a.body (s9 (n3 (aS (aP w (eU a.var)) [a.var,oX,ig a.func,oY]) a) 1) a.body.length (OL _);rw[Ql]at x;have C:=l5 (dt n) (vE n) a.body (s9 (n3 (aS (aP w (eU a.var)) [a.var,oX,ig a.func,oY]) a) 1) a.body.length;have D:eG [a.var,oX,ig a.func,oY]=a.var.size+(3+((ig a.func).size+3)):=by simp[eG,oX,oY];rfl
 have G:=xN a.func;obtain⟨j,var,b,body⟩:=a;dsimp only at*
 refine ax ab func192 Z (by decide) ntmps192 Z (by simp) ?_;refine zE Z Z (fun g1=>?_) fun g1=>?_
 .rw[R (.inl (zT g1))];refine gA Z gx
 refine zE Z Z (fun g2=>?_) fun g2=>?_
 .rw[R (.inr (.inl (zT g2)))];refine gA Z gx
 refine zE Z Z (fun g3=>?_) fun g3=>?_
 .rw[R (.inr (.inr (.inl (zT g3))))];refine gA Z gx
 refine zJ Z Z (fun g4=>?_) fun g4=>?_
 .rw[R (.inr (.inr (.inr (RY.1 (zT g4)))))];refine gA Z gx
 have g1: ¬j<1:=zF g1;have g2: ¬j>=5:=zF g2;have g3: ¬w.br>=16:=zF g3;have g4: ¬body.length=0:=fun h=>zF g4 (RY.2 h);rw[hW (by rintro(h|h|h|h)<;>omega)];have hf:j=1∨j=2∨j=3∨j=4:=by omega
 clear hW R;rcases hf with rfl|rfl|rfl|rfl
 .have e:ig 1=⟨#[99,111,117,110,116]⟩:=rfl;rw[e]at hh y u A B x C D G ⊢;refine gA Z (zp (yZ var) ?_);refine gA Z (fV (d146 w (eU var)) ?_);refine gA Z (vN (d147 (aP w (eU var)) [var,oX,⟨#[99,111,117,110,116]⟩,oY] (by simp) (by rw[D,aL];omega)) Z Z Z Z Z Z Z Z Z Z Z Z Z Z Z Z (by(repeat' (first|exact ac|exact rfl|exact an.refl _|exact an.bk (by assumption)|apply OF))<;>first|omega|(simp only[OG];omega)|(simp;done)|(simp;omega)) Z (by(repeat' (first|exact ac|exact rfl|exact an.refl _|exact an.bk (by assumption)|apply OF))<;>first|omega|(simp only[OG];omega)|(simp;done)|(simp;omega)) ?_);generalize J:aS (aP w (eU var)) [var,oX,⟨#[99,111,117,110,116]⟩,oY]=w1 at*
  have I:n3 w1 ⟨1,var,b,body⟩=aP w1 (ix b):=rfl;rw[I]at y u A B x C ⊢;refine zE Z Z (fun q=>?_) fun q=>?_
  .exact absurd (show is=jp from q) (by decide)
  refine gA Z (zp (Hx b) ?_);refine gA Z (fV (d146 w1 (ix b)) ?_);generalize aP w1 (ix b)=w2 at*
  refine gA Z (fV (d214 n ih (s9 w2 1) body hs (by omega) (by omega) (by omega) hn) ?_);generalize cR (dt n) body (s9 w2 1) body.length=w3 at*
  refine gA Z (go_wp (d147 (s9 w3 (-1)) [wO] (by simp) (by rw[bE,Y];show w3.l.length+2<=_;omega)) Z Z Z Z Z Z Z Z Z Z Z Z ?_);refine gA Z gx
 .have e:ig 2=⟨#[115,117,109]⟩:=rfl;rw[e]at hh y u A B x C D G ⊢;refine gA Z (zp (yZ var) ?_);refine gA Z (fV (d146 w (eU var)) ?_);refine gA Z (vN (d147 (aP w (eU var)) [var,oX,⟨#[115,117,109]⟩,oY] (by simp) (by rw[D,aL];omega)) Z Z Z Z Z Z Z Z Z Z Z Z Z Z Z Z (by(repeat' (first|exact ac|exact rfl|exact an.refl _|exact an.bk (by assumption)|apply OF))<;>first|omega|(simp only[OG];omega)|(simp;done)|(simp;omega)) Z (by(repeat' (first|exact ac|exact rfl|exact an.refl _|exact an.bk (by assumption)|apply OF))<;>first|omega|(simp only[OG];omega)|(simp;done)|(simp;omega)) ?_);generalize J:aS (aP w (eU var)) [var,oX,⟨#[115,117,109]⟩,oY]=w1 at*
  have I:n3 w1 ⟨2,var,b,body⟩=aS (cB 17 w1 b) [BX]:=rfl;rw[I]at y u A B x C ⊢;refine zJ Z Z (fun q=>?_) fun q=>?_
  .exact absurd (show jp=is from q) (by decide)
  have hx:=cT 17 w1 b;refine gA Z (fV (mW w1 b (by omega)) ?_);refine gA Z (gT (d147 (cB 17 w1 b) [BX] (by simp) (by rw[bE,e5];omega)) ?_);generalize aS (cB 17 w1 b) [BX]=w2 at*
  refine gA Z (fV (d214 n ih (s9 w2 1) body hs (by omega) (by omega) (by omega) hn) ?_);generalize cR (dt n) body (s9 w2 1) body.length=w3 at*
  refine gA Z (go_wp (d147 (s9 w3 (-1)) [wO] (by simp) (by rw[bE,Y];show w3.l.length+2<=_;omega)) Z Z Z Z Z Z Z Z Z Z Z Z ?_);refine gA Z gx
 .have e:ig 3=⟨#[109,105,110]⟩:=rfl;rw[e]at hh y u A B x C D G ⊢;refine gA Z (zp (yZ var) ?_);refine gA Z (fV (d146 w (eU var)) ?_);refine gA Z (vN (d147 (aP w (eU var)) [var,oX,⟨#[109,105,110]⟩,oY] (by simp) (by rw[D,aL];omega)) Z Z Z Z Z Z Z Z Z Z Z Z Z Z Z Z (by(repeat' (first|exact ac|exact rfl|exact an.refl _|exact an.bk (by assumption)|apply OF))<;>first|omega|(simp only[OG];omega)|(simp;done)|(simp;omega)) Z (by(repeat' (first|exact ac|exact rfl|exact an.refl _|exact an.bk (by assumption)|apply OF))<;>first|omega|(simp only[OG];omega)|(simp;done)|(simp;omega)) ?_);generalize J:aS (aP w (eU var)) [var,oX,⟨#[109,105,110]⟩,oY]=w1 at*
  have I:n3 w1 ⟨3,var,b,body⟩=aS (cB 17 w1 b) [BX]:=rfl;rw[I]at y u A B x C ⊢;refine zJ Z Z (fun q=>?_) fun q=>?_
  .exact absurd (show jp=is from q) (by decide)
  have hx:=cT 17 w1 b;refine gA Z (fV (mW w1 b (by omega)) ?_);refine gA Z (gT (d147 (cB 17 w1 b) [BX] (by simp) (by rw[bE,e5];omega)) ?_);generalize aS (cB 17 w1 b) [BX]=w2 at*
  refine gA Z (fV (d214 n ih (s9 w2 1) body hs (by omega) (by omega) (by omega) hn) ?_);generalize cR (dt n) body (s9 w2 1) body.length=w3 at*
  refine gA Z (go_wp (d147 (s9 w3 (-1)) [wO] (by simp) (by rw[bE,Y];show w3.l.length+2<=_;omega)) Z Z Z Z Z Z Z Z Z Z Z Z ?_);refine gA Z gx
 .have e:ig 4=⟨#[109,97,120]⟩:=rfl;rw[e]at hh y u A B x C D G ⊢;refine gA Z (zp (yZ var) ?_);refine gA Z (fV (d146 w (eU var)) ?_);refine gA Z (vN (d147 (aP w (eU var)) [var,oX,⟨#[109,97,120]⟩,oY] (by simp) (by rw[D,aL];omega)) Z Z Z Z Z Z Z Z Z Z Z Z Z Z Z Z (by(repeat' (first|exact ac|exact rfl|exact an.refl _|exact an.bk (by assumption)|apply OF))<;>first|omega|(simp only[OG];omega)|(simp;done)|(simp;omega)) Z (by(repeat' (first|exact ac|exact rfl|exact an.refl _|exact an.bk (by assumption)|apply OF))<;>first|omega|(simp only[OG];omega)|(simp;done)|(simp;omega)) ?_);generalize J:aS (aP w (eU var)) [var,oX,⟨#[109,97,120]⟩,oY]=w1 at*
  have I:n3 w1 ⟨4,var,b,body⟩=aS (cB 17 w1 b) [BX]:=rfl;rw[I]at y u A B x C ⊢;refine zJ Z Z (fun q=>?_) fun q=>?_
  .exact absurd (show jp=is from q) (by decide)
  have hx:=cT 17 w1 b;refine gA Z (fV (mW w1 b (by omega)) ?_);refine gA Z (gT (d147 (cB 17 w1 b) [BX] (by simp) (by rw[bE,e5];omega)) ?_);generalize aS (cB 17 w1 b) [BX]=w2 at*
  refine gA Z (fV (d214 n ih (s9 w2 1) body hs (by omega) (by omega) (by omega) hn) ?_);generalize cR (dt n) body (s9 w2 1) body.length=w3 at*
  refine gA Z (go_wp (d147 (s9 w3 (-1)) [wO] (by simp) (by rw[bE,Y];show w3.l.length+2<=_;omega)) Z Z Z Z Z Z Z Z Z Z Z Z ?_);refine gA Z gx
set_option maxHeartbeats 4000000 in
theorem BO(n:Nat)(ih:EK n)(hn:n<=100000000):EK (n+1):=by
 intro l w hs J R hb;have D:ye.size=4:=rfl;have B:=l.size_eq;have C:=l.pO;have A:l.agg.ts=l.bw.size+l.ji.ts+Lit.mE l.ar:=rfl;have I:dt (n+1) l w=yx (dt n) l (aP w (jD l)):=rfl;rw[I];have Y:(aP w (jD l)).l.length=w.l.length:=rfl;have a0:=rX w (jD l);have hx:=cT 17 (aP w (jD l)) l.left;obtain⟨kind,atom,op,left,right,dL,bw,ji,ar,at_⟩:=l;dsimp only[Lit.atom,Lit.left,Lit.right,Lit.bw,Lit.ji,Lit.ar]at B C A hx;refine ax ab func155 Z (by decide) ntmps155 Z (by simp) ?_;refine gA Z (zp (Od (.mk kind atom op left right dL bw ji ar at_)) ?_);refine gA Z (fV (d146 w (jD (.mk kind atom op left right dL bw ji ar at_))) ?_);generalize aP w (jD (.mk kind atom op left right dL bw ji ar at_))=w1 at*
 have G:yx (dt n) (.mk kind atom op left right dL bw ji ar at_) w1=if kind=2 then iY (aS w1 [ye]) atom else if kind=1 then iY w1 atom
  else if kind=3 then(if op<1∨7<=op then l9 (cB 17 w1 left) else cB 17 (aS (cB 17 w1 left) [sI op]) right)
  else if kind=4 then wb (dt n) w1 (Lit.mk kind atom op left right dL bw ji ar at_).agg else l9 w1:=rfl
 rw[G];refine zJ Z Z (fun u=>?_) fun u=>?_
 .have u:kind=2:=zT u;rw[am u];refine gA Z (gT (d147 w1 [ye] (by simp) (by rw[bE,D];omega)) ?_);refine gA Z (fV (d104 (aS w1 [ye]) atom (by rw[aI,D];omega)) ?_);refine gA Z gx
 have u: ¬kind=2:=zF u;rw[be u];refine zJ Z Z (fun j=>?_) fun j=>?_
 .have j:kind=1:=zT j;rw[am j];refine gA Z (fV (d104 w1 atom (by omega)) ?_);refine gA Z gx
 have j: ¬kind=1:=zF j;rw[be j];refine zE Z Z (fun x=>?_) fun x=>?_
 .have x: ¬kind=3:=zF x;rw[be x];refine zJ Z Z (fun y=>?_) fun y=>?_
  .have y:kind=4:=zT y;rw[am y];refine gA Z (fV (d190 n ih w1 (Lit.mk kind atom op left right dL bw ji ar at_).agg (by show Lit.aE ar<=n;omega) (by omega) (by omega) (by omega) hn) ?_);refine gA Z gx
  .have y: ¬kind=4:=zF y;rw[be y];refine gA Z gx
 have x:kind=3:=zT x;rw[am x];refine gA Z (fV (mW w1 left (by omega)) ?_);refine zE Z Z (fun g1=>?_) fun g1=>?_
 .rw[am (.inl (zT g1))];refine gA Z gx
 refine zJ Z Z (fun g2=>?_) fun g2=>?_
 .rw[am (.inr (zT g2))];refine gA Z gx
 have g1: ¬op<1:=zF g1;have g2: ¬op>=7:=zF g2;rw[be (by rintro(h|h)<;>omega)];generalize cB 17 w1 left=w2 at*
 have ho:op=1∨op=2∨op=3∨op=4∨op=5∨op=6:=by omega
 clear G I;rcases ho with rfl|rfl|rfl|rfl|rfl|rfl
 .have e:sI 1=⟨#[32,61,32]⟩:=rfl;have b:((⟨#[32,61,32]⟩:ak)).size=3:=rfl;rw[e];refine fb Z (by dsimp only[Lit.op];exact(by(repeat' (first|exact ac|exact rfl|exact an.refl _|exact an.bk (by assumption)|apply OF))<;>first|omega|(simp only[OG];omega)|(simp;done)|(simp;omega))) (go_wp (d147 w2 [⟨#[32,61,32]⟩] (by simp) (by rw[bE,b];omega)) Z Z Z Z Z Z Z Z Z Z Z Z ?_);refine gA Z (fV (mW (aS w2 [⟨#[32,61,32]⟩]) right (by rw[aI,b];omega)) ?_);refine gA Z gx
 .have e:sI 2=⟨#[32,33,61,32]⟩:=rfl;have b:((⟨#[32,33,61,32]⟩:ak)).size=4:=rfl;rw[e];refine fb Z (by dsimp only[Lit.op];exact(by(repeat' (first|exact ac|exact rfl|exact an.refl _|exact an.bk (by assumption)|apply OF))<;>first|omega|(simp only[OG];omega)|(simp;done)|(simp;omega))) (go_wp (d147 w2 [⟨#[32,33,61,32]⟩] (by simp) (by rw[bE,b];omega)) Z Z Z Z Z Z Z Z Z Z Z Z ?_);refine gA Z (fV (mW (aS w2 [⟨#[32,33,61,32]⟩]) right (by rw[aI,b];omega)) ?_);refine gA Z gx
 .have e:sI 3=⟨#[32,60,32]⟩:=rfl;have b:((⟨#[32,60,32]⟩:ak)).size=3:=rfl;rw[e];refine fb Z (by dsimp only[Lit.op];exact(by(repeat' (first|exact ac|exact rfl|exact an.refl _|exact an.bk (by assumption)|apply OF))<;>first|omega|(simp only[OG];omega)|(simp;done)|(simp;omega))) (go_wp (d147 w2 [⟨#[32,60,32]⟩] (by simp) (by rw[bE,b];omega)) Z Z Z Z Z Z Z Z Z Z Z Z ?_);refine gA Z (fV (mW (aS w2 [⟨#[32,60,32]⟩]) right (by rw[aI,b];omega)) ?_);refine gA Z gx
 .have e:sI 4=⟨#[32,60,61,32]⟩:=rfl;have b:((⟨#[32,60,61,32]⟩:ak)).size=4:=rfl;rw[e];refine fb Z (by dsimp only[Lit.op];exact(by(repeat' (first|exact ac|exact rfl|exact an.refl _|exact an.bk (by assumption)|apply OF))<;>first|omega|(simp only[OG];omega)|(simp;done)|(simp;omega))) (go_wp (d147 w2 [⟨#[32,60,61,32]⟩] (by simp) (by rw[bE,b];omega)) Z Z Z Z Z Z Z Z Z Z Z Z ?_);refine gA Z (fV (mW (aS w2 [⟨#[32,60,61,32]⟩]) right (by rw[aI,b];omega)) ?_);refine gA Z gx
 .have e:sI 5=⟨#[32,62,32]⟩:=rfl;have b:((⟨#[32,62,32]⟩:ak)).size=3:=rfl;rw[e];refine fb Z (by dsimp only[Lit.op];exact(by(repeat' (first|exact ac|exact rfl|exact an.refl _|exact an.bk (by assumption)|apply OF))<;>first|omega|(simp only[OG];omega)|(simp;done)|(simp;omega))) (go_wp (d147 w2 [⟨#[32,62,32]⟩] (by simp) (by rw[bE,b];omega)) Z Z Z Z Z Z Z Z Z Z Z Z ?_);refine gA Z (fV (mW (aS w2 [⟨#[32,62,32]⟩]) right (by rw[aI,b];omega)) ?_);refine gA Z gx
 .have e:sI 6=⟨#[32,62,61,32]⟩:=rfl;have b:((⟨#[32,62,61,32]⟩:ak)).size=4:=rfl;rw[e];refine fb Z (by dsimp only[Lit.op];exact(by(repeat' (first|exact ac|exact rfl|exact an.refl _|exact an.bk (by assumption)|apply OF))<;>first|omega|(simp only[OG];omega)|(simp;done)|(simp;omega))) (go_wp (d147 w2 [⟨#[32,62,61,32]⟩] (by simp) (by rw[bE,b];omega)) Z Z Z Z Z Z Z Z Z Z Z Z ?_);refine gA Z (fV (mW (aS w2 [⟨#[32,62,61,32]⟩]) right (by rw[aI,b];omega)) ?_);refine gA Z gx
theorem MJ: ∀n,n<=100000001->EK n
 |0,_=>fun l w hs=>by have:=l.size_pos;omega
 |n+1,h=>BO n (MJ n (by omega)) (by omega)
section
abbrev WS.o:WS:=⟨is,[],jp,0⟩
section
variable {nt:NT} {Q:AQ} {k:List KI} {s:AS}
def wN(s:AS)(i:Nat):AS:=match s with|⟨f,h,n⟩=>⟨f,(i,co (WS.o.oR i n))::(n,co (.bf [] 5))::h,n+1⟩
theorem Ad{P:Program}{c:Code}{s':AS}(i:Nat)(hi:s.h.get i=co (.cells [.iv (.v (.pointer io)),.iv (.v (.slice io 0 0)),pB jp,pI 0] (co 225)))
  (hs:wN s i=s') (h:GO P nt (.code c::k) Q s'):GO P nt (.code c::k) Q s:=by
 subst hs;intro M N a w B;obtain⟨sf,sh,u⟩:=s;obtain⟨h1,Y⟩:=B.1.HO 5;have G:i<u:=B.1.used i _ hi;have I:i≠u:=fun e=>by omega
 have x:AH.get ((u,co (AO.bf [] 5))::sh) i=co (.cells [.iv (.v (.pointer io)),.iv (.v (.slice io 0 0)),pB jp,pI 0] (co 225)):=by
  rw[AH.au,be I];exact hi
 obtain⟨y,T,e1,e2,e3,A,e5⟩:=Y.obj i _ x;have hv: ∀(j:Nat) (p:PV),[PV.dY is i,.sl u 0 0 1,pB jp,pI 0][j]? =co p->VR M N (· <u+1) p (y.getD j undef):=by
  intro j p b
  match j,b with
  |0,b=>
   cases b;have:=A 0 _ Z;generalize y.getD 0 undef=v at this ⊢;cases this with
   |iv _ _ h=>cases h with
    |v=>exact .dY is i (PY G)
  |1,b=>
   cases b;have:=A 1 _ Z;generalize y.getD 1 undef=v at this ⊢;cases this with
   |iv _ _ h=>cases h with
    |v=>exact .lC _ _ (Qc _)
  |2,b=>exact A 2 p b
  |3,b=>exact A 3 p b
  |j+4,b=>cases b
 obtain⟨g1,g2⟩:=Y.write (i:=i) (o0:= .cells [.iv (.v (.pointer io)),.iv (.v (.slice io 0 0)),pB jp,pI 0] (co 225)) x Z w (WS.o.oR i u) Z Z Z Z (fun _ _=>rfl) ⟨y,T,e1,e2,e3,hv,e5⟩;have C:Fits M N ⟨sf,(i,co (WS.o.oR i u))::(u,co (.bf [] 5))::sh,u+1⟩ nt a w:=
  ⟨g2,fun k=>(B.2.1 k).mono (.refl _) (.refl _ _) (fun i hi=>PY hi),B.2.2⟩
 exact AW.then h C fun e a2 w2 M2 N2 s2 R D J=>⟨M2,N2,s2,(h1.trans g1).trans R,D,J⟩
end
def WS.told(w:WS):PV:= .bh [pS (if w.bad=is then⟨#[]⟩ else⟨w.l.toArray⟩),pI (if w.bad=is then 50 else 0)]
theorem d105(w:WS):bI prog 154 [.ptr 0 0] w.O w.told [] 2:=by
 refine ax ab func154 Z (by decide) ntmps154 Z (by simp) ?_;refine zJ Z Z (fun g=>?_) fun g=>?_
 .have g:w.bad=is:=g;unfold WS.told;rw[am g,am g];refine gA Z (zD [] Z (zW ac))
 .have g: ¬w.bad=is:=by
   have g:w.bad=jp:=g;rw[g];decide
  unfold WS.told;rw[be g,be g];refine gA Z (zq [0,1] (d150 w) ?_);refine gA Z (zD [] Z (zW ac))
def Nh(a:Atom):PV:=(iY WS.o a).told
def NK(l:Lit):PV:=(dt l.size l WS.o).told
theorem c61(a:Atom)(hb:a.ts<=900000000):Pure prog 118 [ag a.c] (Nh a):=by
 refine ae ab func118 Z (by decide) ntmps118 Z (by simp) Z ?_;refine gM 12 Z (Ad 1 Z Z ?_);refine gA Z (fV (d104 WS.o a (by simpa using hb)) ?_);refine gA Z (zq [1,3] (d105 (iY WS.o a)) ?_);exact zU Z
theorem Oq(l:Lit)(hb:l.ts<=900000000)(hs:l.size<=100000000):Pure prog 119 [ag l.c] (NK l):=by
 refine ae ab func119 Z (by decide) ntmps119 Z (by simp) Z ?_;refine gM 12 Z (Ad 1 Z Z ?_);refine gA Z (fV (MJ l.size (by omega) l WS.o (OL _) (by decide) (by decide) (by simpa using hb)) ?_);refine gA Z (zq [1,3] (d105 (dt l.size l WS.o)) ?_);exact zU Z
end
def nC(d:Decl)(i k:Int):Int:=
 if(d.types.any fun x=>!kw (x=1)&&!kw (x=2))=is∨ik d.name=jp then 1
 else if i>=64∨(d.types.length:Int)>8 then 66 else if k>0 then 60 else 0
theorem Ot(d:Decl)(i k:Int):Pure prog 82 [ag d.c,pI i,pI k] (pI (nC d i k)):=by
 refine ae ab func82 Z (by decide) ntmps82 Z (by simp) Z ?_;refine gA Z (zq [] (d153 d.types) ?_);refine zE Z Z (fun g1=>?_) fun g1=>?_
 .rw[nC,am (.inl (by simpa using g1))];exact zU Z
 have g1: ¬(d.types.any fun x=>!kw (x=1)&&!kw (x=2))=is:=by
  have g1:(d.types.any fun x=>!kw (x=1)&&!kw (x=2))=jp:=g1;rw[g1];decide
 refine gA Z (zp (Ns d.name) ?_);refine zJ Z Z (fun g2=>?_) fun g2=>?_
 .have g2:ik d.name=jp:=by simpa using g2
  rw[nC,am (.inr g2)];exact zU Z
 have g2: ¬ik d.name=jp:=by
  have g2:ik d.name=is:=by simpa using g2
  rw[g2];decide
 rw[nC,be (by rintro(h|h);exact g1 h;exact g2 h)];refine zE Z Z (fun g3=>?_) fun g3=>?_
 .rw[am (.inl (by simpa using g3))];exact zU Z
 have g3: ¬i>=64:=zF g3;refine zJ Z Z (fun g4=>?_) fun g4=>?_
 .rw[am (.inr (zT g4))];exact zU Z
 have g4: ¬(d.types.length:Int)>8:=zF g4;rw[be (by rintro(h|h);exact g3 h;exact g4 h)];refine zJ Z Z (fun g5=>?_) fun g5=>?_
 .rw[am (zT g5)];exact zU Z
 .rw[be (zF g5)];exact zU Z
abbrev bZ:=(KC.si .i64).K
def bZ.z:bZ:=(OI,0)
def bZ.c(s:bZ):List IV:=[iS s.1,iI s.2]
def spE(s:bZ):IV:= .agg s.c
def spZ:Value:= .agg #[.string OI,.int .i64 0]
def dvP:PV->bZ
 | .agg [.iv (.v (.string s)),.iv (.v (.int _ a))]=>(s,a)
 |_=>bZ.z
abbrev UM:=List (bZ×bZ)
abbrev KM:=List (bZ×Int)
abbrev mK(m:UM):AO:= .map (.si .i64) spE bZ.z spZ dvP m
abbrev upI(m:UM):IV:= .dJ (.si .i64) spE bZ.z spZ m
abbrev mR(m:KM):AO:= .map (.si .i64) wg 0 (.int .i64 0) NR m
abbrev kdI(m:KM):IV:= .dJ (.si .i64) wg 0 (.int .i64 0) m
structure Want where
 lit:Int
 at_:bZ
 kind:Int
 has:Int
 deriving Inhabited
def Want.c(w:Want):List IV:=[iI w.lit,iS w.at_.1,iI w.at_.2,iI w.kind,iI w.has]
structure TS where
 up:UM
 ws:List Want
 kind:KM
abbrev TS.cell(r:aw)(u j n k:Nat):AO:= .cells [.iv (b8 r),.mp u,.sl j 0 n 5,.mp k]
abbrev TS.O(r:aw)(t:TS):List AO:=[TS.cell r 1 2 t.ws.length 3,mK t.up,aT 5 t.ws Want.c,mR t.kind]
abbrev TS.K(r:aw)(t:TS):AH:=[(0,co (TS.cell r 1 2 t.ws.length 3)),(1,co (mK t.up)),(2,co (aT 5 t.ws Want.c)),(3,co (mR t.kind))]
abbrev TS.H(r:aw)(t:TS):AH:=[(0,co (TS.cell r 1 4 t.ws.length 3)),(1,co (mK t.up)),(4,co (aT 5 t.ws Want.c)),(3,co (mR t.kind))]
def dA(r:aw)(s:ak)(w:Int):bZ:=(s,if dm .str (aD (aC r)) s 0>0 then-1 else w)
theorem d136(r:aw)(t:TS)(s:ak)(w:Int):bI prog 195 [.ptr 0 0,pS s,pI w] (t.O r) (ag (dA r s w).c) (t.K r) 4:=by
 refine ax ab func195 Z (by decide) ntmps195 Z (by simp) ?_;refine zJ Z Z (fun g=>?_) fun g=>?_
 .have e:dA r s w=(s, -1):=by unfold dA;rw[am (zT g)]
  rw[e];refine gA Z (zD [] Z (zW (zO (zC ⟨⟨_,rfl,.of_eq (b3 _).symm⟩,Oy Z,dG _,zC ac⟩))))
 .have e:dA r s w=(s,w):=by unfold dA;rw[be (zF g)]
  rw[e];refine gA Z (zD [] Z (zW (zO (zC ⟨⟨_,rfl,.of_eq (b3 _).symm⟩,Oy Z,dG _,zC ac⟩))))
def bF:UM->bZ->bZ
 | [],v=>v
 |(x,y)::r,v=>if x=v then bF r y else bF r v
def gf:UM->Prop
 | []=>True
 |(x,y)::r=>x≠y∧(∀q∈r,q.1≠x)∧(∀q∈r,q.2≠x)∧gf r
def AD:UM->bZ->Nat
 | [],_=>0
 |(x,_)::r,v=>if x=v then r.length+1 else AD r v
theorem B9: ∀(m:UM) (v:bZ),AD m v<=m.length
 | [],_=>OL _
 |(x,y)::r,v=>by
  have:=B9 r v;unfold AD;split
  .simp
  .simp;omega
theorem oi: ∀(m:UM) (v:bZ),cV (.si .i64) m v=jp->bF m v=v
 | [],_,_=>rfl
 |(x,y)::r,v,h=>by
  unfold cV at h;unfold bF;split at h
  .cases h
  .rename_i b;rw[be b];exact oi r v h
theorem lF: ∀(m:UM) (v:bZ),gf m->cV (.si .i64) m v=is->bF m (dm (.si .i64) m v bZ.z)=bF m v∧AD m (dm (.si .i64) m v bZ.z)<AD m v
 | [],_,_,h=>nomatch h
 |(x,y)::r,v,ok,h=>by
  obtain⟨D,J,G,I⟩:=ok;by_cases u:x=v
  .subst u;have e:dm (.si .i64) ((x,y)::r) x bZ.z=y:=am Z;rw[e];refine⟨?_,?_⟩
   .show(if x=y then bF r y else bF r y)=if x=x then bF r y else bF r x;rw[am Z];split<;>rfl
   .show(if x=y then r.length+1 else AD r y)<if x=x then r.length+1 else AD r x;rw[am Z,be D];have:=B9 r y;omega
  .have e:dm (.si .i64) ((x,y)::r) v bZ.z=dm (.si .i64) r v bZ.z:=be u;have A:cV (.si .i64) r v=is:=by
    unfold cV at h;rw[be u]at h;exact h
   rw[e];obtain⟨g1,g2⟩:=lF r v I A;have j:dm (.si .i64) r v bZ.z≠x:=by
    have: ∀(m:UM),(∀q∈m,q.2≠x)->cV (.si .i64) m v=is->dm (.si .i64) m v bZ.z≠x:=by
     intro m
     induction m with
     |nil=>intro _ h;cases h
     |cons a r ih=>
      obtain⟨R,Y⟩:=a;intro B h;unfold cV at h;unfold dm;split at h
      .rename_i b;rw[am b];exact B _ OO
      .rename_i b;rw[be b];exact ih (fun q C=>B q (ON _ C)) h
    exact this r G A
   refine⟨?_,?_⟩
   .show(if x=_ then bF r y else bF r _)=if x=v then bF r y else bF r v;rw[be (fun e=>j e.symm),be u];exact g1
   .show(if x=_ then r.length+1 else AD r _)<if x=v then r.length+1 else AD r v;rw[be (fun e=>j e.symm),be u];exact g2
theorem d52(r:aw)(t:TS)(v0:bZ)(ok:gf t.up):bI prog 167 [.ptr 0 0,ag v0.c] (t.O r) (ag (bF t.up v0).c) (t.K r) 4:=by
 refine ax ab func167 Z (by decide) ntmps167 Z (by simp) ?_;refine gA Z ?_
 refine fW (σ:={v:bZ//bF t.up v=bF t.up v0}) (fun v=>⟨[(0,.ptr 0 0),(3,.ptr 4 0),(4,.ptr 5 0)],
  [(0,co (TS.cell r 1 2 t.ws.length 3)),(1,co (mK t.up)),(2,co (aT 5 t.ws Want.c)),(3,co (mR t.kind)),(4,co (.cells [pS v.1.1,pI v.1.2])),(5,co (.cells [pS ⟨#[]⟩,pI 0]))],6⟩) (fun v=>AD t.up v.1) ⟨v0,rfl⟩ []
  (zW (zO (zC ⟨⟨_,rfl,.of_eq (b3 _).symm⟩,Oy Z,dG _,zC ⟨⟨_,rfl,.of_eq Z⟩,Oy Z,rfl,⟨_,rfl,.of_eq Z⟩,Oy Z,rfl,ac⟩⟩))) fun v=>?_
 obtain⟨v,b⟩:=v;refine zJ Z Z (fun g=>?_) fun g=>?_
 .have h:cV (.si .i64) t.up v=jp:=by simpa using g
  have e:bF t.up v0=v:=by rw[<-b];exact oi t.up v h
  refine gA Z (zD [] Z (zM ⟨.of_eq (congrArg (fun x:bZ=>ag x.c) e.symm),rfl,ac⟩ (zO (zC ⟨⟨_,rfl,.of_eq (b3 _).symm⟩,Oy Z,dG _,zC ac⟩))))
 .have h:cV (.si .i64) t.up v=is:=by simpa using g
  obtain⟨h1,j⟩:=lF t.up v ok h;refine gA Z ⟨⟨dm (.si .i64) t.up v bZ.z,h1.trans b⟩,[],j,zW (zO (zC ⟨⟨_,rfl,.of_eq (b3 _).symm⟩,Oy Z,dG _,zC ⟨⟨_,rfl,.of_eq Z⟩,Oy Z,rfl,⟨_,rfl,.of_eq Z⟩,Oy Z,rfl,ac⟩⟩))⟩
def JT(r:aw)(t:TS):IV:= .jg [b8 r,upI t.up,bV 5 t.ws Want.c,kdI t.kind]
theorem c52(r:aw)(t:TS)(v0:bZ)(ok:gf t.up):Pure prog 167 [.iv (JT r t),ag v0.c] (ag (bF t.up v0).c):=by
 refine ae ab func167 Z (by decide) ntmps167 Z (by simp) Z ?_;refine gA Z ?_
 refine fW (σ:={v:bZ//bF t.up v=bF t.up v0}) (fun v=>⟨[(0,.iv (JT r t)),(3,.ptr 0 0),(4,.ptr 1 0)],
  [(0,co (.cells [pS v.1.1,pI v.1.2])),(1,co (.cells [pS ⟨#[]⟩,pI 0]))],2⟩) (fun v=>AD t.up v.1) ⟨v0,rfl⟩ []
  (zW ⟨⟨_,rfl,.of_eq Z⟩,Oy Z,rfl,⟨_,rfl,.of_eq Z⟩,Oy Z,rfl,ac⟩) fun v=>?_
 obtain⟨v,b⟩:=v;refine zJ Z Z (fun g=>?_) fun g=>?_
 .have h:cV (.si .i64) t.up v=jp:=by simpa using g
  have e:bF t.up v0=v:=by rw[<-b];exact oi t.up v h
  refine gA Z (zL (.of_eq ?_));exact congrArg (fun x:bZ=>ag x.c) e.symm
 .have h:cV (.si .i64) t.up v=is:=by simpa using g
  obtain⟨h1,j⟩:=lF t.up v ok h;refine gA Z ⟨⟨dm (.si .i64) t.up v bZ.z,h1.trans b⟩,[],j,zW ⟨⟨_,rfl,.of_eq Z⟩,Oy Z,rfl,⟨_,rfl,.of_eq Z⟩,Oy Z,rfl,ac⟩⟩
def rm(t:TS)(w:Want):Int:=if w.has=0 then dm (.si .i64) t.kind (bF t.up w.at_) 0 else w.has
def pM(t:TS)(lit:Int)(w:Want):Bool:=kw (w.lit=lit)&&!kw (rm t w=w.kind)
def oS(t:TS)(lit:Int):Bool:=t.ws.any (pM t lit)
theorem Om(r:aw)(t:TS)(lit:Int)(ok:gf t.up)(hb:t.ws.length<=1000000000000):Pure prog 131 [.iv (JT r t),pI lit] (pB (oS t lit)):=by
 refine ae ab func131 Z (by decide) ntmps131 Z (by simp) Z ?_;refine gA Z ?_;refine aM 0 t.ws.length (OS _) (fun i=>⟨[(0,.iv (JT r t)),(1,pI lit),(11,.iv (bV 5 t.ws Want.c)),(12,pI t.ws.length),(13,pI i)],[],0⟩) (fun i=>(t.ws.take i).any (pM t lit)=jp) [] Z
  (zW trivial) fun i A y=>?_
 refine zJ Z Z (fun h1=>?_) fun h1=>?_
 .have h1:i<t.ws.length:=by simpa using h1
  have x:=cC y h1;refine zJ Z Z (fun u=>?_) fun u=>?_
  .have u:(t.ws.getD i ci).has=0:=zT u;refine gA Z (y3 (c52 r t (t.ws.getD i ci).at_ ok) ?_);have hk:rm t (t.ws.getD i ci)=dm (.si .i64) t.kind (bF t.up (t.ws.getD i ci).at_) 0:=am u;refine zJ Z Z (fun b=>?_) fun b=>?_
   .have b:(t.ws.getD i ci).lit=lit:=zT b;refine zJ Z Z (fun j=>?_) fun j=>?_
    .have j: ¬rm t (t.ws.getD i ci)=(t.ws.getD i ci).kind:=by rw[hk];simpa using j
     have e:oS t lit=is:=PO.2 ⟨t.ws.getD i ci,by rw[OC,OD h1];exact Pm h1,by rw[pM,decide_eq_true b,decide_eq_false j];rfl⟩;refine gA Z (zL (.of_eq ?_));rw[e]
    .have j:rm t (t.ws.getD i ci)=(t.ws.getD i ci).kind:=by rw[hk];simpa using j
     refine gA Z ⟨h1,x.2 (by rw[pM,decide_eq_true j,QS,QZ]),[],zW ac⟩
   .have b: ¬(t.ws.getD i ci).lit=lit:=by simpa using b
    refine gA Z ⟨h1,x.2 (by rw[pM,decide_eq_false b];rfl),[],zW ac⟩
  .have u: ¬(t.ws.getD i ci).has=0:=zF u;have hk:rm t (t.ws.getD i ci)=(t.ws.getD i ci).has:=be u;refine zJ Z Z (fun b=>?_) fun b=>?_
   .have b:(t.ws.getD i ci).lit=lit:=zT b;refine zJ Z Z (fun j=>?_) fun j=>?_
    .have j: ¬rm t (t.ws.getD i ci)=(t.ws.getD i ci).kind:=by rw[hk];simpa using j
     have e:oS t lit=is:=PO.2 ⟨t.ws.getD i ci,by rw[OC,OD h1];exact Pm h1,by rw[pM,decide_eq_true b,decide_eq_false j];rfl⟩;refine gA Z (zL (.of_eq ?_));rw[e]
    .have j:rm t (t.ws.getD i ci)=(t.ws.getD i ci).kind:=by rw[hk];simpa using j
     refine gA Z ⟨h1,x.2 (by rw[pM,decide_eq_true j,QS,QZ]),[],zW ac⟩
   .have b: ¬(t.ws.getD i ci).lit=lit:=by simpa using b
    refine gA Z ⟨h1,x.2 (by rw[pM,decide_eq_false b];rfl),[],zW ac⟩
 .have h1:t.ws.length<=i:=by simpa using h1
  rw[OY h1]at y;refine gA Z (zL (.of_eq ?_));rw[oS,y]
section
section
variable (r:aw) (lit w:Int)
def kJ(e:Expr):List Want:=if e.kind=1 then[⟨lit,dA r e.var w,1,0⟩] else if e.kind=2 then[⟨lit,bZ.z,1,e.val.kind⟩] else[]
mutual
def fg:Expr->List Want
 | .mk k v val op args=>kJ r lit w (.mk k v val op args)++(if k=4 then p5 args else[])
def p5:List Expr->List Want
 | []=> []
 |e::s=>fg e++p5 s
end
theorem xl: ∀l:List Expr,p5 r lit w l=l.flatMap (fg r lit w)
 | []=>rfl
 |e::s=>by rw[p5,PH,xl s]
def gn(e:Expr):List Want:=if e.kind=4 then e.args.flatMap (fg r lit w) else[]
theorem zy(e:Expr):fg r lit w e=kJ r lit w e++gn r lit w e:=by
 cases e;rw[fg,xl];rfl
end
abbrev TS.add(t:TS)(l:List Want):TS:=⟨t.up,t.ws++l,t.kind⟩
section
variable {nt:NT} {Q:AQ} {k:List KI} {s:AS}
def tS(s:AS)(r:aw)(t:TS)(i u j m:Nat):AS:=match s with|⟨f,h,n⟩=>⟨f,(i,co (TS.cell r u n t.ws.length m))::(u,co (mK t.up))::(n,co (aT 5 t.ws Want.c))::(m,co (mR t.kind))::(i,io)::(u,io)::(j,io)::(m,io)::h,n+1⟩
theorem Me(s:AS)(r:aw)(t:TS)(i u j m:Nat):tS s r t i u j m=⟨s.f,(i,co (TS.cell r u s.nx t.ws.length m))::(u,co (mK t.up))::(s.nx,co (aT 5 t.ws Want.c))::(m,co (mR t.kind))::(i,io)::(u,io)::(j,io)::(m,io)::s.h,s.nx+1⟩:=by cases s;rfl
def tR(s:AS)(r:aw)(t:TS)(i u j m:Nat):AS:=match s with|⟨f,h,n⟩=>⟨f,(i,co (TS.cell r u j t.ws.length m))::(u,co (mK t.up))::(j,co (aT 5 t.ws Want.c))::(m,co (mR t.kind))::(i,io)::(u,io)::(j,io)::(m,io)::h,n⟩
theorem Mf(s:AS)(r:aw)(t:TS)(i u j m:Nat):tR s r t i u j m=⟨s.f,(i,co (TS.cell r u j t.ws.length m))::(u,co (mK t.up))::(j,co (aT 5 t.ws Want.c))::(m,co (mR t.kind))::(i,io)::(u,io)::(j,io)::(m,io)::s.h,s.nx⟩:=by cases s;rfl
theorem Ci{o:Oper}{c:Call}{g:FuncId}{args A:List PV}{r:aw}{t B:TS}{y:PV}{i u j m n:Nat}{es:List (List PV)}{s':AS}(hc:bI prog g (.ptr 0 0::args) (t.O r) y (B.H r) 5)(ho:o.op= .call c)(ha:bz s.f c=co (g,.ptr i 0::A))
  (hi:s.h.get i=co (TS.cell r u j n m)) (hu:s.h.get u=co (mK t.up)) (hj:s.h.get j=co (.row 5 es)) (hm:s.h.get m=co (mR t.kind)) (hn:n=t.ws.length) (he:es=t.ws.map fun x=>(Want.c x).map .iv)
  (hlt:[i,u,j,m].all (fun x=>O1 x s.nx)=is) (hnd:ch [i,u,j,m]=is) (has:A=args) (hlow:bb 0 args=is) (hr:y.low 0=is)
  (hp:putDst nt o y (tS s r B i u j m)=co s'):OT prog nt o s (fun t=>t=s'):=by
 subst has;subst hn;subst he;have b: ∀σ,cW σ A=A:=fun σ=>fR σ A hlow;refine kV ho ha hc (ej hnd) (fun j hj=>Oy (Pj.1 hlt j hj)) ?_ ?_ ?_
 .simp only[OZ,P9,hi,hu,hj,hm,b3];rfl
 .simp only[cW,b];rfl
 .rintro q C n0 ⟨rfl,rfl,rfl⟩;rw[PV.ir _ _ hr];rw[Me]at hp;refine⟨s',?_,rfl⟩;rw[<-hp];simp only[TS.H,aQ,vg,PI,b3];rfl
theorem Ce{o:Oper}{c:Call}{g:FuncId}{args A:List PV}{r:aw}{t:TS}{y:PV}{i u j m n:Nat}{es:List (List PV)}{s':AS}(hc:bI prog g (.ptr 0 0::args) (t.O r) y (t.K r) 4)(ho:o.op= .call c)(ha:bz s.f c=co (g,.ptr i 0::A))
  (hi:s.h.get i=co (TS.cell r u j n m)) (hu:s.h.get u=co (mK t.up)) (hj:s.h.get j=co (.row 5 es)) (hm:s.h.get m=co (mR t.kind)) (hn:n=t.ws.length) (he:es=t.ws.map fun x=>(Want.c x).map .iv)
  (hlt:[i,u,j,m].all (fun x=>O1 x s.nx)=is) (hnd:ch [i,u,j,m]=is) (has:A=args) (hlow:bb 0 args=is) (hr:y.low 0=is)
  (hp:putDst nt o y (tR s r t i u j m)=co s'):OT prog nt o s (fun t=>t=s'):=by
 subst has;subst hn;subst he;have b: ∀σ,cW σ A=A:=fun σ=>fR σ A hlow;refine kV ho ha hc (ej hnd) (fun j hj=>Oy (Pj.1 hlt j hj)) ?_ ?_ ?_
 .simp only[OZ,P9,hi,hu,hj,hm,b3];rfl
 .simp only[cW,b];rfl
 .rintro q B n0 ⟨rfl,rfl,rfl⟩;rw[PV.ir _ _ hr];rw[Mf]at hp;refine⟨s',?_,rfl⟩;rw[<-hp];simp only[TS.K,aQ,vg,PI,b3];rfl
theorem xG{all rest:List Oper}{o:Oper}{c:Call}{g:FuncId}{args y:List PV}{r:aw}{t A:TS}{b:PV}{i u j m n:Nat}{es:List (List PV)}{s':AS}(hc:bI prog g (.ptr 0 0::args) (t.O r) b (A.H r) 5)(ho:o.op= .call c)(hg:o.guard=io)(ha:bz s.f c=co (g,.ptr i 0::y))
  (hi:s.h.get i=co (TS.cell r u j n m)) (hu:s.h.get u=co (mK t.up)) (hj:s.h.get j=co (.row 5 es)) (hm:s.h.get m=co (mR t.kind)) (hn:n=t.ws.length) (he:es=t.ws.map fun x=>(Want.c x).map .iv)
  (hlt:[i,u,j,m].all (fun x=>O1 x s.nx)=is) (hnd:ch [i,u,j,m]=is) (has:y=args) (hlow:bb 0 args=is) (hr:b.low 0=is)
  (hp:putDst nt o b (tS s r A i u j m)=co s') (h:GO prog nt (.ops all rest::k) Q s'):GO prog nt (.ops all (o::rest)::k) Q s:=
 cG hg (Ci hc ho ha hi hu hj hm hn he hlt hnd has hlow hr hp) fun t B=>by subst B;exact h
theorem Ac{all rest:List Oper}{o:Oper}{c:Call}{g:FuncId}{args y:List PV}{r:aw}{t A:TS}{b:PV}{i u j m n:Nat}{es:List (List PV)}{s':AS}(hc:bI prog g (.ptr 0 0::args) (t.O r) b (A.H r) 5)(h:GO prog nt (.ops all rest::k) Q s')(ho:o.op= .call c:=by exact rfl)(hg:o.guard=io:=by exact rfl)(ha:bz s.f c=co (g,.ptr i 0::y):=by exact rfl)(hi:s.h.get i=co (TS.cell r u j n m):=by exact rfl)(hu:s.h.get u=co (mK t.up):=by exact rfl)(hj:s.h.get j=co (.row 5 es):=by exact rfl)(hm:s.h.get m=co (mR t.kind):=by exact rfl)(hn:n=t.ws.length:=by first|rfl|(rw[OE];rfl)|simp)(he:es=t.ws.map fun x=>(Want.c x).map .iv:=by first|rfl|(rw[OX];rfl)|(simp only[OX,O0];rfl))(hlt:[i,u,j,m].all (fun x=>O1 x s.nx)=is:=by exact rfl)(hnd:ch [i,u,j,m]=is:=by exact rfl)(has:y=args:=by exact rfl)(hlow:bb 0 args=is:=by exact rfl)(hr:b.low 0=is:=by exact rfl)(hp:putDst nt o b (tS s r A i u j m)=co s':=by exact rfl):GO prog nt (.ops all (o::rest)::k) Q s:=xG (hc:=hc) (ho:=ho) (hg:=hg) (ha:=ha) (hi:=hi) (hu:=hu) (hj:=hj) (hm:=hm) (hn:=hn) (he:=he) (hlt:=hlt) (hnd:=hnd) (has:=has) (hlow:=hlow) (hr:=hr) (hp:=hp) (h:=h)
theorem KT{all:List Oper}{todo pend:List (Nat×Oper)}{y:Nat}{B A:Prop}{o:Oper}{c:Call}{g:FuncId}{args C:List PV}{r:aw}{t:TS}{b:PV}{i u j m n:Nat}{es:List (List PV)}{s':AS}(hc:bI prog g (.ptr 0 0::args) (t.O r) b (t.K r) 4)
  (hrd:eH todo=[(y,o)]) (ho:o.op= .call c) (ha:bz s.f c=co (g,.ptr i 0::C))
  (hi:s.h.get i=co (TS.cell r u j n m)) (hu:s.h.get u=co (mK t.up)) (hj:s.h.get j=co (.row 5 es)) (hm:s.h.get m=co (mR t.kind)) (hn:n=t.ws.length) (he:es=t.ws.map fun x=>(Want.c x).map .iv)
  (hlt:[i,u,j,m].all (fun x=>O1 x s.nx)=is) (hnd:ch [i,u,j,m]=is) (has:C=args) (hlow:bb 0 args=is) (hr:b.low 0=is)
  (hp:putDst nt o b (tR s r t i u j m)=co s')
  (hg:bS nt all s.f o=co is) (hpb:gI all pend o=is) (hE:mH todo [y]=is)
  (hag:mI ni nt all s todo pend=co B) (hCA:B) (hag2:dy ni nt all s' (aX pend o)=co A) (hC2:A)
  (h:GO prog nt (.bR all (todo.filter fun x=>!O2 x.1 y) (aX pend o)::k) Q s'):GO prog nt (.bR all todo pend::k) Q s:=
 kO ab hrd hg hpb hE hag hCA (Ce hc ho ha hi hu hj hm hn he hlt hnd has hlow hr hp) hag2 hC2 h
theorem lQ{all:List Oper}{todo pend:List (Nat×Oper)}{y:Nat}{B A:Prop}{o:Oper}{c:Call}{g:FuncId}{args C:List PV}{r:aw}{t:TS}{b:PV}{i u j m n:Nat}{es:List (List PV)}{s':AS}(hc:bI prog g (.ptr 0 0::args) (t.O r) b (t.K r) 4)(h:GO prog nt (.bR all (todo.filter fun x=>!O2 x.1 y) (aX pend o)::k) Q s')(hrd:eH todo=[(y,o)]:=by exact rfl)(ho:o.op= .call c:=by exact rfl)(ha:bz s.f c=co (g,.ptr i 0::C):=by exact rfl)(hi:s.h.get i=co (TS.cell r u j n m):=by exact rfl)(hu:s.h.get u=co (mK t.up):=by exact rfl)(hj:s.h.get j=co (.row 5 es):=by exact rfl)(hm:s.h.get m=co (mR t.kind):=by exact rfl)(hn:n=t.ws.length:=by first|rfl|(rw[OE];rfl)|simp)(he:es=t.ws.map fun x=>(Want.c x).map .iv:=by first|rfl|(rw[OX];rfl)|(simp only[OX,O0];rfl))(hlt:[i,u,j,m].all (fun x=>O1 x s.nx)=is:=by exact rfl)(hnd:ch [i,u,j,m]=is:=by exact rfl)(has:C=args:=by exact rfl)(hlow:bb 0 args=is:=by exact rfl)(hr:b.low 0=is:=by exact rfl)(hp:putDst nt o b (tR s r t i u j m)=co s':=by exact rfl)(hg:bS nt all s.f o=co is:=by exact rfl)(hpb:gI all pend o=is:=by exact rfl)(hE:mH todo [y]=is:=by exact rfl)(hag:mI ni nt all s todo pend=co B:=by exact rfl)(hCA:B:=by(repeat' (first|exact ac|exact rfl|exact an.refl _|exact an.bk (by assumption)|apply OF))<;>first|omega|(simp only[OG];omega)|(simp;done)|(simp;omega))(hag2:dy ni nt all s' (aX pend o)=co A:=by exact rfl)(hC2:A:=by(repeat' (first|exact ac|exact rfl|exact an.refl _|exact an.bk (by assumption)|apply OF))<;>first|omega|(simp only[OG];omega)|(simp;done)|(simp;omega)):GO prog nt (.bR all todo pend::k) Q s:=KT (hc:=hc) (hrd:=hrd) (ho:=ho) (ha:=ha) (hi:=hi) (hu:=hu) (hj:=hj) (hm:=hm) (hn:=hn) (he:=he) (hlt:=hlt) (hnd:=hnd) (has:=has) (hlow:=hlow) (hr:=hr) (hp:=hp) (hg:=hg) (hpb:=hpb) (hE:=hE) (hag:=hag) (hCA:=hCA) (hag2:=hag2) (hC2:=hC2) (h:=h)
theorem I3{l:List ResultVar}{r0:PV}{e:Exit}{r:aw}{u:TS}{b:PV}{j n:Nat}{es:List (List PV)}(he:e= .normal∨e= .ret)(hr:iF ni s l=co r0)(hi:s.h.get 0=co (TS.cell r 1 j n 3))(hu:s.h.get 1=co (mK u.up))(hj:s.h.get j=co (.row 5 es))(hm:s.h.get 3=co (mR u.kind))
  (hn:n=u.ws.length) (hes:es=u.ws.map fun x=>(Want.c x).map .iv) (hlt:O1 j s.nx=is) (hnd:ch [0,1,j,3]=is) (hns:Qx 4 s.nx=is) (hrl:an r0 b) (hlow:b.low 0=is) (hlow5:b.low 5=is):y2 ni l 4 b (u.H r) 5 e s:=by
 subst hn;subst hes;refine bj [j] he hr ⟨rfl,Oy hns,fun x y=>?_,⟨?_,hlow5,ac⟩,⟨⟨_,hi,.of_eq Z⟩,Oy Z,rfl,⟨_,hu,.of_eq Z⟩,Oy Z,ac,⟨_,hj,.of_eq (b3 _).symm⟩,Oy Z,dG _,⟨_,hm,.of_eq Z⟩,Oy Z,ac,ac⟩,?_⟩
 .simp only[OM]at y;subst y;exact Oy hlt
 .rw[PV.ir _ _ hlow];exact hrl
 .exact ej hnd
theorem th{l:List ResultVar}{r0:PV}{e:Exit}{r:aw}{u:TS}{b:PV}{j n:Nat}{es:List (List PV)}(he:e= .normal∨e= .ret:=by first|exact .inr Z|exact .inl Z)(hr:iF ni s l=co r0:=by exact rfl)(hi:s.h.get 0=co (TS.cell r 1 j n 3):=by exact rfl)(hu:s.h.get 1=co (mK u.up):=by exact rfl)(hj:s.h.get j=co (.row 5 es):=by exact rfl)(hm:s.h.get 3=co (mR u.kind):=by exact rfl)(hn:n=u.ws.length:=by first|rfl|(rw[OE];rfl)|simp)(hes:es=u.ws.map fun x=>(Want.c x).map .iv:=by first|rfl|(rw[OX];rfl)|(simp only[OX,O0];rfl))(hlt:O1 j s.nx=is:=by exact rfl)(hnd:ch [0,1,j,3]=is:=by exact rfl)(hns:Qx 4 s.nx=is:=by exact rfl)(hrl:an r0 b:=by exact .refl _)(hlow:b.low 0=is:=by exact rfl)(hlow5:b.low 5=is:=by exact rfl):y2 ni l 4 b (u.H r) 5 e s:=I3 (he:=he) (hr:=hr) (hi:=hi) (hu:=hu) (hj:=hj) (hm:=hm) (hn:=hn) (hes:=hes) (hlt:=hlt) (hnd:=hnd) (hns:=hns) (hrl:=hrl) (hlow:=hlow) (hlow5:=hlow5)
theorem HM{n0 i u j m n:Nat}{es:List (List PV)}{J:AF}{r:aw}{t b:TS}(hw:t=b)(hi:s.h.get i=co (TS.cell r u j n m))(hu:s.h.get u=co (mK t.up))(hj:s.h.get j=co (.row 5 es))(hm:s.h.get m=co (mR t.kind))
  (hn:n=t.ws.length) (hes:es=t.ws.map fun x=>(Want.c x).map .iv) (hlt:O1 j s.nx=is) (hnd:ch [i,u,j,m]=is) (h0:[i,u,m].all (fun x=>O1 x n0)=is) (hns:Qx n0 s.nx=is) (hf:B2 (n0+1) (sg n0 [j]) s.f J):
  Wk n0 [j] s ⟨J,[(i,co (TS.cell r u n0 b.ws.length m)),(u,co (mK b.up)),(n0,co (aT 5 b.ws Want.c)),(m,co (mR b.kind))],n0+1⟩:=by
 subst hw;subst hn;subst hes;simp only[RB,List.all_nil,Bool.and_true,Pq]at h0;have y:i<n0:=Oy h0.1;have B:u<n0:=Oy h0.2.1;have A:m<n0:=Oy h0.2.2;have s0:sg n0 [j] i=i:=fa y;have C:sg n0 [j] u=u:=fa B;have D:sg n0 [j] m=m:=fa A;have R:O1 n0 n0=jp:=QU.2 fun e=>absurd (Oy e) (by omega);have G:sg n0 [j] n0=j:=by simp[sg,R]
 have c1:O1 u (n0+1)=is:=Pu (by omega);have Y:O1 m (n0+1)=is:=Pu (by omega);have cn:O1 n0 (n0+1)=is:=Pu (by omega);refine⟨rfl,Oy hns,fun x I=>?_,hf,⟨⟨_,by rw[s0];exact hi,?_⟩,by show i<n0+1;omega,?_,⟨_,by rw[C];exact hu,.of_eq Z⟩,by show u<n0+1;omega,ac,⟨_,by rw[G];exact hj,.of_eq (b3 _).symm⟩,Qc _,dG _,⟨_,by rw[D];exact hm,.of_eq Z⟩,by show m<n0+1;omega,ac,ac⟩,?_⟩
 .simp only[OM]at I;subst I;exact Oy hlt
 .simp only[AO.cj,cW,PV.cj,C,D,G];exact .of_eq Z
 .simp[AO.low,bb,PV.low,c1,Y,cn]
 .simp only[dX,s0,C,D,G];exact ej hnd
theorem nf{n0 i u j m n:Nat}{es:List (List PV)}{y:AF}{r:aw}{t b:TS}(hw:t=b)(hi:s.h.get i=co (TS.cell r u j n m):=by exact rfl)(hu:s.h.get u=co (mK t.up):=by exact rfl)(hj:s.h.get j=co (.row 5 es):=by exact rfl)(hm:s.h.get m=co (mR t.kind):=by exact rfl)(hn:n=t.ws.length:=by first|rfl|(rw[OE];rfl)|simp)(hes:es=t.ws.map fun x=>(Want.c x).map .iv:=by first|rfl|(rw[OX];rfl)|(simp only[OX,O0];rfl))(hlt:O1 j s.nx=is:=by exact rfl)(hnd:ch [i,u,j,m]=is:=by exact rfl)(h0:[i,u,m].all (fun x=>O1 x n0)=is:=by exact rfl)(hns:Qx n0 s.nx=is:=by exact rfl)(hf:B2 (n0+1) (sg n0 [j]) s.f y:=by repeat' (first|exact ac|exact an.refl _|exact rfl|apply OF)):Wk n0 [j] s ⟨y,[(i,co (TS.cell r u n0 b.ws.length m)),(u,co (mK b.up)),(n0,co (aT 5 b.ws Want.c)),(m,co (mR b.kind))],n0+1⟩:=HM (hw:=hw) (hi:=hi) (hu:=hu) (hj:=hj) (hm:=hm) (hn:=hn) (hes:=hes) (hlt:=hlt) (hnd:=hnd) (h0:=h0) (hns:=hns) (hf:=hf)
end
theorem TS.add_add(t:TS)(a b:List Want):(t.add a).add b=t.add (a++b):=by simp[TS.add]
theorem TS.add_nil(t:TS):t.add []=t:=by simp[TS.add]
def HJ(r:aw)(n:Nat):Prop:= ∀(t:TS) (e:Expr) (lit w:Int),e.size<=n->t.ws.length+Expr.aE e.args<=1000000000->bI prog 196 [.ptr 0 0,ag e.c,pI lit,pI w] (t.O r) (.bh []) ((t.add (gn r lit w e)).H r) 5
def Lf(r:aw)(n:Nat):Prop:= ∀(t:TS) (e:Expr) (lit w:Int),e.size<=n->t.ws.length+e.size<=1000000000->bI prog 165 [.ptr 0 0,ag e.c,pI lit,pI w] (t.O r) (.bh []) ((t.add (fg r lit w e)).H r) 5
theorem d92(r:aw)(n:Nat)(u:HJ r n):Lf r n:=by
 intro t e lit w hs hb;have x:=e.size_eq;rw[zy,<-TS.add_add];refine ax ab func165 Z (by decide) ntmps165 Z (by simp) ?_;refine zJ Z Z (fun b=>?_) fun b=>?_
 .have b:e.kind=1:=zT b;have hl:kJ r lit w e=[⟨lit,dA r e.var w,1,0⟩]:=am b;rw[hl];refine gA Z (lQ (d136 r t e.var w) ?_);refine gA Z (xG (u (t.add [⟨lit,dA r e.var w,1,0⟩]) e lit w hs (by show(t.ws++_).length+_<=_;rw[OE,PC];omega)) Z Z Z Z Z Z Z (by first|rfl|(rw[OE];rfl)|simp) (by first|rfl|(rw[OX];rfl)|(simp only[OX,O0];rfl)) Z Z Z Z Z Z ?_);refine gA Z th
 have b: ¬e.kind=1:=zF b;refine zJ Z Z (fun j=>?_) fun j=>?_
 .have j:e.kind=2:=zT j;have hl:kJ r lit w e=[⟨lit,bZ.z,1,e.val.kind⟩]:=by unfold kJ;rw[be b,am j]
  rw[hl];refine gA Z (xG (u (t.add [⟨lit,bZ.z,1,e.val.kind⟩]) e lit w hs (by show(t.ws++_).length+_<=_;rw[OE,PC];omega)) Z Z Z Z Z Z Z (by first|rfl|(rw[OE];rfl)|simp) (by first|rfl|(rw[OX];rfl)|(simp only[OX,O0];rfl)) Z Z Z Z Z Z ?_);refine gA Z th
 .have j: ¬e.kind=2:=zF j;have hl:kJ r lit w e=[]:=by unfold kJ;rw[be b,be j]
  rw[hl,TS.add_nil];refine gA Z (Ac (u t e lit w hs (by omega)) ?_);refine gA Z th
theorem fS(r:aw)(lit w:Int): ∀e:Expr,(fg r lit w e).length<=e.size
 | .mk k v val op args=>by
  rw[fg,Expr.size,OE];have h1:(kJ r lit w (.mk k v val op args)).length<=1:=by
   unfold kJ
   repeat' split
   all_goals simp
  have b:(if k=4 then p5 r lit w args else[]).length<=Expr.aE args:=by
   split
   .exact numRs_len args
   .simp
  omega
where
 numRs_len: ∀l:List Expr,(p5 r lit w l).length<=Expr.aE l
 | []=>by simp[p5]
 |e::s=>by
  have h1:=fS r lit w e;have h2:=numRs_len s;rw[p5,Expr.aE,OE];omega
theorem Dd(r:aw)(lit w:Int)(l:List Expr)(i:Nat)(h:i<l.length):((l.take i).flatMap (fg r lit w)).length+(l.getD i ci).size<=Expr.aE l:=by
 have h1: ∀l:List Expr,(l.flatMap (fg r lit w)).length<=Expr.aE l:=by
  intro l
  induction l with
  |nil=>simp
  |cons e s ih=>
   have:=fS r lit w e;rw[PH,OE,Expr.aE];omega
 have j:=h1 (l.take i);have b: ∀(l:List Expr) (i:Nat),i<l.length->Expr.aE (l.take i)+(l.getD i ci).size<=Expr.aE l:=by
  intro l
  induction l with
  |nil=>intro i h;simp at h
  |cons e s ih=>
   intro i h;cases i with
   |zero=>simp[Expr.aE]
   |succ i=>
    have:=ih i (by simpa using h);simp only[PX,PR,Expr.aE];omega
 have:=b l i h;omega
theorem d137(r:aw)(n:Nat)(x:Lf r n):HJ r (n+1):=by
 intro t e lit w hs hb;have u:=e.size_eq;refine bI.le (args:=[.ptr 0 0,ag e.c1,pI lit,pI w]) ?_ ⟨.refl _,e.DA,.refl _,.refl _,ac⟩;have j:=Expr.aF e.args;refine ax ab func196 Z (by decide) ntmps196 Z (by simp) ?_;refine zE Z Z (fun k=>?_) fun k=>?_
 .have k: ¬e.kind=4:=zF k;have hl:gn r lit w e=[]:=be k;rw[hl,TS.add_nil];refine gA Z th
 have k:e.kind=4:=zT k;have hl:gn r lit w e=e.args.flatMap (fg r lit w):=am k;rw[hl];refine gA Z ?_
 refine aM 0 e.args.length (OS _) (fun i=>⟨[(0,.ptr 0 0),(2,pI lit),(3,pI w),(14,.iv (bV 7 e.args Expr.c)),(15,pI e.args.length),(16,pI i)],
  [(0,co (TS.cell r 1 5 (t.add ((e.args.take i).flatMap (fg r lit w))).ws.length 3)),(1,co (mK (t.add ((e.args.take i).flatMap (fg r lit w))).up)),(5,co (aT 5 (t.add ((e.args.take i).flatMap (fg r lit w))).ws Want.c)),(3,co (mR (t.add ((e.args.take i).flatMap (fg r lit w))).kind))],6⟩) (fun _=>True) _ ac
  (HM (t:=t) (TS.add_nil t).symm Z Z Z Z Z Z Z Z Z Z (bi (bi (bi (bi (bi (bi trivial))))))) fun i A _=>?_
 refine zJ Z Z (fun h1=>?_) fun h1=>?_
 .have h1:i<e.args.length:=by simpa using h1
  have b:=bK (f:=fg r lit w) h1;have B:=Dd r lit w e.args i h1;have y:=Expr.bN e.args i h1;refine gA Z (xG (x (t.add ((e.args.take i).flatMap (fg r lit w))) (e.args.getD i ci) lit w (by omega) (by show(t.ws++_).length+_<=_;rw[OE];omega)) Z Z Z Z Z Z Z (by first|rfl|(rw[OE];rfl)|simp) (by first|rfl|(rw[OX];rfl)|(simp only[OX,O0];rfl)) Z Z Z Z Z Z ?_);refine gA Z ⟨h1,ac,_,HM ((by rw[TS.add_add,b])) Z Z Z Z (by first|rfl|(rw[OE];rfl)|simp) (by first|rfl|(rw[OX];rfl)|(simp only[OX,O0];rfl)) Z Z Z Z (bi (bi (bi (bi (bi (bi ac))))))⟩
 .have h1:e.args.length<=i:=by simpa using h1
  rw[OY h1];refine gA Z th
end
theorem pf(r:aw): ∀n,Lf r n∧HJ r n
 |0=>by
  have b:HJ r 0:=fun t e lit w hs=>by have:=e.size_pos;omega
  exact⟨d92 r 0 b,b⟩
 |n+1=>by
  have h1:=d137 r n (pf r n).1;exact⟨d92 r (n+1) h1,h1⟩
theorem Ei(r:aw)(t:TS)(e:Expr)(lit w:Int)(hb:t.ws.length+e.size<=1000000000):bI prog 165 [.ptr 0 0,ag e.c,pI lit,pI w] (t.O r) (.bh []) ((t.add (fg r lit w e)).H r) 5:=(pf r e.size).1 t e lit w (OL _) hb
theorem I7(r:aw)(t:TS)(e:Expr)(lit w:Int)(hb:t.ws.length+e.size<=1000000000):bI prog 196 [.ptr 0 0,ag e.c,pI lit,pI w] (t.O r) (.bh []) ((t.add (gn r lit w e)).H r) 5:=(pf r e.size).2 t e lit w (OL _) (by have:=e.size_eq;omega)
def typeAt(p:Prog)(a:Atom)(i:Nat):Int:=(fE p a.rel).types.getD i ci
def kn(p:Prog)(a:Atom)(i:Nat):Bool:=kw (i<(fE p a.rel).types.length)&&(kw (typeAt p a i=1)||decide (typeAt p a i=2))
def jA(p:Prog)(r:aw)(a:Atom)(lit w:Int)(i:Nat):List Want:=
 if kn p a i=jp then[]
 else if(a.aj.getD i ci).kind=1 then[⟨lit,dA r (a.aj.getD i ci).var w,typeAt p a i,0⟩]
 else if(a.aj.getD i ci).kind=2 then[⟨lit,bZ.z,typeAt p a i,(a.aj.getD i ci).val.kind⟩] else[]
def fk(p:Prog)(r:aw)(a:Atom)(lit w:Int):Nat->List Want
 |0=> []
 |i+1=>fk p r a lit w i++jA p r a lit w i
theorem x8(p:Prog)(r:aw)(a:Atom)(lit w:Int)(i:Nat):(jA p r a lit w i).length<=1:=by
 unfold jA
 repeat' split
 all_goals simp
theorem kX(p:Prog)(r:aw)(a:Atom)(lit w:Int): ∀i,(fk p r a lit w i).length<=i
 |0=>OL _
 |i+1=>by
  have h1:=kX p r a lit w i;have b:=x8 p r a lit w i;rw[fk,OE];omega
set_option maxHeartbeats 1000000 in
theorem d90(p:Prog)(r:aw)(t:TS)(a:Atom)(lit w:Int)(hb:t.ws.length+a.aj.length<=1000000000):bI prog 163 [.ptr 0 0,.iv (cv p),ag a.c,pI lit,pI w] (t.O r) (.bh []) ((t.add (fk p r a lit w a.aj.length)).H r) 5:=by
 refine ax ab func163 Z (by decide) ntmps163 Z (by simp) ?_;refine gA Z ?_
 refine aM 0 a.aj.length (OS _) (fun i=>⟨[(0,.ptr 0 0),(3,pI lit),(4,pI w),(10,.iv (bV 1 (fE p a.rel).types j5)),(19,.iv (bV 5 a.aj Term.c)),(20,pI a.aj.length),(21,pI i)],
  [(0,co (TS.cell r 1 5 (t.add (fk p r a lit w i)).ws.length 3)),(1,co (mK (t.add (fk p r a lit w i)).up)),(5,co (aT 5 (t.add (fk p r a lit w i)).ws Want.c)),(3,co (mR (t.add (fk p r a lit w i)).kind))],6⟩) (fun _=>True) _ ac
  (HM (t:=t) (TS.add_nil t).symm Z Z Z Z Z Z Z Z Z Z (bi (bi (bi (bi (bi (bi (bi trivial)))))))) fun i B _=>?_
 refine zE Z Z (fun h1=>?_) fun h1=>?_
 .have h1:a.aj.length<=i:=by simpa using h1
  have:i=a.aj.length:=by omega
  subst this;refine gA Z th
 have h1:i<a.aj.length:=by simpa using h1
 have hl:=kX p r a lit w i;have hs:t.add (fk p r a lit w (i+1))=(t.add (fk p r a lit w i)).add (jA p r a lit w i):=by rw[TS.add_add];rfl
 have A:(t.add (fk p r a lit w i)).ws.length<=t.ws.length+i:=by show(t.ws++_).length<=_;rw[OE];omega
 generalize t.add (fk p r a lit w i)=t1 at*
 refine zE Z Z (fun g1=>?_) fun g1=>?_
 .have g1: ¬i<(fE p a.rel).types.length:=by have g:=zT (show kw ((i:Int)>=((fE p a.rel).types.length:Int))=is from g1);omega
  have x:kn p a i=jp:=by rw[kn,decide_eq_false g1];rfl
  have u:jA p r a lit w i=[]:=am x;rw[u,TS.add_nil]at hs;refine gA Z ⟨h1,ac,_,nf (hs.symm)⟩
 have g1:i<(fE p a.rel).types.length:=by have g:=zF (show kw ((i:Int)>=((fE p a.rel).types.length:Int))=jp from g1);omega
 refine zJ Z Z (fun g2=>?_) fun g2=>?_
 .have g2: ¬typeAt p a i=1:=by simpa[typeAt]using g2
  refine zJ Z Z (fun g3=>?_) fun g3=>?_
  .have g3: ¬typeAt p a i=2:=by simpa[typeAt]using g3
   have x:kn p a i=jp:=by rw[kn,decide_eq_true g1,decide_eq_false g2,decide_eq_false g3];rfl
   have u:jA p r a lit w i=[]:=am x;rw[u,TS.add_nil]at hs;refine gA Z ⟨h1,ac,_,nf (hs.symm)⟩
  .have g3:typeAt p a i=2:=by simpa[typeAt]using g3
   have y:kn p a i=is:=by rw[kn,decide_eq_true g1,decide_eq_true g3,Bool.or_true];rfl
   have u:jA p r a lit w i=if(a.aj.getD i ci).kind=1 then[⟨lit,dA r (a.aj.getD i ci).var w,typeAt p a i,0⟩]
    else if(a.aj.getD i ci).kind=2 then[⟨lit,bZ.z,typeAt p a i,(a.aj.getD i ci).val.kind⟩] else[]:=by unfold jA;rw[y];exact be (by decide)
   rw[u]at hs;refine zJ Z Z (fun b=>?_) fun b=>?_
   .have b:(a.aj.getD i ci).kind=1:=zT b;rw[am b]at hs;refine gA Z (lQ (d136 r t1 (a.aj.getD i ci).var w) ?_);refine gA Z ⟨h1,ac,_,nf (hs.symm)⟩
   have b: ¬(a.aj.getD i ci).kind=1:=zF b;rw[be b]at hs;refine zJ Z Z (fun j=>?_) fun j=>?_
   .have j:(a.aj.getD i ci).kind=2:=zT j;rw[am j]at hs;refine gA Z ⟨h1,ac,_,nf (hs.symm)⟩
   .have j: ¬(a.aj.getD i ci).kind=2:=zF j;rw[be j,TS.add_nil]at hs;refine gA Z ⟨h1,ac,_,nf (hs.symm)⟩
 .have g2:typeAt p a i=1:=by simpa[typeAt]using g2
  have y:kn p a i=is:=by rw[kn,decide_eq_true g1,decide_eq_true g2];rfl
  have u:jA p r a lit w i=if(a.aj.getD i ci).kind=1 then[⟨lit,dA r (a.aj.getD i ci).var w,typeAt p a i,0⟩]
   else if(a.aj.getD i ci).kind=2 then[⟨lit,bZ.z,typeAt p a i,(a.aj.getD i ci).val.kind⟩] else[]:=by unfold jA;rw[y];exact be (by decide)
  rw[u]at hs;refine zJ Z Z (fun b=>?_) fun b=>?_
  .have b:(a.aj.getD i ci).kind=1:=zT b;rw[am b]at hs;refine gA Z (lQ (d136 r t1 (a.aj.getD i ci).var w) ?_);refine gA Z ⟨h1,ac,_,nf (hs.symm)⟩
  have b: ¬(a.aj.getD i ci).kind=1:=zF b;rw[be b]at hs;refine zJ Z Z (fun j=>?_) fun j=>?_
  .have j:(a.aj.getD i ci).kind=2:=zT j;rw[am j]at hs;refine gA Z ⟨h1,ac,_,nf (hs.symm)⟩
  .have j: ¬(a.aj.getD i ci).kind=2:=zF j;rw[be j,TS.add_nil]at hs;refine gA Z ⟨h1,ac,_,nf (hs.symm)⟩
def tg(t:TS)(u v:bZ):TS:=if u=v then t else⟨cq (.si .i64) t.up u v,t.ws,t.kind⟩
def qA(y:Expr):Int:=if y.kind=2 then y.val.kind else 1
def fm(r:aw)(lit w:Int)(t:TS)(x y:Expr):TS:=
 if y.kind=1 then tg t (bF t.up (dA r x.var w)) (bF t.up (dA r y.var w))
 else t.add (if x.kind=1 then[⟨lit,dA r x.var w,qA y,0⟩] else if x.kind=2 then[⟨lit,bZ.z,qA y,x.val.kind⟩] else[⟨lit,bZ.z,qA y,1⟩])
def gu(r:aw)(lit w:Int)(t:TS)(a b:Expr):TS:=
 if b.kind=1 then fm r lit w ((t.add (gn r lit w a)).add (gn r lit w b)) b a else fm r lit w ((t.add (gn r lit w a)).add (gn r lit w b)) a b
theorem F7{u v:bZ}(h:(!(kw (u.1=v.1)&&(kw (u.2=v.2)&&is)))=is):u≠v:=by
 rintro rfl;simp at h
theorem F8{u v:bZ}(h:(!(kw (u.1=v.1)&&(kw (u.2=v.2)&&is)))=jp):u=v:=by
 simp at h;exact Prod.ext h.1 h.2
theorem oB(r:aw)(lit w:Int)(e:Expr):(gn r lit w e).length<=e.size:=by
 have h1:=fS r lit w e;rw[zy,OE]at h1;omega
set_option maxHeartbeats 1000000 in
theorem d93(r:aw)(t:TS)(a b:Expr)(lit w:Int)(ok:gf t.up)(hb:t.ws.length+a.size+b.size<=1000000000):bI prog 166 [.ptr 0 0,ag a.c,ag b.c,pI lit,pI w] (t.O r) (.bh []) ((gu r lit w t a b).H r) 5:=by
 have h1:=oB r lit w a;have I:=oB r lit w b;have G:gu r lit w t a b=if b.kind=1 then fm r lit w ((t.add (gn r lit w a)).add (gn r lit w b)) b a else fm r lit w ((t.add (gn r lit w a)).add (gn r lit w b)) a b:=rfl;rw[G];have C:gf ((t.add (gn r lit w a)).add (gn r lit w b)).up:=ok;refine ax ab func166 Z (by decide) ntmps166 Z (by simp) ?_;refine gA Z (Ac (I7 r t a lit w (by omega)) ?_);refine gA Z (xG (I7 r (t.add (gn r lit w a)) b lit w (by show(t.ws++_).length+_<=_;rw[OE];omega)) Z Z Z Z Z Z Z (by first|rfl|(rw[OE];rfl)|simp) (by first|rfl|(rw[OX];rfl)|(simp only[OX,O0];rfl)) Z Z Z Z Z Z ?_);have hl:((t.add (gn r lit w a)).add (gn r lit w b)).ws.length<=t.ws.length+a.size+b.size:=by
  show((t.ws++_)++_).length<=_;rw[OE,OE];omega
 generalize(t.add (gn r lit w a)).add (gn r lit w b)=t1 at*
 refine zJ Z Z (fun x=>?_) fun x=>?_
 .have x:b.kind=1:=zT x;rw[am x];refine zJ Z Z (fun u=>?_) fun u=>?_
  .have u:a.kind=2:=zT u;have D: ¬a.kind=1:=by omega
   have hh:qA a=a.val.kind:=am u;have A:fm r lit w t1 b a=t1.add [⟨lit,dA r b.var w,qA a,0⟩]:=by unfold fm;rw[be D,am x]
   rw[A,hh];refine zJ Z Z (fun y=>?_) fun y=>?_
   .exact absurd (zT y) D
   refine zE Z Z (fun j=>?_) fun j=>?_
   .exact absurd x (zF j)
   refine gA Z (lQ (d136 r t1 b.var w) ?_);refine gA Z th
  .have u: ¬a.kind=2:=zF u;refine zJ Z Z (fun y=>?_) fun y=>?_
   .have y:a.kind=1:=zT y;have A:fm r lit w t1 b a=tg t1 (bF t1.up (dA r b.var w)) (bF t1.up (dA r a.var w)):=am y;rw[A];refine gA Z (lQ (d136 r t1 b.var w) ?_);refine gA Z (lQ (d52 r t1 (dA r b.var w) C) ?_);refine gA Z (lQ (d136 r t1 a.var w) ?_);refine gA Z (lQ (d52 r t1 (dA r a.var w) C) ?_);refine zJ Z Z (fun j=>?_) fun j=>?_
    .have e:tg t1 (bF t1.up (dA r b.var w)) (bF t1.up (dA r a.var w))=⟨cq (.si .i64) t1.up (bF t1.up (dA r b.var w)) (bF t1.up (dA r a.var w)),t1.ws,t1.kind⟩:=be (F7 j);rw[e];refine fb Z (by repeat' (first|exact ac|exact rfl|exact Nt (bZ.c (bF t1.up (dA r a.var w)))|exact an.refl _|apply OF)) (I3 (by first|exact .inr Z|exact .inl Z) Z Z Z Z Z Z Z Z Z Z (.refl _) Z Z)
    .have e:tg t1 (bF t1.up (dA r b.var w)) (bF t1.up (dA r a.var w))=t1:=am (F8 j);rw[e];refine gA Z th
   .have D: ¬a.kind=1:=zF y;have hh:qA a=1:=be u;have A:fm r lit w t1 b a=t1.add [⟨lit,dA r b.var w,qA a,0⟩]:=by unfold fm;rw[be D,am x]
    rw[A,hh];refine zE Z Z (fun j=>?_) fun j=>?_
    .exact absurd x (zF j)
    refine gA Z (lQ (d136 r t1 b.var w) ?_);refine gA Z th
 have x: ¬b.kind=1:=zF x;rw[be x];have A:fm r lit w t1 a b=t1.add (if a.kind=1 then[⟨lit,dA r a.var w,qA b,0⟩] else if a.kind=2 then[⟨lit,bZ.z,qA b,a.val.kind⟩] else[⟨lit,bZ.z,qA b,1⟩]):=be x;rw[A];refine zJ Z Z (fun u=>?_) fun u=>?_
 .have u:b.kind=2:=zT u;have hh:qA b=b.val.kind:=am u;rw[hh];refine zJ Z Z (fun y=>?_) fun y=>?_
  .exact absurd (zT y) x
  refine zJ Z Z (fun j=>?_) fun j=>?_
  .rw[am (zT j)];refine gA Z (lQ (d136 r t1 a.var w) ?_);refine gA Z th
  rw[be (zF j)];refine zJ Z Z (fun B=>?_) fun B=>?_
  .rw[am (zT B)];refine gA Z th
  .rw[be (zF B)];refine gA Z th
 .have u: ¬b.kind=2:=zF u;have hh:qA b=1:=be u;rw[hh];refine zJ Z Z (fun y=>?_) fun y=>?_
  .exact absurd (zT y) x
  refine zJ Z Z (fun j=>?_) fun j=>?_
  .rw[am (zT j)];refine gA Z (lQ (d136 r t1 a.var w) ?_);refine gA Z th
  rw[be (zF j)];refine zJ Z Z (fun B=>?_) fun B=>?_
  .rw[am (zT B)];refine gA Z th
  .rw[be (zF B)];refine gA Z th
def mG(p:Prog)(r:aw)(lit w:Int)(t:TS)(l:Lit):TS:=
 if l.kind=1∨l.kind=2 then t.add (fk p r l.atom lit w l.atom.aj.length)
 else if l.kind=3 then(if l.op=1∨l.op=2 then gu r lit w t l.left l.right else(t.add (fg r lit w l.left)).add (fg r lit w l.right)) else t
theorem d91(p:Prog)(r:aw)(t:TS)(l:Lit)(lit w:Int)(ok:gf t.up)(hb:t.ws.length+l.size<=1000000000):bI prog 164 [.ptr 0 0,.iv (cv p),ag l.c,pI lit,pI w] (t.O r) (.bh []) ((mG p r lit w t l).H r) 5:=by
 have B:=l.size_eq;have C:=fS r lit w l.left;refine ax ab func164 Z (by decide) ntmps164 Z (by simp) ?_;refine zE Z Z (fun j=>?_) fun j=>?_
 .have j:l.kind=1:=by simpa using j
  have b:mG p r lit w t l=t.add (fk p r l.atom lit w l.atom.aj.length):=am (.inl j);rw[b];refine gA Z (Ac (d90 p r t l.atom lit w (by omega)) ?_);refine gA Z th
 have j: ¬l.kind=1:=zF j;refine zJ Z Z (fun u=>?_) fun u=>?_
 .have u:l.kind=2:=zT u;have b:mG p r lit w t l=t.add (fk p r l.atom lit w l.atom.aj.length):=am (.inr u);rw[b];refine gA Z (Ac (d90 p r t l.atom lit w (by omega)) ?_);refine gA Z th
 have u: ¬l.kind=2:=zF u;have b:mG p r lit w t l=if l.kind=3 then(if l.op=1∨l.op=2 then gu r lit w t l.left l.right else(t.add (fg r lit w l.left)).add (fg r lit w l.right)) else t:=be (by rintro(h|h);exact j h;exact u h);refine zJ Z Z (fun x=>?_) fun x=>?_
 .have x: ¬l.kind=3:=by simpa using x
  rw[be x]at b;rw[b];refine gA Z th
 have x:l.kind=3:=by simpa using x
 rw[am x]at b;refine zE Z Z (fun y=>?_) fun y=>?_
 .have y:l.op=1:=by simpa using y
  rw[am (.inl y)]at b;rw[b];refine gA Z (Ac (d93 r t l.left l.right lit w ok (by omega)) ?_);refine gA Z th
 have y: ¬l.op=1:=zF y;refine zJ Z Z (fun A=>?_) fun A=>?_
 .have A:l.op=2:=zT A;rw[am (.inr A)]at b;rw[b];refine gA Z (Ac (d93 r t l.left l.right lit w ok (by omega)) ?_);refine gA Z th
 .have A: ¬l.op=2:=zF A;rw[be (by rintro(h|h);exact y h;exact A h)]at b;rw[b];refine gA Z (Ac (Ei r t l.left lit w (by omega)) ?_);refine gA Z (xG (Ei r (t.add (fg r lit w l.left)) l.right lit w (by show(t.ws++_).length+_<=_;rw[OE];omega)) Z Z Z Z Z Z Z (by first|rfl|(rw[OE];rfl)|simp) (by first|rfl|(rw[OX];rfl)|(simp only[OX,O0];rfl)) Z Z Z Z Z Z ?_);refine gA Z th
theorem ny: ∀(n:Nat) (m:UM) (v:bZ),gf m->AD m v<=n->cV (.si .i64) m (bF m v)=jp
 |n,m,v,ok,hn=>by
  cases h:cV (.si .i64) m v with
  |false=>rw[oi m v h];exact h
  |true=>
   obtain⟨h1,b⟩:=lF m v ok h;cases n with
   |zero=>omega
   |succ n=>rw[<-h1];exact ny n m _ ok (by omega)
theorem w7: ∀(m:UM) (u v:bZ),cV (.si .i64) m u=jp->cq (.si .i64) m u v=m++ [(u,v)]
 | [],_,_,_=>rfl
 |(x,y)::r,u,v,h=>by
  unfold cV at h;split at h
  .cases h
  .rename_i b;show(if x=u then _ else(x,y)::cq (.si .i64) r u v)=_;rw[be b,w7 r u v h];rfl
theorem xF{m:UM}{u:bZ}(h:cV (.si .i64) m u=jp): ∀q∈m,q.1≠u:=by
 induction m with
 |nil=>intro q hq;cases hq
 |cons a r ih=>
  obtain⟨x,y⟩:=a;unfold cV at h;split at h
  .cases h
  .rename_i b;intro q hq;rcases OP.1 hq with rfl|hq
   .exact b
   .exact ih h q hq
theorem tJ: ∀{m:UM} {u v:bZ},gf m->(∀q∈m,q.1≠u)->(∀q∈m,q.1≠v)->u≠v->gf (m++ [(u,v)])
 | [],u,v,_,_,_,hne=>⟨hne,fun q hq=>(nomatch hq),fun q hq=>(nomatch hq),ac⟩
 |(x,y)::r,u,v,⟨o1,o2,o3,o4⟩,hu,hv,hne=>by
  refine⟨o1,fun q hq=>?_,fun q hq=>?_,tJ o4 (fun q hq=>hu q (ON _ hq)) (fun q hq=>hv q (ON _ hq)) hne⟩
  .rcases OW.1 hq with hq|hq
   .exact o2 q hq
   .simp only[OM]at hq;subst hq;exact fun e=>hu _ OO e.symm
  .rcases OW.1 hq with hq|hq
   .exact o3 q hq
   .simp only[OM]at hq;subst hq;exact fun e=>hv _ OO e.symm
theorem JY{t:TS}(ok:gf t.up)(a b:bZ):gf (tg t (bF t.up a) (bF t.up b)).up:=by
 unfold tg;split
 .exact ok
 .rename_i j;have h1:=ny _ t.up a ok (OL _);have u:=ny _ t.up b ok (OL _);show gf (cq _ _ _ _);rw[w7 _ _ _ h1];exact tJ ok (xF h1) (xF u) j
theorem uW(r:aw)(lit w:Int){t:TS}(ok:gf t.up)(x y:Expr):gf (fm r lit w t x y).up:=by
 unfold fm;split
 .exact JY ok _ _
 .exact ok
theorem xZ(r:aw)(lit w:Int){t:TS}(ok:gf t.up)(a b:Expr):gf (gu r lit w t a b).up:=by
 unfold gu;split
 .exact uW r lit w (t:=(t.add (gn r lit w a)).add (gn r lit w b)) ok _ _
 .exact uW r lit w (t:=(t.add (gn r lit w a)).add (gn r lit w b)) ok _ _
theorem Dw(p:Prog)(r:aw)(lit w:Int){t:TS}(ok:gf t.up)(l:Lit):gf (mG p r lit w t l).up:=by
 unfold mG
 repeat' split
 .exact ok
 .exact xZ r lit w ok _ _
 .exact ok
 .exact ok
theorem JX(t:TS)(u v:bZ):(tg t u v).ws=t.ws:=by unfold tg;split<;>rfl
theorem sU(r:aw)(lit w:Int)(t:TS)(x y:Expr):(fm r lit w t x y).ws.length<=t.ws.length+1:=by
 unfold fm
 repeat' split
 .rw[JX];omega
 all_goals(show(t.ws++_).length<=_;rw[OE,PC];omega)
theorem uV(r:aw)(lit w:Int)(t:TS)(a b:Expr):(gu r lit w t a b).ws.length<=t.ws.length+a.size+b.size+1:=by
 have h1:=oB r lit w a;have j:=oB r lit w b;have u:((t.add (gn r lit w a)).add (gn r lit w b)).ws.length<=t.ws.length+a.size+b.size:=by
  show((t.ws++_)++_).length<=_;rw[OE,OE];omega
 unfold gu;split
 .exact Pp (sU _ _ _ _ _ _) (by omega)
 .exact Pp (sU _ _ _ _ _ _) (by omega)
theorem zP(p:Prog)(r:aw)(lit w:Int)(t:TS)(l:Lit):(mG p r lit w t l).ws.length<=t.ws.length+l.size:=by
 have b:=l.size_eq;have h1:=kX p r l.atom lit w l.atom.aj.length;have j:=uV r lit w t l.left l.right;have u:=fS r lit w l.left;have x:=fS r lit w l.right;unfold mG
 repeat' split
 .show(t.ws++_).length<=_;rw[OE];omega
 .omega
 .show((t.ws++_)++_).length<=_;rw[OE,OE];omega
 .omega
theorem ah{P:Program}{nt:NT}{Q:AQ}{k:List KI}{s t:AS}{c:Code}(L:List Nat)(h0:Wk s.nx L s t)(h:GO P nt (.code c::k) Q t):GO P nt (.code c::k) Q s:=by
 intro M N a w x;exact AW.then h (h0.fits x) fun e B w' j u s' A b y=>⟨j,u,s',(h0.ext (.refl _ _ _ _ _)).trans A,b,y⟩
theorem GP:dN .eC (mK []):=⟨id,fun M N U w j b=>⟨#[],0,b,⟨rfl,by simp,by simp,by simp,by simp⟩,.agg _ _ Z fun j p b=>by
 match j,b with
 |0,b=>cases b;exact .v _
 |1,b=>cases b;exact .v _
 |j+2,b=>simp[bZ.c]at b⟩⟩
theorem GQ:dN .eC (mR []):=⟨id,fun M N U w j b=>⟨#[],0,b,⟨rfl,by simp,by simp,by simp,by simp⟩,eS M⟩⟩
def mD(s:ak):Expr:= .mk 1 s ⟨0,0,OI⟩ 0 []
abbrev EV(s:ak):PV:= .agg [pI 1,pS s,pI 0,pI 0,pS OI,pI 0,.iv (.v (.slice io 0 0))]
theorem u0(s:ak):an (EV s) (ag (mD s).c):= .agg ⟨.refl _,.refl _,.refl _,.refl _,.refl _,.refl _,.nil _ _,ac⟩
theorem jL(s:ak):(mD s).size=1:=rfl
def td(r:aw)(i:Int)(t:TS)(f:Int)(v:ak)(o:Expr):TS:=
 if f=2 then(t.add (fg r i i o)).add (fg r i i (mD v)) else if f=1 then t.add (fg r i i (mD v)) else gu r i i t (mD v) o
def nN(p:Prog)(r:aw)(i:Int)(t:TS)(b:List Lit):Nat->TS
 |0=>t
 |k+1=>mG p r i i (nN p r i t b k) (b.getD k ci)
def stepT(p:Prog)(r:aw)(i:Int)(t:TS)(l:Lit):TS:=
 if l.kind=4 then nN p r i (td r i t l.dL l.bw l.ji) l.ar l.ar.length else mG p r i (-1) t l
def TS.o:TS:=⟨[],[],[]⟩
def dO(p:Prog)(r:aw):Nat->TS
 |0=>TS.o.add (fk p r r.head (-1) (-1) r.head.aj.length)
 |k+1=>stepT p r k (dO p r k) (r.body.getD k ci)
def cm(b:UM)(m:KM)(w:Want):KM:=if w.has=0∧dm (.si .i64) m (bF b w.at_) 0=0 then cq (.si .i64) m (bF b w.at_) w.kind else m
def lx(p:Prog)(r:aw):TS:=⟨(dO p r r.body.length).up,(dO p r r.body.length).ws,(dO p r r.body.length).ws.foldl (cm (dO p r r.body.length).up) []⟩
theorem B6(r:aw)(i:Int){t:TS}(ok:gf t.up)(f:Int)(v:ak)(o:Expr):gf (td r i t f v o).up:=by
 unfold td
 repeat' split
 .exact ok
 .exact ok
 .exact xZ r i i ok _ _
theorem xD(p:Prog)(r:aw)(i:Int){t:TS}(ok:gf t.up)(b:List Lit): ∀k,gf (nN p r i t b k).up
 |0=>ok
 |k+1=>Dw p r i i (xD p r i ok b k) _
theorem F3(p:Prog)(r:aw)(i:Int){t:TS}(ok:gf t.up)(l:Lit):gf (stepT p r i t l).up:=by
 unfold stepT;split
 .exact xD p r i (B6 r i ok _ _ _) _ _
 .exact Dw p r i (-1) ok l
theorem vW(p:Prog)(r:aw): ∀k,gf (dO p r k).up
 |0=>trivial
 |k+1=>F3 p r k (vW p r k) _
theorem sT(r:aw)(lit w:Int)(t:TS)(a b:Expr):(gu r lit w t a b).kind=t.kind:=by
 have h1: ∀(t:TS) u v,(tg t u v).kind=t.kind:=fun t u v=>by unfold tg;split<;>rfl
 have j: ∀(t:TS) x y,(fm r lit w t x y).kind=t.kind:=fun t x y=>by
  unfold fm;split
  .exact h1 _ _ _
  .rfl
 unfold gu;split<;>exact j _ _ _
theorem xv(p:Prog)(r:aw)(lit w:Int)(t:TS)(l:Lit):(mG p r lit w t l).kind=t.kind:=by
 unfold mG
 repeat' split
 .rfl
 .exact sT r lit w t _ _
 .rfl
 .rfl
theorem z8(p:Prog)(r:aw)(i:Int)(t:TS)(b:List Lit): ∀k,(nN p r i t b k).kind=t.kind
 |0=>rfl
 |k+1=>by rw[nN,xv,z8 p r i t b k]
theorem AM(p:Prog)(r:aw)(i:Int)(t:TS)(l:Lit):(stepT p r i t l).kind=t.kind:=by
 unfold stepT;split
 .rw[z8];unfold td
  repeat' split
  .rfl
  .rfl
  .exact sT r i i t _ _
 .exact xv p r i (-1) t l
theorem uR(p:Prog)(r:aw): ∀k,(dO p r k).kind=[]
 |0=>rfl
 |k+1=>by rw[dO,AM,uR p r k]
theorem y9(r:aw)(i:Int)(t:TS)(f:Int)(v:ak)(o:Expr):(td r i t f v o).ws.length<=t.ws.length+o.size+2:=by
 have h1:=fS r i i o;have b:=fS r i i (mD v);have j:=uV r i i t (mD v) o;rw[jL]at b j;unfold td
 repeat' split
 .show((t.ws++_)++_).length<=_;rw[OE,OE];omega
 .show(t.ws++_).length<=_;rw[OE];omega
 .omega
theorem gC: ∀(l:List Lit) (i:Nat),i<l.length->Lit.aE (l.take i)+(l.getD i ci).size<=Lit.aE l
 | [],i,h=>by simp at h
 |s::r,0,_=>by simp[Lit.aE]
 |s::r,i+1,h=>by
  have:=gC r i (by simpa using h);simp only[PX,PR,Lit.aE];omega
theorem Lit.rC(l:List Lit)(i:Nat)(h:i<l.length):Lit.aE (l.take (i+1))=Lit.aE (l.take i)+(l.getD i ci).size:=by
 rw[cd h];have: ∀(a:List Lit) (b:Lit),Lit.aE (a++ [b])=Lit.aE a+b.size:=by
  intro a b
  induction a with
  |nil=>simp[Lit.aE]
  |cons x r ih=>simp only[PT,Lit.aE,ih];omega
 exact this _ _
theorem sj(p:Prog)(r:aw)(i:Int)(t:TS)(b:List Lit): ∀k,k<=b.length->(nN p r i t b k).ws.length<=t.ws.length+Lit.aE (b.take k)
 |0,_=>by simp[nN,Lit.aE]
 |k+1,h=>by
  have h1:=sj p r i t b k (by omega);have j:=zP p r i i (nN p r i t b k) (b.getD k ci);rw[nN,Lit.rC b k (by omega)];omega
theorem Cr(p:Prog)(r:aw)(i:Int)(t:TS)(l:Lit):(stepT p r i t l).ws.length<=t.ws.length+l.size:=by
 have b:=l.size_eq;unfold stepT;split
 .have h1:=sj p r i (td r i t l.dL l.bw l.ji) l.ar l.ar.length (OL _);have j:=y9 r i t l.dL l.bw l.ji;rw[Ql]at h1;omega
 .exact zP p r i (-1) t l
theorem sL(p:Prog)(r:aw): ∀k,k<=r.body.length->(dO p r k).ws.length<=r.head.aj.length+Lit.aE (r.body.take k)
 |0,_=>by
  have:=kX p r r.head (-1) (-1) r.head.aj.length;show([]++_).length<=_;simp only[Qh];omega
 |k+1,h=>by
  have h1:=sL p r k (by omega);have b:=Cr p r k (dO p r k) (r.body.getD k ci);rw[dO,Lit.rC r.body k (by omega)];omega
theorem N5(r:aw)(b:UM)(j:KM)(W:IV)(v0:bZ)(ok:gf b):bI prog 167 [.ptr 0 0,ag v0.c] [.cells [.iv (b8 r),.mp 1,.iv W,.mp 2],mK b,mR j] (ag (bF b v0).c) [(0,co (.cells [.iv (b8 r),.mp 1,.iv W,.mp 2])),(1,co (mK b)),(2,co (mR j))] 3:=by
 refine ax ab func167 Z (by decide) ntmps167 Z (by simp) ?_;refine gA Z ?_
 refine fW (σ:={v:bZ//bF b v=bF b v0}) (fun v=>⟨[(0,.ptr 0 0),(3,.ptr 3 0),(4,.ptr 4 0)],
  [(0,co (.cells [.iv (b8 r),.mp 1,.iv W,.mp 2])),(1,co (mK b)),(2,co (mR j)),(3,co (.cells [pS v.1.1,pI v.1.2])),(4,co (.cells [pS ⟨#[]⟩,pI 0]))],5⟩) (fun v=>AD b v.1) ⟨v0,rfl⟩ []
  (zW (zO (zC (zC ⟨⟨_,rfl,.of_eq Z⟩,Oy Z,rfl,⟨_,rfl,.of_eq Z⟩,Oy Z,rfl,ac⟩)))) fun v=>?_
 obtain⟨v,u⟩:=v;refine zJ Z Z (fun g=>?_) fun g=>?_
 .have h:cV (.si .i64) b v=jp:=by simpa using g
  have e:bF b v0=v:=by rw[<-u];exact oi b v h
  refine gA Z (zD [] Z (zM ⟨.of_eq (congrArg (fun x:bZ=>ag x.c) e.symm),rfl,ac⟩ (zO (zC (zC ac)))))
 .have h:cV (.si .i64) b v=is:=by simpa using g
  obtain⟨h1,y⟩:=lF b v ok h;refine gA Z ⟨⟨dm (.si .i64) b v bZ.z,h1.trans u⟩,[],y,zW (zO (zC (zC ⟨⟨_,rfl,.of_eq Z⟩,Oy Z,rfl,⟨_,rfl,.of_eq Z⟩,Oy Z,rfl,ac⟩)))⟩
set_option maxHeartbeats 2000000 in
theorem c49(p:Prog)(r:aw)(hb:r.size<=100000000):Pure prog 130 [.iv (cv p),.iv (b8 r)] (.iv (JT r (lx p r))):=by
 unfold aw.size at hb;have Y:=Lit.aF r.body;have g0:r.body.length<=Lit.aE r.body:=Y;refine ae ab func130 Z (by decide) ntmps130 Z (by simp) Z ?_;refine gM 14 Z (oE 2 2 5 Z Z ?_);refine ah [] (t:=⟨[(0,.iv (cv p)),(1,.iv (b8 r)),(5,.ptr 2 0)],[(2,co (TS.cell r 0 3 TS.o.ws.length 1)),(0,co (mK TS.o.up)),(3,co (aT 5 TS.o.ws Want.c)),(1,co (mR TS.o.kind))],4⟩)
  (zW ⟨⟨_,rfl,.of_eq Z⟩,Oy Z,rfl,⟨_,rfl,GP⟩,Oy Z,ac,⟨_,rfl,.of_eq Z⟩,Oy Z,dG _,⟨_,rfl,GQ⟩,Oy Z,ac,ac⟩) ?_
 refine gA Z (xG (d90 p r TS.o r.head (-1) (-1) (by show 0+_<=_;omega)) Z Z Z Z Z Z Z (by first|rfl|(rw[OE];rfl)|simp) (by first|rfl|(rw[OX];rfl)|(simp only[OX,O0];rfl)) Z Z Z Z Z Z ?_);refine gA Z ?_
 refine aM 0 r.body.length (OS _) (fun i=>⟨[(0,.iv (cv p)),(1,.iv (b8 r)),(5,.ptr 2 0),(31,.iv (lits r.body)),(32,pI r.body.length),(33,pI i)],
  [(2,co (TS.cell r 0 5 (dO p r i).ws.length 1)),(0,co (mK (dO p r i).up)),(5,co (aT 5 (dO p r i).ws Want.c)),(1,co (mR (dO p r i).kind))],6⟩) (fun _=>True) _ ac
  (HM (t:=dO p r 0) Z Z Z Z Z Z Z Z Z Z Z (bi (bi (bi (bi (bi (bi trivial))))))) fun i hi _=>?_
 have d0:=sL p r i hi;have hok:=vW p r i;refine zJ Z Z (fun h1=>?_) fun h1=>?_
 .have h1:i<r.body.length:=by simpa using h1
  have j0:=gC r.body i h1;have hs:dO p r (i+1)=stepT p r i (dO p r i) (r.body.getD i ci):=rfl;generalize dO p r i=t1 at*
  have k0:=(r.body.getD i ci).size_eq;refine zJ Z Z (fun B=>?_) fun B=>?_
  .have B: ¬(r.body.getD i ci).kind=4:=by have g:(!kw ((r.body.getD i ci).kind=4))=is:=B;simpa only[PF,decide_eq_false_iff_not]using g
   have hS:stepT p r i t1 (r.body.getD i ci)=mG p r i (-1) t1 (r.body.getD i ci):=be B;rw[hS]at hs;refine gA Z (Ac (d91 p r t1 (r.body.getD i ci) i (-1) hok (by omega)) ?_);refine gA Z ⟨h1,ac,_,nf (hs.symm)⟩
  have B:(r.body.getD i ci).kind=4:=by have g:(!kw ((r.body.getD i ci).kind=4))=jp:=B;simpa only[Qm,decide_eq_true_eq]using g
  have hS:stepT p r i t1 (r.body.getD i ci)=nN p r i (td r i t1 (r.body.getD i ci).dL (r.body.getD i ci).bw (r.body.getD i ci).ji) (r.body.getD i ci).ar (r.body.getD i ci).ar.length:=am B;rw[hS]at hs;have J:td r i t1 (r.body.getD i ci).dL (r.body.getD i ci).bw (r.body.getD i ci).ji=if(r.body.getD i ci).dL=2 then(t1.add (fg r i i (r.body.getD i ci).ji)).add (fg r i i (mD (r.body.getD i ci).bw)) else if(r.body.getD i ci).dL=1 then t1.add (fg r i i (mD (r.body.getD i ci).bw)) else gu r i i t1 (mD (r.body.getD i ci).bw) (r.body.getD i ci).ji:=rfl;have A:=B6 r i hok (r.body.getD i ci).dL (r.body.getD i ci).bw (r.body.getD i ci).ji;have f0:=y9 r i t1 (r.body.getD i ci).dL (r.body.getD i ci).bw (r.body.getD i ci).ji;have a0:=Lit.aF (r.body.getD i ci).ar;have m0:=jL (r.body.getD i ci).bw;have i0:=fS r i i (r.body.getD i ci).ji;generalize td r i t1 (r.body.getD i ci).dL (r.body.getD i ci).bw (r.body.getD i ci).ji=V at*
  refine zJ Z Z (fun f2=>?_) fun f2=>?_
  .have f2:(r.body.getD i ci).dL=2:=zT f2;have I:V=(t1.add (fg r i i (r.body.getD i ci).ji)).add (fg r i i (mD (r.body.getD i ci).bw)):=by rw[J,am f2]
   refine gA Z (Ac (Ei r t1 (r.body.getD i ci).ji i i (by omega)) ?_);refine gA Z (xG (bI.le (aa:=[.ptr 0 0,EV (r.body.getD i ci).bw,pI i,pI i]) (Ei r (t1.add (fg r i i (r.body.getD i ci).ji)) (mD (r.body.getD i ci).bw) i i (by show(t1.ws++_).length+_<=_;rw[OE,jL];omega)) ⟨.refl _,u0 _,.refl _,.refl _,ac⟩) Z Z Z Z Z Z Z (by first|rfl|(rw[OE];rfl)|simp) (by first|rfl|(rw[OX];rfl)|(simp only[OX,O0];rfl)) Z Z Z Z Z Z ?_);refine gA Z ?_;refine aM 0 (r.body.getD i ci).ar.length (OS _) (fun k=>⟨[(0,.iv (cv p)),(1,.iv (b8 r)),(5,.ptr 2 0),(6,pI i),(31,.iv (lits r.body)),(32,pI r.body.length),(33,pI i),(79,.iv (lits (r.body.getD i ci).ar)),(80,pI (r.body.getD i ci).ar.length),(81,pI k)],[(2,co (TS.cell r 0 10 (nN p r i V (r.body.getD i ci).ar k).ws.length 1)),(0,co (mK (nN p r i V (r.body.getD i ci).ar k).up)),(10,co (aT 5 (nN p r i V (r.body.getD i ci).ar k).ws Want.c)),(1,co (mR (nN p r i V (r.body.getD i ci).ar k).kind))],11⟩) (fun _=>True) _ ac
    (HM I.symm Z Z Z Z Z Z Z Z Z Z (bi (bi (bi (bi (bi (bi (bi ⟨.iv (lO _),rfl,bi (bi trivial)⟩)))))))) fun k hk _=>?_
   have C:=sj p r i V (r.body.getD i ci).ar k hk;have u:=xD p r i A (r.body.getD i ci).ar k;have D:nN p r i V (r.body.getD i ci).ar (k+1)=mG p r i i (nN p r i V (r.body.getD i ci).ar k) ((r.body.getD i ci).ar.getD k ci):=rfl;refine zJ Z Z (fun j=>?_) fun j=>?_
   .have j:k<(r.body.getD i ci).ar.length:=zN j;have G:=gC (r.body.getD i ci).ar k j;refine gA Z (Ac (d91 p r (nN p r i V (r.body.getD i ci).ar k) ((r.body.getD i ci).ar.getD k ci) i i u (by omega)) ?_);refine gA Z ⟨j,ac,_,nf (rfl)⟩
   .have j:(r.body.getD i ci).ar.length<=k:=zG j;have x:k=(r.body.getD i ci).ar.length:=by omega
    subst x;refine gA Z ⟨h1,ac,_,nf (hs.symm)⟩
  have f2: ¬(r.body.getD i ci).dL=2:=zF f2;rw[be f2]at J;refine zJ Z Z (fun f1=>?_) fun f1=>?_
  .have f1:(r.body.getD i ci).dL=1:=zT f1;have I:V=t1.add (fg r i i (mD (r.body.getD i ci).bw)):=by rw[J,am f1]
   refine gA Z (Ac (bI.le (aa:=[.ptr 0 0,EV (r.body.getD i ci).bw,pI i,pI i]) (Ei r t1 (mD (r.body.getD i ci).bw) i i (by rw[jL];omega)) ⟨.refl _,u0 _,.refl _,.refl _,ac⟩) ?_);refine gA Z ?_;refine aM 0 (r.body.getD i ci).ar.length (OS _) (fun k=>⟨[(0,.iv (cv p)),(1,.iv (b8 r)),(5,.ptr 2 0),(6,pI i),(31,.iv (lits r.body)),(32,pI r.body.length),(33,pI i),(79,.iv (lits (r.body.getD i ci).ar)),(80,pI (r.body.getD i ci).ar.length),(81,pI k)],[(2,co (TS.cell r 0 9 (nN p r i V (r.body.getD i ci).ar k).ws.length 1)),(0,co (mK (nN p r i V (r.body.getD i ci).ar k).up)),(9,co (aT 5 (nN p r i V (r.body.getD i ci).ar k).ws Want.c)),(1,co (mR (nN p r i V (r.body.getD i ci).ar k).kind))],10⟩) (fun _=>True) _ ac
    (HM I.symm Z Z Z Z Z Z Z Z Z Z (bi (bi (bi (bi (bi (bi (bi ⟨.iv (lO _),rfl,bi (bi trivial)⟩)))))))) fun k hk _=>?_
   have C:=sj p r i V (r.body.getD i ci).ar k hk;have u:=xD p r i A (r.body.getD i ci).ar k;have D:nN p r i V (r.body.getD i ci).ar (k+1)=mG p r i i (nN p r i V (r.body.getD i ci).ar k) ((r.body.getD i ci).ar.getD k ci):=rfl;refine zJ Z Z (fun j=>?_) fun j=>?_
   .have j:k<(r.body.getD i ci).ar.length:=zN j;have G:=gC (r.body.getD i ci).ar k j;refine gA Z (Ac (d91 p r (nN p r i V (r.body.getD i ci).ar k) ((r.body.getD i ci).ar.getD k ci) i i u (by omega)) ?_);refine gA Z ⟨j,ac,_,nf (rfl)⟩
   .have j:(r.body.getD i ci).ar.length<=k:=zG j;have x:k=(r.body.getD i ci).ar.length:=by omega
    subst x;refine gA Z ⟨h1,ac,_,nf (hs.symm)⟩
  .have f1: ¬(r.body.getD i ci).dL=1:=zF f1;have I:V=gu r i i t1 (mD (r.body.getD i ci).bw) (r.body.getD i ci).ji:=by rw[J,be f1]
   refine gA Z (Ac (bI.le (aa:=[.ptr 0 0,EV (r.body.getD i ci).bw,ag (r.body.getD i ci).ji.c,pI i,pI i]) (d93 r t1 (mD (r.body.getD i ci).bw) (r.body.getD i ci).ji i i hok (by rw[jL];omega)) ⟨.refl _,u0 _,.refl _,.refl _,.refl _,ac⟩) ?_);refine gA Z ?_;refine aM 0 (r.body.getD i ci).ar.length (OS _) (fun k=>⟨[(0,.iv (cv p)),(1,.iv (b8 r)),(5,.ptr 2 0),(6,pI i),(31,.iv (lits r.body)),(32,pI r.body.length),(33,pI i),(79,.iv (lits (r.body.getD i ci).ar)),(80,pI (r.body.getD i ci).ar.length),(81,pI k)],[(2,co (TS.cell r 0 9 (nN p r i V (r.body.getD i ci).ar k).ws.length 1)),(0,co (mK (nN p r i V (r.body.getD i ci).ar k).up)),(9,co (aT 5 (nN p r i V (r.body.getD i ci).ar k).ws Want.c)),(1,co (mR (nN p r i V (r.body.getD i ci).ar k).kind))],10⟩) (fun _=>True) _ ac
    (HM I.symm Z Z Z Z Z Z Z Z Z Z (bi (bi (bi (bi (bi (bi (bi ⟨.iv (lO _),rfl,bi (bi trivial)⟩)))))))) fun k hk _=>?_
   have C:=sj p r i V (r.body.getD i ci).ar k hk;have u:=xD p r i A (r.body.getD i ci).ar k;have D:nN p r i V (r.body.getD i ci).ar (k+1)=mG p r i i (nN p r i V (r.body.getD i ci).ar k) ((r.body.getD i ci).ar.getD k ci):=rfl;refine zJ Z Z (fun j=>?_) fun j=>?_
   .have j:k<(r.body.getD i ci).ar.length:=zN j;have G:=gC (r.body.getD i ci).ar k j;refine gA Z (Ac (d91 p r (nN p r i V (r.body.getD i ci).ar k) ((r.body.getD i ci).ar.getD k ci) i i u (by omega)) ?_);refine gA Z ⟨j,ac,_,nf (rfl)⟩
   .have j:(r.body.getD i ci).ar.length<=k:=zG j;have x:k=(r.body.getD i ci).ar.length:=by omega
    subst x;refine gA Z ⟨h1,ac,_,nf (hs.symm)⟩
 .have h1:r.body.length<=i:=by simpa using h1
  have b0:i=r.body.length:=by omega
  subst b0;have hT:lx p r=⟨(dO p r r.body.length).up,(dO p r r.body.length).ws,(dO p r r.body.length).ws.foldl (cm (dO p r r.body.length).up) []⟩:=rfl;rw[hT];rw[Ql]at d0;have c0:(dO p r r.body.length).kind=[]:=uR p r _;generalize dO p r r.body.length=t1 at*
  have R:t1.kind=(t1.ws.take 0).foldl (cm t1.up) []:=c0;refine gA Z ?_;refine vL 5 (fun k=>Want.c (t1.ws.getD k ci)) Z (gz Z) (by simp[AF.qO,PV.dC,kY]) ⟨(by simp[AO.qO,dQ,PV.dC]),ac,wT _ _ _ _ _ _,ac,ac⟩ ?_
  refine aM 0 t1.ws.length (OS _) (fun i=>⟨[(5,.ptr 2 0),(96,.iv (bV 5 t1.ws Want.c)),(97,pI t1.ws.length),(98,pI i)],
   [(2,co (.cells [.iv (b8 r),.mp 0,.iv (bV 5 t1.ws Want.c),.mp 1])),(0,co (mK t1.up)),(1,co (mR ((t1.ws.take i).foldl (cm t1.up) [])))],6⟩) (fun _=>True) [] ac
   (zM (bi ⟨.cp Z (fun k _=>by rw[O8]),rfl,bi (bi trivial)⟩) ⟨⟨_,rfl,.cells ⟨.refl _,.refl _,.cp Z (fun k _=>by rw[O8]),.refl _,ac⟩⟩,Oy Z,rfl,zC (hM Z R Z trivial)⟩) fun i hi _=>?_
  refine zJ Z Z (fun j=>?_) fun j=>?_
  .have j:i<t1.ws.length:=zN j;have y:=gq (g:=cm t1.up) (b:=[]) j;refine gA Z (zq [2,0,1] (N5 r t1.up ((t1.ws.take i).foldl (cm t1.up) []) (bV 5 t1.ws Want.c) (t1.ws.getD i ci).at_ hok) ?_);refine zJ Z Z (fun g1=>?_) fun g1=>?_
   .have g1:(t1.ws.getD i ci).has=0:=zT g1;refine zJ Z Z (fun g2=>?_) fun g2=>?_
    .have g2:dm (.si .i64) ((t1.ws.take i).foldl (cm t1.up) []) (bF t1.up (t1.ws.getD i ci).at_) 0=0:=zT g2;have hk:cm t1.up ((t1.ws.take i).foldl (cm t1.up) []) (t1.ws.getD i ci)=cq (.si .i64) ((t1.ws.take i).foldl (cm t1.up) []) (bF t1.up (t1.ws.getD i ci).at_) (t1.ws.getD i ci).kind:=am ⟨g1,g2⟩;rw[hk]at y;refine gA Z ⟨j,ac,[],zW (zO (zC (hM Z (by first|exact y.symm|(rw[y];rfl)) Z ac)))⟩
    .have g2: ¬dm (.si .i64) ((t1.ws.take i).foldl (cm t1.up) []) (bF t1.up (t1.ws.getD i ci).at_) 0=0:=zF g2;have hk:cm t1.up ((t1.ws.take i).foldl (cm t1.up) []) (t1.ws.getD i ci)=(t1.ws.take i).foldl (cm t1.up) []:=be fun h=>g2 h.2;rw[hk]at y;refine gA Z ⟨j,ac,[],zW (zO (zC (hM Z (by first|exact y.symm|(rw[y];rfl)) Z ac)))⟩
   .have g1: ¬(t1.ws.getD i ci).has=0:=zF g1;have hk:cm t1.up ((t1.ws.take i).foldl (cm t1.up) []) (t1.ws.getD i ci)=(t1.ws.take i).foldl (cm t1.up) []:=be fun h=>g1 h.1;rw[hk]at y;refine gA Z ⟨j,ac,[],zW (zO (zC (hM Z (by first|exact y.symm|(rw[y];rfl)) Z ac)))⟩
  .have j:t1.ws.length<=i:=zG j;have e0:t1.ws.take i=t1.ws:=OY j;refine fb Z ac (kR (.inr Z) Z (.map 0 Z (.map 1 Z (.cells 2 _ Z (show _=List.map PV.iv [b8 r,upI t1.up,bV 5 t1.ws Want.c,kdI (t1.ws.foldl (cm t1.up) [])] by rw[e0];rfl) (.done (.of_eq Z))))))
end Go.Proofs.YtllkaddcplhklaaGreatDoor
