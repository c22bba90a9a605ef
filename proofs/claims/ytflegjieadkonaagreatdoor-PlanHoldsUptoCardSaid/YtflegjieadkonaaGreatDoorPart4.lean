/-
  What the proofs of the claims need: part 4 of 6.
-/
import Derived.Test.YtflegjieadkonaaGreatDoorPart3
import Derived.WalkKit
import Derived.ProofKit
import Derived.OpenShut
import Derived.Deep.DeepHandedRow
import Derived.Lib.LaidTab
import Derived.LaidSub
import Derived.MakeChecks
import Derived.Test.YtflegjieadkonaaGreatDoorCards
import Derived.Test.YtflegjieadkonaaGreatDoorTie
open And renaming intro→Rm
open Bool renaming and_eq_true→Q5,and_false→Sd,eq_iff_iff→RS,false_and→Si,false_eq_true→SK,false_ne_true→Ri,false_or→R4,not_eq_false'→Sx,not_eq_true→Tc,not_eq_true'→Rw,not_true→S5,or_assoc→TF,or_eq_false_iff→Rq,or_eq_true→R9,or_false→Sn,or_true→SG,true_and→RV
open ByteArray renaming empty→Qz
open Classical renaming byContradiction→R7
open Decidable renaming not_not→SC
open Int renaming le_refl→SA,toNat_natCast→QW
open List.Nodup renaming length_le_of_subset→Sf
open List.Pairwise renaming imp→TC
open List renaming all_eq_false→S9,all_eq_true→Q7,any_eq_false→RD,any_eq_true→RR,append_assoc→QU,append_eq_nil_iff→SH,append_nil→Ro,concat_eq_append→TR,cons_append→Se,eq_nil_of_length_eq_zero→Rx,exists_of_findSome?_eq_some→SU,ext_getElem→Ua,filter_append→Tg,filter_cons→Sl,find?_cons→Uc,find?_cons_of_neg→TO,find?_eq_none→Sk,findSome?_append→Tn,findSome?_eq_none_iff→SN,flatMap_append→Te,flatMap_cons→Rl,flatMap_nil→TI,foldl_append→Sp,foldl_cons→Rc,getD_eq_getElem?_getD→Qx,getElem?_append_left→QQ,getElem?_cons_succ→SZ,getElem?_cons_zero→Th,getElem?_eq_getElem→Qy,getElem?_eq_some_iff→Qw,getElem?_map→QC,getElem?_of_mem→RE,getElem?_replicate→S0,getElem?_set→R5,getElem?_take→Rt,getElem?_zipWith→TU,getElem_inj→Tp,getElem_map→Tq,getElem_mem→Rz,length_append→Qv,length_cons→Rf,length_eq_zero_iff→S1,length_filter_le→RP,length_map→Rv,length_nil→R0,length_pos_iff→SD,length_set→SO,length_singleton→Rp,length_take→RW,map_append→QO,map_cons→Q4,map_nil→RL,map_set→S4,mem_append→QK,mem_append_left→Q8,mem_append_right→RA,mem_cons→QY,mem_cons_of_mem→QR,mem_cons_self→Q3,mem_filter→Rn,mem_flatMap→SI,mem_iff_getElem→RG,mem_iff_getElem?→S7,mem_map→RH,mem_map_of_mem→SY,mem_of_getElem?→Rk,mem_of_mem_take→TY,mem_or_eq_of_mem_set→Tx,mem_range→R3,mem_singleton→QJ,mem_singleton_self→Sc,nil_append→Sa,nodup_append→Sh,nodup_cons→RT,nodup_nil→RF,pairwise_append→Ta,pairwise_cons→R8,pairwise_iff_getElem→Sq,range→Rh,range_succ→SP,replicate→SM,sum_cons→Sz,take_append_drop→S6,take_length→Sv,take_of_length_le→QM,take_succ_cons→RY,zipWith→TM,zipWith_cons_cons→TN
open Nat renaming add_assoc→Sm,add_mul→RJ,beq→Q6,ble→SE,ble_eq_true_of_le→Ry,blt→QZ,eq_of_beq_eq_true→QS,le_of_ble_eq_true→Qs,le_of_eq→T5,le_of_not_lt→Su,le_refl→QH,le_succ→Tr,le_trans→Rr,lt_succ_iff_lt_or_eq→RK,lt_succ_of_lt→Sb,lt_succ_self→RX,max_eq_right→T9,not_lt_zero→R1,succ_mul→SQ,zero_add→Q9,zero_le→QN
open Option renaming bind_some→TG,getD_some→R2,map_eq_none_iff→SF,map_eq_some_iff→QF,map_some→RZ
open Option.some renaming inj→RC,injEq→Qu
open Prod renaming fst→Ra
open Prod.mk renaming injEq→QI
set_option maxRecDepth 100000
open Bool renaming false→lc,true→kw
open Decidable renaming decide→li
open Inhabited renaming default→co
open Option renaming none→jp,some→io
open Array renaming getD_eq_getD_getElem?→Qt
open Array renaming range→Tz
open Array renaming getElem?_map→S3
open Array renaming getElem?_eq_getElem→Rs
open Nat renaming mul_le_mul_right→Rb
open Array renaming getElem?_append_left→RB
open List renaming getElem?_append_right→QX
open Array renaming getElem?_toList→RI
namespace Go.Proofs.YtflegjieadkonaaGreatDoor
open Go Go.Al Go.Proofs.Tryz Go.ChangeShapes Go.WideShapes Go.RowKit
theorem own:ownKnob prog.godebug=jp:=by kernel_rfl
theorem OI:prog.globalNamed "internal/strconv.uint64pow10" =io 0:=by kernel_rfl
theorem Ge:(prog.globals[0]?).map (·.type)=io 343:=by kernel_rfl
theorem GK:prog.cellsOf 343=20:=by kernel_rfl
theorem GN:prog.cellsOf 205=1:=by kernel_rfl
theorem Eu:prog.underlying 343=io (.array 20 205):=by kernel_rfl
theorem Ev:prog.underlying 205=io (.int .u64):=by kernel_rfl
abbrev FL:List (String×DataW Unit):=[("math/bits.deBruijn32tab",Rows.laid_math_bits_deBruijn32tab),("math/bits.deBruijn64tab",Rows.laid_math_bits_deBruijn64tab),("internal/strconv.uint64pow10",Rows.laid_internal_strconv_uint64pow10)]
theorem EC{W:World}(h:laidMetH prog FL W):nM W:=by
 have j:=laidMetH.filter (fun x=>x.1== "internal/strconv.uint64pow10") h;have y:laidMet prog [("internal/strconv.uint64pow10",Lib.tabData .u64 o6)] W:=by
  rw[show FL.filter (fun x=>x.1== "internal/strconv.uint64pow10")=[("internal/strconv.uint64pow10",Lib.tabData .u64 o6)] by kernel_rfl]at j;rwa[MakeChecks.laidMetH_plain _ _ _ (by kernel_rfl)]at j
 have d:Lib.TabIs prog W "internal/strconv.uint64pow10" .u64 o6:=Lib.tabIs_of_head (rest:=[]) OI Ge Eu Ev GN GK y;intro b c hb;unfold Lib.TabIs World.var? at d;rw[OI]at d
 match b with
 |0=>
  have A:(o6.map fun z=>Value.int .u64 z).toArray=c:=RC hb;rw[A]at d;simp only[TG]at d;split at d
  .rename_i B T u e;exact⟨T,u,by rw[e,RC d]⟩
  .cases d
 |b+1=>exact nomatch hb
theorem kids:Kids prog (· <prog.types.size):=kids_rows (by kernel_rfl) (by kernel_rfl)
theorem full: ∀{t e},t<prog.types.size->prog.underlying t=io (.slice e)->0<prog.cellsOf e:=fun{t e}=>slices_full_of prog (by kernel_rfl) t e
theorem xl{H:Type}{enc:TypeId×Value->H}{W:World}(hT:nM W){k:FuncId}{f:Func}{s:ChangeSpec}{args:List PV}{vs:List Value}{B gs:List (DataW H)}{d:List MemPlace}
  (hp:Al.Pure prog k args (pB kw)) (G:args.length=vs.length) (hv: ∀(j:Nat) (p:PV),args[j]? =io p->VR (Mem.oh W hT) Ox (· <0) p (vs.getD j undef))
  (I: ∀t∈f.params.toList,t<prog.types.size) (y:s.vars=[]) (u:f.resultTypes= #[4])
  (hW:DataW.Whole enc prog f.params.toList s.vars lc W vs.toArray.toList B gs d)
  (J:(s.fn H (B++gs)).results=[.lit (.bool kw)]) (S:(s.fn H (B++gs)).args=B) (Y:(s.fn H (B++gs)).vars=[]):
  Calls prog k vs.toArray W fun e W'=> ∃v,e= .returned v∧s.post enc prog f lc kw lc lc W vs.toArray v W':=by
 refine(hp.2 (Mem.oh W hT) Ox W vs (IN W hT) G hv).mono ?_;rintro e W' ⟨x,M',N',r,h',n',rfl,⟨rfl,rfl,rfl⟩,hx,hr,hvr⟩;have Z:x= .bool kw:=by
  cases hvr with
  |iv _ _ h=>cases h;rfl
 subst Z;refine⟨_,rfl,xm kids full I y hW hx.os hx.output (fun b hb=>hx.fG b hb fun i o hi=>(nomatch hi)) (fun b sp hd=>?_) S Y ?_⟩
 .rw[J,u];exact trodAll_cons_mk (shut_bool underlying4 _) trodAll_mk0
 .intro j t r A F;rw[u]at A F
  match j,A,F with
  |0,A,F=>
   cases A;cases F;exact okWide_bool_mk underlying4 _
  |j+1,A,F=>simp at A
theorem bound{H:Type}{l:List (DataW H)}(b:Rows.uptoSmall H l=kw):Rows.uptoBulkAll l<=1048576:=of_decide_eq_true b
theorem CW{H:Type}{enc:TypeId×Value->H}{W:World}(hT:nM W){v:Value}{d:DataW H}{p:List MemPlace}(b: ∃base,Value.okWide prog W .any base 3 v)(h:DataW.Trod enc prog W 0 (fun _=>kw) kw 3 v d p):
  ∃z:Int,(Lit.int .i64 z).wf=kw∧VR (Mem.oh W hT) Ox (· <0) (pI z) v:=by
 obtain⟨base,b⟩:=b;obtain⟨n,rfl,_,_,j⟩:=open_int underlying3 b h;exact⟨n,j,.iv _ _ (.v _)⟩
def FK(b:Nat)(cs:Array Value)(h:Array Obj):Array Obj:=h.modify b fun
 | .cells _ t frozen=> .cells cs t frozen
 |o=>o
noncomputable def ra(os:Os):World:=
 {World.holding prog os ⟨#[], #[],[]⟩ with
  heap:=FK 2 #[.int .u8 0,.int .u8 1,.int .u8 56,.int .u8 2,.int .u8 57,.int .u8 49,.int .u8 28,.int .u8 3,.int .u8 61,.int .u8 58,.int .u8 42,.int .u8 50,.int .u8 38,.int .u8 29,.int .u8 17,.int .u8 4,.int .u8 62,.int .u8 47,.int .u8 59,.int .u8 36,.int .u8 45,.int .u8 43,.int .u8 51,.int .u8 22,.int .u8 53,.int .u8 39,.int .u8 33,.int .u8 30,.int .u8 24,.int .u8 18,.int .u8 12,.int .u8 5,.int .u8 63,.int .u8 55,.int .u8 48,.int .u8 27,.int .u8 60,.int .u8 41,.int .u8 37,.int .u8 16,.int .u8 46,.int .u8 35,.int .u8 44,.int .u8 21,.int .u8 52,.int .u8 32,.int .u8 23,.int .u8 11,.int .u8 54,.int .u8 26,.int .u8 40,.int .u8 15,.int .u8 34,.int .u8 20,.int .u8 31,.int .u8 10,.int .u8 25,.int .u8 14,.int .u8 19,.int .u8 9,.int .u8 13,.int .u8 8,.int .u8 7,.int .u8 6] (FK 1 #[.int .u8 0,.int .u8 1,.int .u8 28,.int .u8 2,.int .u8 29,.int .u8 14,.int .u8 24,.int .u8 3,.int .u8 30,.int .u8 22,.int .u8 20,.int .u8 15,.int .u8 25,.int .u8 17,.int .u8 4,.int .u8 8,.int .u8 31,.int .u8 27,.int .u8 13,.int .u8 23,.int .u8 21,.int .u8 19,.int .u8 16,.int .u8 7,.int .u8 26,.int .u8 12,.int .u8 18,.int .u8 6,.int .u8 11,.int .u8 5,.int .u8 10,.int .u8 9] (FK 0 (o6.map fun z=>Value.int .u64 z).toArray (World.holding prog os ⟨#[], #[],[]⟩).heap))}
end Go.Proofs.YtflegjieadkonaaGreatDoor
namespace Go.Proofs.YtflegjieadkonaaGreatDoor
open Go Go.Al Go.Proofs.Tryz
def eN.z:eN:=(0,⟨0,0⟩)
theorem d64(d e:eN):bL prog 97 [ag d.c,.ptr 0 0] [au e.c] (pB lc) [(0,io (au d.c))] 1:=by
 refine aw ab func97 D (by decide) ntmps97 D (by simp) ?_;refine gA D (zD [] D (zW (zO ac)))
def fy(p:Prog)(i:Nat):List ae:=(p.aZ.take i).map Decl.name
def fM(p:Prog)(i:Nat):Int:=oY (p.aZ.getD i co) i (bG .str (aq (fy p i)) (p.aZ.getD i co).name 0)
def oX(p:Prog):Nat->List eN
 |0=> []
 |i+1=>oX p i++(if fM p i=0 then[] else[(fM p i,(p.aZ.getD i co).at_)])
def sq(p:Prog)(i:Nat):eN:=ov p (p.rules.getD i co) ((i:Int)+1)
def pR(p:Prog):Nat->List eN
 |0=> []
 |i+1=>pR p i++(if(sq p i).1=0 then[] else[sq p i])
def ig(p:Prog):List eN:=oX p p.aZ.length++pR p p.rules.length
def dw(p:Prog):eN:=(ig p).headD eN.z
theorem yP(p:Prog)(i:Nat): ∀k,∃t,oX p (i+k)=oX p i++t
 |0=>⟨[],by simp⟩
 |k+1=>by
  obtain⟨t,h⟩:=yP p i k;exact⟨_,by rw[<-Sm,oX,h,QU]⟩
theorem yK(p:Prog)(i:Nat): ∀k,∃t,pR p (i+k)=pR p i++t
 |0=>⟨[],by simp⟩
 |k+1=>by
  obtain⟨t,h⟩:=yK p i k;exact⟨_,by rw[<-Sm,pR,h,QU]⟩
theorem D9{p:Prog}{i:Nat}(d:oX p i=[])(hi:i<p.aZ.length)(h: ¬fM p i=0):dw p=(fM p i,(p.aZ.getD i co).at_):=by
 obtain⟨t,b⟩:=yP p (i+1) (p.aZ.length-(i+1));have e:i+1+(p.aZ.length-(i+1))=p.aZ.length:=by omega
 rw[e,oX,d,be h]at b;rw[dw,ig,b];rfl
theorem D8{p:Prog}{i:Nat}(h0:oX p p.aZ.length=[])(d:pR p i=[])(hi:i<p.rules.length)(h: ¬(sq p i).1=0):dw p=sq p i:=by
 obtain⟨t,b⟩:=yK p (i+1) (p.rules.length-(i+1));have e:i+1+(p.rules.length-(i+1))=p.rules.length:=by omega
 rw[e,pR,d,be h]at b;rw[dw,ig,b,h0];rfl
theorem GJ{p:Prog}(h0:oX p p.aZ.length=[])(h1:pR p p.rules.length=[]):dw p=eN.z:=by
 rw[dw,ig,h0,h1];rfl
theorem xh{p:Prog}{i:Nat}(h:i<p.aZ.length):aq (fy p (i+1))=bump (aq (fy p i)) (p.aZ.getD i co).name:=by
 rw[fy,cC h,QO];exact bZ _ _
theorem AV(p:Prog)(i:Nat)(s:ae):0<=bG .str (aq (fy p i)) s 0∧bG .str (aq (fy p i)) s 0<=i:=by
 have h:=dE (fy p i) s;have b:(fy p i).length<=i:=by simp[fy];omega
 rw[bf];omega
def Prog.fit(p:Prog):Prop:=p.aZ.length<=1000000000∧p.rules.length<=1000000000∧ ∀r∈p.rules,r.fit
theorem PQ(p:Prog)(hb:p.fit):bL prog 96 [ag p.c,.cK (.func 97) [] [.ptr 0 0]] [au eN.z.c] (.bB []) [(0,io (au (dw p).c))] 1:=by
 obtain⟨A,B,y⟩:=hb;refine aw ab func96 D (by decide) ntmps96 D (by simp) ?_;refine gA D ?_;refine aD 0 p.aZ.length (QN _) (fun i=>⟨[(1,.cK (.func 97) [] [.ptr 0 0]),(2,.ptr 1 0),(4,.mp 2),(13,.iv (de 4 p.aZ Decl.c)),(14,pI p.aZ.length),(15,pI i)],[(0,io (au eN.z.c)),(1,io (au p.c)),(2,io (bI (aq (fy p i))))],3⟩) (fun i=>oX p i=[]) [] D
  (zW ⟨⟨_,rfl,.of_eq D⟩,Qs D,rfl,⟨_,rfl,.of_eq D⟩,Qs D,rfl,DV D fk D trivial⟩) fun i F u=>?_
 refine zJ D D (fun d=>?_) fun d=>?_
 .have d:i<p.aZ.length:=zN d;have J:=AV p i (p.aZ.getD i co).name;have I:=xh d;refine gA D (zp (Qh (p.aZ.getD i co) i (bG .str (aq (fy p i)) (p.aZ.getD i co).name 0)) ?_);refine zJ D D (fun g=>?_) fun g=>?_
  .have g: ¬fM p i=0:=by
    have g:(!li (fM p i=0))=kw:=g;simpa only[Rw,decide_eq_false_iff_not]using g
   rw[D9 u d g];refine gA D (zq [0] (d64 (fM p i,(p.aZ.getD i co).at_) eN.z) ?_);refine zE D D (fun q=>?_) fun q=>?_
   .exact absurd (show kw=lc from q) (by decide)
   refine gA D (zD [] D (zW (zO ac)))
  .have g:fM p i=0:=by
    have g:(!li (fM p i=0))=lc:=g;simpa only[Sx,decide_eq_true_eq]using g
   refine gA D ⟨d,by rw[oX,u,am g];rfl,[],zW (zO (zO (hM D (by rw[I];rfl) D trivial)))⟩
 have d:p.aZ.length<=i:=zG d;have j:i=p.aZ.length:=by omega
 subst j;refine gA D (zq [] (d50 p (by omega)) ?_);refine gA D ?_;refine sS 3 D ?_;refine aD 0 p.rules.length (QN _) (fun i=>⟨[(1,.cK (.func 97) [] [.ptr 0 0]),(2,.ptr 1 0),(8,.iv (cF p)),(47,.iv (de 5 p.rules ai.c)),(48,pI p.rules.length),(49,pI i)],[(0,io (au eN.z.c)),(1,io (au p.c))],4⟩) (fun i=>pR p i=[]) [] D
  (zW (zO (zO trivial))) fun i F x=>?_
 refine zJ D D (fun b=>?_) fun b=>?_
 .have b:i<p.rules.length:=zN b;have G:p.rules.getD i co∈p.rules:=by rw[Qx,Qy b];exact Rz b
  refine gA D (dr (c65 p (p.rules.getD i co) ((i:Int)+1) (y _ G)) D D D D D D ?_);refine zJ D D (fun g=>?_) fun g=>?_
  .have g: ¬(sq p i).1=0:=by
    have g:(!li ((sq p i).1=0))=kw:=g;simpa only[Rw,decide_eq_false_iff_not]using g
   rw[D8 u x b g];refine gA D (zq [0] (d64 (sq p i) eN.z) ?_);refine zE D D (fun q=>?_) fun q=>?_
   .exact absurd (show kw=lc from q) (by decide)
   refine gA D (zD [] D (zW (zO ac)))
  .have g:(sq p i).1=0:=by
    have g:(!li ((sq p i).1=0))=lc:=g;simpa only[Sx,decide_eq_true_eq]using g
   refine gA D ⟨b,by rw[pR,x,am g];rfl,[],zW (zO (zO trivial))⟩
 have b:p.rules.length<=i:=zG b;have j:i=p.rules.length:=by omega
 subst j;rw[GJ u x];refine gA D (zD [] D (zW (zO ac)))
theorem c24(p:Prog)(hb:p.fit):Pure prog 56 [ag p.c] (ag (dw p).c):=by
 refine ar ab func56 D (by decide) ntmps56 D (by simp) D ?_;refine gA D (zq [2] (PQ p hb) ?_);exact zU D
end Go.Proofs.YtflegjieadkonaaGreatDoor
namespace Go.Proofs.YtflegjieadkonaaGreatDoor
open Go Go.Al Go.Proofs.Tryz Go.ChangeShapes Go.WideShapes Go.RowKit
section
theorem yt{α:Type}(f:α->Nat): ∀l:List α,(l.map fun x=>f x+1).sum=(l.map f).sum+l.length
 | []=>rfl
 |x::r=>by simp only[Q4,Sz,Rf,yt f r];omega
section
variable {H:Type} {enc:TypeId×Value->H} {W:World} {hT:nM W} {sp:Nat->Bool} {held:Bool}
def QD(x:Decl)(d:DataW H):Prop:=x.types.length+1<=bk d
def QR1(r:ai)(d:DataW H):Prop:=r.size+1<=bk d∧r.head.ts<=400*bk d∧ ∀l∈r.body,l.ts<=400*bk d
def Qq(p:Prog)(d:DataW H):Prop:=p.size<=bk d∧p.aZ.length<=bk d∧p.rules.length<=bk d∧ ∀r∈p.rules,r.size<=bk d∧r.head.ts<=400*bk d∧ ∀l∈r.body,l.ts<=400*bk d
theorem E8(n:Nat):Rd enc prog W hT sp held 76 ai.c QR1 n:=by
 intro m _ cs y h;obtain⟨xs,k,rfl,rfl,j,Y,d⟩:=DataW.trod_struct underlying76 h
 match xs,Y with
 | [x0,x1,x2],_=>
  obtain⟨a,A,Z⟩:=B5 (hT:=hT) k k (QH _) _ _ (nY d 0 D D D xW D);obtain⟨b,B,x⟩:=IS (hT:=hT) k k (QH _) _ _ (nY d 1 D D D CQ D);obtain⟨c,F,qc⟩:=AY (hT:=hT) k k (QH _) _ _ (nY d 2 D D D sX D);refine⟨⟨a,b,c⟩,A.fw (o':=2) D (B.fw (o':=3) D (F.fw (o':=5) D (.end_ (j.trans CP)))),?_⟩;have u:=x.sum (f:=Lit.size) (c:=1) fun _ _ h=>by have:=h.2;omega
  rw[<-Lit.fx]at u;obtain⟨G,I⟩:=Z;simp only[bk]at u G I;refine⟨?_,?_,fun l j=>?_⟩
  .simp only[ai.size,bk,Q4,RL,Rows.uptoBulk,Rows.uptoBulkAll];omega
  .simp only[bk,Q4,RL,Rows.uptoBulk,Rows.uptoBulkAll];omega
  .obtain⟨e,⟨J,_⟩,S⟩:=x.all l j;simp only[bk]at J S;simp only[bk,Q4,RL,Rows.uptoBulk,Rows.uptoBulkAll];omega
theorem IT(n:Nat):Rd enc prog W hT sp held 3 cR (fun _ _=>True) n:=by
 intro m d b y h;obtain⟨z,j,_⟩:=jA (hT:=hT) underlying3 n m d b y h;exact⟨z,j,ac⟩
theorem IU(n:Nat):Rd enc prog W hT sp held 49 Decl.c QD n:=by
 intro m _ J y h;obtain⟨I,k,rfl,rfl,B,F,d⟩:=DataW.trod_struct underlying49 h
 match I,F with
 | [x0,x1,x2],_=>
  obtain⟨a,j,S,_⟩:=jm (hT:=hT) underlying9 k k (QH _) _ _ (nY d 0 D D D rz D);obtain⟨b,u,G⟩:=(jz (hT:=hT) underlying47 jV (by decide) (fun _=>rfl) (IT k)).mono (Tr k) k (QH _) _ _ (nY d 1 D D D JF D);obtain⟨c,x,Y⟩:=AY (hT:=hT) k k (QH _) _ _ (nY d 2 D D D sX D);refine⟨⟨a,b,c⟩,j.fw (o':=1) D (u.fw (o':=2) D (x.fw (o':=4) D (.end_ (B.trans CS)))),?_⟩;have A:=G.len;simp only[bk]at A;simp only[QD,bk,Q4,RL,Rows.uptoBulk,Rows.uptoBulkAll];omega
theorem IQ(n:Nat):Rd enc prog W hT sp held 25 Prog.c Qq n:=by
 intro m _ cs y h;obtain⟨xs,k,rfl,rfl,j,hx,B⟩:=DataW.trod_struct underlying25 h
 match xs,hx with
 | [x0,x1],_=>
  obtain⟨a,G,qa⟩:=(jz (hT:=hT) underlying22 CS (by decide) (fun _=>rfl) (IU k)).mono (Tr k) k (QH _) _ _ (nY B 0 D D D JI D);obtain⟨b,I,F⟩:=(jz (hT:=hT) underlying23 CP (by decide) (fun _=>rfl) (E8 k)).mono (Tr k) k (QH _) _ _ (nY B 1 D D D JH D);refine⟨⟨a,b⟩,G.fw (o':=1) D (I.fw (o':=2) D (.end_ (j.trans JG))),?_⟩;have u:=qa.sum (f:=fun d=>d.types.length+1) (c:=1) fun _ _ h=>by
   simp only[QD]at h;omega
  have x:=F.sum (f:=fun r=>r.size+1) (c:=1) fun _ _ h=>by have:=h.1;omega
  rw[yt]at u x;simp only[bk]at u x;refine⟨?_,?_,?_,fun r Z=>?_⟩
  .simp only[Prog.size,bk,Q4,RL,Rows.uptoBulk,Rows.uptoBulkAll];omega
  .simp only[bk,Q4,RL,Rows.uptoBulk,Rows.uptoBulkAll];omega
  .simp only[bk,Q4,RL,Rows.uptoBulk,Rows.uptoBulkAll];omega
  .obtain⟨e,⟨J,S,A⟩,Y⟩:=F.all r Z;simp only[bk]at J S A Y;refine⟨?_,?_,fun l j=>?_⟩
   .simp only[bk,Q4,RL,Rows.uptoBulk,Rows.uptoBulkAll];omega
   .simp only[bk,Q4,RL,Rows.uptoBulk,Rows.uptoBulkAll];omega
   .have:=A l j;simp only[bk,Q4,RL,Rows.uptoBulk,Rows.uptoBulkAll];omega
end
theorem MW{H:Type}{p:Prog}{d:DataW H}(h:Qq p d)(hb:bk d<=1048576):p.fit:=by
 obtain⟨y,A,B,b⟩:=h;refine⟨by omega,by omega,fun r x=>?_⟩;obtain⟨F,G,j⟩:=b r x;exact⟨by omega,by omega,fun l u=>by have:=j l u;omega⟩
theorem G2{H:Type}{enc:TypeId×Value->H}{W:World}(hT:nM W){v:Value}{d:DataW H}{p:List MemPlace}(b: ∃base,Value.okWide prog W .any base 25 v)(h:DataW.Trod enc prog W 0 (fun _=>kw) kw 25 v d p):
  ∃x:Prog,Qq x d∧VR (Mem.oh W hT) Ox (· <0) (ag x.c) v:=by
 obtain⟨base,b⟩:=b;obtain⟨A,rfl,_⟩:=okWide_struct underlying25 b;obtain⟨n,y⟩:=h;obtain⟨r,j,u⟩:=IQ (hT:=hT) n n (QH _) _ _ y;exact⟨r,u,j.agg⟩
end
end Go.Proofs.YtflegjieadkonaaGreatDoor
namespace Go.Proofs.YtflegjieadkonaaGreatDoor
open Go Go.Al
section
structure cQ where
 kind:Int
 lit:Int
 jU:List Int
 var:ae
 deriving Inhabited,DecidableEq
structure kP where
 iY:Int
 first:Int
 given:List ae
 steps:List cQ
 deriving Inhabited,DecidableEq
def cQ.c(s:cQ):List IV:=[iI s.kind,iI s.lit,de 1 s.jU cR,iS s.var]
def kP.c(p:kP):List IV:=[iI p.iY,iI p.first,strs p.given,de 4 p.steps cQ.c]
def cQ.z:cQ:=⟨0,0,[],Qz⟩
def kP.z:kP:=⟨0,0,[],[]⟩
section
variable (K:ae->Bool)
def Hj(t:Term):Bool:=li (t.kind=2)||(li (t.kind=1)&&K t.var)
def gW(a:Atom):List Int:=((Rh a.ad.length).filter fun i=>Hj K (a.ad.getD i co)).map fun(i:Nat)=>(i:Int)
def pO(e o:Expr):Bool:=li (e.kind=1)&&!K e.var&&(bx o).all K
def xT(l:Lit)(i:Int):Option cQ:=
 if((bx l.left).all K&&(bx l.right).all K)=kw then io ⟨2,i,[],Qz⟩
 else if l.op≠1 then jp
 else if pO K l.left l.right=kw then io ⟨3,i,[],l.left.var⟩
 else if pO K l.right l.left=kw then io ⟨3,i,[],l.right.var⟩
 else jp
def yd(r:ai)(l:Lit)(i:Int):Option cQ:=
 if((nV l.agg).all fun v=>!aJ (outer r) v||K v)=kw then(if K l.ba=kw then io ⟨2,i,[],Qz⟩ else io ⟨3,i,[],l.ba⟩) else jp
def mc(r:ai)(l:Lit)(i:Int):Option cQ:=
 if l.kind=1 then io ⟨1,i,gW K l.atom,Qz⟩
 else if l.kind=2 then(if(aU l.atom).all K=kw then io ⟨2,i,[],Qz⟩ else jp)
 else if l.kind=3 then xT K l i
 else if l.kind=4 then yd K r l i
 else jp
def gG(r:ai)(i:Nat):Option cQ:=mc K r (r.body.getD i co) i
end
def DD(o:Option cQ):cQ×Bool:=match o with
 |some s=>(s,kw)
 |none=>(cQ.z,lc)
def pC(r:ai)(s:cQ):List ae:=if s.kind=1 then aU (r.body.getD s.lit.toNat co).atom else if s.kind=3 then[s.var] else[]
section
variable (K:ae->Bool) (r:ai) (dn:Nat->Bool)
def im(i:Nat):Option cQ:=if !dn i&&li ((r.body.getD i co).kind≠1) then gG K r i else jp
def qt(b:Int×Int)(i:Nat):Int×Int:=if(!dn i&&li ((r.body.getD i co).kind=1))=kw∧((gW K (r.body.getD i co).atom).length:Int)>b.2 then((i:Int),((gW K (r.body.getD i co).atom).length:Int)) else b
def mv:Int×Int:=(Rh r.body.length).foldl (qt K r dn) (-1, -1)
def fe(fstv:Int):Option cQ:=match(Rh r.body.length).findSome? (im K r dn) with
 |some s=>io s
 |none=>if 0<=fstv∧dn fstv.toNat=lc then gG K r fstv.toNat
  else if(mv K r dn).1<0 then jp else gG K r (mv K r dn).1.toNat
end
def cV(r:ai)(fstv:Int):Nat->(Nat->Bool)->(ae->Bool)->List cQ
 |0,_,_=> []
 |n+1,dn,K=>match fe K r dn fstv with
  |none=> []
  |some s=>s::cV r fstv n (fun j=>dn j||decide ((j:Int)=s.lit)) (fun x=>K x||aJ (pC r s) x)
theorem mb{K:ae->Bool}{r:ai}{l:Lit}{i:Int}{s:cQ}(h:mc K r l i=io s):s.lit=i:=by
 unfold mc xT yd at h
 repeat' split at h
 all_goals first
  |(cases h;rfl)
  |cases h
theorem xZ(K:ae->Bool)(r:ai)(dn:Nat->Bool): ∀(l:List Nat) (b:Int×Int),(l.foldl (qt K r dn) b).1=b.1∨ ∃i∈l,(l.foldl (qt K r dn) b).1=(i:Int)∧dn i=lc∧(r.body.getD i co).kind=1
 | [],_=> .inl D
 |i::l,b=>by
  rw[Rc];rcases xZ K r dn l (qt K r dn b i) with h|⟨j,u,h⟩
  .rw[h];unfold qt;split
   .rename_i d;refine .inr ⟨i,Q3,rfl,?_⟩;simpa using d.1
   .exact .inl D
  .exact .inr ⟨j,QR _ u,h⟩
theorem Fu{K:ae->Bool}{r:ai}{dn:Nat->Bool}{fstv:Int}{s:cQ}(hf:fstv<r.body.length)(h:fe K r dn fstv=io s): ∃i:Nat,s.lit=i∧i<r.body.length∧dn i=lc:=by
 unfold fe at h;cases hg:(Rh r.body.length).findSome? (im K r dn) with
 |some s'=>
  rw[hg]at h;cases h;obtain⟨i,u,j⟩:=SU hg;unfold im at j;split at j
  .rename_i d;exact⟨i,mb j,R3.1 u,by simp at d;exact d.1⟩
  .cases j
 |none=>
  rw[hg]at h;dsimp only at h;split at h
  .rename_i d;exact⟨fstv.toNat,mb h,by omega,d.2⟩
  .split at h
   .cases h
   .rename_i hb;rcases xZ K r dn (Rh r.body.length) (-1, -1) with b|⟨i,u,b,x,_⟩
    .exact absurd (show(mv K r dn).1<0 by unfold mv;rw[b];decide) hb
    .refine⟨(mv K r dn).1.toNat,mb h,?_,?_⟩
     .have:(mv K r dn).1=i:=b;have:=R3.1 u;omega
     .have:(mv K r dn).1=i:=b;rw[this];exact x
end
end Go.Proofs.YtflegjieadkonaaGreatDoor
namespace Go.Proofs.YtflegjieadkonaaGreatDoor
open Go Go.Al Go.Proofs.Tryz
mutual
def aY:Expr->List ae
 | .mk k v _ _ args=>(if k=1 then[v] else[])++jS args
def jS:List Expr->List ae
 | []=> []
 |e::r=>aY e++jS r
end
theorem nv: ∀l:List Expr,jS l=l.flatMap aY
 | []=>rfl
 |e::r=>by simp only[jS,Rl,nv r]
theorem pr(e:Expr):aY e=(if e.kind=1 then[e.var] else[])++e.args.flatMap aY:=by
 cases e with
 |mk k v val op args=>simp only[aY,Expr.kind,Expr.var,Expr.args,nv];rfl
mutual
theorem fj: ∀e:Expr,(aY e).length<=e.size
 | .mk k v _ _ args=>by
  have:=lY args;simp only[aY,Expr.size,Qv];split
  .simp;omega
  .simp;omega
theorem lY: ∀l:List Expr,(jS l).length<=Expr.az l
 | []=>by simp[jS]
 |e::r=>by
  have b:=fj e;have d:=lY r;simp only[jS,Expr.az,Qv];omega
end
theorem oU: ∀(n:Nat) (e:Expr) (occ:List ae),e.size<=n->occ.length+e.size<=1000000000000000->bL prog 107 [ag e.c,.mp 0] [bI (aq occ)] (.bB []) [(0,io (bI (aq (occ++aY e))))] 1
 |0,e,_,h,_=>by have:=e.size_pos;omega
 |n+1,e,occ,h,hb=>by
  refine bL.le (args:=[ag e.c1,.mp 0]) ?_ ⟨e.Bb,.refl _,ac⟩;have j:=pr e;have I:=e.size_eq;have G:=bf occ e.var;have F:=dE occ e.var;have B:=Expr.aA e.args;have rest: ∀a0:List ae,a0.length<=1->aY e=a0++e.args.flatMap aY-> ∀i,i<e.args.length->(occ++a0++(e.args.take i).flatMap aY).length+(e.args.getD i co).size<=1000000000000000:=fun a0 S _ i x=>by
   have A:=Expr.b4 e.args i x;have J:=lY (e.args.take i);rw[nv]at J;rw[Qv,Qv];omega
  refine aw ab func107 D (by decide) ntmps107 D (by simp) ?_;refine zJ D D (fun d=>?_) fun d=>?_
  .have d:e.kind=1:=zT d;rw[am d]at j;refine gA D ?_;refine aD 0 e.args.length (QN _) (fun i=>⟨[(1,.mp 0),(2,.ptr 1 0),(15,.iv (de 7 e.args Expr.c)),(16,pI e.args.length),(17,pI i)],[(0,io (bI (aq (occ++ [e.var]++(e.args.take i).flatMap aY))))],2⟩) (fun _=>True) [] ac
    (zW (hM D (by rw[List.take_zero,TI,Ro,bZ];rfl) D trivial)) fun i x _=>?_
   refine zJ D D (fun b=>?_) fun b=>?_
   .have b:=bv b;have y:=bn (f:=aY) b;have A:=Expr.b4 e.args i b;refine gA D (bc [0] (oU n (e.args.getD i co) _ (by omega) (rest [e.var] (by simp) j i b)) D D D D D D D D ?_);refine gA D ⟨b,ac,[],zW (hM D (by rw[y,QU]) D ac)⟩
   .have b:=ci b;have u:e.args.take i=e.args:=QM b;refine gA D (zD [] D (zW (hM D (by rw[j,u,QU]) D ac)))
  .have d: ¬e.kind=1:=zF d;rw[be d]at j;refine gA D ?_;refine aD 0 e.args.length (QN _) (fun i=>⟨[(1,.mp 0),(2,.ptr 1 0),(15,.iv (de 7 e.args Expr.c)),(16,pI e.args.length),(17,pI i)],[(0,io (bI (aq (occ++ []++(e.args.take i).flatMap aY))))],2⟩) (fun _=>True) [] ac
    (zW (hM D (by simp) D trivial)) fun i x _=>?_
   refine zJ D D (fun b=>?_) fun b=>?_
   .have b:=bv b;have y:=bn (f:=aY) b;have A:=Expr.b4 e.args i b;refine gA D (bc [0] (oU n (e.args.getD i co) _ (by omega) (rest [] (by simp) j i b)) D D D D D D D D ?_);refine gA D ⟨b,ac,[],zW (hM D (by rw[y,QU]) D ac)⟩
   .have b:=ci b;have u:e.args.take i=e.args:=QM b;refine gA D (zD [] D (zW (hM D (by rw[j,u,QU]) D ac)))
def cN(l:Lit):List ae:=bA l.atom++(aY l.left++aY l.right)
theorem pe(l:Lit):(cN l).length<=l.size:=by
 have b:=fu l.atom;have d:=fj l.left;have j:=fj l.right;have u:=l.size_eq;unfold cN;rw[Qv,Qv];omega
theorem E0(l:Lit)(occ:List ae)(hb:occ.length+l.size<=1000000000000000):bL prog 108 [ag l.c,.mp 0] [bI (aq occ)] (.bB []) [(0,io (bI (aq (occ++cN l))))] 1:=by
 have G:=l.size_eq;have y:=fu l.atom;have B:=fj l.left;refine aw ab func108 D (by decide) ntmps108 D (by simp) ?_;refine gA D ?_;refine aD 0 l.atom.ad.length (QN _) (fun i=>⟨[(1,.mp 0),(2,.ptr 1 0),(8,.iv (de 5 l.atom.ad Term.c)),(9,pI l.atom.ad.length),(10,pI i)],[(0,io (bI (aq (occ++(l.atom.ad.take i).flatMap fun t=>if t.kind=1 then[t.var] else[])))),(1,io (au l.c))],2⟩) (fun _=>True) [] ac
  (zW (hM D (by simp) D (zK trivial))) fun i I _=>?_
 have A:=pK (l.atom.ad.take i);simp only[RW]at A;refine zJ D D (fun b=>?_) fun b=>?_
 .have b:=bv b;have j:=bn (f:=fun t:Term=>if t.kind=1 then[t.var] else[]) b;have F:=bf (occ++(l.atom.ad.take i).flatMap fun t=>if t.kind=1 then[t.var] else[]) (l.atom.ad.getD i co).var;have u:=dE (occ++(l.atom.ad.take i).flatMap fun t=>if t.kind=1 then[t.var] else[]) (l.atom.ad.getD i co).var;rw[Qv]at u;refine zJ D D (fun d=>?_) fun d=>?_
  .have d:(l.atom.ad.getD i co).kind=1:=zT d;rw[am d]at j;refine gA D ⟨b,ac,[],zW (hM D (by rw[j,<-QU,bZ];rfl) D (zK ac))⟩
  .have d: ¬(l.atom.ad.getD i co).kind=1:=zF d;rw[be d,Ro]at j;refine gA D ⟨b,ac,[],zW (hM D (by rw[j]) D (zK ac))⟩
 have b:=ci b;have x:l.atom.ad.take i=l.atom.ad:=QM b;rw[x];refine gA D (bc [0] (oU _ l.left (occ++bA l.atom) (QH _) (by rw[Qv];omega)) D D D D D D D D ?_);refine gA D (bc [0] (oU _ l.right (occ++bA l.atom++aY l.left) (QH _) (by rw[Qv,Qv];omega)) D D D D D D D D ?_);refine gA D (zD [] D (zW (hM D (by unfold cN;rw[QU,QU]) D ac)))
abbrev WD:=List ((KC.int .i64).K×Int)
abbrev sW(m:WD):AO:= .map (.int .i64) wo 0 (.int .i64 0) Pn m
abbrev wO(r:ai)(br:IV):AO:= .cells [.iv (iS r.head.rel),.iv (de 5 r.head.ad Term.c),.iv (lits r.body),.iv (iI r.at_.line),.iv (iI r.at_.yg),.mp 1,.iv br,.mp 2]
abbrev Hg(r:ai)(br:IV)(ks:List ae)(dm:WD):List AO:=[wO r br,bI (aq ks),sW dm]
abbrev wH(r:ai)(br:IV)(ks:List ae)(dm:WD):AH:=[(0,io (wO r br)),(1,io (bI (aq ks))),(2,io (sW dm))]
theorem iG{occ:List ae}{s:ae}:li (bG .str (aq occ) s 0=0)=!aJ occ s:=by
 rw[bO,Bool.not_not]
theorem qq{occ:List ae}{s:ae}:li (bG .str (aq occ) s 0>0)=aJ occ s:=by
 have h:=bf occ s;rw[bO,<-decide_not,decide_eq_decide];omega
theorem hW{n:Nat}{σ:Nat->Nat}{h:AH}{r:ai}{br:IV}{m:NM}{d:List ae}{dm b:WD}{rest:AH}(h0:h.get (σ 0)=io (.cells [.iv (iS r.head.rel),.iv (de 5 r.head.ad Term.c),.iv (lits r.body),.iv (iI r.at_.line),.iv (iI r.at_.yg),.mp (σ 1),.iv br,.mp (σ 2)]))
  (h1:h.get (σ 1)=io (bI m)) (x:h.get (σ 2)=io (sW dm)) (j:m=aq d) (u:dm=b) (y:(wO r br).low n) (hb:QZ 2 n=kw) (hr:mg n σ h rest):mg n σ h ((0,io (wO r br))::(1,io (bI (aq d)))::(2,io (sW b))::rest):=by
 subst j u;have A:2<n:=Qs hb;exact⟨⟨_,h0,.of_eq D⟩,by omega,y,⟨_,h1,.of_eq D⟩,by omega,ac,⟨_,x,.of_eq D⟩,A,ac,hr⟩
theorem zH{n:Nat}{σ:Nat->Nat}{h:AH}{r:ai}{br:IV}{m:NM}{d:List ae}{dm b:WD}{rest:AH}(hr:mg n σ h rest)(h0:h.get (σ 0)=io (.cells [.iv (iS r.head.rel),.iv (de 5 r.head.ad Term.c),.iv (lits r.body),.iv (iI r.at_.line),.iv (iI r.at_.yg),.mp (σ 1),.iv br,.mp (σ 2)]):=by exact rfl)
  (h1:h.get (σ 1)=io (bI m):=by exact rfl) (x:h.get (σ 2)=io (sW dm):=by exact rfl) (j:m=aq d:=by exact rfl) (u:dm=b:=by exact rfl) (y:(wO r br).low n:=by exact rfl) (hb:QZ 2 n=kw:=by exact rfl):mg n σ h ((0,io (wO r br))::(1,io (bI (aq d)))::(2,io (sW b))::rest):=hW h0 h1 x j u y hb hr
theorem AJ(r:ai)(br:IV)(ks d:List ae)(dm:WD)(hb:d.length<=1000000000000000):bL prog 179 [.ptr 0 0,.iv (yf (aq d))] (Hg r br ks dm) (pB (d.all (aJ ks))) (wH r br ks dm) 3:=by
 refine aw ab func179 D (by decide) ntmps179 D (by simp) ?_;refine gA D ?_;refine fZ (aq d) (fun A=>⟨[(0,.ptr 0 0),(7,.ptr 3 0)],[(0,io (wO r br)),(1,io (bI (aq ks))),(2,io (sW dm)),(3,io (.bQ .str wo (aq d) A jp))],4⟩) (fun A=> ∀j∈A,∀x,(aq d)[j]? =io x->aJ ks x.1=kw) [] (by simp)
  (zW (zH (hI D D (.inl D) D trivial))) fun A I=>?_
 refine mu D ac (ei D D D D D (by decide) (fun u=>?_) fun j x F J=>?_)
 .have B:d.all (aJ ks)=kw:=Q7.2 fun t B=>all_keys (p:=fun t=>aJ ks t=kw) u I t B
  rw[B];refine gA D (zD [] D (zW (zH ac)))
 .refine zJ D D (fun b=>?_) fun b=>?_
  .have b:aJ ks x.1=lc:=by
    have b:li (bG .str (aq ks) x.1 0=0)=kw:=b;rw[iG]at b;simpa using b
   rw[show d.all (aJ ks)=lc from S9.2 ⟨x.1,qh F,by rw[b];exact Ri⟩];refine gA D (zD [] D (zW (zH ac)))
  .have b:aJ ks x.1=kw:=by
    have b:li (bG .str (aq ks) x.1 0=0)=lc:=b;rw[iG]at b;simpa using b
   refine gA D ?_
   exact⟨j,x,F,J,fun i hi y G=>by
    rcases QY.1 hi with rfl|hi
    .rw[F]at G;cases G;exact b
    .exact I i hi y G,[],zW (zH (hI D D (.inr D) D ac))⟩
end Go.Proofs.YtflegjieadkonaaGreatDoor
namespace Go.Proofs.YtflegjieadkonaaGreatDoor
open Go Go.Al
section
section
variable {r t:ai} (hh:t.head=r.head) (hb: ∀x,x∈t.body↔x∈r.body)
include hh hb
end
section
variable {r t:ai} (hh:t.head=r.head) (hb: ∀x,x∈t.body↔x∈r.body)
include hh hb
end
theorem vX{l:Lit}(h:l.kind=3):(∀x∈aP l.left,x∈cM l)∧(∀x∈aP l.right,x∈cM l):=by
 unfold cM bb;rw[be (by omega),am h];exact⟨fun x b=>Q8 _ (Q8 _ b),fun x b=>Q8 _ (RA _ b)⟩
theorem kz{e:Expr}(h:e.kind=1):e.var∈aP e:=by rw[lZ,am h];simp
structure Qn (r t u:ai) (i k:Int):Prop where
 PB: ∀x∈dX (aq (bq r)),x∈dX (aq (ax r))
 Oq: ∀x∈dX (aq (ox r)),x∈dX (aq (bq r))
 outer:dX (aq (ax t))=dX (aq (ax r))
 lim:dX (aq (bq t))=dX (aq (bq r))
 plain:dX (aq (ox t))=dX (aq (ox r))
 loc:xx t i=xx r k
 xx: ∀x∈xx r k,x∉dX (aq (ax r))
 more: ∀x∈dX (aq (bq r)),x∈dX (aq (bq u))
 hasX:ME [88]∈dX (aq (bq u))
end
end Go.Proofs.YtflegjieadkonaaGreatDoor
namespace Go.Proofs.YtflegjieadkonaaGreatDoor
open Go Go.Al Go.Proofs.Tryz
def Cv(p:Prog)(a:Atom)(i:Nat):Int:=(l3 p a.rel).types.getD i co
def FY(p:Prog)(a:Atom)(i:Nat)(m:NM):Option NM:=
 if(a.ad.getD i co).kind=2 then(if(a.ad.getD i co).val.kind=Cv p a i then io m else jp)
 else if(a.ad.getD i co).kind=1 then(if eH .str m (a.ad.getD i co).var=kw∧ ¬bG .str m (a.ad.getD i co).var 0=Cv p a i then jp else io (cj .str m (a.ad.getD i co).var (Cv p a i)))
 else io m
def Lj(p:Prog)(a:Atom):Nat->Option NM
 |0=>io []
 |i+1=>(Lj p a i).bind (FY p a i)
theorem IJ{n sz:Nat}{es:List (List PV)}(h:es.all (bp n)=kw):(AO.row sz es).low n:=fun _ e b=>Q7.1 h e (Rk b)
def u3:List IV->List IV->Prop
 | [],[]=>True
 |p::r,q::s=>lE p q∧u3 r s
 |_,_=>False
theorem u3.length: ∀{a b:List IV},u3 a b->a.length=b.length
 | [],[],_=>rfl
 |_::_,_::_,h=>congrArg (· +1) (u3.length h.2)
 | [],_::_,h=>h.elim
 |_::_,[],h=>h.elim
theorem u3.get: ∀{a b:List IV},u3 a b-> ∀(j:Nat) (q:IV),b[j]? =io q-> ∃p,a[j]? =io p∧lE p q
 | [],[],_,j,q,h=>by simp at h
 |p::r,q0::s,hh,j,q,h=>by
  cases j with
  |zero=>simp at h;subst h;exact⟨p,rfl,hh.1⟩
  |succ j=>simpa using u3.get hh.2 j q (by simpa using h)
 | [],_::_,hh,_,_,_=>hh.elim
 |_::_,[],hh,_,_,_=>hh.elim
def uD(i sz n:Nat):PV->Bool
 | .iv _=>kw
 | .sl j off len s=>bif Q6 j i then Q6 s sz&&SE (off+len) n else kw
 |_=>lc
theorem Eb{i sz n:Nat}{p:PV}(h:uD i sz n p=kw):p.cU i sz n:=by
 cases p with
 |iv=>trivial
 |sl j off len s=>
  simp only[uD]at h;show if j=i then s=sz∧off+len<=n else True;split
  .rename_i e;subst e;simp only[Nat.beq_refl,cond_true,Q5]at h;exact⟨QS h.1,Qs h.2⟩
  .trivial
 |_=>cases h
theorem tD{i sz n:Nat}: ∀{l:List PV},l.all (uD i sz n)=kw->gB i sz n l
 | [],_=>trivial
 |p::r,h=>by
  rw[List.all_cons,Q5]at h;exact⟨Eb h.1,tD h.2⟩
def tN(i sz n:Nat):AH->Bool
 | []=>kw
 |(_,jp)::r=>tN i sz n r
 |(_,io (.cells cs _))::r=>cs.all (uD i sz n)&&tN i sz n r
 |(_,io (.row _ es))::r=>(es.all fun e=>e.all (uD i sz n))&&tN i sz n r
 |_::_=>lc
theorem kh{i sz n:Nat}: ∀{h:AH},tN i sz n h=kw->h.y7 i sz n
 | [],_=>trivial
 |(_,jp)::r,h=>kh (h:=r) h
 |(_,io (.cells cs _))::r,h=>by
  simp only[tN,Q5]at h;exact⟨tD h.1,kh h.2⟩
 |(_,io (.row _ es))::r,h=>by
  simp only[tN,Q5]at h;exact⟨fun e b=>tD (Q7.1 h.1 e b),kh h.2⟩
 |(_,io (.bu _ _))::r,h=>by simp[tN]at h
 |(_,io .fg)::r,h=>by simp[tN]at h
 |(_,io (.map ..))::r,h=>by simp[tN]at h
 |(_,io (.bQ ..))::r,h=>by simp[tN]at h
 |(_,io (.dJ ..))::r,h=>by simp[tN]at h
theorem F7{P:Program}{nt:Nat}{Q:AQ}{k:List KI}{s:AS}{all rest:List Oper}(i:Nat){kc:KC}{V:Type}{e:V->IV}{z:V}{b:Value}{y:PV->V}{m:List (kc.K×V)}(hi:s.h.get i=io (.map kc e z b y m))
  (h:GO P nt (.ops all rest::k) Q ⟨s.f.ej i (.du kc e z b m),(i,jp)::s.h.ej i (.du kc e z b m),s.nx⟩):GO P nt (.ops all rest::k) Q s:=by
 intro M N a w j;obtain⟨x,A,B,G,F⟩:=ni j.1 hi
 have u:Fits x N ⟨s.f.ej i (.du kc e z b m),(i,jp)::s.h.ej i (.du kc e z b m),s.nx⟩ nt a w:=⟨B,fun d=>by
  rw[AF.iE];exact F _ _ (j.2.1 d),j.2.2⟩
 exact eO (fun e a2 I ⟨M2,N2,s2,hx2,hf2,hr2⟩=>⟨M2,N2,s2,A.trans hx2,hf2,hr2⟩) _ _ _ (h x N a w u)
theorem B4(p:Prog): ∀i,∀d∈oX p i,¬d.1=0
 |0,d,h=>by cases h
 |i+1,d,h=>by
  rw[oX]at h;rcases QK.1 h with h|h
  .exact B4 p i d h
  .split at h
   .cases h
   .rename_i g;rw[QJ]at h;subst h;exact g
theorem B1(p:Prog): ∀i,∀d∈pR p i,¬d.1=0
 |0,d,h=>by cases h
 |i+1,d,h=>by
  rw[pR]at h;rcases QK.1 h with h|h
  .exact B1 p i d h
  .split at h
   .cases h
   .rename_i g;rw[QJ]at h;subst h;exact g
theorem D1(p:Prog): ∀d∈ig p,¬d.1=0:=fun d h=>by
 rcases QK.1 h with h|h
 .exact B4 p _ d h
 .exact B1 p _ d h
theorem px(p:Prog):(dw p).1=0↔ig p=[]:=by
 unfold dw;cases h:ig p with
 |nil=>exact⟨fun _=>rfl,fun _=>rfl⟩
 |cons d l=>exact⟨fun e=>absurd e (D1 p d (by rw[h];exact Q3)),fun e=>nomatch e⟩
theorem pQ(p:Prog): ∀n,pR p n=[]↔ ∀i,i<n->(sq p i).1=0
 |0=>⟨fun _ i h=>absurd h (R1 i),fun _=>rfl⟩
 |n+1=>by
  rw[pR,SH,pQ p n];constructor
  .rintro⟨h1,h2⟩ i b;rcases RK.1 b with h|h
   .exact h1 i h
   .subst h;by_cases g:(sq p i).1=0
    .exact g
    .rw[be g]at h2;cases h2
  .intro h;exact⟨fun i b=>h i (by omega),am (h n (by omega))⟩
theorem dS{α:Type}[Inhabited α]{l:List α}{i:Nat}(hi:i<l.length):l.getD i co∈l:=by rw[Qx,Qy hi];exact Rz hi
def nD(K:ae->Bool)(a:Atom)(i:Nat):List Int:=((Rh i).filter fun i=>Hj K (a.ad.getD i co)).map fun(i:Nat)=>(i:Int)
theorem GG{K:ae->Bool}{a:Atom}{i:Nat}(h:Hj K (a.ad.getD i co)=kw):nD K a (i+1)=nD K a i++ [(i:Int)]:=by
 unfold nD;rw[SP,Tg,QO,Sl,h];rfl
theorem JC{K:ae->Bool}{a:Atom}{i:Nat}(h:Hj K (a.ad.getD i co)=lc):nD K a (i+1)=nD K a i:=by
 unfold nD;rw[SP,Tg,QO,Sl,h];simp
theorem GH(K:ae->Bool)(a:Atom)(i:Nat):(nD K a i).length<=i:=by
 unfold nD;rw[Rv];exact Rr (RP _ _) (by rw[List.length_range];exact QH _)
theorem Nq:aC (.bB [.agg [pI 0,pI 0,.iv (.v (.slice jp 0 0)),pS Qz],pB lc]) (.bB [ag cQ.z.c,pB lc]):= .bB ⟨.agg ⟨.refl _,.refl _,.nil _ _,.refl _,ac⟩,.refl _,ac⟩
theorem sE(a b:Int)(v:ae)(t:Bool):aC (.bB [.agg [pI a,pI b,.iv (.v (.slice jp 0 0)),pS v],pB t]) (.bB [ag (cQ.mk a b [] v).c,pB t]):= .bB ⟨.agg ⟨.refl _,.refl _,.nil _ _,.refl _,ac⟩,.refl _,ac⟩
abbrev Bu(o:Option cQ):PV:= .bB [ag (DD o).1.c,pB (DD o).2]
abbrev MI:List IV:=[iI 0,iI 0,.v (.slice jp 0 0),iS Qz]
def qJ(K:ae->Bool)(l:Lit)(i:Int):Option cQ:=if(cN l).all K=kw then io ⟨2,i,[],Qz⟩ else jp
theorem EW(r:ai)(br:IV)(ks:List ae)(dm:WD)(i:Nat)(hi:i<r.body.length)(hb:r.size<=10000000):
  bL prog 138 [.ptr 0 0,pI i] (Hg r br ks dm) (Bu (qJ (aJ ks) (r.body.getD i co) i)) (wH r br ks dm) 3:=by
 have d:(r.body.getD i co).size<=10000000:=by have:=Lit.aV r.body i hi;unfold ai.size at hb;omega
 have j:=pe (r.body.getD i co);refine aw ab func138 D (by decide) ntmps138 D (by simp) ?_;refine gM 10 D (jL [] (t:=⟨[(0,.ptr 0 0),(1,pI i),(4,.ptr 3 0),(6,.mp 4)],[(0,io (wO r br)),(1,io (bI (aq ks))),(2,io (sW dm)),(3,io (au MI)),(4,io (bI (aq [])))],5⟩) (zW (zH (zK (DV D (fun _=> .v _) D ac)))) ?_);refine gA D (bc [4] (E0 (r.body.getD i co) [] (by simp only[R0];omega)) D D D D D D D D ?_);refine gA D (F7 4 D ?_);refine bc [0,1,2] (AJ r br ks (cN (r.body.getD i co)) dm (by omega)) D D D D D D D D ?_;unfold qJ;refine zJ D D (fun b=>?_) fun b=>?_
 .have b:(cN (r.body.getD i co)).all (aJ ks)=lc:=zA b;rw[be (by rw[b];exact Ri)];refine gA D (zD [] D (zM ⟨Nq,rfl,ac⟩ (zH ac)))
 .have b:(cN (r.body.getD i co)).all (aJ ks)=kw:=zB b;rw[am b];refine gA D (zD [] D (zM ⟨sE _ _ _ _,rfl,ac⟩ (zH ac)))
abbrev BM:=List ((KC.int .i64).K×List ae)
abbrev u4(m:BM):IV:= .du (.int .i64) strs [] (.slice jp 0 0) m
def wL(K:ae->Bool)(b:List ae)(l:Lit)(i:Int):Option cQ:=if b.all K=kw then(if K l.ba=kw then io ⟨2,i,[],Qz⟩ else io ⟨3,i,[],l.ba⟩) else jp
theorem Ol(r:ai)(x:BM)(ks:List ae)(dm:WD)(i:Nat)(hi:i<r.body.length)(hb:r.size<=10000000)(B:(bG (.int .i64) x (i:Int) []).length<=1000000000):
  bL prog 140 [.ptr 0 0,pI i] (Hg r (u4 x) ks dm) (Bu (wL (aJ ks) (bG (.int .i64) x (i:Int) []) (r.body.getD i co) i)) (wH r (u4 x) ks dm) 3:=by
 generalize y:bG (.int .i64) x (i:Int) []=bs at B ⊢;refine aw ab func140 D (by decide) ntmps140 D (by simp) ?_;refine gA D ?_;refine aD 0 bs.length (QN _) (fun j=>⟨[(0,.ptr 0 0),(1,pI i),(4,.ptr 3 0),(14,.iv (strs bs)),(15,pI bs.length),(16,pI j)],[(0,io (wO r (u4 x))),(1,io (bI (aq ks))),(2,io (sW dm)),(3,io (au MI))],4⟩) (fun j=>(bs.take j).all (aJ ks)=kw) [] D
  (zM (bi (bi (bi ⟨.of_eq (by rw[<-y];rfl),rfl,.of_eq (by rw[<-y];rfl),rfl,bi trivial⟩))) (zH (zK trivial))) fun j G A=>?_
 refine zJ D D (fun u=>?_) fun u=>?_
 .have u:=bv u;refine zJ D D (fun b=>?_) fun b=>?_
  .have b:aJ ks (bs.getD j co)=lc:=by
    have b:li (bG .str (aq ks) (bs.getD j co) 0=0)=kw:=b;rw[iG]at b;simpa using b
   rw[show wL (aJ ks) bs (r.body.getD i co) i=jp from be (by rw[Tc];exact S9.2 ⟨_,dS u,by rw[b];exact Ri⟩)];refine gA D (zD [] D (zM ⟨Nq,rfl,ac⟩ (zH ac)))
  .have b:aJ ks (bs.getD j co)=kw:=by
    have b:li (bG .str (aq ks) (bs.getD j co) 0=0)=lc:=b;rw[iG]at b;simpa using b
   refine gA D ⟨u,(G8 A u).2 b,[],zW (zH (zK ac))⟩
 have u:=ci u;rw[QM u]at A;have F:wL (aJ ks) bs (r.body.getD i co) i=if aJ ks (r.body.getD i co).ba=kw then io ⟨2,i,[],Qz⟩ else io ⟨3,i,[],(r.body.getD i co).ba⟩:=am A;refine zJ D D (fun d=>?_) fun d=>?_
 .have d:aJ ks (r.body.getD i co).ba=kw:=by
   have d:li (bG .str (aq ks) (r.body.getD i co).ba 0>0)=kw:=d;rwa[qq]at d
  rw[F,am d];refine gA D (zD [] D (zM ⟨sE _ _ _ _,rfl,ac⟩ (zH ac)))
 .have d:aJ ks (r.body.getD i co).ba=lc:=by
   have d:li (bG .str (aq ks) (r.body.getD i co).ba 0>0)=lc:=d;rwa[qq]at d
  rw[F,be (by rw[d];exact Ri)];refine gA D (zD [] D (zM ⟨sE _ _ _ _,rfl,ac⟩ (zH ac)))
theorem Mf(r:ai)(br:IV)(ks:List ae)(dm:WD)(i:Nat)(hi:i<r.body.length)(hb:r.size<=10000000):
  bL prog 137 [.ptr 0 0,pI i] (Hg r br ks dm) (Bu (io ⟨1,i,gW (aJ ks) (r.body.getD i co).atom,Qz⟩)) (wH r br ks dm) 3:=by
 have I:(r.body.getD i co).size<=10000000:=by have:=Lit.aV r.body i hi;unfold ai.size at hb;omega
 have G:=(r.body.getD i co).size_eq;generalize A:(r.body.getD i co).atom=a at G ⊢;refine aw ab func137 D (by decide) ntmps137 D (by simp) ?_;refine gA D ?_;refine uj 4 2 1 D D ?_;refine aD 0 a.ad.length (QN _) (fun j=>⟨[(0,.ptr 0 0),(1,pI i),(4,.ptr 3 0),(6,.ptr 4 0),(20,.iv (de 5 a.ad Term.c)),(21,pI a.ad.length),(22,pI j)],[(0,io (wO r br)),(1,io (bI (aq ks))),(2,io (sW dm)),(3,io (au MI)),(4,io (.cells [pI 1,pI i,.sl 6 0 (nD (aJ ks) a j).length 1,pS Qz])),(6,io (aW 1 (nD (aJ ks) a j) cR))],7⟩) (fun _=>True) [5] ac
  (zM (bi (bi (bi (bi ⟨.of_eq (by rw[<-A];rfl),rfl,.of_eq (by rw[<-A];rfl),rfl,bi trivial⟩)))) (zH (zK (zO (zS trivial))))) fun j S _=>?_
 have J:=GH (aJ ks) a j;refine zJ D D (fun d=>?_) fun d=>?_
 .have d:=bv d;have B:Hj (aJ ks) (a.ad.getD j co)=lc->nD (aJ ks) a (j+1)=nD (aJ ks) a j:=JC;have u:Hj (aJ ks) (a.ad.getD j co)=kw->nD (aJ ks) a (j+1)=nD (aJ ks) a j++ [(j:Int)]:=GG;refine zJ D D (fun x=>?_) fun x=>?_
  .have x:li ((a.ad.getD j co).kind=2)=kw:=x;have h:=u (by unfold Hj;rw[x];rfl);refine gA D ⟨d,ac,[9],zW (zH (zK ⟨⟨_,rfl,.cells ⟨.refl _,.refl _,.row (by rw[h,Qv];rfl),.refl _,ac⟩⟩,Qs D,rfl,hR D (by rw[h,QO];rfl) D ac⟩))⟩
  .have x:li ((a.ad.getD j co).kind=2)=lc:=x;refine zJ D D (fun y=>?_) fun y=>?_
   .have y:li ((a.ad.getD j co).kind=1)=kw:=y;refine zJ D D (fun b=>?_) fun b=>?_
    .have b:aJ ks (a.ad.getD j co).var=kw:=by
      have b:li (bG .str (aq ks) (a.ad.getD j co).var 0>0)=kw:=b;rwa[qq]at b
     have h:=u (by unfold Hj;rw[y,b];simp);refine gA D ⟨d,ac,[9],zW (zH (zK ⟨⟨_,rfl,.cells ⟨.refl _,.refl _,.row (by rw[h,Qv];rfl),.refl _,ac⟩⟩,Qs D,rfl,hR D (by rw[h,QO];rfl) D ac⟩))⟩
    .have b:aJ ks (a.ad.getD j co).var=lc:=by
      have b:li (bG .str (aq ks) (a.ad.getD j co).var 0>0)=lc:=b;rwa[qq]at b
     have h:=B (by unfold Hj;rw[x,b];simp);refine gA D ⟨d,ac,[6],zW (zH (zK ⟨⟨_,rfl,.cells ⟨.refl _,.refl _,.row (by rw[h]),.refl _,ac⟩⟩,Qs D,rfl,hR D (by rw[h]) D ac⟩))⟩
   .have y:li ((a.ad.getD j co).kind=1)=lc:=y;have h:=B (by unfold Hj;rw[x,y];rfl);refine gA D ⟨d,ac,[6],zW (zH (zK ⟨⟨_,rfl,.cells ⟨.refl _,.refl _,.row (by rw[h]),.refl _,ac⟩⟩,Qs D,rfl,hR D (by rw[h]) D ac⟩))⟩
 have d:=ci d;have F:j=a.ad.length:=by omega
 rw[F];refine gA D ⟨.inr D,_,rfl,j5.Mp 6 (nD (aJ ks) a a.ad.length) cR D D ⟨⟨ac,ac,by simp[PV.cU],ac,ac⟩,ac,ac⟩ (.done ⟨_,_,_,[],⟨rfl,rfl,rfl⟩,zM ⟨.bB ⟨.agg ⟨.refl _,.refl _,?_,.refl _,ac⟩,.refl _,ac⟩,rfl,ac⟩ (zH ac)⟩)⟩;show aC (.iv (.c5 1 (nD (aJ ks) a a.ad.length).length fun k=>cR ((nD (aJ ks) a a.ad.length).getD (0+k) co))) (.iv (de 1 (gW (aJ ks) a) cR));simp only[Q9];exact .refl _
def dY(K:ae->Bool)(e o:Expr):Bool:=li (e.kind=1)&&(!K e.var&&(aY o).all K)
def uB(K:ae->Bool)(l:Lit)(i:Int):Option cQ:=
 if(cN l).all K=kw then io ⟨2,i,[],Qz⟩
 else if l.op≠1 then jp
 else if dY K l.left l.right=kw then io ⟨3,i,[],l.left.var⟩
 else if dY K l.right l.left=kw then io ⟨3,i,[],l.right.var⟩
 else jp
abbrev wZ(l:Lit):List PV:=l.left.c.map .iv++l.right.c.map .iv
abbrev cmF(l:Lit)(i j:Nat):AF:=[(0,.ptr 0 0),(1,pI i),(4,.ptr 3 0),(9,.ptr 6 0),(38,.agg (wZ l)),(39,pI j)]
abbrev PS(r:ai)(br:IV)(ks:List ae)(dm:WD)(l:Lit)(h:AH):AH:=(0,io (wO r br))::(1,io (bI (aq ks)))::(2,io (sW dm))::(3,io (au MI))::(6,io (.cells (wZ l)))::h
set_option maxHeartbeats 2000000 in
theorem Oj(r:ai)(br:IV)(ks:List ae)(dm:WD)(i:Nat)(hi:i<r.body.length)(hb:r.size<=10000000):
  bL prog 139 [.ptr 0 0,pI i] (Hg r br ks dm) (Bu (uB (aJ ks) (r.body.getD i co) i)) (wH r br ks dm) 3:=by
 have I:(r.body.getD i co).size<=10000000:=by have:=Lit.aV r.body i hi;unfold ai.size at hb;omega
 have J:=(r.body.getD i co).size_eq;have A:=EW r br ks dm i hi hb;unfold qJ at A;cases hA:(cN (r.body.getD i co)).all (aJ ks) with
 |true=>
  rw[hA,am D]at A;rw[show uB (aJ ks) (r.body.getD i co) i=io ⟨2,i,[],Qz⟩ from am hA];refine aw ab func139 D (by decide) ntmps139 D (by simp) ?_;refine gA D (bc [0,1,2] A D D D D D D D D ?_);refine zJ D D (fun B=>?_) fun B=>?_
  .refine gA D (zD [] D (zW (zH ac)))
  .exact absurd B (show¬(kw=lc) by decide)
 |false=>
  rw[hA,be Ri]at A;have u:uB (aJ ks) (r.body.getD i co) i=if(r.body.getD i co).op≠1 then jp else if dY (aJ ks) (r.body.getD i co).left (r.body.getD i co).right=kw then io ⟨3,i,[],(r.body.getD i co).left.var⟩ else if dY (aJ ks) (r.body.getD i co).right (r.body.getD i co).left=kw then io ⟨3,i,[],(r.body.getD i co).right.var⟩ else jp:=by
   unfold uB;rw[hA,be Ri]
  refine aw ab func139 D (by decide) ntmps139 D (by simp) ?_;refine gA D (bc [0,1,2] A D D D D D D D D ?_);refine zJ D D (fun B=>?_) fun B=>?_
  .exact absurd B (show¬(lc=kw) by decide)
  refine zJ D D (fun d=>?_) fun d=>?_
  .have d:(r.body.getD i co).op≠1:=by
    have d:(!li ((r.body.getD i co).op=1))=kw:=d;simpa using d
   rw[u,am d];refine gA D (zD [] D (zM ⟨Nq,rfl,ac⟩ (zH ac)))
  have d: ¬(r.body.getD i co).op≠1:=by
   have d:(!li ((r.body.getD i co).op=1))=lc:=d;simpa using d
  rw[be d]at u;refine gA D ?_;refine aD 0 2 (QN _) (fun j=>⟨cmF (r.body.getD i co) i j,PS r br ks dm (r.body.getD i co) [],7⟩) (fun j=>(1<=j->dY (aJ ks) (r.body.getD i co).left (r.body.getD i co).right=lc)∧(2<=j->dY (aJ ks) (r.body.getD i co).right (r.body.getD i co).left=lc)) [] ⟨fun h=>absurd h (by decide),fun h=>absurd h (by decide)⟩
   (zW (zH (zK (zO trivial)))) fun j S y=>?_
  refine zE D D (fun x=>?_) fun x=>?_
  .have x:2<=j:=by have:=zF x;omega
   rw[be (by rw[y.1 (by omega)];exact Ri),be (by rw[y.2 x];exact Ri)]at u;rw[u];refine gA D (zD [] D (zM ⟨Nq,rfl,ac⟩ (zH ac)))
  have x:j<2:=by have:=zT x;omega
  match j,x,y with
  |0,_,y=>
   refine gA D (F5 (n:=0) ab D D D D D D D (by decide) D D ?_);refine gM 9 D (jL [] (t:=⟨[(0,.ptr 0 0),(1,pI i),(4,.ptr 3 0),(9,.ptr 6 0),(10,pI 0),(11,.ptr 7 0),(12,.mp 8),(38,.agg (wZ (r.body.getD i co))),(39,pI 0)],PS r br ks dm (r.body.getD i co) [(7,io (au (r.body.getD i co).left.c)),(8,io (bI (aq [])))],9⟩) (zW (zH (zK (zO (zK (DV D (fun _=> .v _) D ac)))))) ?_);refine gA D (bc [8] (oU _ (r.body.getD i co).right [] (QH _) (by simp only[R0];omega)) D D D D D D D D ?_);refine gM 1 D (sS 8 D ?_);have F:=fj (r.body.getD i co).right;have no:dY (aJ ks) (r.body.getD i co).left (r.body.getD i co).right=lc->(0<2∧((1<=0+1->dY (aJ ks) (r.body.getD i co).left (r.body.getD i co).right=lc)∧(2<=0+1->dY (aJ ks) (r.body.getD i co).right (r.body.getD i co).left=lc))):=fun h=>⟨by decide,fun _=>h,fun h=>absurd h (by decide)⟩
   refine zE D D (fun g1=>?_) fun g1=>?_
   .have g1:li ((r.body.getD i co).left.kind=1)=lc:=g1;have b:=no (by unfold dY;rw[g1];rfl);refine gA D ⟨b.1,b.2,[],zW (zH (zK (zO ac)))⟩
   have g1:li ((r.body.getD i co).left.kind=1)=kw:=g1;refine zE D D (fun g2=>?_) fun g2=>?_
   .have g2:aJ ks (r.body.getD i co).left.var=kw:=by
     have g2:li (bG .str (aq ks) (r.body.getD i co).left.var 0=0)=lc:=g2;rw[iG]at g2;simpa using g2
    have b:=no (by unfold dY;rw[g2];simp);refine gA D ⟨b.1,b.2,[],zW (zH (zK (zO ac)))⟩
   have g2:aJ ks (r.body.getD i co).left.var=lc:=by
    have g2:li (bG .str (aq ks) (r.body.getD i co).left.var 0=0)=kw:=g2;rw[iG]at g2;simpa using g2
   refine gA D (zd [0,1,2] (AJ r br ks (aY (r.body.getD i co).right) dm (by omega)) ?_);refine zJ D D (fun g3=>?_) fun g3=>?_
   .have g3:(aY (r.body.getD i co).right).all (aJ ks)=kw:=g3;have G:dY (aJ ks) (r.body.getD i co).left (r.body.getD i co).right=kw:=by unfold dY;rw[g1,g2,g3];rfl
    rw[am G]at u;rw[u];refine gA D (zD [] D (zM ⟨sE _ _ _ _,rfl,ac⟩ (zH ac)))
   .have g3:(aY (r.body.getD i co).right).all (aJ ks)=lc:=g3;have b:=no (by unfold dY;rw[g3];simp);refine gA D ?_;exact⟨b.1,b.2,[],zW (zH (zK (zO ac)))⟩
  |1,_,y=>
   refine gA D (F5 (n:=1) ab D D D D D D D (by decide) D D ?_);refine gM 9 D (jL [] (t:=⟨[(0,.ptr 0 0),(1,pI i),(4,.ptr 3 0),(9,.ptr 6 0),(10,pI 1),(11,.ptr 7 0),(12,.mp 8),(38,.agg (wZ (r.body.getD i co))),(39,pI 1)],PS r br ks dm (r.body.getD i co) [(7,io (au (r.body.getD i co).right.c)),(8,io (bI (aq [])))],9⟩) (zW (zH (zK (zO (zK (DV D (fun _=> .v _) D ac)))))) ?_);refine gA D (bc [8] (oU _ (r.body.getD i co).left [] (QH _) (by simp only[R0];omega)) D D D D D D D D ?_);refine gM 1 D (sS 8 D ?_);have F:=fj (r.body.getD i co).left;have no:dY (aJ ks) (r.body.getD i co).right (r.body.getD i co).left=lc->(1<2∧((1<=1+1->dY (aJ ks) (r.body.getD i co).left (r.body.getD i co).right=lc)∧(2<=1+1->dY (aJ ks) (r.body.getD i co).right (r.body.getD i co).left=lc))):=fun h=>⟨by decide,fun _=>y.1 (by decide),fun _=>h⟩
   refine zE D D (fun g1=>?_) fun g1=>?_
   .have g1:li ((r.body.getD i co).right.kind=1)=lc:=g1;have b:=no (by unfold dY;rw[g1];rfl);refine gA D ⟨b.1,b.2,[],zW (zH (zK (zO ac)))⟩
   have g1:li ((r.body.getD i co).right.kind=1)=kw:=g1;refine zE D D (fun g2=>?_) fun g2=>?_
   .have g2:aJ ks (r.body.getD i co).right.var=kw:=by
     have g2:li (bG .str (aq ks) (r.body.getD i co).right.var 0=0)=lc:=g2;rw[iG]at g2;simpa using g2
    have b:=no (by unfold dY;rw[g2];simp);refine gA D ⟨b.1,b.2,[],zW (zH (zK (zO ac)))⟩
   have g2:aJ ks (r.body.getD i co).right.var=lc:=by
    have g2:li (bG .str (aq ks) (r.body.getD i co).right.var 0=0)=kw:=g2;rw[iG]at g2;simpa using g2
   refine gA D (zd [0,1,2] (AJ r br ks (aY (r.body.getD i co).left) dm (by omega)) ?_);refine zJ D D (fun g3=>?_) fun g3=>?_
   .have g3:(aY (r.body.getD i co).left).all (aJ ks)=kw:=g3;have G:dY (aJ ks) (r.body.getD i co).right (r.body.getD i co).left=kw:=by unfold dY;rw[g1,g2,g3];rfl
    rw[be (by rw[y.1 (by decide)];exact Ri),am G]at u;rw[u];refine gA D (zD [] D (zM ⟨sE _ _ _ _,rfl,ac⟩ (zH ac)))
   .have g3:(aY (r.body.getD i co).left).all (aJ ks)=lc:=g3;have b:=no (by unfold dY;rw[g3];simp);refine gA D ⟨b.1,b.2,[],zW (zH (zK (zO ac)))⟩
abbrev Ph(n k:Nat):List PV:=[pI n,.cK (.func k) [] []]
abbrev Em:AO:= .row 2 [Ph 1 137,Ph 2 138,Ph 3 139,Ph 4 140]
theorem jj(n:Nat):Em.low n:=by
 intro k e b
 match k,b with
 |0,b=>cases b;rfl
 |1,b=>cases b;rfl
 |2,b=>cases b;rfl
 |3,b=>cases b;rfl
 |k+4,b=>cases b
theorem EU:bL prog 114 [] [] (.sl 0 0 4 2) [(0,io Em)] 1:=by
 refine aw ab func114 D (by decide) ntmps114 D (by simp) ?_;refine gA D (zD [0] D (zW ⟨⟨_,rfl,.of_eq D⟩,Qs D,jj _,ac⟩))
def iU(K:ae->Bool)(b:BM)(l:Lit)(i:Int):Option cQ:=
 if l.kind=1 then io ⟨1,i,gW K l.atom,Qz⟩
 else if l.kind=2 then qJ K l i
 else if l.kind=3 then uB K l i
 else if l.kind=4 then wL K (bG (.int .i64) b i []) l i
 else jp
theorem Lb(r:ai)(u:BM)(ks:List ae)(dm:WD)(i:Nat)(hi:i<r.body.length)(hb:r.size<=10000000)(y:(bG (.int .i64) u (i:Int) []).length<=1000000000):
  bL prog 81 [.ptr 0 0,pI i] (Hg r (u4 u) ks dm) (Bu (iU (aJ ks) u (r.body.getD i co) i)) (wH r (u4 u) ks dm) 3:=by
 refine aw ab func81 D (by decide) ntmps81 D (by simp) ?_;refine gA D (zq [] (EU) ?_);have A:(r.body.getD i co).size<=10000000:=by have:=Lit.aV r.body i hi;unfold ai.size at hb;omega
 refine gA D ?_;refine aD 0 4 (QN _) (fun j=>⟨[(0,.ptr 0 0),(1,pI i),(4,.ptr 3 0),(8,.sl 4 0 4 2),(9,pI 4),(10,pI j)],[(0,io (wO r (u4 u))),(1,io (bI (aq ks))),(2,io (sW dm)),(3,io (au MI)),(4,io Em)],5⟩) (fun j=> ∀n:Nat,n<j-> ¬(r.body.getD i co).kind=(n+1:Nat)) [] (fun n hn=>absurd hn (R1 n))
  (zW (zH (zK ⟨⟨_,rfl,.of_eq D⟩,Qs D,jj _,ac⟩))) fun j G d=>?_
 refine zE D D (fun x=>?_) fun x=>?_
 .have x:4<=j:=by have:=zF x;omega
  have B: ¬(r.body.getD i co).kind=1:=d 0 (by omega);have a2: ¬(r.body.getD i co).kind=2:=d 1 (by omega);have a3: ¬(r.body.getD i co).kind=3:=d 2 (by omega);have a4: ¬(r.body.getD i co).kind=4:=d 3 (by omega);rw[show iU (aJ ks) u (r.body.getD i co) i=jp by unfold iU;rw[be B,be a2,be a3,be a4]];refine gA D (zD [] D (zM ⟨Nq,rfl,ac⟩ (zH ac)))
 have x:j<4:=by have:=zT x;omega
 have step: ∀j:Nat,(∀n:Nat,n<j-> ¬(r.body.getD i co).kind=(n+1:Nat))-> ¬(r.body.getD i co).kind=(j+1:Nat)-> ∀n:Nat,n<j+1-> ¬(r.body.getD i co).kind=(n+1:Nat):=fun j h F n hn=>by
  rcases RK.1 hn with hn|hn
  .exact h n hn
  .subst hn;exact F
 match j,x,d with
 |0,_,d=>
  refine gM 6 D (aM ab D D D D D (rfl) D D ?_);refine zJ D D (fun b=>?_) fun b=>?_
  .have b:(r.body.getD i co).kind=1:=by
    have b:li ((1:Int)=(r.body.getD i co).kind)=kw:=b;exact(zT b).symm
   rw[show iU (aJ ks) u (r.body.getD i co) i=io ⟨1,i,gW (aJ ks) (r.body.getD i co).atom,Qz⟩ by unfold iU;rw[am b]];refine gA D (bc [0,1,2] (Mf r (u4 u) ks dm i hi hb) D D D D D D D D ?_);refine gA D (zD [] D (zW (zH ac)))
  .have b: ¬(r.body.getD i co).kind=((0+1:Nat):Int):=by
    have b:li ((1:Int)=(r.body.getD i co).kind)=lc:=b;exact fun g=>zF b g.symm
   refine gA D ?_;exact⟨by decide,step 0 d b,[],zW (zH (zK ⟨⟨_,rfl,.of_eq D⟩,Qs D,jj _,ac⟩))⟩
 |1,_,d=>
  refine gM 6 D (aM ab D D D D D (rfl) D D ?_);refine zJ D D (fun b=>?_) fun b=>?_
  .have b:(r.body.getD i co).kind=2:=by
    have b:li ((2:Int)=(r.body.getD i co).kind)=kw:=b;exact(zT b).symm
   rw[show iU (aJ ks) u (r.body.getD i co) i=qJ (aJ ks) (r.body.getD i co) i by unfold iU;rw[be (show¬(r.body.getD i co).kind=1 from d 0 (by decide)),am b]];refine gA D (bc [0,1,2] (EW r (u4 u) ks dm i hi hb) D D D D D D D D ?_);refine gA D (zD [] D (zW (zH ac)))
  .have b: ¬(r.body.getD i co).kind=((1+1:Nat):Int):=by
    have b:li ((2:Int)=(r.body.getD i co).kind)=lc:=b;exact fun g=>zF b g.symm
   refine gA D ?_;exact⟨by decide,step 1 d b,[],zW (zH (zK ⟨⟨_,rfl,.of_eq D⟩,Qs D,jj _,ac⟩))⟩
 |2,_,d=>
  refine gM 6 D (aM ab D D D D D (rfl) D D ?_);refine zJ D D (fun b=>?_) fun b=>?_
  .have b:(r.body.getD i co).kind=3:=by
    have b:li ((3:Int)=(r.body.getD i co).kind)=kw:=b;exact(zT b).symm
   rw[show iU (aJ ks) u (r.body.getD i co) i=uB (aJ ks) (r.body.getD i co) i by unfold iU;rw[be (show¬(r.body.getD i co).kind=1 from d 0 (by decide)),be (show¬(r.body.getD i co).kind=2 from d 1 (by decide)),am b]];refine gA D (bc [0,1,2] (Oj r (u4 u) ks dm i hi hb) D D D D D D D D ?_);refine gA D (zD [] D (zW (zH ac)))
  .have b: ¬(r.body.getD i co).kind=((2+1:Nat):Int):=by
    have b:li ((3:Int)=(r.body.getD i co).kind)=lc:=b;exact fun g=>zF b g.symm
   refine gA D ?_;exact⟨by decide,step 2 d b,[],zW (zH (zK ⟨⟨_,rfl,.of_eq D⟩,Qs D,jj _,ac⟩))⟩
 |3,_,d=>
  refine gM 6 D (aM ab D D D D D (rfl) D D ?_);refine zJ D D (fun b=>?_) fun b=>?_
  .have b:(r.body.getD i co).kind=4:=by
    have b:li ((4:Int)=(r.body.getD i co).kind)=kw:=b;exact(zT b).symm
   rw[show iU (aJ ks) u (r.body.getD i co) i=wL (aJ ks) (bG (.int .i64) u i []) (r.body.getD i co) i by unfold iU;rw[be (show¬(r.body.getD i co).kind=1 from d 0 (by decide)),be (show¬(r.body.getD i co).kind=2 from d 1 (by decide)),be (show¬(r.body.getD i co).kind=3 from d 2 (by decide)),am b]];refine gA D (bc [0,1,2] (Ol r u ks dm i hi hb y) D D D D D D D D ?_);refine gA D (zD [] D (zW (zH ac)))
  .have b: ¬(r.body.getD i co).kind=((3+1:Nat):Int):=by
    have b:li ((4:Int)=(r.body.getD i co).kind)=lc:=b;exact fun g=>zF b g.symm
   refine gA D ⟨by decide,step 3 d b,[],zW (zH (zK ⟨⟨_,rfl,.of_eq D⟩,Qs D,jj _,ac⟩))⟩
def gp(r:ai)(s:cQ):List ae:=if s.kind=1 then cN (r.body.getD s.lit.toNat co) else if s.kind=3 then[s.var] else[]
def D6(dm:WD)(i:Int):WD:=cj (.int .i64) dm i (bG (.int .i64) dm i 0+1)
theorem EX(r:ai)(br:IV)(ks:List ae)(dm:WD)(d:Int)(i:Nat)(u:List Int)(b:ae)(hi:i<r.body.length)(hb:r.size<=10000000)(I:ks.length<=500000000000000)(hd:0<=bG (.int .i64) dm (i:Int) 0∧bG (.int .i64) dm (i:Int) 0<=1000000000):
  bL prog 83 [.ptr 0 0,ag (cQ.mk d i u b).c] (Hg r br ks dm) (.bB []) (wH r br (ks++gp r (cQ.mk d i u b)) (D6 dm i)) 3:=by
 have y:(r.body.getD i co).size<=10000000:=by have:=Lit.aV r.body i hi;unfold ai.size at hb;omega
 obtain⟨B,F⟩:=hd;have G:=bf ks b;have A:=dE ks b;by_cases j:d=1
 .have e:gp r (cQ.mk d i u b)=cN (r.body.getD i co):=by unfold gp;rw[am j];rfl
  rw[e];refine aw ab func83 D (by decide) ntmps83 D (by simp) ?_;refine zJ D D (fun q=>?_) fun q=>?_
  .refine gA D (zd [1] (E0 (r.body.getD i co) ks (by omega)) ?_);refine gA D (zD [] D (zW (zH ac)))
  .exact absurd j (zF q)
 by_cases x:d=3
 .have e:gp r (cQ.mk d i u b)=[b]:=by unfold gp;rw[be j,am x]
  rw[e];refine aw ab func83 D (by decide) ntmps83 D (by simp) ?_;refine zJ D D (fun q=>?_) fun q=>?_
  .exact absurd (zT q) j
  refine zJ D D (fun g=>?_) fun g=>?_
  .refine gA D (zD [] D (zW (hW D D D (by rw[bZ];rfl) D D D ac)))
  .exact absurd x (zF g)
 have e:gp r (cQ.mk d i u b)=[]:=by unfold gp;rw[be j,be x]
 rw[e,Ro];refine aw ab func83 D (by decide) ntmps83 D (by simp) ?_;refine zJ D D (fun q=>?_) fun q=>?_
 .exact absurd (zT q) j
 refine zJ D D (fun g=>?_) fun g=>?_
 .exact absurd (zT g) x
 refine gA D (zD [] D (zW (zH ac)))
end Go.Proofs.YtflegjieadkonaaGreatDoor
namespace Go.Tj
section
section
variable {α:Type}
inductive mD (succ:α->List α):α->α->Prop
 |refl (a:α):mD succ a a
 |step {a b c:α}:mD succ a b->c∈succ b->mD succ a c
theorem mD.trans{succ:α->List α}{a b c:α}(h:mD succ a b)(g:mD succ b c):mD succ a c:=by
 induction g with
 |refl=>exact h
 |step _ he ih=>exact .step ih he
theorem mD.one{succ:α->List α}{a b:α}(h:b∈succ a):mD succ a b:= .step (.refl a) h
structure St (α:Type) where
 low:α->Int
 on:α->Int
 ring:α->Int
 n:Nat
 stack:List α
section
variable [DecidableEq α]
def wT(f:α->Int)(a:α)(v:Int):α->Int:=fun x=>if x=a then v else f x
theorem ju(f:α->Int)(a:α)(v:Int):wT f a v a=v:=am D
theorem kF{f:α->Int}{a x:α}{v:Int}(h: ¬x=a):wT f a v x=f x:=be h
def push(s:St α)(a:α):St α:=⟨wT s.low a ((s.n:Int)+1),wT s.on a 1,s.ring,s.n+1,s.stack++ [a]⟩
def xo(d:Int)(s:St α):St α:=match s.stack.getLast? with
 |some b=>⟨s.low,wT s.on b 2,wT s.ring b d,s.n,s.stack.dropLast⟩
 |none=>s
def fb(a:α)(b:Int):Nat->St α->St α
 |0,s=>s
 |k+1,s=>if s.on a=1 then fb a b k (xo b s) else s
def rJ(d:α->St α->Int×St α)(q:Int×St α)(b:α):Int×St α:=
 if q.2.low b=0 then(min q.1 (d b q.2).1,(d b q.2).2) else if q.2.on b=1 then(min q.1 (q.2.low b),q.2) else q
def sx(a:α)(b:Int)(q:Int×St α):Int×St α:=if q.1=b then(q.1,fb a b q.2.stack.length q.2) else q
def dN(succ:α->List α):Nat->α->St α->Int×St α
 |0,_,s=>(0,s)
 |f+1,a,s=>sx a ((s.n:Int)+1) ((succ a).foldl (rJ (dN succ f)) ((s.n:Int)+1,push s a))
def fT(succ:α->List α)(f:Nat)(V:List α)(s:St α):St α:=V.foldl (fun s a=>if s.low a=0 then(dN succ f a s).2 else s) s
end
def St.o:St α:=⟨fun _=>0,fun _=>0,fun _=>0,0,[]⟩
structure Inv (succ:α->List α) (path:List α) (s:St α):Prop where
 mq: ∀a,0<=s.low a∧s.low a<=s.n
 inj: ∀a b,s.low a=s.low b->s.low a≠0->a=b
 Hh: ∀a,s.on a=0↔s.low a=0
 DF: ∀a,s.on a=0∨s.on a=1∨s.on a=2
 vv: ∀a,s.on a=1↔a∈s.stack
 Np:s.stack.Pairwise fun x y=>s.low x<s.low y
 Jz: ∀a,s.on a=2-> ∀b∈succ a,s.on b=2
 Mx: ∀g∈path,s.on g=1
 up: ∀y,s.on y=1-> ∃g∈path,s.low g<=s.low y∧mD succ y g
 dn: ∀g∈path,∀y,s.on y=1->s.low g<=s.low y->mD succ g y
 aB: ∀y,s.low y≠0->y∉path-> ∀z∈succ y,s.low z≠0
 Om: ∀a,s.on a=2-> ∃r,s.on r=2∧s.low r=s.ring a∧mD succ a r∧mD succ r a
 cmp: ∀a b,s.on a=2->s.on b=2->mD succ a b->mD succ b a->s.ring a=s.ring b
structure Le (s s':St α):Prop where
 low: ∀x,s.low x≠0->s'.low x=s.low x
 Jz: ∀x,s.on x=2->s'.on x=2
 n:s.n<=s'.n
theorem Le.refl(s:St α):Le s s:=⟨fun _ _=>rfl,fun _ h=>h,QH _⟩
theorem Le.trans{s t u:St α}(h:Le s t)(g:Le t u):Le s u:=
 ⟨fun x b=>by rw[g.low x (by rw[h.low x b];exact b),h.low x b],fun x b=>g.Jz x (h.Jz x b),Rr h.n g.n⟩
structure Nj (succ:α->List α) (path:List α) (a:α) (s:St α) (least:Int) (s':St α) (t:List α):Prop where
 inv:Inv succ path s'
 le:Le s s'
 stack:s'.stack=s.stack++t
 new: ∀y∈t,s.low y=0
 at_:(s.n:Int)<s'.low a
 MM:least<=s'.low a
 l1: ∀y∈t,∀z∈succ y,s'.on z=1->least<=s'.low z
 l2:(s'.on a=2∧least=s'.low a)∨ ∃z∈s.stack,s'.low z=least∧mD succ a z
theorem tM{succ:α->List α}{path:List α}{s:St α}(h:Inv succ path s){x:α}(b:s.on x=1):s.low x≠0:=fun g=>by
 have:=(h.Hh x).2 g;omega
theorem Fm{succ:α->List α}{p:List α}{s s':St α}(h:Inv succ p s)(b:Le s s'){x:α}(d:s.low x≠0)(ho:s'.on x=1):s.on x=1:=by
 rcases h.DF x with g|g|g
 .exact absurd ((h.Hh x).1 g) d
 .exact g
 .have:=b.Jz x g;omega
section
variable [DecidableEq α]
theorem yU{succ:α->List α}{path:List α}{s:St α}{a:α}(h:Inv succ path s)(ha:s.low a=0)(hp: ∀g∈path,mD succ g a):Inv succ (path++ [a]) (push s a):=by
 have a0:s.on a=0:=(h.Hh a).2 ha;have J:a∉s.stack:=fun g=>by have:=(h.vv a).2 g;omega
 have u: ∀x,¬x=a->(push s a).low x=s.low x:=fun x d=>kF d;have la:(push s a).low a=(s.n:Int)+1:=ju _ _ _;have F: ∀x,¬x=a->(push s a).on x=s.on x:=fun x d=>kF d;have G:(push s a).on a=1:=ju _ _ _;have hn:((push s a).n:Int)=(s.n:Int)+1:=by show((s.n+1:Nat):Int)=_;omega
 refine⟨fun x=>?_,fun x y B d=>?_,fun x=>?_,fun x=>?_,fun x=>?_,?_,fun x d b hb=>?_,fun g Z=>?_,fun y A=>?_,fun g Z y A I=>?_,fun y A S z hz=>?_,fun x d=>?_,fun x y d A h1 h2=>?_⟩
 .have:=h.mq x;by_cases e:x=a
  .subst e;rw[la,hn];omega
  .rw[u x e,hn];omega
 .have h1:=h.mq x;have h2:=h.mq y;by_cases e:x=a
  .by_cases j:y=a
   .rw[e,j]
   .rw[e,la,u y j]at B;omega
  .by_cases j:y=a
   .rw[j,la,u x e]at B;omega
   .rw[u x e,u y j]at B;rw[u x e]at d;exact h.inj x y B d
 .by_cases e:x=a
  .subst e;rw[G,la];constructor<;>intro g<;>omega
  .rw[F x e,u x e];exact h.Hh x
 .by_cases e:x=a
  .subst e;exact .inr (.inl G)
  .rw[F x e];exact h.DF x
 .show _↔x∈s.stack++ [a];rw[QK,QJ];by_cases e:x=a
  .subst e;simp[G]
  .rw[F x e,h.vv x];simp[e]
 .show(s.stack++ [a]).Pairwise _;rw[Ta];refine⟨h.Np.imp_of_mem ?_,List.pairwise_singleton _ _,fun x d y A=>?_⟩
  .intro x y d A B;rw[u x (fun e=>J (e▸d)),u y (fun e=>J (e▸A))];exact B
  .rw[QJ]at A;subst A;rw[la,u x (fun e=>J (e▸d))];have:=h.mq x;omega
 .have e: ¬x=a:=fun e=>by subst e;rw[G]at d;omega
  rw[F x e]at d;have Y:=h.Jz x d b hb;have j: ¬b=a:=fun e=>by subst e;omega
  rw[F b j];exact Y
 .rcases QK.1 Z with g1|g1
  .have:=h.Mx g g1;rw[F g (fun e=>by subst e;omega)];exact this
  .rw[QJ]at g1;subst g1;exact G
 .by_cases e:y=a
  .subst e;exact⟨y,RA _ Q3,SA _,.refl _⟩
  .rw[F y e]at A;obtain⟨g,g1,g2,g3⟩:=h.up y A;have j: ¬g=a:=fun e=>by have:=h.Mx g g1;subst e;omega
   exact⟨g,Q8 _ g1,by rw[u g j,u y e];exact g2,g3⟩
 .rcases QK.1 Z with g1|g1
  .have j: ¬g=a:=fun e=>by have:=h.Mx g g1;subst e;omega
   by_cases e:y=a
   .subst e;exact hp g g1
   .rw[u g j,u y e]at I;rw[F y e]at A;exact h.dn g g1 y A I
  .rw[QJ]at g1;subst g1;by_cases e:y=g
   .subst e;exact .refl _
   .rw[la,u y e]at I;have:=h.mq y;omega
 .have e: ¬y=a:=fun e=>S (RA _ (by rw[e];exact Q3))
  rw[u y e]at A;have:=h.aB y A (fun g=>S (Q8 _ g)) z hz;by_cases j:z=a
  .rw[j,la];omega
  .rw[u z j];exact this
 .have e: ¬x=a:=fun e=>by subst e;rw[G]at d;omega
  rw[F x e]at d;obtain⟨r,r1,r2,r3⟩:=h.Om x d;have j: ¬r=a:=fun e=>by subst e;omega
  exact⟨r,by rw[F r j];exact r1,by rw[u r j];exact r2,r3⟩
 .have e: ¬x=a:=fun e=>by subst e;rw[G]at d;omega
  have j: ¬y=a:=fun e=>by subst e;rw[G]at A;omega
  rw[F x e]at d;rw[F y j]at A;exact h.cmp x y d A h1 h2
theorem I1{succ:α->List α}{path:List α}{s:St α}{a:α}(h:Inv succ path s)(ha:s.low a=0):Le s (push s a):=by
 have d:s.on a=0:=(h.Hh a).2 ha;refine⟨fun x b=>kF fun e=>b (e▸ha),fun x b=>?_,by show s.n<=s.n+1;omega⟩;have: ¬x=a:=fun e=>by subst e;omega
 show wT s.on a 1 x=2;rw[kF this];exact b
def xn(s:St α)(u c:List α)(b:Int):St α:=⟨s.low,fun x=>if x∈c then 2 else s.on x,fun x=>if x∈c then b else s.ring x,s.n,u⟩
theorem yV{a:α}{b:Int}{s:St α}(h: ¬s.on a=1): ∀k,fb a b k s=s
 |0=>rfl
 |k+1=>be h
theorem vE(a:α)(d:Int)(u:List α): ∀(k:Nat) (t:List α) (s:St α),t.length<k->s.stack=u++a::t->a∉t->s.on a=1->(fb a d k s).low=s.low∧(fb a d k s).n=s.n∧(fb a d k s).stack=u∧(∀x,(fb a d k s).on x=if x∈a::t then 2 else s.on x)∧ ∀x,(fb a d k s).ring x=if x∈a::t then d else s.ring x
 |0,t,s,h,_,_,_=>absurd h (R1 _)
 |k+1,t,s,hk,hs,hn,ho=>by
  rw[fb,am ho];rcases t.eq_nil_or_concat with e|⟨t0,b,e⟩
  .subst e;have G:s.stack.getLast? =io a:=by rw[hs];simp
   have hd:s.stack.dropLast=u:=by rw[hs];simp
   have I:xo d s=⟨s.low,wT s.on a 2,wT s.ring a d,s.n,u⟩:=by unfold xo;rw[G,hd]
   rw[I,yV (by show¬wT s.on a 2 a=1;rw[ju];decide)];exact⟨rfl,rfl,rfl,fun x=>by simp[wT],fun x=>by simp[wT]⟩
  .rw[TR]at e;subst e;have A:s.stack=(u++a::t0)++ [b]:=by rw[hs];simp
   have G:s.stack.getLast? =io b:=by rw[A];exact List.getLast?_concat
   have hd:s.stack.dropLast=u++a::t0:=by rw[A];exact List.dropLast_concat
   have I:xo d s=⟨s.low,wT s.on b 2,wT s.ring b d,s.n,u++a::t0⟩:=by unfold xo;rw[G,hd]
   have F: ¬a=b:=fun e=>hn (by rw[e];simp);have B:=vE a d u k t0 ⟨s.low,wT s.on b 2,wT s.ring b d,s.n,u++a::t0⟩ (by simp at hk;omega) D (fun g=>hn (Q8 _ g)) (by show wT s.on b 2 a=1;rw[kF F];exact ho);rw[I];refine⟨B.1,B.2.1,B.2.2.1,fun x=>?_,fun x=>?_⟩
   .rw[B.2.2.2.1 x];by_cases j:x∈a::t0
    .rw[am j,am (by rw[<-Se];exact Q8 _ j)]
    .rw[be j];by_cases y:x=b
     .subst y;rw[am (by simp)];exact ju _ _ _
     .rw[be (by rw[<-Se,QK,QJ];exact fun g=>g.elim j y)];exact kF y
   .rw[B.2.2.2.2 x];by_cases j:x∈a::t0
    .rw[am j,am (by rw[<-Se];exact Q8 _ j)]
    .rw[be j];by_cases y:x=b
     .subst y;rw[am (by simp)];exact ju _ _ _
     .rw[be (by rw[<-Se,QK,QJ];exact fun g=>g.elim j y)];exact kF y
theorem St.eq{β:Type}{s t:St β}(h1:s.low=t.low)(b:s.on=t.on)(d:s.ring=t.ring)(j:s.n=t.n)(u:s.stack=t.stack):s=t:=by
 cases s;cases t;simp_all
theorem qR{a:α}{b:Int}{u t:List α}{k:Nat}{s:St α}(B:t.length<k)(hs:s.stack=u++a::t)(hn:a∉t)(ho:s.on a=1):fb a b k s=xn s u (a::t) b:=by
 obtain⟨d,j,x,y,A⟩:=vE a b u k t s B hs hn ho;exact St.eq d (funext y) (funext A) j x
theorem wq{β:Type}{succ:β->List β}{path:List β}{s:St β}(h:Inv succ path s){a b:β}(ha:s.on a=2)(hr:mD succ a b):s.on b=2:=by
 induction hr with
 |refl=>exact ha
 |step _ he ih=>exact h.Jz _ ih _ he
theorem I2{succ:α->List α}{path:List α}{s:St α}{a:α}{u t:List α}(h:Inv succ (path++ [a]) s)(hs:s.stack=u++a::t)(Y: ∀g∈path,s.low g<s.low a)(i0: ∀z∈succ a,s.low z≠0)
  (d0: ∀y∈a::t,∀z∈succ y,s.on z=1->s.low a<=s.low z):Inv succ path (xn s u (a::t) (s.low a)):=by
 have J:=h.Np;rw[hs,Ta]at J;obtain⟨hu,hc,b0⟩:=J;have e0:=(R8.1 hc).1;have g0:s.on a=1:=(h.vv a).2 (by rw[hs];simp);have hC: ∀x,x∈a::t↔(s.on x=1∧s.low a<=s.low x):=by
  intro x;constructor
  .intro d;refine⟨(h.vv x).2 (by rw[hs];exact RA _ d),?_⟩;rcases QY.1 d with e|e
   .rw[e];exact SA _
   .have:=e0 x e;omega
  .rintro⟨F,G⟩;have:=(h.vv x).1 F;rw[hs]at this;rcases QK.1 this with g|g
   .have:=b0 x g a Q3;omega
   .exact g
 have Z:a∈a::t:=Q3;have j: ∀x,x∈a::t->(xn s u (a::t) (s.low a)).on x=2:=fun x d=>am d;have no: ∀x,x∉a::t->(xn s u (a::t) (s.low a)).on x=s.on x:=fun x d=>be d
 have S: ∀x,x∈a::t->mD succ x a:=by
  intro x d;obtain⟨F,G⟩:=(hC x).1 d;obtain⟨g,g1,g2,g3⟩:=h.up x F;refine g3.trans (h.dn g g1 a g0 ?_);rcases QK.1 g1 with e|e
  .have:=Y g e;omega
  .rw[QJ]at e;rw[e];exact SA _
 have I: ∀x,x∈a::t->mD succ a x:=by
  intro x d;obtain⟨F,G⟩:=(hC x).1 d;exact h.dn a (by simp) x F G
 have a0: ∀y,s.low y≠0->y∉path-> ∀z∈succ y,s.low z≠0:=by
  intro y A j0 z hz;by_cases e:y=a
  .rw[e]at hz;exact i0 z hz
  .exact h.aB y A (by rw[QK,QJ];exact fun g=>g.elim j0 e) z hz
 refine⟨h.mq,h.inj,fun x=>?_,fun x=>?_,fun x=>?_,hu,fun x d b hb=>?_,fun g hg=>?_,fun y A=>?_,fun g hg y A f0=>?_,a0,fun x d=>?_,fun x y d A F G=>?_⟩
 .by_cases e:x∈a::t
  .rw[j x e];have:=tM h ((hC x).1 e).1;exact⟨fun g=>by omega,fun g=>absurd g this⟩
  .rw[no x e];exact h.Hh x
 .by_cases e:x∈a::t
  .exact .inr (.inr (j x e))
  .rw[no x e];exact h.DF x
 .show _↔x∈u;by_cases e:x∈a::t
  .rw[j x e];refine⟨fun g=>by omega,fun g=>?_⟩;have F:=b0 x g a Z;have G:=((hC x).1 e).2;omega
  .rw[no x e,h.vv x,hs,QK];exact⟨fun g=>g.elim id fun q=>absurd q e,.inl⟩
 .by_cases e:x∈a::t
  .obtain⟨F,G⟩:=(hC x).1 e;have c0:s.low b≠0:=a0 x (tM h F) (fun g=>by have:=Y x g;omega) b hb;rcases h.DF b with g|g|g
   .exact absurd ((h.Hh b).1 g) c0
   .exact j b ((hC b).2 ⟨g,d0 x e b hb g⟩)
   .by_cases B:b∈a::t
    .exact j b B
    .rw[no b B];exact g
  .rw[no x e]at d;have g:=h.Jz x d b hb;by_cases B:b∈a::t
   .exact j b B
   .rw[no b B];exact g
 .have F:=h.Mx g (Q8 _ hg);have G:=Y g hg;rw[no g (fun e=>by have:=((hC g).1 e).2;omega)];exact F
 .by_cases e:y∈a::t
  .rw[j y e]at A;omega
  .rw[no y e]at A;obtain⟨g,g1,g2,g3⟩:=h.up y A;rcases QK.1 g1 with q|q
   .exact⟨g,q,g2,g3⟩
   .rw[QJ]at q;rw[q]at g2;exact absurd ((hC y).2 ⟨A,g2⟩) e
 .by_cases e:y∈a::t
  .rw[j y e]at A;omega
  .rw[no y e]at A;exact h.dn g (Q8 _ hg) y A f0
 .by_cases e:x∈a::t
  .exact⟨a,j a Z,(am e).symm,S x e,I x e⟩
  .rw[no x e]at d;obtain⟨r,r1,r2,r3⟩:=h.Om x d;have B:r∉a::t:=fun g=>by have:=((hC r).1 g).1;omega
   refine⟨r,by rw[no r B];exact r1,?_,r3⟩;show s.low r=if x∈a::t then s.low a else s.ring x;rw[be e];exact r2
 .show(if x∈a::t then s.low a else s.ring x)=if y∈a::t then s.low a else s.ring y;by_cases e:x∈a::t
  .by_cases B:y∈a::t
   .rw[am e,am B]
   .rw[no y B]at A;have:=wq h A G;have:=((hC x).1 e).1;omega
  .rw[no x e]at d;by_cases B:y∈a::t
   .have:=wq h d F;have:=((hC y).1 B).1;omega
   .rw[no y B]at A;rw[be e,be B];exact h.cmp x y d A F G
theorem DS{succ:α->List α}{path:List α}{s:St α}{a z:α}(h:Inv succ (path++ [a]) s)(d: ∀z∈succ a,s.low z≠0)(B:s.on z=1)(A:s.low z<s.low a)(hr:mD succ a z):Inv succ path s:=by
 refine⟨h.mq,h.inj,h.Hh,h.DF,h.vv,h.Np,h.Jz,fun g b=>h.Mx g (Q8 _ b),fun y u=>?_,fun g b=>h.dn g (Q8 _ b),fun y u x w j=>?_,h.Om,h.cmp⟩
 .obtain⟨g,g1,g2,g3⟩:=h.up y u;rcases QK.1 g1 with q|q
  .exact⟨g,q,g2,g3⟩
  .rw[QJ]at q;subst q;obtain⟨k,F,I,G⟩:=h.up z B;rcases QK.1 F with q|q
   .exact⟨k,q,by omega,(g3.trans hr).trans G⟩
   .rw[QJ]at q;subst q;omega
 .by_cases e:y=a
  .rw[e]at j;exact d w j
  .exact h.aB y u (by rw[QK,QJ];exact fun g=>g.elim x e) w j
def js(V:List α)(s:St α):Nat:=(V.filter fun x=>li (s.low x=0)).length
theorem filter_le{β:Type}{p q:β->Bool}: ∀(l:List β),(∀x∈l,p x=kw->q x=kw)->(l.filter p).length<=(l.filter q).length
 | [],_=>QH _
 |x::r,h=>by
  have j:=filter_le r fun y d=>h y (QR _ d);have b:=h x Q3;rw[Sl,Sl];split
  .rename_i g;rw[am (b g)];simp only[Rf];omega
  .split
   .simp only[Rf];omega
   .exact j
theorem filter_lt{β:Type}{p q:β->Bool}{a:β}: ∀(l:List β),(∀x∈l,p x=kw->q x=kw)->a∈l->p a=lc->q a=kw->(l.filter p).length<(l.filter q).length
 | [],_,h,_,_=>nomatch h
 |x::r,h,ha,h1,h2=>by
  have d:=filter_le r fun y b=>h y (QR _ b);have j:=h x Q3;rw[Sl,Sl];rcases QY.1 ha with e|e
  .subst e;rw[h1,h2];simp only[SK,if_false,if_true,Rf];omega
  .have u:=filter_lt r (fun y b=>h y (QR _ b)) e h1 h2;split
   .rename_i g;rw[am (j g)];simp only[Rf];omega
   .split
    .simp only[Rf];omega
    .exact u
theorem vl{β:Type}{V:List β}{s s':St β}(h:Le s s'):js V s'<=js V s:=
 filter_le V fun x _ b=>by
  refine decide_eq_true (R7 fun g=>?_);have:=of_decide_eq_true b;rw[h.low x g]at this;exact g this
theorem j8{V:List α}{s:St α}{a:α}(hn: ∀x,0<=s.low x∧s.low x<=s.n)(ha:a∈V)(h0:s.low a=0):js V (push s a)<js V s:=by
 have la:(push s a).low a=(s.n:Int)+1:=ju _ _ _;refine filter_lt V (fun x _ b=>?_) ha (decide_eq_false (by rw[la];omega)) (decide_eq_true h0);have:=of_decide_eq_true b;by_cases e:x=a
 .rw[e];exact decide_eq_true h0
 .refine decide_eq_true ?_;rwa[show(push s a).low x=s.low x from kF e]at this
structure eL (succ:α->List α) (path:List α) (a:α) (s0:St α) (done:List α) (q:Int×St α) (t:List α):Prop where
 inv:Inv succ (path++ [a]) q.2
 le:Le (push s0 a) q.2
 stack:q.2.stack=s0.stack++a::t
 new: ∀y∈t,s0.low y=0
 MM:q.1<=(s0.n:Int)+1
 l1: ∀y∈t,∀z∈succ y,q.2.on z=1->q.1<=q.2.low z
 OA: ∀z∈done,q.2.on z=1->q.1<=q.2.low z
 proc: ∀z∈done,q.2.low z≠0
 l2: ∃z,q.2.on z=1∧q.2.low z=q.1∧mD succ a z
section
variable {succ:α->List α} {path:List α} {a:α} {s0:St α} {done:List α} {q:Int×St α} {t:List α}
theorem eL.la(h:eL succ path a s0 done q t):q.2.low a=(s0.n:Int)+1:=by
 have e:(push s0 a).low a=(s0.n:Int)+1:=ju _ _ _;rw[h.le.low a (by rw[e];omega),e]
theorem eL.pa(h:eL succ path a s0 done q t)(h0:Inv succ path s0)(ha:s0.low a=0): ∀g∈path,q.2.low g<q.2.low a:=by
 intro g j;have d:=h0.Mx g j;have b:=tM h0 d;have e:(push s0 a).low g=s0.low g:=kF fun e=>b (by rw[e];exact ha);rw[h.la,h.le.low g (by rw[e];exact b),e];have:=h0.mq g;omega
theorem eL.at_(h:eL succ path a s0 done q t):a∉t:=fun g=>by
 have:=h.inv.Np;rw[h.stack,Ta]at this;have:=(R8.1 this.2.1).1 a g;omega
theorem eL.step{V:List α}{j:α->St α->Int×St α}{f:Nat}(hV: ∀a∈V,∀b∈succ a,b∈V)
  (ih: ∀(path:List α) (b:α) (s:St α),Inv succ path s->s.low b=0->b∈V->(∀g∈path,mD succ g b)->js V s<=f-> ∃t,Nj succ path b s (j b s).1 (j b s).2 t)
  (h:eL succ path a s0 done q t) (h0:Inv succ path s0) (ha:s0.low a=0) (Z:a∈V) {b:α} (hb:b∈succ a) (hw:js V q.2<=f): ∃t',eL succ path a s0 (done++ [b]) (rJ j q b) t':=by
 have g0:=h.la;have d0:=h.pa h0 ha;have a0:=h.at_;have c0:q.2.on a=1:=(h.inv.vv a).2 (by rw[h.stack];simp);unfold rJ;by_cases G:q.2.low b=0
 .rw[am G];have J: ∀g∈path++ [a],mD succ g b:=by
   intro g hg;refine .step (h.inv.dn g hg a c0 ?_) hb;rcases QK.1 hg with e|e
   .have:=d0 g e;omega
   .rw[QJ]at e;rw[e];exact SA _
  obtain⟨tb,u⟩:=ih (path++ [a]) b q.2 h.inv G (hV a Z b hb) J hw;generalize j b q.2=w at u ⊢;obtain⟨I,s'⟩:=w;have B: ∀z,q.2.on z=1->s'.on z=1:=fun z d=>(u.inv.vv z).2 (by rw[u.stack];exact Q8 _ ((h.inv.vv z).1 d));have j0:=h.le.n;have i0:(push s0 a).n=s0.n+1:=rfl;refine⟨t++tb,u.inv,h.le.trans u.le,?_,fun y S=>?_,?_,fun y S z d F=>?_,fun z d F=>?_,fun z d=>?_,?_⟩
  .show s'.stack=_;rw[u.stack,h.stack];simp
  .rcases QK.1 S with g|g
   .exact h.new y g
   .refine R7 fun hc=>?_
    have e:(push s0 a).low y=s0.low y:=kF fun e=>hc (by rw[e];exact ha);have:=h.le.low y (by rw[e];exact hc);rw[u.new y g,e]at this;exact hc this.symm
  .have:=h.MM;show min q.1 I<=_;omega
  .show min q.1 I<=s'.low z;rcases QK.1 S with g|g
   .have f0:q.2.on y=1:=(h.inv.vv y).2 (by rw[h.stack];simp[g]);have e0:y∉path++ [a]:=by
     rw[QK,QJ];rintro(e|e)
     .have h1:=tM h0 (h0.Mx y e);exact h1 (h.new y g)
     .rw[e]at g;exact a0 g
    have x:=h.inv.aB y (tM h.inv f0) e0 z d;have A:=Fm h.inv u.le x F;have:=h.l1 y g z d A;rw[u.le.low z x];omega
   .have:I<=s'.low z:=u.l1 y g z d F;omega
  .show min q.1 I<=s'.low z;rcases QK.1 d with g|g
   .have x:=h.proc z g;have:=h.OA z g (Fm h.inv u.le x F);rw[u.le.low z x];omega
   .rw[QJ]at g;subst g;have:I<=s'.low z:=u.MM;omega
  .show s'.low z≠0;rcases QK.1 d with g|g
   .have x:=h.proc z g;rw[u.le.low z x];exact x
   .rw[QJ]at g;subst g;have:(q.2.n:Int)<s'.low z:=u.at_;omega
  .obtain⟨z,Y,z2,z3⟩:=h.l2;by_cases b0:q.1<=I
   .exact⟨z,B z Y,by show s'.low z=min q.1 I;rw[u.le.low z (tM h.inv Y)];omega,z3⟩
   .rcases u.l2 with⟨_,g⟩|⟨w,w1,w2,w3⟩
    .have h1:I=s'.low b:=g;have h2:(q.2.n:Int)<s'.low b:=u.at_;have h3:=h.MM;omega
    .have w2:s'.low w=I:=w2;exact⟨w,B w ((h.inv.vv w).2 w1),by show s'.low w=min q.1 I;omega,(mD.one hb).trans w3⟩
 .rw[be G];by_cases A:q.2.on b=1
  .rw[am A];refine⟨t,h.inv,h.le,h.stack,h.new,?_,fun y S z d F=>?_,fun z d F=>?_,fun z d=>?_,?_⟩
   .have:=h.MM;show min q.1 (q.2.low b)<=_;omega
   .have:=h.l1 y S z d F;show min q.1 (q.2.low b)<=q.2.low z;omega
   .show min q.1 (q.2.low b)<=q.2.low z;rcases QK.1 d with g|g
    .have:=h.OA z g F;omega
    .rw[QJ]at g;subst g;omega
   .rcases QK.1 d with g|g
    .exact h.proc z g
    .rw[QJ]at g;subst g;exact G
   .obtain⟨z,Y,z2,z3⟩:=h.l2;by_cases b0:q.1<=q.2.low b
    .exact⟨z,Y,by show q.2.low z=min q.1 (q.2.low b);omega,z3⟩
    .exact⟨b,A,by show q.2.low b=min q.1 (q.2.low b);omega,.one hb⟩
  .rw[be A];refine⟨t,h.inv,h.le,h.stack,h.new,h.MM,h.l1,fun z d F=>?_,fun z d=>?_,h.l2⟩
   .rcases QK.1 d with g|g
    .exact h.OA z g F
    .rw[QJ]at g;subst g;exact absurd F A
   .rcases QK.1 d with g|g
    .exact h.proc z g
    .rw[QJ]at g;subst g;exact G
end
theorem qY{succ:α->List α}{path:List α}{a:α}{s0:St α}{V:List α}{d:α->St α->Int×St α}{f:Nat}(hV: ∀a∈V,∀b∈succ a,b∈V)
  (A: ∀(path:List α) (b:α) (s:St α),Inv succ path s->s.low b=0->b∈V->(∀g∈path,mD succ g b)->js V s<=f-> ∃t,Nj succ path b s (d b s).1 (d b s).2 t)
  (h0:Inv succ path s0) (ha:s0.low a=0) (j:a∈V) (u:js V (push s0 a)<=f):
  ∀(l done:List α) (q:Int×St α) (t:List α),eL succ path a s0 done q t->(∀b∈l,b∈succ a)-> ∃G,eL succ path a s0 (done++l) (l.foldl (rJ d) q) G
 | [],done,q,t,h,_=>⟨t,by rw[Ro];exact h⟩
 |b::l,done,q,t,h,hl=>by
  obtain⟨t1,B⟩:=h.step hV A h0 ha j (hl b Q3) (Rr (vl h.le) u);obtain⟨t2,y⟩:=qY hV A h0 ha j u l (done++ [b]) _ t1 B fun x F=>hl x (QR _ F);exact⟨t2,by rw[QU]at y;exact y⟩
theorem oM{succ:α->List α}{V:List α}(hV: ∀a∈V,∀b∈succ a,b∈V): ∀(f:Nat) (path:List α) (a:α) (s:St α),Inv succ path s->s.low a=0->a∈V->(∀g∈path,mD succ g a)->js V s<=f-> ∃t,Nj succ path a s (dN succ f a s).1 (dN succ f a s).2 t
 |0,path,a,s,h,ha,haV,_,hw=>by
  have:=j8 h.mq haV ha;omega
 |f+1,path,a,s,h,ha,haV,hp,hw=>by
  have c0:=j8 h.mq haV ha;have hi:=yU h ha hp;have la:(push s a).low a=(s.n:Int)+1:=ju _ _ _;have oa:(push s a).on a=1:=ju _ _ _;have J:eL succ path a s [] ((s.n:Int)+1,push s a) []:=
   ⟨hi,.refl _,rfl,fun y j=>(nomatch j),SA _,fun y j=>(nomatch j),fun z B=>(nomatch B),fun z B=>(nomatch B),⟨a,oa,la,.refl _⟩⟩
  obtain⟨t,d⟩:=qY hV (fun p b s'=>oM hV f p b s') h ha haV (by omega) (succ a) [] _ [] J fun b hb=>hb;rw[Sa]at d;rw[dN];generalize(succ a).foldl (rJ (dN succ f)) ((s.n:Int)+1,push s a)=q at d ⊢;have F:=d.la;have a0:=d.pa h ha;have S:=d.at_;have Z:q.2.on a=1:=(d.inv.vv a).2 (by rw[d.stack];simp);have u:Le s q.2:=(I1 h ha).trans d.le;unfold sx;by_cases Y:q.1=(s.n:Int)+1
  .rw[am Y,qR (by rw[d.stack];simp;omega) d.stack S Z,<-F];refine⟨[],I2 d.inv d.stack a0 d.proc fun y j z B G=>?_,⟨u.low,fun x hx=>?_,u.n⟩,by rw[Ro];rfl,fun y j=>(nomatch j),?_,?_,fun y j=>(nomatch j),.inl ⟨am Q3,?_⟩⟩
   .rw[F,<-Y];rcases QY.1 j with e|e
    .rw[e]at B;exact d.OA z B G
    .exact d.l1 y e z B G
   .show(if x∈a::t then(2:Int) else q.2.on x)=2;split
    .rfl
    .exact u.Jz x hx
   .show(s.n:Int)<q.2.low a;omega
   .show q.1<=q.2.low a;omega
   .show q.1=q.2.low a;omega
  .rw[be Y];have b0:q.1<q.2.low a:=by have:=d.MM;omega
   obtain⟨z,z1,z2,z3⟩:=d.l2;have I:=d.inv.Np;rw[d.stack,Ta]at I;refine⟨a::t,DS d.inv d.proc z1 (by omega) z3,u,d.stack,fun y j=>?_,by omega,by omega,fun y j w A G=>?_,.inr ⟨z,?_,z2,z3⟩⟩
   .rcases QY.1 j with e|e
    .rw[e];exact ha
    .exact d.new y e
   .rcases QY.1 j with e|e
    .rw[e]at A;exact d.OA w A G
    .exact d.l1 y e w A G
   .have:=(d.inv.vv z).1 z1;rw[d.stack]at this;rcases QK.1 this with g|g
    .exact g
    .rcases QY.1 g with e|e
     .rw[e]at z2;omega
     .have:=(R8.1 I.2.1).1 z e;omega
theorem Ld{β:Type}(succ:β->List β):Inv succ [] (St.o:St β):=
 ⟨fun _=>⟨SA _,SA _⟩,fun _ _ _ h=>absurd D h,fun _=>Iff.rfl,fun _=> .inl D,fun _=>⟨fun h=>(nomatch h),fun h=>(nomatch h)⟩,.nil,fun _ h=>(nomatch h),fun _ h=>(nomatch h),fun _ h=>(nomatch h),fun _ h=>(nomatch h),fun _ h=>absurd D h,fun _ h=>(nomatch h),fun _ _ h=>(nomatch h)⟩
theorem qO{succ:α->List α}{V:List α}(hV: ∀a∈V,∀b∈succ a,b∈V){f:Nat}(hf:V.length<=f): ∀(l:List α) (s:St α),(∀a∈l,a∈V)->Inv succ [] s->Inv succ [] (fT succ f l s)∧(∀x,s.low x≠0->(fT succ f l s).low x≠0)∧ ∀a∈l,(fT succ f l s).low a≠0
 | [],s,_,h=>⟨h,fun _ d=>d,fun _ j=>(nomatch j)⟩
 |b::l,s,hl,h=>by
  have key: ∃s',(if s.low b=0 then(dN succ f b s).2 else s)=s'∧Inv succ [] s'∧(∀x,s.low x≠0->s'.low x≠0)∧s'.low b≠0:=by
   by_cases e:s.low b=0
   .obtain⟨t,u⟩:=oM hV f [] b s h e (hl b Q3) (fun g A=>nomatch A) (Rr (RP _ _) hf);refine⟨_,am e,u.inv,fun x d=>by rw[u.le.low x d];exact d,?_⟩;have:=u.at_;omega
   .exact⟨s,be e,h,fun _ d=>d,e⟩
  obtain⟨s',e,B,F,G⟩:=key;obtain⟨i1,i2,i3⟩:=qO hV hf l s' (fun a j=>hl a (QR _ j)) B;have y:fT succ f (b::l) s=fT succ f l s':=by
   show fT succ f l (if s.low b=0 then(dN succ f b s).2 else s)=_;rw[e]
  rw[y];refine⟨i1,fun x d=>i2 x (F x d),fun a j=>?_⟩;rcases QY.1 j with q|q
  .rw[q];exact i2 b G
  .exact i3 a q
theorem Du{succ:α->List α}{V:List α}(hV: ∀a∈V,∀b∈succ a,b∈V){f:Nat}(hf:V.length<=f){a b:α}(ha:a∈V)(hb:b∈V):
  (fT succ f V St.o).ring a=(fT succ f V St.o).ring b↔mD succ a b∧mD succ b a:=by
 obtain⟨h,_,u⟩:=qO hV hf V St.o (fun _ h=>h) (Ld succ);generalize fT succ f V St.o=s at h u ⊢;have d: ∀x∈V,s.on x=2:=by
  intro x y;rcases h.DF x with g|g|g
  .exact absurd ((h.Hh x).1 g) (u x y)
  .obtain⟨k,A,_⟩:=h.up x g;exact nomatch A
  .exact g
 constructor
 .intro e;obtain⟨r,Y,Z,G,I⟩:=h.Om a (d a ha);obtain⟨q,J,S,B,F⟩:=h.Om b (d b hb);have j:s.low r≠0:=fun g=>by have:=(h.Hh r).2 g;omega
  have:r=q:=h.inj r q (by omega) j;subst this;exact⟨G.trans F,B.trans I⟩
 .rintro⟨h1,h2⟩;exact h.cmp a b (d a ha) (d b hb) h1 h2
end
end
end
end Go.Tj
namespace Go.Wa
section
inductive uY (R:Nat->Nat->Prop):Nat->Nat->Prop
 |refl (a:Nat):uY R a a
 |step {a b c:Nat} (h:R a b) (t:uY R b c):uY R a c
theorem uY.trans{R:Nat->Nat->Prop}{a b c:Nat}(h:uY R a b)(k:uY R b c):uY R a c:=by
 induction h with
 |refl=>exact k
 |step h _ ih=>exact .step h (ih k)
def W(E:Nat->Nat->Bool):Nat->Nat->Nat->Bool
 |0,a,b=>E a b||a==b
 |m+1,a,b=>W E m a b||(W E m a m&&W E m m b)
variable {E:Nat->Nat->Bool}
theorem W.mono(m a b:Nat)(h:W E m a b=kw):W E (m+1) a b=kw:=by simp[W,h]
theorem W.Lf{m k a b:Nat}(d:m<=k)(h:W E m a b=kw):W E k a b=kw:=by
 induction d with
 |refl=>exact h
 |step _ ih=>exact W.mono _ _ _ ih
theorem W.self(m a:Nat):W E m a a=kw:=W.Lf (QN m) (by simp[W])
theorem W.trans: ∀(m a k b:Nat),k<m->W E m a k=kw->W E m k b=kw->W E m a b=kw
 |m+1,a,k,b,hk,d,j=>by
  simp only[W,R9,Q5]at d j ⊢;by_cases A:k=m
  .subst A;have B:W E k a k=kw:=by rcases d with h|h;exact h;exact h.1
   have F:W E k k b=kw:=by rcases j with h|h;exact h;exact h.2
   exact .inr ⟨B,F⟩
  .have u:k<m:=by omega
   rcases d with d|⟨d,y⟩<;>rcases j with j|⟨j,x⟩
   .exact .inl (W.trans m a k b u d j)
   .exact .inr ⟨W.trans m a k m u d j,x⟩
   .exact .inr ⟨d,W.trans m m k b u y j⟩
   .exact .inr ⟨d,x⟩
theorem W.sound: ∀(m a b:Nat),W E m a b=kw->uY (fun a b=>E a b=kw) a b
 |0,a,b,h=>by
  simp only[W,R9,beq_iff_eq]at h;rcases h with h|h
  .exact .step h (.refl _)
  .subst h;exact .refl _
 |m+1,a,b,h=>by
  simp only[W,R9,Q5]at h;rcases h with h|⟨d,j⟩
  .exact W.sound m a b h
  .exact(W.sound m a m d).trans (W.sound m m b j)
theorem W.iff{n:Nat}(hE: ∀a b,a<n->E a b=kw->b<n){a b:Nat}(ha:a<n):W E n a b=kw↔uY (fun a b=>E a b=kw) a b:=by
 refine⟨W.sound n a b,fun h=>?_⟩
 induction h with
 |refl a=>exact W.self n a
 |step h _ ih=>
  have hb:=hE _ _ ha h;exact W.trans n _ _ _ hb (W.Lf (QN n) (by simp[W,h])) (ih hb)
def V(E:Nat->Nat->Bool)(m a b x y:Nat):Bool:=if x<a∨x=a∧y<b then W E (m+1) x y else W E m x y
theorem V.yg(m a b x:Nat):V E m a b x m=W E m x m:=by
 unfold V;split
 .simp only[W];cases W E m x m<;>simp
 .rfl
theorem V.row(m a b y:Nat):V E m a b m y=W E m m y:=by
 unfold V;split
 .simp only[W];cases W E m m y<;>simp
 .rfl
theorem V.line(m a n x y:Nat)(b:y<n):V E m a n x y=V E m (a+1) 0 x y:=by
 unfold V;by_cases h:x<a∨x=a∧y<n
 .rw[am h,am (by omega)]
 .rw[be h,be (by omega)]
end
end Go.Wa
namespace Go.Co
section
section
variable {n:Nat} {oj:Nat->Nat->Bool} {e:Nat->Nat->Bool}
structure Far (n:Nat) (e oj:Nat->Nat->Bool):Prop where
 refl: ∀a,a<n->oj a a=kw
 trans: ∀a b c,oj a b=kw->oj b c=kw->oj a c=kw
 PH: ∀a b,a<n->e a b=kw->oj a b=kw
 lt: ∀a b,a<n->oj a b=kw->b<n
 elt: ∀a b,a<n->e a b=kw->b<n
 split: ∀a b (p:Nat->Prop),a<n->oj a b=kw->p a-> ¬p b-> ∃x y,x<n∧oj a x=kw∧p x∧e x y=kw∧ ¬p y∧oj y b=kw
def closed(n:Nat)(oj:Nat->Nat->Bool)(done:Nat->Bool):Prop:= ∀a b,a<n->done a=kw->oj a b=kw->done b=kw
def cls(oj:Nat->Nat->Bool)(a b:Nat):Bool:=oj a b&&oj b a
end
end
end Go.Co
namespace Go.Rg
open Go.Wa Go.Co Go.Tj
section
section
variable {α:Type} [Inhabited α]
def ed(V:List α)(g:α->α->Bool)(i j:Nat):Bool:=li (i<V.length)&&li (j<V.length)&&g (V.getD i co) (V.getD j co)
def oj(V:List α)(g:α->α->Bool):Nat->Nat->Bool:=W (ed V g) V.length
theorem Bo{V:List α}{g:α->α->Bool}{i j:Nat}:ed V g i j=kw↔i<V.length∧j<V.length∧g (V.getD i co) (V.getD j co)=kw:=by
 simp[ed,and_assoc]
theorem xv{V:List α}{a:α}(h:a∈V): ∃i,i<V.length∧V.getD i co=a:=by
 obtain⟨i,b,rfl⟩:=RG.1 h;exact⟨i,b,by simp[Qx,b]⟩
theorem get_mem{V:List α}{i:Nat}(h:i<V.length):V.getD i co∈V:=by
 rw[Qx,Qy h];exact Rz h
theorem BG{V:List α}(hn:V.Nodup){g:α->α->Bool}{succ:α->List α}(hs: ∀a∈V,∀b,b∈succ a↔b∈V∧g a b=kw){i j:Nat}(hi:i<V.length)(hj:j<V.length):
  oj V g i j=kw↔mD succ (V.getD i co) (V.getD j co):=by
 have B: ∀{x y:Nat},x<V.length->y<V.length->V.getD x co=V.getD y co->x=y:=by
  intro x y F d h;rw[Qx,Qx,Qy F,Qy d]at h;exact(Tp hn).1 h
 rw[oj,W.iff (n:=V.length) (fun a b _ h=>(Bo.1 h).2.1) hi];constructor
 .intro h;clear hj;have: ∀{a b:Nat},uY (fun a b=>ed V g a b=kw) a b->mD succ (V.getD a co) (V.getD b co):=by
   intro a b h
   induction h with
   |refl a=>exact .refl _
   |step h _ ih=>
    obtain⟨u,A,G⟩:=Bo.1 h;exact(mD.step (.refl _) ((hs _ (get_mem u) _).2 ⟨get_mem A,G⟩)).trans ih
  exact this h
 .intro h;have key: ∀{a b:α},mD succ a b-> ∀x,x<V.length->V.getD x co=a-> ∃y,y<V.length∧V.getD y co=b∧uY (fun a b=>ed V g a b=kw) x y:=by
   intro a b h
   induction h with
   |refl=>exact fun x F I=>⟨x,F,I,.refl _⟩
   |step _ hc ih=>
    intro x F I;obtain⟨y,d,u,A⟩:=ih x F I;subst u;obtain⟨G,S⟩:=(hs _ (get_mem d) _).1 hc;obtain⟨z,J,rfl⟩:=xv G;exact⟨z,J,rfl,A.trans (.step (Bo.2 ⟨d,J,S⟩) (.refl _))⟩
  obtain⟨y,d,u,A⟩:=key h i hi D;have:=B d hj u;subst this;exact A
def uZ(V:List α)(g:α->α->Bool)(ring:α->Int):Prop:= ∀i j,i<V.length->j<V.length->(ring (V.getD i co)=ring (V.getD j co)↔oj V g i j=kw∧oj V g j i=kw)
theorem E6[DecidableEq α]{V:List α}(hn:V.Nodup){g:α->α->Bool}{succ:α->List α}(hs: ∀a∈V,∀b,b∈succ a↔b∈V∧g a b=kw){f:Nat}(hf:V.length<=f):uZ V g (fT succ f V St.o).ring:=by
 intro i j d u;rw[Du (fun a x b hb=>((hs a x b).1 hb).1) hf (get_mem d) (get_mem u),BG hn hs d u,BG hn hs u d]
def OO(V:List α)(succ:α->List α)(ring:α->Int)(D:Int->Bool)(a:α):Bool:=(V.filter fun b=>li (ring b=ring a)).all fun b=>(succ b).all fun c=>li (ring c=ring a)||D (ring c)
def Bp(V:List α)(succ:α->List α)(ring:α->Int):Nat->(Int->Bool)->List (List α)
 |0,_=> []
 |f+1,D=>match V.find? (fun a=>!D (ring a)&&OO V succ ring D a) with
  |none=> []
  |some a=>(V.filter fun b=>li (ring b=ring a))::Bp V succ ring f (fun x=>li (x=ring a)||D x)
end
end
end Go.Rg
namespace Go.Lv
section
variable (e s:Nat->Nat->Bool)
def wt(a b:Nat):Nat:=if s a b then 1 else 0
inductive Nh:Nat->Nat->Nat->Prop
 |nil (a:Nat):Nh a 0 0
 |cons {a b k w:Nat} (h:e a b=kw) (t:Nh b k w):Nh a (k+1) (w+wt s a b)
def rx(h:Nat->Nat)(a b:Nat):Nat->Nat:=if e a b=kw∧h a<h b+wt s a b then fun x=>if x=a then h b+wt s a b else h x else h
def row(h:Nat->Nat)(a:Nat):Nat->(Nat->Nat)
 |0=>h
 |b+1=>rx e s (row h a b) a b
variable {e s}
end
end Go.Lv
namespace Go.Le
open Go.Co Go.Lv
section
variable {n:Nat} {e s oj:Nat->Nat->Bool}
structure Pf (n:Nat) (e s oj:Nat->Nat->Bool) (done:Nat->Bool) (h:Nat->Nat):Prop where
 cl:closed n oj done
 zero: ∀x,done x=lc->h x=0
 PH: ∀a b,a<n->done a=kw->e a b=kw->h b+wt s a b<=h a
 ground: ∀S:Nat->Bool,(∃a,a<n∧done a=kw∧S a=lc)-> ∃x,x<n∧done x=kw∧S x=lc∧(h x=0∨ ∃y,y<n∧S y=kw∧e x y=kw∧h x<=h y+wt s x y)
theorem Pf.nil(n:Nat)(e s oj:Nat->Nat->Bool):Pf n e s oj (fun _=>lc) (fun _=>0):=
 ⟨fun _ _ _ h=>(nomatch h),fun _ _=>rfl,fun _ _ _ h=>(nomatch h),fun _ ⟨_,_,h,_⟩=>(nomatch h)⟩
end
end Go.Le
namespace Go.Or
open Go.Co Go.Lv Go.Le
section
variable {n:Nat} {e s oj:Nat->Nat->Bool}
structure Qo (n:Nat) (oj:Nat->Nat->Bool) (done:Nat->Bool) (cs:List (List Nat)) (x i:Nat) (c:List Nat):Prop where
 at_:cs[i]? =io c
 mem:x∈c
 one: ∀(j:Nat) (c':List Nat),cs[j]? =io c'->x∈c'->j=i
 cl: ∀y,y∈c↔y<n∧cls oj x y=kw
 low: ∀y,y<n->oj x y=kw->done y=kw∨ ∃j c',j<=i∧cs[j]? =io c'∧y∈c'
end
end Go.Or
namespace Go.Proofs.YtflegjieadkonaaGreatDoor
open Go Go.Al
mutual
def named:Lit->List ae
 | .mk k a _ _ _ _ _ _ b _=>if k=1∨k=2 then[a.rel] else if k=4 then fW b else[]
def fW:List Lit->List ae
 | []=> []
 |l::r=>named l++fW r
end
def FA(l:Lit):List ae:=if l.kind=1∨l.kind=2 then[l.atom.rel] else if l.kind=4 then(l.an.filter fun x=>li (x.kind=1∨x.kind=2)).map fun x=>x.atom.rel else[]
theorem mR: ∀l:List Lit,fW l=l.flatMap named
 | []=>rfl
 |x::r=>by simp only[fW,Rl,mR r]
theorem vN: ∀(b:List Lit),(∀x∈b,x.kind≠4)->fW b=(b.filter fun x=>li (x.kind=1∨x.kind=2)).map fun x=>x.atom.rel
 | [],_=>rfl
 | .mk k' a' op' le' ri' af' av' ao' b' at'::b,h=>by
  have j:k'≠4:=h (.mk k' a' op' le' ri' af' av' ao' b' at') (Q3 ..);rw[fW,vN b fun y u=>h y (QR _ u),Sl];by_cases d:k'=1∨k'=2
  .have:li ((Lit.mk k' a' op' le' ri' af' av' ao' b' at').kind=1∨(Lit.mk k' a' op' le' ri' af' av' ao' b' at').kind=2)=kw:=decide_eq_true d;rw[this,named,am d];rfl
  .have:li ((Lit.mk k' a' op' le' ri' af' av' ao' b' at').kind=1∨(Lit.mk k' a' op' le' ri' af' av' ao' b' at').kind=2)=lc:=decide_eq_false d;rw[this,named,be d,be j];rfl
theorem Fz(l:Lit)(h:l.kind=4-> ∀x∈l.an,x.kind≠4):named l=FA l:=by
 obtain⟨k,a,op,le,A,j,y,u,b,at_⟩:=l;show(if k=1∨k=2 then[a.rel] else if k=4 then fW b else[])=if k=1∨k=2 then[a.rel] else if k=4 then(b.filter fun x=>li (x.kind=1∨x.kind=2)).map fun x=>x.atom.rel else[];by_cases d:k=4
 .rw[vN b (h d)]
 .rw[be d,be d]
def lU(l:Lit):Nat:=if l.kind=1 then 1 else 2
def cO(p:Prog):List (ae×ae×Nat):=p.rules.flatMap fun r=>r.body.flatMap fun l=>(named l).map fun t=>(r.head.rel,t,lU l)
def gD(hs:List (ae×ae×Nat))(a b:ae):Nat:=hs.foldl (fun m x=>if x.1=a∧x.2.1=b then max m x.2.2 else m) 0
theorem xL(a b:ae): ∀(hs:List (ae×ae×Nat)) (m:Nat),m<=hs.foldl (fun m x=>if x.1=a∧x.2.1=b then max m x.2.2 else m) m∧(∀k,(a,b,k)∈hs->k<=hs.foldl (fun m x=>if x.1=a∧x.2.1=b then max m x.2.2 else m) m)∧
  (hs.foldl (fun m x=>if x.1=a∧x.2.1=b then max m x.2.2 else m) m=m∨(a,b,hs.foldl (fun m x=>if x.1=a∧x.2.1=b then max m x.2.2 else m) m)∈hs)
 | [],m=>⟨QH _,fun _ h=>(nomatch h),.inl D⟩
 |(x,y,k)::hs,m=>by
  obtain⟨j,u,h3⟩:=xL a b hs (if x=a∧y=b then max m k else m);rw[Rc];refine⟨Rr ?_ j,fun B A=>?_,?_⟩
  .split<;>omega
  .rcases QY.1 A with h|h
   .cases h;refine Rr ?_ j;rw[am ⟨rfl,rfl⟩];exact Nat.le_max_right _ _
   .exact u B h
  .rcases h3 with h3|h3
   .by_cases d:x=a∧y=b
    .rw[am d]at h3;rcases Nat.le_total m k with h4|h4
     .right;rw[T9 h4]at h3;obtain⟨rfl,rfl⟩:=d;simp only[and_self,if_true,T9 h4]at h3 ⊢;rw[h3];simp
     .left;rw[Nat.max_eq_left h4]at h3;simp only[d,and_self,if_true,Nat.max_eq_left h4]at h3 ⊢;exact h3
    .rw[be d]at h3;left;simp only[be d];exact h3
   .exact .inr (QR _ h3)
theorem OL{hs:List (ae×ae×Nat)}{a b:ae}{k:Nat}(h:(a,b,k)∈hs):k<=gD hs a b:=(xL a b hs 0).2.1 k h
theorem OK(hs:List (ae×ae×Nat))(a b:ae):gD hs a b=0∨(a,b,gD hs a b)∈hs:=(xL a b hs 0).2.2
def ns(p:Prog):List ae:=dA (p.aZ.map Decl.name)
theorem qA.MH{l:List ae}(h:qA l):l.Nodup:=by
 refine TC ?_ h;intro a b d e;subst e;exact jE _ d
def eg(p:Prog)(a b:ae):Bool:=li (gD (cO p) a b≠0)
def Gm(p:Prog):Nat->Nat->Bool:=Go.Rg.oj (ns p) (eg p)
theorem E7{p:Prog}(hn:(p.aZ.map Decl.name).Nodup){f:Nat}(hf:(ns p).length<=f):Go.Rg.uZ (ns p) (eg p) (Go.Tj.fT (fun a=>(ns p).filter (eg p a)) f (ns p) Go.Tj.St.o).ring:=
 Go.Rg.E6 (V:=ns p) (qA.MH (gq hn)) (fun a _ b=>by rw[Rn]) hf
def ringEq(p:Prog)(a b:ae):Bool:=(Rh (ns p).length).any fun i=>(Rh (ns p).length).any fun j=>li ((ns p).getD i co=a)&&li ((ns p).getD j co=b)&&Go.Co.cls (Gm p) i j
theorem AT{p:Prog}{a b:ae}:ringEq p a b=kw↔ ∃i j,i<(ns p).length∧j<(ns p).length∧(ns p).getD i co=a∧(ns p).getD j co=b∧Gm p i j=kw∧Gm p j i=kw:=by
 simp only[ringEq,RR,R3,Q5,decide_eq_true_eq,Go.Co.cls];constructor
 .rintro⟨i,hi,j,hj,⟨h1,h2⟩,h3,h4⟩;exact⟨i,j,hi,hj,h1,h2,h3,h4⟩
 .rintro⟨i,j,hi,hj,h1,h2,h3,h4⟩;exact⟨i,hi,j,hj,⟨h1,h2⟩,h3,h4⟩
theorem rK{p:Prog}{ring:ae->Int}(hr:Go.Rg.uZ (ns p) (eg p) ring){a b:ae}(ha:a∈ns p)(hb:b∈ns p):ringEq p a b=li (ring a=ring b):=by
 rw[RS,AT,decide_eq_true_eq];constructor
 .rintro⟨i,j,d,u,rfl,rfl,x,y⟩;exact(hr i j d u).2 ⟨x,y⟩
 .intro h;obtain⟨i,d,rfl⟩:=Go.Rg.xv ha;obtain⟨j,u,rfl⟩:=Go.Rg.xv hb;obtain⟨x,y⟩:=(hr i j d u).1 h;exact⟨i,j,d,u,rfl,rfl,x,y⟩
def xd(p:Prog)(r:ai):Bool:=r.body.any fun l=>li (l.kind=1)&&ringEq p l.atom.rel r.head.rel
def sH(p:Prog)(r:ai):Option Lit:=r.body.find? fun l=>li (l.kind≠1)&&(named l).any fun t=>ringEq p t r.head.rel
def rv(r:ai):Bool:=r.head.ad.any fun t=>li (t.kind=1)&&!aJ (kJ r) t.var
def qC(p:Prog)(r:ai):eN:=match sH p r with
 |some l=>(70,l.at)
 |none=>if rv r=kw∧xd p r=kw then(71,r.at_) else eN.z
def fI(p:Prog):eN:=if(dw p).1≠0 then dw p else((p.rules.map (qC p)).find? fun d=>li (d.1≠0)).getD eN.z
end Go.Proofs.YtflegjieadkonaaGreatDoor
namespace Go.Re
open Go.Tj
section
variable {α:Type}
structure Mid (succ:α->List α) (S T:α->Prop) (a:α) (l:List α):Prop where
 Ou: ∀x,S x->T x
 here:T a
 new: ∀x,T x->S x∨mD succ a x
 next: ∀x,T x->S x∨x=a∨ ∀y∈succ x,T y
 done: ∀y∈l,T y
structure Top (succ:α->List α) (V:α->Prop) (T:α->Prop) (l:List α):Prop where
 new: ∀x,T x-> ∃r∈l,V r∧mD succ r x
 next: ∀x,T x-> ∀y∈succ x,T y
 done: ∀r∈l,V r->T r
end
end Go.Re
namespace Go.Proofs.YtflegjieadkonaaGreatDoor
open Go Go.Al
structure sD (p:Prog):Prop where
 nodup:(p.aZ.map Decl.name).Nodup
 len:p.aZ.length<=64
 Cs: ∀r∈p.rules,r.head.rel∈p.aZ.map Decl.name
 lits: ∀r∈p.rules,∀l∈r.body,∀t∈named l,t∈p.aZ.map Decl.name
 flat: ∀r∈p.rules,∀l∈r.body,l.kind=4-> ∀x∈l.an,x.kind≠4
theorem yQ(p:Prog): ∀n,oX p n=[]-> ∀i,i<n->fM p i=0
 |0,_,i,h=>absurd h (R1 _)
 |n+1,h,i,hi=>by
  rw[oX]at h;obtain⟨d,b⟩:=SH.1 h;rcases RK.1 hi with h3|h3
  .exact yQ p n d i h3
  .subst h3;exact Decidable.byContradiction fun j=>by rw[be j]at b;cases b
theorem rL{d:Decl}{i k:Int}(h:oY d i k=0): ¬i>=64∧ ¬k>0:=by
 unfold oY at h;split at h
 .cases h
 .split at h
  .cases h
  .rename_i b;split at h
   .cases h
   .rename_i j;exact⟨fun g=>b (.inl g),j⟩
theorem tU{α:Type}[Inhabited α]: ∀(n:Nat) (l:List α),l.length=n->(∀i,i<l.length->l.getD i co∉l.take i)->l.Nodup
 |0,l,hn,_=>by rw[S1.1 hn];exact RF
 |n+1,l,hn,h=>by
  have hd:l=l.take n++ [l.getD n co]:=by rw[<-cC (by omega),QM (by omega)]
  have d:=tU n (l.take n) (by rw[RW];omega) fun i u=>by
   rw[RW]at u;have:=h i (by omega);rw[List.take_take,Nat.min_eq_left (by omega),Qx,Rt,am (by omega),<-Qx];exact this
  rw[hd,Sh];refine⟨d,by simp,fun a j b hb e=>?_⟩;rw[QJ]at hb;subst e;subst hb;exact h n (by omega) j
theorem yO{s:ae}: ∀(l:List Decl) (m:DM),eH .str (l.foldl jb m) s=kw->s∈m.map Ra∨s∈l.map Decl.name
 | [],m,h=> .inl (zn.1 h)
 |d::l,m,h=>by
  rw[Rc]at h;rcases yO l _ h with h1|h1
  .unfold jb at h1;split at h1
   .exact .inl h1
   .rename_i b;rw[da (fun g=>b (zn.2 g))]at h1;rcases QK.1 h1 with h3|h3
    .exact .inl h3
    .rw[QJ]at h3;subst h3;exact .inr Q3
  .exact .inr (QR _ h1)
theorem JZ{p:Prog}{a:Atom}(h:uX p a=lc):a.rel∈p.aZ.map Decl.name:=by
 unfold uX at h;rw[Sx]at h;rcases yO p.aZ [] h with h1|h1
 .cases h1
 .exact h1
theorem cX{r:ai}{e:Int}(he:e≠0){f:Int->Bool}{k:eN}(h:(mV r e f k).1=0):(∀lit∈gV r.body.length,f lit=lc)∧k.1=0:=by
 unfold mV at h;split at h
 .exact absurd h he
 .rename_i b;refine⟨fun lit d=>?_,h⟩;have:=Sk.1 b lit d;simpa using this
theorem tA{p:Prog}{r:ai}{n:Int}(h:(ov p r n).1=0):(xw p r).1=0:=by
 unfold ov at h;split at h
 .cases h
 .split at h
  .cases h
  .split at h
   .cases h
   .split at h
    .cases h
    .split at h
     .cases h
     .exact h
theorem Cg(n:Nat):(-1:Int)∈gV n:=RH.2 ⟨0,by simp,by simp⟩
theorem sN{n i:Nat}(h:i<n):(i:Int)∈gV n:=RH.2 ⟨i+1,by simp;omega,by simp⟩
theorem DK{l:Lit}{t:ae}(hf:l.kind=4-> ∀x∈l.an,x.kind≠4)(h:t∈named l): ∃a∈(if l.kind=4 then l.an else[l]).flatMap cD,a.rel=t:=by
 rw[Fz l hf]at h;unfold FA at h;split at h
 .rename_i u;rw[QJ]at h;have b: ¬l.kind=4:=by omega
  refine⟨l.atom,?_,h.symm⟩;rw[be b,SI];exact⟨l,Sc _,by rw[cD,am u];exact Sc _⟩
 .split at h
  .rename_i b;obtain⟨x,y,rfl⟩:=RH.1 h;obtain⟨d,j⟩:=Rn.1 y;refine⟨x.atom,?_,rfl⟩;rw[am b,SI];exact⟨x,d,by rw[cD,am (zT j)];exact Sc _⟩
  .cases h
theorem CE{p:Prog}(h:(dw p).1=0):sD p:=by
 have J:=(px p).1 h;unfold ig at J;obtain⟨B,F⟩:=SH.1 J;have B:=yQ p _ B;have F:=(pQ p _).1 F;have j: ∀r∈p.rules,(xw p r).1=0:=by
  intro r u;obtain⟨i,b,rfl⟩:=RG.1 u;have:=tA (F i b);rwa[Qx,Qy b]at this
 have y: ∀r∈p.rules,∀lit∈gV r.body.length,∀a∈eI r lit,a.rel∈p.aZ.map Decl.name:=by
  intro r u lit A a G;have:=(cX (by decide) (j r u)).1 lit A;exact JZ (by simpa using RD.1 this a G)
 have d: ∀r∈p.rules,∀l∈r.body,l.kind=4-> ∀x∈l.an,x.kind≠4:=by
  intro r u l A Y x hx;obtain⟨i,b,rfl⟩:=RG.1 A;have:=(cX (by decide) (cX (by decide) (cX (by decide) (j r u)).2).2).1 _ (sN b);have e:aj r (i:Int)=r.body[i]:=by unfold aj;simp[Qx,b]
  unfold kH at this;rw[be (by omega),e,am Y,Rq]at this;simpa using RD.1 this.1 x hx
 refine⟨tU _ _ D fun i b S=>?_,?_,fun r u=>?_,fun r u l A t ht=>?_,d⟩
 .rw[Rv]at b;have:=(rL (B i b)).2;rw[bf]at this;have I:oq (fy p i) (p.aZ.getD i co).name=0:=by omega
  rw[ry]at I;apply I;unfold fy;rw[Qx,QC,Qy b,<-List.map_take]at S;rw[Qx,Qy b];exact S
 .refine Su fun Z=>?_
  have:=(rL (B 64 Z)).1;omega
 .exact y r u (-1) (Cg _) r.head (by unfold eI;simp)
 .obtain⟨i,b,rfl⟩:=RG.1 A;obtain⟨a,G,rfl⟩:=DK (d r u _ A) ht;refine y r u _ (sN b) a ?_;have e:aj r (i:Int)=r.body[i]:=by unfold aj;simp[Qx,b]
  unfold eI xy;rw[be (by omega),e];exact G
theorem sD.cO{p:Prog}(h:sD p){x:ae×ae×Nat}(d:x∈cO p):x.1∈p.aZ.map Decl.name∧x.2.1∈p.aZ.map Decl.name∧0<x.2.2:=by
 simp only[_root_.Go.Proofs.YtflegjieadkonaaGreatDoor.cO,SI,RH]at d;obtain⟨r,b,l,j,t,u,rfl⟩:=d;refine⟨h.Cs r b,h.lits r b l j t u,?_⟩;show 0<lU l;unfold lU;split<;>omega
abbrev GM:=List ((KC.str).K×Option NM)
def DC:Option NM->IV
 |none=> .v (.map jp)
 |some r=>yf r
abbrev wb(m:GM):IV:= .du .str DC jp (.map jp) m
def Eg(row:NM)(t:ae)(b:Int):NM:=cj .str row t (max (bG .str row t 0) b)
def iZ(hs:List (ae×ae×Nat))(a:ae):NM:=hs.foldl (fun row x=>if x.1=a then Eg row x.2.1 x.2.2 else row) []
def b5(p:Prog)(hs:List (ae×ae×Nat)):GM:=p.aZ.map fun r=>(r.name,io (iZ hs r.name))
def ui(p:Prog):IV:=if(dw p).1=0 then wb (b5 p (cO p)) else .v (.map jp)
theorem nT(hs:List (ae×ae×Nat))(x:ae×ae×Nat)(a:ae):iZ (hs++ [x]) a=if x.1=a then Eg (iZ hs a) x.2.1 x.2.2 else iZ hs a:=by
 simp[iZ,Sp]
theorem vB(hs:List (ae×ae×Nat))(a:ae):((iZ hs a).map Ra).Nodup∧ ∀b:ae,b∈(iZ hs a).map Ra↔ ∃k,(a,b,k)∈hs:=by
 induction hs using pM with
 |h0=>exact⟨RF,fun b=>by simp[iZ]⟩
 |h1 hs x ih=>
  obtain⟨A,d⟩:=ih;obtain⟨y,z,k⟩:=x;rw[nT];by_cases h:y=a
  .rw[am h,Eg];by_cases B:z∈(iZ hs a).map Ra
   .rw[lT B];refine⟨A,fun b=>?_⟩;rw[d];constructor
    .rintro⟨j,hj⟩;exact⟨j,Q8 _ hj⟩
    .rintro⟨j,hj⟩;rcases QK.1 hj with hj|hj
     .exact⟨j,hj⟩
     .rw[QJ]at hj;cases hj;exact(d z).1 B
   .rw[da B];refine⟨Sh.2 ⟨A,by simp,fun u hu v F e=>?_⟩,fun b=>?_⟩
    .rw[QJ]at F;subst e;subst F;exact B hu
    .rw[QK,d,QJ];constructor
     .rintro(⟨j,hj⟩|rfl)
      .exact⟨j,Q8 _ hj⟩
      .exact⟨k,RA _ (by rw[h];exact Sc _)⟩
     .rintro⟨j,hj⟩;rcases QK.1 hj with hj|hj
      .exact .inl ⟨j,hj⟩
      .rw[QJ]at hj;cases hj;exact .inr D
  .rw[be h];refine⟨A,fun b=>?_⟩;rw[d];constructor
   .rintro⟨j,hj⟩;exact⟨j,Q8 _ hj⟩
   .rintro⟨j,hj⟩;rcases QK.1 hj with hj|hj
    .exact⟨j,hj⟩
    .rw[QJ]at hj;cases hj;exact absurd D h
theorem E4(hs:List (ae×ae×Nat))(a:ae):(iZ hs a).length<=hs.length:=by
 induction hs using pM with
 |h0=>exact QH _
 |h1 hs x ih=>
  rw[nT,Qv,Rp];split
  .have:=tJ (iZ hs a) x.2.1 (max (bG .str (iZ hs a) x.2.1 0) x.2.2);unfold Eg;omega
  .omega
def bh(p:Prog)(a:ae):List ae:=(ns p).filter (eg p a)
theorem yv{p:Prog}(h:sD p)(a:ae):dA ((iZ (cO p) a).map Ra)=bh p a:=by
 refine lJ (gq (vB _ _).1) (List.Pairwise.filter _ (gq h.nodup)) fun b=>?_;rw[jn,(vB _ _).2,bh,Rn,ns,jn,eg,decide_eq_true_eq];constructor
 .rintro⟨k,hk⟩;have d:=h.cO hk;refine⟨d.2.1,?_⟩;have:=OL hk;have h2:0<k:=d.2.2;omega
 .rintro⟨_,d⟩;rcases OK (cO p) a b with h2|h2
  .exact absurd h2 d
  .exact⟨_,h2⟩
theorem FX(p:Prog)(hs:List (ae×ae×Nat)){a:ae}(h:a∈p.aZ.map Decl.name):bG .str (b5 p hs) a jp=io (iZ hs a):=by
 unfold b5
 revert h
 generalize p.aZ=l
 induction l with
 |nil=>intro h;cases h
 |cons d l ih=>
  intro h;simp only[Q4,bG];by_cases e:d.name=a
  .rw[am e,e]
  .rw[be e];rw[Q4,QY]at h;exact ih (h.resolve_left fun g=>e g.symm)
theorem Bg(p:Prog)(hs:List (ae×ae×Nat)):(b5 p hs).map Ra=p.aZ.map Decl.name:=by
 simp[b5]
theorem rS{b:List Lit}{i:Nat}(h:i<b.length):fW (b.take (i+1))=fW (b.take i)++named (b.getD i co):=by
 rw[mR,mR,cC h,Te];simp
mutual
theorem kZ: ∀l:Lit,(named l).length<=l.size
 | .mk k a op le ri af av ao b at_=>by
  have:=o9 b;unfold named Lit.size;split
  .simp;omega
  .split
   .omega
   .simp
theorem o9: ∀l:List Lit,(fW l).length<=Lit.az l
 | []=>QH _
 |l::r=>by
  have b:=kZ l;have d:=o9 r;simp only[fW,Lit.az,Qv];omega
end
theorem DJ(b:List Lit)(i:Nat):(fW (b.take i)).length<=Lit.az b:=by
 have d:=o9 (b.take i);have j: ∀(b:List Lit) (i:Nat),Lit.az (b.take i)<=Lit.az b:=by
  intro b
  induction b with
  |nil=>intro i;simp[Lit.az]
  |cons x r ih=>
   intro i;cases i with
   |zero=>simp[Lit.az]
   |succ i=>have:=ih i;simp only[RY,Lit.az];omega
 exact Rr d (j b i)
def Nn(n:Nat):Prop:= ∀l:Lit,l.size<=n->Pure Tryz.prog 90 [ag l.c] (.iv (strs (named l)))
theorem p4(l:Lit):named l=if l.kind=1∨l.kind=2 then[l.atom.rel] else if l.kind=4 then fW l.an else[]:=by cases l;rfl
theorem E1: ∀n:Nat,n<=100000000000->Nn n
 |0,_=>fun l h=>absurd l.size_pos (by omega)
 |n+1,hn=>fun l h=>by
  have F:=l.size_eq;refine Al.Pure.le (aa:=[ag l.c]) (args:=[ag l.c1]) ?_ ⟨l.Bb,ac⟩;refine ar ab Tryz.func90 D (by decide) Tryz.ntmps90 D (by simp) D ?_;refine zJ D D (fun d=>?_) fun d=>?_
  .have d:l.kind=1:=by simpa using d
   rw[p4,am (.inl d)];refine gA D (fS (by first|exact .inr D|exact .inl D) D D (rfl) (rfl))
  have d: ¬l.kind=1:=by simpa using d
  refine zJ D D (fun j=>?_) fun j=>?_
  .have j:l.kind=2:=by simpa using j
   rw[p4,am (.inr j)];refine gA D (fS (by first|exact .inr D|exact .inl D) D D (rfl) (rfl))
  have j: ¬l.kind=2:=by simpa using j
  rw[p4,be (by rintro(g|g);exact d g;exact j g)];refine zE D D (fun u=>?_) fun u=>?_
  .have u: ¬l.kind=4:=by simpa using u
   rw[be u];refine gA D (zL ?_);exact .nil _ _
  have u:l.kind=4:=by simpa using u
  rw[am u];refine gA D ?_;refine nX 3 1 D ?_;refine aD 0 l.an.length (QN _) (fun i=>⟨[(3,.sl 2 0 (fW (l.an.take i)).length 1),(19,.iv (lits l.an)),(20,pI l.an.length),(21,pI i)],[(2,io (aW 1 (fW (l.an.take i)) bR))],3⟩) (fun _=>True) [1] ac
   (zW (zS trivial)) fun i G _=>?_
  have y:=DJ l.an i;have x:=Lit.aA l.an;refine zJ D D (fun b=>?_) fun b=>?_
  .have b:=bv b;have A:=Lit.aV l.an i b;have B:=kZ (l.an.getD i co);refine gA D (zp (E1 n (by omega) (l.an.getD i co) (by omega)) ?_);refine gA D ⟨b,ac,[4],zM ⟨.row (by rw[rS b,Qv]),rfl,bi (bi (bi ac))⟩ (hR D (by rw[nR,rS b,QO]) D ac)⟩
  .have b:=ci b;rw[QM b];refine gA D (fS (by first|exact .inr D|exact .inl D) D D (rfl) (rfl))
theorem BY(l:Lit)(h:l.size<=100000000000):Pure Tryz.prog 90 [ag l.c] (.iv (strs (named l))):=E1 l.size h l (QH _)
end Go.Proofs.YtflegjieadkonaaGreatDoor
namespace Go.Proofs.YtflegjieadkonaaGreatDoor
open Go Go.Al Go.Proofs.Tryz
section
theorem K7(x:gX)(el:Nat->List IV):Pure prog 91 [.iv (.c5 1 0 el)] (.bB []):=by
 refine⟨bY func91 D (by decide),fun M N w u y d A=>?_⟩;obtain⟨v,rfl⟩: ∃v,u=[v]:=by
  cases u with
  |nil=>cases d
  |cons v r=>cases r with
   |nil=>exact⟨v,rfl⟩
   |cons a b=>simp at d
 have j:=A 0 _ D;simp only[List.getD_cons_zero]at j;obtain⟨a,a0,rfl⟩: ∃a a0,v= .slice a 0 a0:=by
  cases j with
  |iv _ _ h=>cases h with
   |iA _ _ a a0=>exact⟨a,a0,rfl⟩
   |c5 _ _ _ b off a0=>exact⟨_,a0,rfl⟩
 refine(x.2 a a0 w).mono ?_;rintro e B ⟨rfl,rfl⟩;exact⟨_,M,N,.bB [],_,_,rfl,⟨rfl,rfl,rfl⟩,.refl _ _ _ _ _,y,.bB [] #[] D (by simp)⟩
section
variable {V:Type}
def Cn(m:List ((KC.str).K×V))(vs:List Nat):List ae:=fY (m.map fun x=>(x.1,0)) vs
theorem zk(m:List ((KC.str).K×V))(vs:List Nat)(j:Nat)(x:(KC.str).K×V)(h:m[j]? =io x):Cn m (j::vs)=Cn m vs++ [x.1]:=
 ko _ _ _ (x.1,0) (by rw[QC,h];rfl)
theorem Cm(m:List ((KC.str).K×V))(vs:List Nat)(hn:vs.Nodup)(hb: ∀j∈vs,j<m.length)(b: ∀j,j<m.length->j∈vs):(Cn m vs).Perm (m.map (·.1)):=by
 have:=jH (m.map fun x=>(x.1,(0:Int))) vs hn (by simpa using hb) (by simpa using b);rw[List.map_map]at this;exact this
theorem Cl(m:List ((KC.str).K×V))(vs:List Nat):(Cn m vs).length<=vs.length:=ud _ _
end
def DB(i:Nat):List ae->PV
 | []=> .sl i 1 0 1
 |x::r=> .sl i 0 (x::r).length 1
def vb(n:Nat):List ae->AO
 | []=> .row 1 (SM n [pS Qz])
 |x::r=>aW 1 (x::r) bR
theorem vJ(i:Nat)(l:List ae)(s:ae):DB i (l++ [s])= .sl i 0 (l.length+1) 1:=by cases l<;>simp[DB]
theorem vK(n:Nat)(l:List ae)(s:ae):vb n (l++ [s])=aW 1 (l++ [s]) bR:=by cases l<;>rfl
theorem y0{i:Nat}{l:List ae}(h:l≠ []):DB i l= .sl i 0 l.length 1:=by cases l with
 |nil=>exact absurd D h
 |cons=>rfl
theorem y1{n:Nat}{l:List ae}(h:l≠ []):vb n l=aW 1 l bR:=by cases l with
 |nil=>exact absurd D h
 |cons=>rfl
theorem Fi(n:Nat)(l:List ae)(k:Nat):(vb n l).low k:=by
 cases l with
 |nil=>
  intro j e b;rw[S0]at b;split at b
  .cases b;rfl
  .cases b
 |cons x r=>exact dB k
theorem Fh(n:Nat)(l:List ae)(σ:Nat->Nat):(vb n l).cx σ=vb n l:=by
 cases l with
 |nil=>simp only[vb,AO.cx];rw[List.map_replicate];rfl
 |cons x r=>exact bD σ
theorem hO{h r:AH}{σ:Nat->Nat}{i n m:Nat}{o:AO}{l:List ae}(ho:h.get (σ i)=io o)(he:o=vb m l)(hi:QZ i n=kw)(hr:mg n σ h r):mg n σ h ((i,io (vb m l))::r):=
 ⟨⟨_,ho,.of_eq (by rw[Fh,he])⟩,Qs hi,Fi m l n,hr⟩
theorem pY(i:Nat)(l:List ae){n:Nat}(h:QZ i n=kw):(DB i l).low n=kw:=by cases l<;>exact h
theorem EY(Z:gX)(m:NM)(hm:m.length<=100000000):Pure prog 52 [.iv (yf m)] (.iv (strs (dA (m.map (·.1))))):=by
 refine ar ab func52 D (by decide) ntmps52 D (by simp) D ?_;rcases Nat.eq_zero_or_pos m.length with h0|h0
 .have h0:=S1.1 h0;subst h0;refine gA D (Bj ab 1 (fun k=>bR (([]:List ae).getD k co)) D D D D D D D D D D ?_);refine gA D ?_;refine fZ ([]:List ((KC.str).K×Int)) (fun _=>⟨[(3,.iv (.c5 1 0 (fun k=>bR (([]:List ae).getD k co)))),(9,.ptr 1 0)],[(1,io (.bQ .str wo ([]:List ((KC.str).K×Int)) [] jp))],2⟩) (fun _=>True) [] ac
   (zW (hI D D (.inl D) D trivial)) fun b _=>?_
  refine mu D ac (ei D D D D D (by decide) (fun _=>?_) fun j x B _=>?_)
  .refine gA D (dr (K7 Z _) D D D D D D ?_);refine gA D (zL ?_);exact .of_eq (show _=PV.iv (strs (dA [])) by rw[nS];rfl)
  .cases B
 refine gA D (F3 ab m.length 0 D D D D D D D D D h0 (by omega) (by show 16*m.length<=_;omega) D (by decide) D (.inl ⟨rfl,rfl⟩) D ?_);refine gA D ?_;refine fZ m (fun b=>⟨[(3,DB 2 (Cn m b)),(9,.ptr 1 0)],[(1,io (.bQ .str wo m b jp)),(2,io (vb m.length (Cn m b)))],3⟩) (fun b=>b.Nodup∧ ∀j∈b,j<m.length) [0] ⟨RF,by simp⟩
  (zW (hI D D (.inl D) D (hO D D D trivial))) fun b hJ=>?_
 obtain⟨u,y⟩:=hJ;have Y:=tW u y;have G:=Cl m b;refine mu D ac (ei D D D D D (by decide) (fun F=>?_) fun j x B J=>?_)
 .have S:=Cm m b u y F;have I:Cn m b≠ []:=fun e=>by
   have:=S.length_eq;rw[e,Rv]at this;simp at this;omega
  rw[y0 I,y1 I];refine mu D ac (bc [2] (GR Z (Cn m b) (by omega)) D D D D D (congrArg (fun o=> [io o]) (bD _).symm) D D ?_);refine mu D ac (fS (.inr D) D D ((tB _ _).trans (by rw[oS S])) ?_);rw[jk,<-S.length_eq]
 .have A:=zk m b j x B;have a0: ∀d,d=j::b->d.Nodup∧ ∀i∈d,i<m.length:=fun d e=>e▸⟨RT.2 ⟨J,u⟩,fun i hi=>(QY.1 hi).elim (fun h=>h▸(Qw.1 B).1) (y i)⟩
  cases hl:Cn m b with
  |nil=>
   rw[hl,Sa]at A;refine gA D (xJ ab D D D D D D D D D (by simp;omega) (by simp) (jZ D) D ?_);refine gA D ?_;exact⟨j,x,B,J,a0 _ D,[4],zM ⟨.of_eq (by rw[A];rfl),pY 2 _ D,.refl _,rfl,ac⟩ (hI D D (.inr D) D (hO D (by rw[A];rfl) D ac))⟩
  |cons a r=>
   rw[hl]at A G;have b0:(r.length+1)<=m.length:=by simpa using Rr G Y
   refine gA D ⟨j,x,B,J,a0 _ D,[4],zM ⟨.of_eq (by rw[A,vJ];rfl),pY 2 _ D,.refl _,rfl,ac⟩ (hI D D (.inr D) D (hO D (by rw[A,vK,aW,QO];rfl) D ac))⟩
theorem EZ(Z:gX)(m:GM)(hm:m.length<=100000000):Pure prog 51 [.iv (wb m)] (.iv (strs (dA (m.map (·.1))))):=by
 refine ar ab func51 D (by decide) ntmps51 D (by simp) D ?_;rcases Nat.eq_zero_or_pos m.length with h0|h0
 .have h0:=S1.1 h0;subst h0;refine gA D (Bj ab 1 (fun k=>bR (([]:List ae).getD k co)) D D D D D D D D D D ?_);refine gA D ?_;refine fZ ([]:List ((KC.str).K×Option NM)) (fun _=>⟨[(3,.iv (.c5 1 0 (fun k=>bR (([]:List ae).getD k co)))),(9,.ptr 1 0)],[(1,io (.bQ .str DC ([]:List ((KC.str).K×Option NM)) [] jp))],2⟩) (fun _=>True) [] ac
   (zW (hI D D (.inl D) D trivial)) fun b _=>?_
  refine mu D ac (ei D D D D D (by decide) (fun _=>?_) fun j x B _=>?_)
  .refine gA D (dr (K7 Z _) D D D D D D ?_);refine gA D (zL ?_);exact .of_eq (show _=PV.iv (strs (dA [])) by rw[nS];rfl)
  .cases B
 refine gA D (F3 ab m.length 0 D D D D D D D D D h0 (by omega) (by show 16*m.length<=_;omega) D (by decide) D (.inl ⟨rfl,rfl⟩) D ?_);refine gA D ?_;refine fZ m (fun b=>⟨[(3,DB 2 (Cn m b)),(9,.ptr 1 0)],[(1,io (.bQ .str DC m b jp)),(2,io (vb m.length (Cn m b)))],3⟩) (fun b=>b.Nodup∧ ∀j∈b,j<m.length) [0] ⟨RF,by simp⟩
  (zW (hI D D (.inl D) D (hO D D D trivial))) fun b hJ=>?_
 obtain⟨u,y⟩:=hJ;have Y:=tW u y;have G:=Cl m b;refine mu D ac (ei D D D D D (by decide) (fun F=>?_) fun j x B J=>?_)
 .have S:=Cm m b u y F;have I:Cn m b≠ []:=fun e=>by
   have:=S.length_eq;rw[e,Rv]at this;simp at this;omega
  rw[y0 I,y1 I];refine mu D ac (bc [2] (GR Z (Cn m b) (by omega)) D D D D D (congrArg (fun o=> [io o]) (bD _).symm) D D ?_);refine mu D ac (fS (.inr D) D D ((tB _ _).trans (by rw[oS S])) ?_);rw[jk,<-S.length_eq]
 .have A:=zk m b j x B;have a0: ∀d,d=j::b->d.Nodup∧ ∀i∈d,i<m.length:=fun d e=>e▸⟨RT.2 ⟨J,u⟩,fun i hi=>(QY.1 hi).elim (fun h=>h▸(Qw.1 B).1) (y i)⟩
  cases hl:Cn m b with
  |nil=>
   rw[hl,Sa]at A;refine gA D (xJ ab D D D D D D D D D (by simp;omega) (by simp) (jZ D) D ?_);refine gA D ?_;exact⟨j,x,B,J,a0 _ D,[4],zM ⟨.of_eq (by rw[A];rfl),pY 2 _ D,.refl _,rfl,ac⟩ (hI D D (.inr D) D (hO D (by rw[A];rfl) D ac))⟩
  |cons a r=>
   rw[hl]at A G;have b0:(r.length+1)<=m.length:=by simpa using Rr G Y
   refine gA D ⟨j,x,B,J,a0 _ D,[4],zM ⟨.of_eq (by rw[A,vJ];rfl),pY 2 _ D,.refl _,rfl,ac⟩ (hI D D (.inr D) D (hO D (by rw[A,vK,aW,QO];rfl) D ac))⟩
end
end Go.Proofs.YtflegjieadkonaaGreatDoor
namespace Go.Proofs.YtflegjieadkonaaGreatDoor
open Go Go.Al
def Py(b:Option Nat):IV:= .v (.map b)
def dvR(p:PV):Option Nat:=match p with
 | .iv (.v (.map b))=>b
 |_=>jp
abbrev RM:=List ((KC.str).K×Option Nat)
abbrev gO(m:RM):AO:= .map .str Py jp (.map jp) dvR m
abbrev yi:=Nat×Nat
def jB(l:List Decl)(B:List yi):RM:=TM (fun d b=>(d.name,io b.1)) l B
def dF(L:List (Nat×Nat×NM)):aX:=fun b=>(L.find? fun y=>y.1==b).map fun y=> .obj (bI y.2.2) y.2.1
theorem gr(L:List (Nat×Nat×NM)):(dF L).still:=by
 intro b i e h;unfold dF at h;cases hf:L.find? fun y=>y.1==b<;>rw[hf]at h<;>cases h
def rowsOf(l:List Decl)(B:List yi)(hs:List (ae×ae×Nat)):List (Nat×Nat×NM):=TM (fun d b=>(b.1,b.2,iZ hs d.name)) l B
theorem DN{V:Type}{kc:KC}{ev:V->IV}{z:V}{b:Value}{d:PV->V}(x: ∀M,IR M (ev z) b):eJ .fg (.map kc ev z b d []):=
 ⟨id,fun M N U w j u=>⟨#[],0,u,⟨rfl,by simp,by simp,by simp,by simp⟩,x M⟩⟩
structure BOK (l:List Decl) (i:Nat) (B:List yi):Prop where
 len:B.length=i
 nd:(B.map Ra).Nodup
theorem yS(l:List Decl):jB l []=[]:=by cases l<;>rfl
theorem tC(l:List Decl)(hs:List (ae×ae×Nat)):rowsOf l [] hs=[]:=by cases l<;>rfl
theorem AG(l:List Decl)(hs:List (ae×ae×Nat)):dF (rowsOf l [] hs)=aX.nil:=by rw[tC];rfl
theorem s4{α β γ:Type}[Inhabited α](f:α->β->γ): ∀(l:List α) (B:List β) (x:β),B.length<l.length->TM f l (B++ [x])=TM f l B++ [f (l.getD B.length co) x]
 |a::l,[],x,_=>by simp
 |a::l,b::B,x,h=>by
  have:=s4 f l B x (by simpa using h);simp[this]
 | [],B,x,h=>absurd h (R1 _)
theorem Ja{B:List yi}{b e:Nat}(h:(B.map Ra).Nodup)(hb:b∉B.map Ra):((B++ [(b,e)]).map Ra).Nodup:=by
 rw[QO,Sh];exact⟨h,by simp,fun u hu v d g=>hb (by simp at d;subst g;subst d;exact hu)⟩
theorem mL(hs:List (ae×ae×Nat)): ∀(l:List Decl) (B:List yi),B.length<=l.length->(rowsOf l B hs).map Ra=B.map Ra
 |_,[],_=>by simp[tC]
 |d::l,b::B,h=>by
  have:=mL hs l B (by simpa using h);simp only[rowsOf,TN,Q4]at this ⊢;rw[this]
 | [],b::B,h=>absurd h (by simp)
theorem Dn{l:List Decl}{B:List yi}{hs:List (ae×ae×Nat)}{b:Nat}(d:B.length<=l.length)(h:dF (rowsOf l B hs) b=jp):b∉B.map Ra:=by
 rw[<-mL hs l B d];intro j;obtain⟨y,u,rfl⟩:=RH.1 j;unfold dF at h;rw[SF,Sk]at h;exact h y u (by simp)
theorem yG(L:List (Nat×Nat×NM))(y:Nat×Nat×NM)(h:y.1∉L.map Ra):dF (L++ [y])=(dF L).put y.1 (.obj (bI y.2.2) y.2.1):=by
 funext c
 unfold dF aX.put;rw[List.find?_append];by_cases b:c=y.1
 .subst b;rw[am D];have:L.find? (fun z=>z.1==y.1)=jp:=Sk.2 fun z d=>by
   simp only[beq_iff_eq];exact fun e=>h (e▸SY d)
  rw[this];simp
 .rw[be b];have: ¬y.1=c:=fun e=>b e.symm;cases hf:L.find? (fun z=>z.1==c)<;>simp[this,hf]
theorem Dm{l:List Decl}{B:List yi}{b e:Nat}(d:B.length<l.length)(hb:b∉B.map Ra):dF (rowsOf l (B++ [(b,e)]) [])=(dF (rowsOf l B [])).put b (.obj (bI []) e):=by
 have h:rowsOf l (B++ [(b,e)]) []=rowsOf l B []++ [(b,e,[])]:=s4 _ l B (b,e) d;rw[h];exact yG _ _ (by rw[mL _ _ _ (Nat.le_of_lt d)];exact hb)
theorem yR: ∀(l:List Decl) (B:List yi),B.length<=l.length->(jB l B).map Ra=(l.take B.length).map Decl.name
 |_,[],_=>by simp[yS]
 |d::l,b::B,h=>by
  have:=yR l B (by simpa using h);simp only[jB,TN,Q4,Rf,RY]at this ⊢;rw[this]
 | [],b::B,h=>absurd h (by simp)
theorem IY{V:Type}{m:List ((KC.str).K×V)}{s:ae}{v:V}(h:s∉m.map Ra):cj .str m s v=m++ [(s,v)]:=by
 induction m with
 |nil=>rfl
 |cons x r ih=>
  obtain⟨a,c⟩:=x;simp only[Q4,QY,not_or]at h;have: ¬a=s:=fun e=>h.1 e.symm;simp only[cj,be this,ih h.2];rfl
theorem Fa{l:List Decl}{B:List yi}{i b e:Nat}(hn:(l.map Decl.name).Nodup)(hi:B.length=i)(d:i<l.length):cj .str (jB l B) (l.getD i co).name (io b)=jB l (B++ [(b,e)]):=by
 subst hi;have h:jB l (B++ [(b,e)])=jB l B++ [((l.getD B.length co).name,io b)]:=s4 _ l B (b,e) d;rw[h];apply IY;rw[yR l B (Nat.le_of_lt d)];intro u;have j:l.map Decl.name=(l.take B.length).map Decl.name++(l.drop B.length).map Decl.name:=by rw[<-QO,S6]
 rw[j,Sh]at hn;refine hn.2.2 _ u _ (RH.2 ⟨l.getD B.length co,?_,rfl⟩) D;rw[Qx,Qy d];exact List.mem_drop_iff_getElem.2 ⟨0,by simpa using d,by simp⟩
def qk(r:ai)(l:Lit):List (ae×ae×Nat):=(named l).map fun t=>(r.head.rel,t,lU l)
def Ct(r:ai):List (ae×ae×Nat):=r.body.flatMap (qk r)
theorem CF: ∀{L:List (Nat×Nat×NM)} {j:Nat} {y:Nat×Nat×NM},(L.map Ra).Nodup->L[j]? =io y->L.find? (fun z=>z.1==y.1)=io y
 | [],_,_,_,h=>by simp at h
 |x::L,0,y,_,h=>by
  simp only[Th,Qu]at h;subst h;simp
 |x::L,j+1,y,hn,h=>by
  rw[SZ]at h;rw[Q4,RT]at hn;have b: ¬x.1=y.1:=fun e=>hn.1 (e▸SY (Rk h));rw[TO (by simpa using b)];exact CF hn.2 h
theorem pN{l:List Decl}{B:List yi}{hs:List (ae×ae×Nat)}{j:Nat}{d:Decl}{b:yi}(x:B.length=l.length)(hn:(B.map Ra).Nodup)(hd:l[j]? =io d)(hb:B[j]? =io b):dF (rowsOf l B hs) b.1=io (.obj (bI (iZ hs d.name)) b.2):=by
 have h:(rowsOf l B hs)[j]? =io (b.1,b.2,iZ hs d.name):=by
  unfold rowsOf;rw[TU,hd,hb]
 have u:=CF (by rw[mL hs l B (T5 x)];exact hn) h;unfold dF;rw[u];rfl
theorem yF{l:List Decl}{B:List yi}{hs:List (ae×ae×Nat)}{c:Nat}(b:B.length<=l.length)(h:c∉B.map Ra):dF (rowsOf l B hs) c=jp:=by
 rw[<-mL hs l B b]at h;unfold dF;rw[SF,Sk];intro y d;simp only[beq_iff_eq];exact fun e=>h (e▸SY d)
theorem Dl{l:List Decl}{B:List yi}{hs:List (ae×ae×Nat)}{j h:Nat}{d:Decl}{b:yi}{t:ae}(x:B.length=l.length)(hn:(B.map Ra).Nodup)(Y:(l.map Decl.name).Nodup)(hd:l[j]? =io d)(hb:B[j]? =io b):
  (dF (rowsOf l B hs)).put b.1 (.obj (bI (Eg (iZ hs d.name) t h)) b.2)=dF (rowsOf l B (hs++ [(d.name,t,h)])):=by
 funext c
 unfold aX.put;by_cases A:c=b.1
 .subst A;rw[am D,pN x hn hd hb,nT,am D]
 .rw[be A];by_cases S:c∈B.map Ra
  .obtain⟨b',y,rfl⟩:=RH.1 S;obtain⟨i,F,rfl⟩:=RG.1 y;have u:i<l.length:=by omega
   have G:i≠j:=fun e=>A (by subst e;rw[Qy F]at hb;cases hb;rfl);rw[pN x hn (Qy u) (Qy F),pN x hn (Qy u) (Qy F),nT,be];intro e;have Z:=(Qw.1 hd)
   obtain⟨I,J⟩:=Z;apply G;refine(Tp Y (h₀:=by simpa using u) (h₁:=by simpa using I)).1 ?_;rw[Tq,Tq,J];exact e.symm
  .rw[yF (T5 x) S,yF (T5 x) S]
theorem Mu{l:List Decl}{B:List yi}{a:ae}(x:B.length=l.length)(u:(l.map Decl.name).Nodup)(ha:a∈l.map Decl.name): ∃(j:Nat) (d:Decl) (b:yi),l[j]? =io d∧B[j]? =io b∧d.name=a∧bG .str (jB l B) a jp=io b.1:=by
 induction l generalizing B with
 |nil=>cases ha
 |cons d l ih=>
  cases B with
  |nil=>cases x
  |cons b B=>
   by_cases h:d.name=a
   .exact⟨0,d,b,rfl,rfl,h,by simp[jB,bG,h]⟩
   .rw[Q4,RT]at u;rw[Q4,QY]at ha;obtain⟨j,A,y,F,G,I,J⟩:=ih (by simpa using x) u.2 (ha.resolve_left fun e=>h e.symm);exact⟨j+1,A,y,F,G,I,by simpa[jB,bG,h]using J⟩
def dvG(_:PV):Option NM:=jp
theorem Es{p:Prog}{B:List yi}(u:B.length=p.aZ.length)(hn:(B.map Ra).Nodup){hs:List (ae×ae×Nat)}:J0 (dF (rowsOf p.aZ B hs)) (gO (jB p.aZ B)) (.map .str DC jp (.map jp) dvG (b5 p hs)):=by
 refine .map _ _ _ _ _ _ _ _ _ _ (by simp[b5,jB,u]) (fun j F x=>?_) fun M=> .v _
 obtain⟨d,hd,rfl⟩: ∃d,p.aZ[j]? =io d∧F=(d.name,io (iZ hs d.name)):=by
  unfold b5 at x;rw[QC,QF]at x;obtain⟨d,y,A⟩:=x;exact⟨d,y,A.symm⟩
 have b:j<B.length:=by rw[u];exact(Qw.1 hd).1
 refine⟨(d.name,io B[j].1),.map (io B[j].1),?_,rfl,rfl,?_⟩
 .unfold jB;rw[TU,hd,Qy b]
 .refine .map B[j].1 B[j].2 .str wo 0 (.int .i64 0) Pn (iZ hs d.name) ?_;exact pN u hn hd (Qy b)
theorem La(hS:gX)(p:Prog)(hb:p.fit):Pure Tryz.prog 50 [ag p.c] (.bB [.iv (ui p),pB (li ((dw p).1=0))]):=by
 refine ar ab Tryz.func50 D (by decide) Tryz.ntmps50 D (by simp) D ?_;refine gA D (zp (c24 p hb) ?_);refine zJ D D (fun S=>?_) fun S=>?_
 .have S: ¬(dw p).1=0:=by simpa using S
  rw[ui,be S,decide_eq_false S];exact zU D
 have S:(dw p).1=0:=by simpa using S
 have hf:=CE S;have w0:=hf.len;rw[ui,am S,decide_eq_true S];refine gM 1 D ?_;refine Li ?_;refine bP (fi ?_);refine gA D ?_;refine bP (bP (ph ⟨[(1,.ptr 0 0),(4,.mp 2),(20,.iv (de 4 p.aZ Decl.c)),(21,pI p.aZ.length),(22,pI 0)],[(0,io (au p.c)),(2,io (gO []))],3⟩ ?_ ?_))
 .refine gA D (kv [1] ?_);exact zW (zK (DV D (fun _=> .v _) D ac))
 refine eC (rh 0 p.aZ.length (QN _) (fun i (x:ULift.{1} (List yi))=>⟨[(1,.ptr 0 0),(4,.mp 2),(20,.iv (de 4 p.aZ Decl.c)),(21,pI p.aZ.length),(22,pI i)],[(0,io (au p.c)),(2,io (gO (jB p.aZ x.down)))],3⟩)
  (fun i x Y=>BOK p.aZ i x.down∧Y=dF (rowsOf p.aZ x.down [])) ⟨[]⟩ [] ⟨⟨rfl,RF⟩,(AG p.aZ []).symm⟩
  (zW (zK (hM D (yS p.aZ).symm D ac))) (fun _ _ _ h=>h.2▸gr _) fun i x Y hi hJ=>?_)
 obtain⟨hB,rfl⟩:=hJ;obtain⟨B⟩:=x;refine bP (fi ?_);refine gA D ?_;refine bP (ku D (fun u=>kr ?_) (fun u=>nW ?_))
 .have u:=bv u;refine bP (eC (bP (fi ?_)));refine gA D ?_;refine v8 (sQ 4 ?_);refine gA D ?_;refine xE (L9 (i:=4) (o':=bI []) D (DN fk)) fun t Y I=>?_;obtain⟨rfl,rfl⟩:=I;refine xE (De (i:=4) (d:=29) (gr _) D D ac D) fun t Y I=>?_;obtain⟨b,e,p0,rfl,rfl⟩:=I;refine sQ 1 ?_;refine gA D ?_;refine ug (pj (fi ?_));refine gA D ?_;have a0:=Dn (by rw[hB.len];exact hi) p0;exact⟨u,⟨B++ [(b,e)]⟩,[],⟨⟨by rw[Qv,hB.len];rfl,Ja hB.nd a0⟩,(Dm (by rw[hB.len];exact u) a0).symm⟩,zW (zK (hM D (Fa hf.nodup hB.len u) D ac))⟩
 have u:=ci u;have Z:B.length=p.aZ.length:=by have:B.length=i:=hB.len;omega
 have d0:=hB.nd;clear hB;have a1:p.rules.length<=1000000000:=hb.2.1
 let G:Nat->List (ae×ae×Nat):=fun r=>(p.rules.take r).flatMap Ct
 change GX _ _ [.code _] _ _ _;refine bP (bP (ph ⟨[(1,.ptr 0 0),(4,.mp 2),(32,.iv (de 5 p.rules ai.c)),(33,pI p.rules.length),(34,pI 0)],[(0,io (au p.c)),(2,io (gO (jB p.aZ B)))],3⟩ ?_ ?_))
 .refine gA D (kv [] ?_);exact zW (zK (zC ac))
 refine eC (rh 0 p.rules.length (QN _) (fun i (_:PUnit.{2})=>⟨[(1,.ptr 0 0),(4,.mp 2),(32,.iv (de 5 p.rules ai.c)),(33,pI p.rules.length),(34,pI i)],[(0,io (au p.c)),(2,io (gO (jB p.aZ B)))],3⟩)
  (fun i _ Y=>Y=dF (rowsOf p.aZ B (G i))) ⟨⟩ [] D (zW (zK (zC ac))) (fun _ _ _ h=>h▸gr _) fun n _ Y hn hJ=>?_)
 subst hJ;refine bP (fi ?_);refine gA D ?_;refine bP (ku D (fun u=>kr ?_) (fun u=>nW ?_));rotate_left
 .have u:=ci u;have m0:G n=cO p:=by show((p.rules.take n).flatMap Ct)=_;rw[QM u];rfl
  rw[m0];change GX _ _ [.code _] _ _ _;refine FT (EF (i:=2) (o':= .map .str DC jp (.map jp) dvG (b5 p (cO p))) D (Es Z d0)) fun t Y I=>?_;obtain⟨rfl,rfl⟩:=I;refine fi ?_;refine gA D (sV (.inr D) D (j5.map 2 D (.done (.refl _))))
 have u:=bv u;have hR:p.rules.getD n co∈p.rules:=dS u;have g0:G (n+1)=G n++Ct (p.rules.getD n co):=by show((p.rules.take (n+1)).flatMap Ct)=_;rw[cC u,Te];simp;rfl
 have b0:=hb.2.2 _ hR;have F:=b0.1;have y:=hf.Cs _ hR;have A:=hf.lits _ hR;generalize n0:p.rules.getD n co=R at hR g0 b0 F y A;refine bP (eC (bP (fi ?_)));refine gA D ?_;refine bP (ph ⟨[(1,.ptr 0 0),(4,.mp 2),(8,.ptr 3 0),(32,.iv (de 5 p.rules ai.c)),(33,pI p.rules.length),(34,pI n),(39,.iv (lits R.body)),(40,pI R.body.length),(41,pI 0)],[(0,io (au p.c)),(2,io (gO (jB p.aZ B))),(3,io (au R.c))],4⟩ ?_ ?_)
 .refine gA D (kv [] ?_);subst n0;exact zW (zK (zC (zK ac)))
 have t0:R.body.length<=10000000:=by have:=Lit.aA R.body;unfold ai.size at F;omega
 refine eC (rh 0 R.body.length (QN _) (fun i (_:PUnit.{2})=>⟨[(1,.ptr 0 0),(4,.mp 2),(8,.ptr 3 0),(32,.iv (de 5 p.rules ai.c)),(33,pI p.rules.length),(34,pI n),(39,.iv (lits R.body)),(40,pI R.body.length),(41,pI i)],[(0,io (au p.c)),(2,io (gO (jB p.aZ B))),(3,io (au R.c))],4⟩)
  (fun i _ Y=>Y=dF (rowsOf p.aZ B (G n++(R.body.take i).flatMap (qk R)))) ⟨⟩ [] (by simp) (zW (zK (zC (zK ac)))) (fun _ _ _ h=>h▸gr _) fun i _ Y v0 hJ=>?_)
 subst hJ;refine bP (fi ?_);refine gA D ?_;refine bP (ku D (fun J=>kr ?_) (fun J=>nW ?_));rotate_left
 .have J:=ci J;rw[QM J,show G n++R.body.flatMap (qk R)=G (n+1) from g0.symm];change GX _ _ (.code _::_) _ _ _;refine fi ?_;refine gA D ⟨u,⟨⟩,[],rfl,zW (zK (zC ac))⟩
 have J:=bv J;have hl:R.body.getD i co∈R.body:=dS J;have i0:(R.body.take (i+1)).flatMap (qk R)=(R.body.take i).flatMap (qk R)++qk R (R.body.getD i co):=by rw[cC J,Te];simp
 have f0:(R.body.getD i co).size<=10000000:=by have:=Lit.aV R.body i J;unfold ai.size at F;omega
 have e0:=A _ hl;generalize r0:R.body.getD i co=l at hl i0 f0 e0;refine bP (eC (bP (fi ?_)));refine gA D ?_;refine bP (ph ⟨[(1,.ptr 0 0),(4,.mp 2),(8,.ptr 3 0),(10,.ptr 4 0),(32,.iv (de 5 p.rules ai.c)),(33,pI p.rules.length),(34,pI n),(39,.iv (lits R.body)),(40,pI R.body.length),(41,pI i),(46,.iv (strs (named l))),(47,pI (named l).length),(48,pI 0)],[(0,io (au p.c)),(2,io (gO (jB p.aZ B))),(3,io (au R.c)),(4,io (au l.c))],5⟩ ?_ ?_)
 .subst r0;refine gA D (zp (BY (R.body.getD i co) (by omega)) ?_);refine gA D (kv [] ?_);exact zW (zK (zC (zK (zK ac))))
 have x0:=kZ l
 refine eC (rh 0 (named l).length (QN _) (fun k (_:PUnit.{2})=>⟨[(1,.ptr 0 0),(4,.mp 2),(8,.ptr 3 0),(10,.ptr 4 0),(32,.iv (de 5 p.rules ai.c)),(33,pI p.rules.length),(34,pI n),(39,.iv (lits R.body)),(40,pI R.body.length),(41,pI i),(46,.iv (strs (named l))),(47,pI (named l).length),(48,pI k)],[(0,io (au p.c)),(2,io (gO (jB p.aZ B))),(3,io (au R.c)),(4,io (au l.c))],5⟩)
  (fun k _ Y=>Y=dF (rowsOf p.aZ B ((G n++(R.body.take i).flatMap (qk R))++((named l).take k).map fun t=>(R.head.rel,t,lU l)))) ⟨⟩ [] (by simp) (zW (zK (zC (zK (zK ac))))) (fun _ _ _ h=>h▸gr _) fun k _ Y hk hJ=>?_)
 subst hJ;refine bP (fi ?_);refine gA D ?_;refine bP (ku D (fun h3=>kr ?_) (fun h3=>nW ?_));rotate_left
 .have h3:=ci h3;have eX:(G n++(R.body.take i).flatMap (qk R))++(named l).map (fun t=>(R.head.rel,t,lU l))=G n++(R.body.take (i+1)).flatMap (qk R):=by rw[QU,i0];rfl
  rw[QM h3,eX];change GX _ _ (.code _::_) _ _ _;refine fi ?_;refine gA D ⟨J,⟨⟩,[],rfl,zW (zK (zC (zK ac)))⟩
 have h3:=bv h3;obtain⟨j,d,b,hd,j0,q0,k0⟩:=Mu Z hf.nodup y;have hX:=pN (hs:=(G n++(R.body.take i).flatMap (qk R))++((named l).take k).map fun t=>(R.head.rel,t,lU l)) Z d0 hd j0;have c0:=Dl (hs:=(G n++(R.body.take i).flatMap (qk R))++((named l).take k).map fun t=>(R.head.rel,t,lU l)) (t:=(named l).getD k co) (h:=lU l) Z d0 hf.nodup hd j0;rw[q0]at hX c0;have s0:((G n++(R.body.take i).flatMap (qk R))++((named l).take k).map fun t=>(R.head.rel,t,lU l))++ [(R.head.rel,(named l).getD k co,lU l)]=(G n++(R.body.take i).flatMap (qk R))++((named l).take (k+1)).map fun t=>(R.head.rel,t,lU l):=by
  rw[cC h3,QO,QU];rfl
 rw[s0]at c0;generalize(G n++(R.body.take i).flatMap (qk R))++((named l).take k).map (fun t=>(R.head.rel,t,lU l))=hs at hX c0;refine bP (eC (bP (fi ?_)));refine gA D ?_;refine bP (fi ?_);refine gA D ?_;refine bP (ph ⟨[(1,.ptr 0 0),(4,.mp 2),(8,.ptr 3 0),(10,.ptr 4 0),(32,.iv (de 5 p.rules ai.c)),(33,pI p.rules.length),(34,pI n),(39,.iv (lits R.body)),(40,pI R.body.length),(41,pI i),(46,.iv (strs (named l))),(47,pI (named l).length),(48,pI k),(12,pS ((named l).getD k co)),(13,pI (lU l))],[(0,io (au p.c)),(2,io (gO (jB p.aZ B))),(3,io (au R.c)),(4,io (au l.c))],5⟩ ?_ ?_)
 .refine zJ D D (fun h4=>?_) fun h4=>?_
  .have h4:l.kind=1:=zT h4;refine gA D (kv [] ?_);exact zM (bi (bi (bi (bi (bi (bi (bi (bi (bi (bi (bi (bi (bi (bi ⟨.of_eq (by rw[lU,am h4];rfl),rfl,ac⟩)))))))))))))) (zK (zC (zK (zK ac))))
  .have h4: ¬l.kind=1:=zF h4;refine gA D (kv [] ?_);exact zM (bi (bi (bi (bi (bi (bi (bi (bi (bi (bi (bi (bi (bi (bi ⟨.of_eq (by rw[lU,be h4];rfl),rfl,ac⟩)))))))))))))) (zK (zC (zK (zK ac))))
 refine v8 (sQ 12 ?_);refine gA D ?_;refine xE (Dd (d:=65) hX (show PV.iv (.v (.map (bG .str (jB p.aZ B) R.head.rel jp)))=_ by rw[k0])) fun t Y I=>?_;obtain⟨rfl,rfl⟩:=I;refine xE (EG (b:=b.1) (j:=5) (e:=b.2) (d:=59) (p:= .mp 5) (aX.eW _ _ _) fun M N U x hu o0 _ hv=>?_) fun t Y I=>?_
 .have hv:VR M N U (PV.iv (.v (.map (bG .str (jB p.aZ B) R.head.rel jp)))) x:=hv;rw[k0]at hv;cases hv with
  |iv _ _ hi=>cases hi with
   |v=>rw[<-o0];exact .mp 5 hu
 obtain⟨rfl,rfl⟩:=I;refine sQ 4 ?_;refine gA D ?_;refine ug (pj (FT (Oe (b:=b.1) (e:=b.2) (i:=5) (o:=bI (Eg (iZ hs R.head.rel) ((named l).getD k co) (lU l))) (aX.eW _ _ _) D D ac) fun t Y I=>?_));obtain⟨rfl,rfl⟩:=I;rw[aX.IX];refine fi ?_;refine gA D ⟨h3,⟨⟩,[],c0,zW (zK (zC (zK (zK ac))))⟩
end Go.Proofs.YtflegjieadkonaaGreatDoor
namespace Go.Proofs.YtflegjieadkonaaGreatDoor
open Go Go.Al Go.Proofs.Tryz Go.Tj
def oQ(e:Option ae)(i:Nat)(l:List ae):PV:=match e,l with
 |some _,[]=> .sl i 1 0 1
 |_,l=> .sl i 0 l.length 1
def oR(e:Option ae)(l:List ae):AO:=match e,l with
 |some y,[]=> .row 1 [[pS y]]
 |_,l=>aW 1 l bR
theorem kS(σ:Nat->Nat)(e:Option ae)(i:Nat)(l:List ae):(oQ e i l).cx σ=oQ e (σ i) l:=by cases e<;>cases l<;>rfl
theorem kT(σ:Nat->Nat)(e:Option ae)(l:List ae):(oR e l).cx σ=oR e l:=by
 cases e<;>cases l<;>first|rfl|exact bD σ
theorem yy{n i:Nat}(h:QZ i n=kw)(e:Option ae)(l:List ae):(oQ e i l).low n=kw:=by cases e<;>cases l<;>exact h
theorem yB(n:Nat)(e:Option ae)(l:List ae):(oR e l).low n:=by
 cases e with
 |none=>exact dB n
 |some y=>
  cases l with
  |nil=>
   intro k e b;cases k with
   |zero=>cases b;rfl
   |succ k=>cases b
  |cons=>exact dB n
theorem yx{e:Option ae}{i:Nat}{l:List ae}(h:e=jp∨l≠ []):oQ e i l= .sl i 0 l.length 1:=by
 cases e with
 |none=>rfl
 |some y=>cases l with
  |nil=>exact absurd D (h.resolve_left (by simp))
  |cons=>rfl
theorem yz{e:Option ae}{l:List ae}(h:e=jp∨l≠ []):oR e l=aW 1 l bR:=by
 cases e with
 |none=>rfl
 |some y=>cases l with
  |nil=>exact absurd D (h.resolve_left (by simp))
  |cons=>rfl
structure TW where
 low:NM
 on:NM
 ring:NM
 stack:List ae
 sw:Option ae
def TW.st(w:TW):St ae:=⟨fun a=>bG .str w.low a 0,fun a=>bG .str w.on a 0,fun a=>bG .str w.ring a 0,w.low.length,w.stack⟩
structure TW.Ok (V:List ae) (w:TW):Prop where
 nz: ∀a∈w.low.map Ra,bG .str w.low a 0≠0
 nd:(w.low.map Ra).Nodup
 sub: ∀a∈w.low.map Ra,a∈V
abbrev yn:PV:= .cK (.func 92) [] [.ptr 0 0,.ptr 1 0,.ptr 2 0,.ptr 3 0,.ptr 4 0,.ptr 5 0]
abbrev tO(G:IV)(w:TW):List AO:=[.cells [.mp 6],.cells [.mp 7],.cells [oQ w.sw 9 w.stack],.cells [.iv G],.cells [yn],.cells [.mp 8],bI w.low,bI w.on,bI w.ring,oR w.sw w.stack]
abbrev tH(G:IV)(w:TW)(k:Nat):AH:=[(0,io (.cells [.mp 6])),(1,io (.cells [.mp 7])),(2,io (.cells [oQ w.sw k w.stack])),(3,io (.cells [.iv G])),(4,io (.cells [yn])),(5,io (.cells [.mp 8])),
 (6,io (bI w.low)),(7,io (bI w.on)),(8,io (bI w.ring)),(k,io (oR w.sw w.stack))]
theorem s9{n k:Nat}{σ:Nat->Nat}{h:AH}{G:IV}{w:TW}{B:PV}{x y A:NM}{o:AO}(b:SE 9 n=kw)(bk:QZ k n=kw)(hs: ∀i,i<9->σ i=i)
  (g0:h.get 0=io (.cells [.mp 6])) (g1:h.get 1=io (.cells [.mp 7])) (g2:h.get 2=io (.cells [B])) (g3:h.get 3=io (.cells [.iv G])) (g4:h.get 4=io (.cells [yn])) (g5:h.get 5=io (.cells [.mp 8]))
  (g6:h.get 6=io (bI x)) (g7:h.get 7=io (bI y)) (g8:h.get 8=io (bI A)) (g9:h.get (σ k)=io o)
  (F:B=oQ w.sw (σ k) w.stack) (I:x=w.low) (J:y=w.on) (S:A=w.ring) (Y:eJ o (oR w.sw w.stack)):mg n σ h (tH G w k):=by
 have Z:=Qs b;have bk:=Qs bk;have hb: ∀i,i<9->QZ i n=kw:=fun i d=>Ry (by omega);subst F I J S;have r: ∀i,i<9->PV.mp (σ i)=PV.mp i:=fun i d=>by rw[hs i d]
 have j: ∀i,i<9->PV.ptr (σ i) 0=PV.ptr i 0:=fun i d=>by rw[hs i d]
 have u: ∀i,i<9->bp n [PV.mp i]=kw:=fun i d=>by simp only[bp,PV.low,hb i d]
 refine⟨⟨_,by rw[hs 0 (by omega)];exact g0,.of_eq (by simp only[AO.cx,dL,PV.cx,r 6 (by omega)])⟩,by omega,u 6 (by omega),
  ⟨_,by rw[hs 1 (by omega)];exact g1,.of_eq (by simp only[AO.cx,dL,PV.cx,r 7 (by omega)])⟩,by omega,u 7 (by omega),
  ⟨_,by rw[hs 2 (by omega)];exact g2,.of_eq (by simp only[AO.cx,dL,kS])⟩,by omega,by simp only[AO.low,bp,yy (Ry bk)],
  ⟨_,by rw[hs 3 (by omega)];exact g3,.of_eq D⟩,by omega,rfl,
  ⟨_,by rw[hs 4 (by omega)];exact g4,.of_eq (by simp only[AO.cx,dL,PV.cx,j 0 (by omega),j 1 (by omega),j 2 (by omega),j 3 (by omega),j 4 (by omega),j 5 (by omega)])⟩,by omega,by simp only[AO.low,bp,PV.low,hb 0 (by omega),hb 1 (by omega),hb 2 (by omega),hb 3 (by omega),hb 4 (by omega),hb 5 (by omega)],
  ⟨_,by rw[hs 5 (by omega)];exact g5,.of_eq (by simp only[AO.cx,dL,PV.cx,r 8 (by omega)])⟩,by omega,u 8 (by omega),
  ⟨_,by rw[hs 6 (by omega)];exact g6,.of_eq D⟩,by omega,ac,
  ⟨_,by rw[hs 7 (by omega)];exact g7,.of_eq D⟩,by omega,ac,
  ⟨_,by rw[hs 8 (by omega)];exact g8,.of_eq D⟩,by omega,ac,
  ⟨_,g9,by rw[kT];exact Y⟩,bk,yB _ _ _,ac⟩
theorem wY(m:NM)(b:ae)(v:Int):(fun x=>bG .str (cj .str m b v) x 0)=wT (fun x=>bG .str m x 0) b v:=by
 funext x
 rw[jF,wT];by_cases h:b=x
 .rw[am h,am h.symm]
 .rw[be h,be fun e=>h e.symm]
def TW.push(w:TW)(a:ae):TW:=⟨cj .str w.low a ((w.low.length:Int)+1),cj .str w.on a 1,w.ring,w.stack++ [a],jp⟩
theorem TW.key{V:List ae}{w:TW}(h:w.Ok V){a:ae}(h0:w.st.low a=0):a∉w.low.map Ra:=fun g=>h.nz a g h0
theorem rN{m:NM}{a:ae}{v:Int}(h:a∉m.map Ra):(cj .str m a v).length=m.length+1:=by
 have:=congrArg List.length (da (v:=v) h);simpa using this
theorem TW.IZ{V:List ae}{w:TW}(h:w.Ok V){a:ae}(h0:w.st.low a=0):(w.push a).st=Go.Tj.push w.st a:=
 St.eq (wY _ _ _) (wY _ _ _) D (rN (TW.key h h0)) D
theorem TW.I0{V:List ae}{w:TW}(h:w.Ok V){a:ae}(h0:w.st.low a=0)(ha:a∈V):(w.push a).Ok V:=by
 have d:=TW.key h h0;refine⟨fun x b=>?_,?_,fun x b=>?_⟩
 .show bG .str (cj .str w.low a _) x 0≠0;rw[jF];split
  .omega
  .rename_i j;have b:x∈(cj .str w.low a ((w.low.length:Int)+1)).map Ra:=b;rw[da d,QK,QJ]at b;exact h.nz x (b.resolve_right fun e=>j e.symm)
 .show((cj .str w.low a _).map Ra).Nodup;rw[da d,Sh];exact⟨h.nd,by simp,fun u hu v y e=>d (by rw[QJ]at y;subst e;subst y;exact hu)⟩
 .have b:x∈(cj .str w.low a ((w.low.length:Int)+1)).map Ra:=b;rw[da d,QK,QJ]at b;rcases b with b|rfl
  .exact h.sub x b
  .exact ha
theorem TW.len{V:List ae}{w:TW}(h:w.Ok V):w.low.length<=V.length:=by
 have:=Sf h.nd (l₂:=V) h.sub;simpa using this
theorem TW.vv{V:List ae}{w:TW}(h:w.Ok V){succ:ae->List ae}{path:List ae}(hI:Inv succ path w.st):w.stack.length<=V.length:=by
 refine Sf (l₂:=V) ?_ fun y A=>?_
 .refine TC ?_ hI.Np;intro x y u e;subst e;omega
 .have b:=(hI.vv y).2 A;have d:w.st.low y≠0:=tM hI b;refine h.sub y (R7 fun j=>d (A8 j))
def TW.pop(w:TW)(u:List ae)(b:ae)(d:Int):TW:=⟨w.low,cj .str w.on b 2,cj .str w.ring b d,u,io b⟩
theorem TW.Fe{w:TW}{u:List ae}{b:ae}(h:w.stack=u++ [b])(d:Int):(w.pop u b d).st=xo d w.st:=by
 have j:w.st.stack.getLast? =io b:=by show w.stack.getLast? =_;rw[h];simp
 have x:w.st.stack.dropLast=u:=by show w.stack.dropLast=_;rw[h];simp
 unfold xo;rw[j];exact St.eq D (wY _ _ _) (wY _ _ _) D x.symm
theorem TW.My{V:List ae}{w:TW}(h:w.Ok V)(u:List ae)(b:ae)(d:Int):(w.pop u b d).Ok V:=⟨h.nz,h.nd,h.sub⟩
theorem Oh(b:gX){p:Prog}(hf:sD p)(d:(cO p).length<=100000000)(a:ae):Pure prog 52 [.iv (yf (iZ (cO p) a))] (.iv (strs (bh p a))):=by
 rw[<-yv hf];exact EY b _ (Rr (E4 _ _) d)
abbrev NB(a:ae):List PV:=[pS a,.ptr 0 0,.ptr 1 0,.ptr 2 0,.ptr 3 0,.ptr 4 0,.ptr 5 0]
abbrev vF(a:ae):AF:=[(0,pS a),(1,.ptr 0 0),(2,.ptr 1 0),(3,.ptr 2 0),(4,.ptr 3 0),(5,.ptr 4 0),(6,.ptr 5 0)]
def Ni(p:Prog)(f:Nat):Prop:= ∀(path:List ae) (a:ae) (w:TW),w.Ok (ns p)->Inv (bh p) path w.st->w.st.low a=0->a∈ns p->(∀g∈path,mD (bh p) g a)->js (ns p) w.st<=f->
 Go.Al.Fn prog 92 (NB a) (tO (wb (b5 p (cO p))) w) fun r h n=> ∃b:TW,b.Ok (ns p)∧b.st=(dN (bh p) f a w.st).2∧r=pI (dN (bh p) f a w.st).1∧h=tH (wb (b5 p (cO p))) b 10∧n=11
theorem FW(p:Prog)(hs:List (ae×ae×Nat)){a:ae}(h:a∈p.aZ.map Decl.name):(DC (bG .str (b5 p hs) a jp)).pv= .iv (yf (iZ hs a)):=by rw[FX p hs h];rfl
theorem L7(G:IV)(w:TW){n:Nat}:[io (AO.cells [PV.mp 6]),io (.cells [.mp 7]),io (.cells [oQ w.sw 11 w.stack]),io (.cells [.iv G]),io (.cells [yn]),io (.cells [.mp 8]),io (bI w.low),io (bI w.on),io (bI w.ring),io (oR w.sw w.stack)]=
  (tO G w).map fun o=>io (o.cx (sig [0,1,2,3,4,5,6,7,8,11] n)):=by
 have b:=kS (sig [0,1,2,3,4,5,6,7,8,11] n) w.sw 9 w.stack;have d:=kT (sig [0,1,2,3,4,5,6,7,8,11] n) w.sw w.stack;show _=[io (AO.cells [PV.mp 6]),io (.cells [.mp 7]),io (.cells [(oQ w.sw 9 w.stack).cx (sig [0,1,2,3,4,5,6,7,8,11] n)]),io (.cells [.iv G]),io (.cells [yn]),io (.cells [.mp 8]),io (bI w.low),io (bI w.on),io (bI w.ring),io ((oR w.sw w.stack).cx (sig [0,1,2,3,4,5,6,7,8,11] n))]
 rw[b,d];rfl
theorem EJ(u:List ae)(b:ae):((u++ [b]).map fun x=>(bR x).map PV.iv)[0+((((u.length+1:Nat):Int)-1).toNat)]? =io [pS b]:=by
 rw[Q9,show(((u.length+1:Nat):Int)-1).toNat=u.length by omega];simp[bR]
theorem EK(i:Nat)(u:List ae)(b:ae):(u.length=0∧oQ (io b) i u= .sl i 1 0 1)∨(0<u.length∧oQ (io b) i u= .sl i 0 u.length 1):=by
 cases u with
 |nil=>exact .inl ⟨rfl,rfl⟩
 |cons x r=>exact .inr ⟨by simp,rfl⟩
theorem yA(u:List ae)(b:ae):eJ (aW 1 (u++ [b]) bR) (oR (io b) u):=by
 cases u with
 |nil=>exact .of_eq D
 |cons x r=>
  have e:oR (io b) (x::r)= .row 1 (((x::r++ [b]).map fun y=>(bR y).map PV.iv).take (x::r).length):=by
   rw[<-List.map_take,List.take_left];rfl
  rw[e];exact .take
theorem sG{p:Prog}: ∀a∈ns p,∀b∈bh p a,b∈ns p:=fun _ _ _ h=>(Rn.1 h).1
theorem Ft{p:Prog}(hf:sD p):(ns p).length<=64:=by
 have:=hf.len;rw[ns,jk,Rv];exact this
theorem Ep(hS:gX){p:Prog}(hf:sD p)(hl:(cO p).length<=100000000)(f:Nat)(ih:Ni p f):Ni p (f+1):=by
 intro path a w j0 hI h0 Y hp hw;have i0:=Ft hf;have g1:=j8 hI.mq Y h0;have o1:=TW.len j0;have r1:=TW.vv j0 hI;have r0:a∈p.aZ.map Decl.name:=by rw[ns,jn]at Y;exact Y
 have G:=TW.IZ j0 h0;have v0:=TW.I0 j0 h0 Y;have q1:=RP (eg p a) (ns p);refine uu ab func92 D (by decide) ntmps92 D (by simp) ?_;refine go_cut 6 (fun _:Unit=>⟨(9,pI ((w.low.length:Int)+1))::(10,pI ((w.low.length:Int)+1))::vF a,tH (wb (b5 p (cO p))) (w.push a) 10,11⟩) D ?_ ?_
 .have p0:bG .str (cj .str w.low a ((w.low.length:Int)+1)) a 0=(w.low.length:Int)+1:=by rw[jF,am D]
  by_cases hu:w.sw=jp∨w.stack≠ []
  .rw[show tO (wb (b5 p (cO p))) w=[.cells [.mp 6],.cells [.mp 7],.cells [.sl 9 0 w.stack.length 1],.cells [.iv (wb (b5 p (cO p)))],.cells [yn],.cells [.mp 8],bI w.low,bI w.on,bI w.ring,aW 1 w.stack bR] by
    unfold tO;rw[yx hu,yz hu]]
   refine gA D (GC () [11] ?_);exact wk D D D ⟨.of_eq (congrArg pI p0),rfl,.of_eq (congrArg pI p0),rfl,bi (bi (bi (bi (bi (bi (bi ac))))))⟩
    (s9 (w:=w.push a) D D (fun i Z=>fC (by show i<10;omega)) D D D D D D D D D D (by show _=PV.sl 11 0 (w.stack++ [a]).length 1;rw[Qv];rfl) D D D (.of_eq (by show _=aW 1 (w.stack++ [a]) bR;rw[aW,QO];rfl))) D
  .obtain⟨y,hy,w0⟩: ∃y,w.sw=io y∧w.stack=[]:=by
    cases hg:w.sw with
    |none=>exact absurd (.inl hg) hu
    |some y=>exact⟨y,rfl,R7 fun h=>hu (.inr h)⟩
   rw[show tO (wb (b5 p (cO p))) w=[.cells [.mp 6],.cells [.mp 7],.cells [.sl 9 1 0 1],.cells [.iv (wb (b5 p (cO p)))],.cells [yn],.cells [.mp 8],bI w.low,bI w.on,bI w.ring,.row 1 [[pS y]]] by
    unfold tO;rw[hy,w0];rfl]
   refine gA D (xJ ab D D D D D D D D D (by simp) (by simp) (jZ D) D ?_);refine gA D (GC () [11] ?_);exact wk D D D ⟨.of_eq (congrArg pI p0),rfl,.of_eq (congrArg pI p0),rfl,bi (bi (bi (bi (bi (bi (bi ac))))))⟩
    (s9 (w:=w.push a) D D (fun i Z=>fC (by show i<10;omega)) D D D D D D D D D D (by show _=PV.sl 11 0 (w.stack++ [a]).length 1;rw[w0];rfl) D D D (.of_eq (by show _=aW 1 (w.stack++ [a]) bR;rw[w0];rfl))) D
 intro _;have Z:=yU hI h0 hp;rw[<-G]at g1 Z;have hm:((w.push a).low.length:Int)=(w.low.length:Int)+1:=by
  have:=rN (v:=(w.low.length:Int)+1) (TW.key j0 h0);show(((cj .str w.low a _).length:Nat):Int)=_;rw[this];omega
 have la:(w.push a).st.low a=(w.st.n:Int)+1:=by rw[G];exact ju _ _ _
 have oa:(w.push a).st.on a=1:=by rw[G];exact ju _ _ _
 have k1:eL (bh p) path a w.st [] ((w.st.n:Int)+1,Go.Tj.push w.st a) []:=
  ⟨G▸Z,.refl _,rfl,fun y hy=>(nomatch hy),SA _,fun y hy=>(nomatch hy),fun z hz=>(nomatch hz),fun z hz=>(nomatch hz),⟨a,G▸oa,G▸la,.refl _⟩⟩
 have m0:=fun pa b s=>oM (succ:=bh p) sG f pa b s
 let J:Nat->Int×St ae:=fun i=>((bh p a).take i).foldl (Go.Tj.rJ (dN (bh p) f)) ((w.st.n:Int)+1,Go.Tj.push w.st a)
 have g0: ∀i,∃t,eL (bh p) path a w.st ((bh p a).take i) (J i) t:=fun i=>by
  have:=qY sG m0 hI h0 Y (by rw[<-G];omega) ((bh p a).take i) [] _ [] k1 fun b hb=>TY hb;rwa[Sa]at this
 refine gM 5 D (Jn ab (.iv (yf (iZ (cO p) a))) D D D D (FW p _ r0) D ?_);refine gA D (zp (Oh hS hf hl a) ?_);refine gA D ?_;refine ql 0 (bh p a).length (QN _) (fun i A=>⟨(9,pI ((w.low.length:Int)+1))::(10,pI (J i).1)::(32,.iv (strs (bh p a)))::(33,pI (bh p a).length)::(34,pI i)::vF a,tH (wb (b5 p (cO p))) A 11,12⟩)
  (fun i A=>A.Ok (ns p)∧A.st=(J i).2) (w.push a) [10] ⟨v0,G⟩
  (wk D D D (bi (bi (bi (bi (bi (bi (bi (bi (bi (bi (bi (bi trivial))))))))))))
   (s9 D D (fun i Z=>fC (by show i<11;omega)) D D D D D D D D D D D D D D (.refl _)) D) fun i A u1 hJ=>?_
 obtain⟨B,x⟩:=hJ;obtain⟨t2,j⟩:=g0 i;have p1:(bh p a).length<=64:=Rr q1 i0;refine zJ D D (fun h1=>?_) fun h1=>?_
 .have h1:=bv h1;have d0:J (i+1)=Go.Tj.rJ (dN (bh p) f) (J i) ((bh p a).getD i co):=dz h1;have hb:((bh p a).getD i co)∈bh p a:=dS h1;have d:Go.Tj.rJ (dN (bh p) f) (J i) ((bh p a).getD i co)=if A.st.low ((bh p a).getD i co)=0 then(min (J i).1 (dN (bh p) f ((bh p a).getD i co) A.st).1,(dN (bh p) f ((bh p a).getD i co) A.st).2)
    else if A.st.on ((bh p a).getD i co)=1 then(min (J i).1 (A.st.low ((bh p a).getD i co)),A.st) else(J i):=by rw[x];rfl
  refine zJ D D (fun h2=>?_) fun h2=>?_
  .have h2:A.st.low ((bh p a).getD i co)=0:=zT h2;rw[am h2]at d;have b0: ∀g∈path++ [a],mD (bh p) g ((bh p a).getD i co):=by
    intro g hg;have I:(J i).2.on a=1:=(j.inv.vv a).2 (by rw[j.stack];simp);refine .step (j.inv.dn g hg a I ?_) hb;rcases QK.1 hg with e|e
    .have:=j.pa hI h0 g e;omega
    .rw[QJ]at e;rw[e];exact SA _
   have t1:js (ns p) A.st<=f:=by
    have:=vl (V:=ns p) j.le;rw[x];rw[G]at g1;omega
   refine gA D (Cy [0,1,2,3,4,5,6,7,8,11] (ih (path++ [a]) ((bh p a).getD i co) A B (x▸j.inv) h2 (sG a Y ((bh p a).getD i co) hb) b0 t1) D D D D D (L7 _ _) D ?_);rintro r h' n' ⟨w3,hok3,hst3,rfl,rfl,rfl⟩;refine⟨_,rfl,?_⟩;refine gA D ⟨h1,w3,[12],⟨hok3,by rw[d0,d];exact hst3⟩,zM (bi ⟨.of_eq (by rw[d0,d];rfl),rfl,bi (bi (bi (bi (bi (bi (bi (bi (bi (bi ac)))))))))⟩) (s9 D D (fun i Z=>fC (by show i<11;omega)) D D D D D D D D D D (kS _ _ _ _) D D D (.of_eq (kT _ _ _)))⟩
  .have h2: ¬A.st.low ((bh p a).getD i co)=0:=zF h2;rw[be h2]at d;refine zJ D D (fun h3=>?_) fun h3=>?_
   .have h3:A.st.on ((bh p a).getD i co)=1:=zT h3;rw[am h3]at d;refine gA D ⟨h1,A,[11],⟨B,by rw[d0,d]⟩,zM (bi ⟨.of_eq (by rw[d0,d];rfl),rfl,bi (bi (bi (bi (bi (bi (bi (bi (bi (bi ac)))))))))⟩) (s9 D D (fun i Z=>fC (by show i<11;omega)) D D D D D D D D D D D D D D (.refl _))⟩
   .have h3: ¬A.st.on ((bh p a).getD i co)=1:=zF h3;rw[be h3]at d;refine gA D ⟨h1,A,[11],⟨B,by rw[d0,d];exact x⟩,zM (bi ⟨.of_eq (by rw[d0,d];rfl),rfl,bi (bi (bi (bi (bi (bi (bi (bi (bi (bi ac)))))))))⟩) (s9 D D (fun i Z=>fC (by show i<11;omega)) D D D D D D D D D D D D D D (.refl _))⟩
 .have h1:=ci h1;have m1:i=(bh p a).length:=by omega
  subst m1;have o0:dN (bh p) (f+1) a w.st=sx a ((w.st.n:Int)+1) (J (bh p a).length):=by
   show sx a _ ((bh p a).foldl _ _)=sx a _ (((bh p a).take (bh p a).length).foldl _ _);rw[Sv]
  have a0: ∀(w':TW) (k:Nat) (u:AS) (e:Exit),e= .normal∨e= .ret->10<=k->k<u.nx->jw nP u f92.results.toList=io (pI (J (bh p a).length).1)->w'.Ok (ns p)->w'.st=(sx a ((w.st.n:Int)+1) (J (bh p a).length)).2->
    mg 11 (sg 10 [k]) u.h (tH (wb (b5 p (cO p))) w' 10)->J4 nP f92.results.toList 10 (fun r h n=> ∃w':TW,w'.Ok (ns p)∧w'.st=(dN (bh p) (f+1) a w.st).2∧r=pI (dN (bh p) (f+1) a w.st).1∧h=tH (wb (b5 p (cO p))) w' 10∧n=11) e u:=by
   intro w' k u e he hk n1 hr t0 x0 hh;refine CD [k] he hr ⟨w',t0,by rw[o0];exact x0,rfl,rfl,rfl⟩ ⟨rfl,by show 10<=u.nx;omega,by simpa using n1,⟨.of_eq ?_,rfl,ac⟩,hh,?_⟩
   .show pI (J (bh p a).length).1=pI (dN (bh p) (f+1) a w.st).1;rw[o0];unfold sx;split<;>rfl
   .show[0,1,2,3,4,5,6,7,8,k].Nodup;simp;omega
  generalize J (bh p a).length=q at*
  refine zE D D (fun h4=>?_) fun h4=>?_
  .have h4: ¬q.1=(w.st.n:Int)+1:=zF h4;refine gA D (a0 A 11 _ _ (.inr D) (by omega) (by show 11<12;omega) D B (by rw[sx,be h4];exact x) ?_);exact s9 D D (fun i Z=>fC (by omega)) D D D D D D D D D D D D D D (.refl _)
  have h4:q.1=(w.st.n:Int)+1:=zT h4;have hE:(sx a ((w.st.n:Int)+1) q).2=fb a ((w.st.n:Int)+1) q.2.stack.length q.2:=by rw[sx,am h4]
  have I:q.2.on a=1:=(j.inv.vv a).2 (by rw[j.stack];simp);have hF:fb a ((w.st.n:Int)+1) (t2.length+1) q.2=(sx a ((w.st.n:Int)+1) q).2:=by
   rw[hE,qR (by omega) j.stack j.at_ I,qR (by rw[j.stack];simp;omega) j.stack j.at_ I]
  generalize(sx a ((w.st.n:Int)+1) q).2=F at hF a0;refine gA D ?_;refine mZ (σ:={v:TW//v.Ok (ns p)∧((∃t,v.stack=w.stack++a::t∧a∉t∧v.stack.length<=64∧v.st.on a=1∧fb a ((w.st.n:Int)+1) (t.length+1) v.st=F)∨(v.st.on a≠1∧v.st=F))})
   (fun v=>⟨(9,pI ((w.low.length:Int)+1))::(10,pI q.1)::vF a,tH (wb (b5 p (cO p))) v.1 12,13⟩) (fun v=>v.1.stack.length) ⟨A,B,.inl ⟨t2,by rw[show A.stack=A.st.stack from rfl,x];exact j.stack,j.at_,Rr (TW.vv B (x▸j.inv)) i0,by rw[x];exact I,by rw[x];exact hF⟩⟩ [11]
   (zW (s9 D D (fun i Z=>fC (by show i<12;omega)) D D D D D D D D D D D D D D (.refl _))) fun v=>?_
  obtain⟨v,k0,hJ⟩:=v;rcases hJ with⟨t,hs,d1,n0,c0,S⟩|⟨c0,i1⟩
  rotate_left
  .refine zJ D D (fun h5=>?_) fun h5=>?_
   .exact absurd (zT h5) c0
   refine gA D (a0 v 12 _ _ (.inr D) (by omega) (by show 12<13;omega) D k0 i1 ?_);exact s9 D D (fun i Z=>fC (by omega)) D D D D D D D D D D D D D D (.refl _)
  have key: ∃u b,v.stack=u++ [b]∧((b=a∧xo ((w.st.n:Int)+1) v.st=F)∨ ∃t',u=w.stack++a::t'∧a∉t'∧b≠a∧fb a ((w.st.n:Int)+1) (t'.length+1) (xo ((w.st.n:Int)+1) v.st)=F):=by
   rcases t.eq_nil_or_concat with e|⟨t',b,e⟩
   .subst e;refine⟨w.stack,a,hs,.inl ⟨rfl,?_⟩⟩;rw[R0,fb,am c0]at S;exact S
   .rw[TR]at e;subst e;refine⟨w.stack++a::t',b,by rw[hs];simp,.inr ⟨t',rfl,fun h=>d1 (by simp[h]),fun h=>d1 (by simp[h]),?_⟩⟩;rw[fb,am c0,Qv]at S;exact S
  obtain⟨u,b,e0,f0⟩:=key;have v1:u.length+1<=64:=by rw[e0,Qv]at n0;exact n0
  have f1:v.stack≠ []:=by rw[e0];simp
  have a1:v.stack.length=u.length+1:=by rw[e0,Qv];rfl
  have s1:tH (wb (b5 p (cO p))) v 12=[(0,io (.cells [.mp 6])),(1,io (.cells [.mp 7])),(2,io (.cells [.sl 12 0 (u.length+1) 1])),(3,io (.cells [.iv (wb (b5 p (cO p)))])),(4,io (.cells [yn])),(5,io (.cells [.mp 8])),
    (6,io (bI v.low)),(7,io (bI v.on)),(8,io (bI v.ring)),(12,io (aW 1 (u++ [b]) bR))]:=by
   unfold tH;rw[yx (.inr f1),yz (.inr f1),a1,e0]
  show GO prog _ _ _ ⟨_,tH (wb (b5 p (cO p))) v 12,_⟩;rw[s1];refine zE D D (fun h5=>?_) fun h5=>?_
  .exact absurd c0 (zF h5)
  refine gM 9 D (aM ab D D D D D (EJ u b) D D ?_);have b1:(v.pop u b ((w.st.n:Int)+1)).Ok (ns p)∧((∃t,(v.pop u b ((w.st.n:Int)+1)).stack=w.stack++a::t∧a∉t∧(v.pop u b ((w.st.n:Int)+1)).stack.length<=64∧(v.pop u b ((w.st.n:Int)+1)).st.on a=1∧fb a ((w.st.n:Int)+1) (t.length+1) (v.pop u b ((w.st.n:Int)+1)).st=F)∨((v.pop u b ((w.st.n:Int)+1)).st.on a≠1∧(v.pop u b ((w.st.n:Int)+1)).st=F)):=by
   refine⟨TW.My k0 u b _,?_⟩;rcases f0 with⟨rfl,q0⟩|⟨t',hu,s0,l1,q0⟩
   .refine .inr ⟨?_,by rw[TW.Fe e0];exact q0⟩;show bG .str (cj .str v.on b 2) b 0≠1;rw[jF,am D];decide
   .refine .inl ⟨t',hu,s0,by show u.length<=64;omega,?_,by rw[TW.Fe e0];exact q0⟩;show bG .str (cj .str v.on b 2) a 0=1;rw[jF,be l1];exact c0
  have e1:(v.pop u b ((w.st.n:Int)+1)).stack.length<v.stack.length:=by show u.length<v.stack.length;omega
  rcases EK 12 u b with hc|hc
  .refine gA D (Cz ab u.length D D D D D D D (by omega) (by omega) (by omega) (.inl ⟨hc.1,rfl⟩) D ?_);refine gA D ⟨⟨v.pop u b ((w.st.n:Int)+1),b1⟩,[12],e1,zW (s9 D D (fun i Z=>fC (by show i<12;omega)) D D D D D D D D D D hc.2.symm D D D (yA u b))⟩
  .refine gA D (Cz ab u.length D D D D D D D (by omega) (by omega) (by omega) (.inr ⟨hc.1,rfl⟩) D ?_);refine gA D ⟨⟨v.pop u b ((w.st.n:Int)+1),b1⟩,[12],e1,zW (s9 D D (fun i Z=>fC (by show i<12;omega)) D D D D D D D D D D hc.2.symm D D D (yA u b))⟩
theorem NA(d:gX){p:Prog}(hf:sD p)(j:(cO p).length<=100000000): ∀f,Ni p f
 |0=>fun path a w x hI u b y A=>by
  have:=j8 hI.mq b u;omega
 |f+1=>Ep d hf j f (NA d hf j f)
theorem Ds(b:gX){p:Prog}(hf:sD p)(hs:List (ae×ae×Nat)):Pure prog 51 [.iv (wb (b5 p hs))] (.iv (strs (ns p))):=by
 have h:=EZ b (b5 p hs) (by have:=hf.len;simp[b5];omega);rw[show(b5 p hs).map (·.1)=p.aZ.map Decl.name from Bg p hs]at h;exact h
abbrev IW:PV:= .cK (.func 92) [] [.ptr 4 0,.ptr 5 0,.ptr 7 0,.ptr 0 0,.ptr 8 0,.ptr 6 0]
abbrev rH(G:IV)(w:TW)(k:Nat):AH:=[(0,io (.cells [.iv G])),(1,io (bI w.low)),(2,io (bI w.on)),(3,io (bI w.ring)),(4,io (.cells [.mp 1])),(5,io (.cells [.mp 2])),(6,io (.cells [.mp 3])),(7,io (.cells [oQ w.sw k w.stack])),(8,io (.cells [IW])),(k,io (oR w.sw w.stack))]
theorem Lx{n k:Nat}{σ:Nat->Nat}{h:AH}{G:IV}{w:TW}{B:PV}{x y A o:AO}(b:SE 9 n=kw)(bk:QZ k n=kw)(hs: ∀i,i<9->σ i=i)
  (g0:h.get 0=io (.cells [.iv G])) (g1:h.get 1=io x) (g2:h.get 2=io y) (g3:h.get 3=io A)
  (g4:h.get 4=io (.cells [.mp 1])) (g5:h.get 5=io (.cells [.mp 2])) (g6:h.get 6=io (.cells [.mp 3])) (g7:h.get 7=io (.cells [B])) (g8:h.get 8=io (.cells [IW])) (g9:h.get (σ k)=io o)
  (F:eJ x (bI w.low)) (I:eJ y (bI w.on)) (J:eJ A (bI w.ring)) (S:B=oQ w.sw (σ k) w.stack) (Y:eJ o (oR w.sw w.stack)):mg n σ h (rH G w k):=by
 have Z:=Qs b;have bk:=Qs bk;have hb: ∀i,i<9->QZ i n=kw:=fun i d=>Ry (by omega);subst S;have r: ∀i,i<9->PV.mp (σ i)=PV.mp i:=fun i d=>by rw[hs i d]
 have j: ∀i,i<9->PV.ptr (σ i) 0=PV.ptr i 0:=fun i d=>by rw[hs i d]
 have u: ∀i,i<9->bp n [PV.mp i]=kw:=fun i d=>by simp only[bp,PV.low,hb i d]
 refine⟨⟨_,by rw[hs 0 (by omega)];exact g0,.of_eq D⟩,by omega,rfl,
  ⟨_,by rw[hs 1 (by omega)];exact g1,F⟩,by omega,ac,
  ⟨_,by rw[hs 2 (by omega)];exact g2,I⟩,by omega,ac,
  ⟨_,by rw[hs 3 (by omega)];exact g3,J⟩,by omega,ac,
  ⟨_,by rw[hs 4 (by omega)];exact g4,.of_eq (by simp only[AO.cx,dL,PV.cx,r 1 (by omega)])⟩,by omega,u 1 (by omega),
  ⟨_,by rw[hs 5 (by omega)];exact g5,.of_eq (by simp only[AO.cx,dL,PV.cx,r 2 (by omega)])⟩,by omega,u 2 (by omega),
  ⟨_,by rw[hs 6 (by omega)];exact g6,.of_eq (by simp only[AO.cx,dL,PV.cx,r 3 (by omega)])⟩,by omega,u 3 (by omega),
  ⟨_,by rw[hs 7 (by omega)];exact g7,.of_eq (by simp only[AO.cx,dL,kS])⟩,by omega,by simp only[AO.low,bp,yy (Ry bk)],
  ⟨_,by rw[hs 8 (by omega)];exact g8,.of_eq (by simp only[AO.cx,dL,PV.cx,j 0 (by omega),j 4 (by omega),j 5 (by omega),j 6 (by omega),j 7 (by omega),j 8 (by omega)])⟩,by omega,by simp only[AO.low,bp,PV.low,hb 0 (by omega),hb 4 (by omega),hb 5 (by omega),hb 6 (by omega),hb 7 (by omega),hb 8 (by omega)],
  ⟨_,g9,by rw[kT];exact Y⟩,bk,yB _ _ _,ac⟩
theorem ua{V:Type}{kc:KC}{ev:V->IV}{z:V}{b:Value}{d:PV->V}(x: ∀M,IR M (ev z) b):eJ .fg (.map kc ev z b d []):=
 ⟨id,fun M N U w j u=>⟨#[],0,u,⟨rfl,by simp,by simp,by simp,by simp⟩,x M⟩⟩
def TW.o:TW:=⟨[],[],[],[],jp⟩
theorem Mv(G:IV)(w:TW){n:Nat}:[io (AO.cells [PV.mp 1]),io (.cells [.mp 2]),io (.cells [oQ w.sw 10 w.stack]),io (.cells [.iv G]),io (.cells [IW]),io (.cells [.mp 3]),io (bI w.low),io (bI w.on),io (bI w.ring),io (oR w.sw w.stack)]=
  (tO G w).map fun o=>io (o.cx (sig [4,5,7,0,8,6,1,2,3,10] n)):=by
 have b:=kS (sig [4,5,7,0,8,6,1,2,3,10] n) w.sw 9 w.stack;have d:=kT (sig [4,5,7,0,8,6,1,2,3,10] n) w.sw w.stack;show _=[io (AO.cells [PV.mp 1]),io (.cells [.mp 2]),io (.cells [(oQ w.sw 9 w.stack).cx (sig [4,5,7,0,8,6,1,2,3,10] n)]),io (.cells [.iv G]),io (.cells [IW]),io (.cells [.mp 3]),io (bI w.low),io (bI w.on),io (bI w.ring),io ((oR w.sw w.stack).cx (sig [4,5,7,0,8,6,1,2,3,10] n))]
 rw[b,d];rfl
theorem Mh(F:gX){p:Prog}(hf:sD p)(Z:(cO p).length<=100000000):Go.Al.Fn prog 53 [.iv (wb (b5 p (cO p)))] [] fun r h n=> ∃m:NM,Go.Rg.uZ (ns p) (eg p) (fun a=>bG .str m a 0)∧r= .iv (yf m)∧h=[]∧n=0:=by
 have G:=Ft hf;refine uu ab func53 D (by decide) ntmps53 D (by simp) ?_;refine gA D (zp (Ds F hf (cO p)) ?_);refine gA D ?_;refine uj 7 0 1 D D ?_
 let x:Nat->St ae:=fun i=>fT (bh p) (ns p).length ((ns p).take i) St.o
 have y: ∀i,Inv (bh p) [] (x i):=fun i=>(qO sG (QH _) ((ns p).take i) St.o (fun a h=>TY h) (Ld _)).1
 refine ql 0 (ns p).length (QN _) (fun i w=>⟨[(3,.ptr 4 0),(4,.ptr 5 0),(5,.ptr 6 0),(6,.ptr 7 0),(7,.ptr 8 0),(15,.iv (strs (ns p))),(16,pI (ns p).length),(17,pI i)],rH (wb (b5 p (cO p))) w 10,11⟩)
  (fun i w=>w.Ok (ns p)∧w.st=x i) TW.o [9] ⟨⟨fun a h=>(nomatch h),RF,fun a h=>(nomatch h)⟩,rfl⟩
  (wk D D D (bi (bi (bi (bi (bi (bi (bi (bi trivial))))))))
   (Lx D D (fun i B=>fC (by show i<10;omega)) D D D D D D D D D D (ua fk) (ua fk) (ua fk) D (.of_eq D)) D) fun i w B S=>?_
 obtain⟨A,u⟩:=S;refine zJ D D (fun b=>?_) fun b=>?_
 .have b:=bv b;have j:x (i+1)=if(x i).low ((ns p).getD i co)=0 then(dN (bh p) (ns p).length ((ns p).getD i co) (x i)).2 else x i:=dz b;refine zJ D D (fun d=>?_) fun d=>?_
  .have d:w.st.low ((ns p).getD i co)=0:=zT d;rw[<-u,am d]at j;refine gA D (Cy [4,5,7,0,8,6,1,2,3,10] (NA F hf Z (ns p).length [] ((ns p).getD i co) w A (u▸y i) d (dS b) (fun g Y=>nomatch Y) (RP _ _)) D D D D D (Mv _ _) D ?_);rintro r h' n' ⟨w3,hok3,hst3,rfl,rfl,rfl⟩;refine⟨_,rfl,?_⟩;refine gA D ?_
   exact⟨b,w3,[11],⟨hok3,by rw[j];exact hst3⟩,wk D D D (bi (bi (bi (bi (bi (bi (bi (bi ac))))))))
    (Lx D D (fun i B=>fC (by show i<10;omega)) D D D D D D D D D D (.refl _) (.refl _) (.refl _) (kS _ _ _ _) (.of_eq (kT _ _ _))) D⟩
  .have d: ¬w.st.low ((ns p).getD i co)=0:=zF d;rw[<-u,be d]at j;refine gA D ?_
   exact⟨b,w,[10],⟨A,j.symm⟩,wk D D D (bi (bi (bi (bi (bi (bi (bi (bi ac))))))))
    (Lx D D (fun i B=>fC (by show i<10;omega)) D D D D D D D D D D (.refl _) (.refl _) (.refl _) D (.refl _)) D⟩
 .have b:=ci b;have hr:Go.Rg.uZ (ns p) (eg p) (fun a=>bG .str w.ring a 0):=by
   have d:=E7 hf.nodup (QH (ns p).length);have I:x i=fT (bh p) (ns p).length (ns p) St.o:=by show fT _ _ ((ns p).take i) _=_;rw[QM b]
   have J:(fun a=>bG .str w.ring a 0)=(fT (bh p) (ns p).length (ns p) St.o).ring:=by rw[<-I,<-u];rfl
   rw[J];exact d
  refine gA D ⟨.inr D,_,rfl,j5.map 3 D (.done ⟨.iv (yf w.ring),[],0,[],⟨w.ring,hr,rfl,rfl,rfl⟩,?_⟩)⟩;exact⟨rfl,QN _,by simp,⟨.of_eq D,rfl,ac⟩,ac,RF⟩
end Go.Proofs.YtflegjieadkonaaGreatDoor
namespace Go.Proofs.YtflegjieadkonaaGreatDoor
open Go Go.Al Go.Proofs.Tryz
theorem Ml(l:List ae)(s:ae):Pure prog 129 [.iv (strs l),pS s] (pI (qj (fun x:ae=>li (s=x)) l)):=by
 refine Fc (bY func129 D (by decide)) ⟨_,_,Q3⟩ fun j=>?_;simp only[maxLen]at j;refine ar ab func129 D (by decide) ntmps129 D (by simp) D ?_;refine gA D ?_
 refine aD 0 l.length (QN _) (fun i=>⟨[(0,.iv (strs l)),(1,pS s),(7,pI l.length),(8,pI i)],[],0⟩) (fun i=>(l.take i).any (fun x:ae=>li (s=x))=lc) [] (by simp)
  (Pj D D (bi (bi (bi (bi trivial)))) D) fun i y u=>?_
 refine zJ D D (fun b=>?_) fun b=>?_
 .have b:=bv b;refine zJ D D (fun d=>?_) fun d=>?_
  .have d:(fun x:ae=>li (s=x)) (l.getD i co)=kw:=d;rw[iB u b d];exact zU D
  .have d:(fun x:ae=>li (s=x)) (l.getD i co)=lc:=d;refine gA D ⟨b,(cP u b).2 d,[],Pj D D (bi (bi (bi (bi ac)))) D⟩
 .have b:=ci b;rw[gl (any_none u b)];exact zU D
theorem JV(l:List ae)(s:ae):(l.any fun x=>li (s=x))=aJ l s:=by
 rw[RS,aI,RR];constructor
 .rintro⟨x,hx,h⟩;exact(zT h)▸hx
 .exact fun h=>⟨s,h,decide_eq_true D⟩
theorem vz(l:List ae)(s:ae):Pure prog 99 [.iv (strs l),pS s] (pB (aJ l s)):=by
 refine ar ab func99 D (by decide) ntmps99 D (by simp) D ?_;refine gA D (zp (Ml l s) ?_);refine gA D (zL (.of_eq ?_));exact mF (by rw[<-JV];exact iC _ l)
def og(m:NM)(r:ai)(l:Lit):Bool:=li (l.kind=1)&&li (bG .str m l.atom.rel 0=bG .str m r.head.rel 0)
abbrev Ms(m:NM)(r:ai):List AO:=[.cells [.iv (yf m)],au r.c]
abbrev IM(m:NM)(r:ai):AH:=[(0,io (.cells [.iv (yf m)])),(1,io (au r.c))]
theorem IF(m:NM)(r:ai)(l:Lit):bL prog 102 [ag l.c,.ptr 0 0,.ptr 1 0] (Ms m r) (pB (og m r l)) (IM m r) 2:=by
 refine aw ab func102 D (by decide) ntmps102 D (by simp) ?_;refine zJ D D (fun b=>?_) fun b=>?_
 .have b:l.kind=1:=zT b;refine gA D (zD [] D (zM ⟨.of_eq (mF (by rw[og,decide_eq_true b,RV])),rfl,ac⟩ ((zO (zK ac)))))
 .have b: ¬l.kind=1:=zF b;refine gA D (zD [] D (zM ⟨.of_eq (mF (by rw[og,decide_eq_false b,Si])),rfl,ac⟩ ((zO (zK ac)))))
abbrev E5:PV:= .cK (.func 102) [] [.ptr 0 0,.ptr 1 0]
theorem ID(m:NM)(r:ai)(l:List Lit):bL prog 130 [.iv (de 30 l Lit.c),E5] (Ms m r) (pI (qj (og m r) l)) (IM m r) 2:=by
 refine ru (bY func130 D (by decide)) ⟨_,_,Q3⟩ fun j=>?_;simp only[maxLen]at j;refine aw ab func130 D (by decide) ntmps130 D (by simp) ?_;refine gA D ?_
 refine aD 0 l.length (QN _) (fun i=>⟨[(0,.iv (de 30 l Lit.c)),(1,E5),(7,pI l.length),(8,pI i)],IM m r,2⟩) (fun i=>(l.take i).any (og m r)=lc) [] (by simp)
  (zW ((zO (zK trivial)))) fun i x u=>?_
 refine zJ D D (fun b=>?_) fun b=>?_
 .have b:=bv b;refine gA D (zq [0,1] (IF m r (l.getD i co)) ?_);refine zJ D D (fun d=>?_) fun d=>?_
  .have d:og m r (l.getD i co)=kw:=d;rw[iB u b d];refine gA D (zD [] D (zW ((zO (zK ac)))))
  .have d:og m r (l.getD i co)=lc:=d;refine gA D ⟨b,(cP u b).2 d,[],zW ((zO (zK ac)))⟩
 .have b:=ci b;rw[gl (any_none u b)];refine gA D (zD [] D (zW ((zO (zK ac)))))
theorem IE(m:NM)(r:ai)(l:List Lit):bL prog 101 [.iv (de 30 l Lit.c),E5] (Ms m r) (pB (l.any (og m r))) (IM m r) 2:=by
 refine aw ab func101 D (by decide) ntmps101 D (by simp) ?_;refine gA D (zq [0,1] (ID m r l) ?_);refine gA D (zD [] D (zM ⟨.of_eq (mF (iC _ l)),rfl,ac⟩ ((zO (zK ac)))))
theorem Mg(m:NM)(r:ai):Pure prog 60 [ag r.c,.iv (yf m)] (pB (r.body.any (og m r))):=by
 refine ar ab func60 D (by decide) ntmps60 D (by simp) D ?_;refine gA D (zq [1,0] (IE m r r.body) ?_);exact zU D
def u9(m:NM)(r:ai)(l:Lit):Bool:=li (l.kind≠1)&&(named l).any fun t=>li (bG .str m t 0=bG .str m r.head.rel 0)
def vh(m:NM)(r:ai)(t:Term):Bool:=li (t.kind=1)&&!aJ (kJ r) t.var&&r.body.any (og m r)
def iK(m:NM)(r:ai):eN:=match r.body.find? (u9 m r) with
 |some l=>(70,l.at)
 |none=>if r.head.ad.any (vh m r)=kw then(71,r.at_) else eN.z
theorem Me(m:NM)(r:ai)(hb:r.size<=10000000):Pure prog 57 [ag r.c,.iv (yf m)] (ag (iK m r).c):=by
 have F:r.body.length<=10000000:=by have:=Lit.aA r.body;unfold ai.size at hb;omega
 have S:r.head.ad.length<=10000000:=by unfold ai.size at hb;omega
 refine ar ab func57 D (by decide) ntmps57 D (by simp) D ?_;refine gA D ?_;refine aD 0 r.body.length (QN _) (fun i=>⟨[(1,.iv (yf m)),(2,.ptr 0 0),(4,.ptr 1 0),(13,.iv (lits r.body)),(14,pI r.body.length),(15,pI i)],[(0,io (au r.c)),(1,io (au eN.z.c))],2⟩) (fun i=>(r.body.take i).any (u9 m r)=lc) [] (by simp)
  (zW (zK (zK trivial))) fun i Y y=>?_
 refine zJ D D (fun u=>?_) fun u=>?_
 .have u:=bv u;have J:(r.body.getD i co).size<=10000000:=by have:=Lit.aV r.body i u;unfold ai.size at hb;omega
  have I:=kZ (r.body.getD i co);refine gA D (zp (BY (r.body.getD i co) (by omega)) ?_);refine gA D ?_;refine aD 0 (named (r.body.getD i co)).length (QN _) (fun k=>⟨[(1,.iv (yf m)),(2,.ptr 0 0),(4,.ptr 1 0),(6,.ptr 2 0),(13,.iv (lits r.body)),(14,pI r.body.length),(15,pI i),(20,.iv (strs (named (r.body.getD i co)))),(21,pI (named (r.body.getD i co)).length),(22,pI k)],[(0,io (au r.c)),(1,io (au eN.z.c)),(2,io (au (r.body.getD i co).c))],3⟩)
   (fun k=>li ((r.body.getD i co).kind≠1)=lc∨((named (r.body.getD i co)).take k).any (fun t=>li (bG .str m t 0=bG .str m r.head.rel 0))=lc) [] (.inr (by simp))
   (zW (zK (zK (zK trivial)))) fun k G hK=>?_
  refine zJ D D (fun b=>?_) fun b=>?_
  .have b:k<(named (r.body.getD i co)).length:=by simpa using b
   refine zJ D D (fun d=>?_) fun d=>?_
   .have d: ¬(r.body.getD i co).kind=1:=by simpa using d
    have hK:=hK.resolve_left (by simpa using d);refine zJ D D (fun j=>?_) fun j=>?_
    .have j:bG .str m ((named (r.body.getD i co)).getD k co) 0=bG .str m r.head.rel 0:=zT j;have B:u9 m r (r.body.getD i co)=kw:=by
      rw[u9,decide_eq_true d,RV];exact ya b (decide_eq_true j)
     rw[iK,nq y u B];exact zU D
    .have j: ¬bG .str m ((named (r.body.getD i co)).getD k co) 0=bG .str m r.head.rel 0:=zF j;refine gA D ⟨b,.inr ((cP hK b).2 (decide_eq_false j)),[],zW (zK (zK (zK ac)))⟩
   .have d:(r.body.getD i co).kind=1:=by simpa using d
    refine gA D ⟨b,.inl (decide_eq_false fun h=>h d),[],zW (zK (zK (zK ac)))⟩
  .have b:(named (r.body.getD i co)).length<=k:=by simpa using b
   have B:u9 m r (r.body.getD i co)=lc:=by
    rcases hK with hK|hK
    .rw[u9,hK,Si]
    .rw[u9,any_none hK b,Sd]
   refine gA D ⟨u,(cP y u).2 B,[],zW (zK (zK ac))⟩
 have u:=ci u;have A:r.body.find? (u9 m r)=jp:=lq (any_none y u);rw[iK,A];refine gA D (zp (PZ r hb) ?_);refine gA D ?_;refine aD 0 r.head.ad.length (QN _) (fun k=>⟨[(1,.iv (yf m)),(2,.ptr 0 0),(4,.ptr 1 0),(9,.iv (strs (kJ r))),(49,.iv (de 5 r.head.ad Term.c)),(50,pI r.head.ad.length),(51,pI k)],[(0,io (au r.c)),(1,io (au eN.z.c))],2⟩) (fun k=>(r.head.ad.take k).any (vh m r)=lc) [] (by simp)
  (zW (zK (zK trivial))) fun k G hK=>?_
 refine zJ D D (fun b=>?_) fun b=>?_
 .have b:=bv b;have no:vh m r (r.head.ad.getD k co)=lc->(r.head.ad.take (k+1)).any (vh m r)=lc:=(cP hK b).2;refine zJ D D (fun d=>?_) fun d=>?_
  .have d:(r.head.ad.getD k co).kind=1:=zT d;refine gA D (zp (vz (kJ r) (r.head.ad.getD k co).var) ?_);refine zJ D D (fun j=>?_) fun j=>?_
   .have j:(!aJ (kJ r) (r.head.ad.getD k co).var)=kw:=j;refine gA D (zp (Mg m r) ?_);refine zJ D D (fun x=>?_) fun x=>?_
    .have x:r.body.any (og m r)=kw:=x;rw[am (ya b (by rw[vh,decide_eq_true d,j,x];rfl))];exact zU D
    .have x:r.body.any (og m r)=lc:=x;refine gA D ⟨b,no (by rw[vh,x,Sd]),[],zW (zK (zK ac))⟩
   .have j:(!aJ (kJ r) (r.head.ad.getD k co).var)=lc:=j;refine gA D ⟨b,no (by rw[vh,j,Sd,Si]),[],zW (zK (zK ac))⟩
  .have d: ¬(r.head.ad.getD k co).kind=1:=zF d;refine gA D ⟨b,no (by rw[vh,decide_eq_false d,Si,Si]),[],zW (zK (zK ac))⟩
 .have b:=ci b;rw[be (by rw[any_none hK b];decide)];exact zU D
theorem find_congr{α:Type}{f g:α->Bool}: ∀{l:List α},(∀x∈l,f x=g x)->l.find? f=l.find? g
 | [],_=>rfl
 |x::l,h=>by
  rw[Uc,Uc,h x Q3,find_congr fun y b=>h y (QR _ b)]
theorem uS{α:Type}{f g:α->Bool}{l:List α}(h: ∀x∈l,f x=g x):l.any f=l.any g:=by
 rw[RS,RR,RR];exact⟨fun⟨x,hx,h1⟩=>⟨x,hx,by rw[<-h x hx];exact h1⟩,fun⟨x,hx,h1⟩=>⟨x,hx,by rw[h x hx];exact h1⟩⟩
theorem xt{p:Prog}{a:ae}(h:a∈p.aZ.map Decl.name):a∈ns p:=by rw[ns,jn];exact h
theorem Mr{p:Prog}(hf:sD p){m:NM}(hR:Go.Rg.uZ (ns p) (eg p) (fun a=>bG .str m a 0)){r:ai}(hr:r∈p.rules):r.body.any (og m r)=xd p r:=by
 refine uS fun l d=>?_;rw[og];by_cases b:l.kind=1
 .have j:l.atom.rel∈named l:=by rw[p4,am (.inl b)];exact Sc _
  rw[rK hR (xt (hf.lits r hr l d _ j)) (xt (hf.Cs r hr))]
 .rw[decide_eq_false b];rfl
theorem El{p:Prog}(hf:sD p){m:NM}(hR:Go.Rg.uZ (ns p) (eg p) (fun a=>bG .str m a 0)){r:ai}(hr:r∈p.rules):iK m r=qC p r:=by
 have b:r.body.find? (u9 m r)=sH p r:=find_congr fun l j=>by
  rw[u9];congr 1;exact uS fun t u=>(rK hR (xt (hf.lits r hr l j t u)) (xt (hf.Cs r hr))).symm
 have d:r.head.ad.any (vh m r)=(rv r&&xd p r):=by
  rw[<-Mr hf hR hr,rv];have:vh m r=fun t=>(li (t.kind=1)&&!aJ (kJ r) t.var)&&r.body.any (og m r):=rfl;rw[this];generalize r.body.any (og m r)=c;cases c<;>simp
 rw[iK,qC,b];cases sH p r with
 |some l=>rfl
 |none=>
  simp only[d,Q5]
theorem Mj(b:gX){p:Prog}(hb:p.fit)(h: ¬(dw p).1=0):Pure prog 50 [ag p.c] (.bB [.iv (.v (.map jp)),pB lc]):=by
 have:=La b p hb;rwa[ui,be h,decide_eq_false h]at this
theorem Mi(b:gX){p:Prog}(hb:p.fit)(h:(dw p).1=0):Pure prog 50 [ag p.c] (.bB [.iv (wb (b5 p (cO p))),pB kw]):=by
 have:=La b p hb;rwa[ui,am h,decide_eq_true h]at this
theorem tn{α β:Type}(f:α->List β)(g:α->Nat)(h: ∀a,(f a).length<=g a): ∀l:List α,(l.flatMap f).length<=(l.map g).sum
 | []=>QH _
 |a::l=>by
  have b:=tn f g h l;have d:=h a;rw[Rl,Qv,Q4,Sz];omega
theorem fx: ∀l:List Lit,Lit.az l=(l.map Lit.size).sum
 | []=>rfl
 |x::l=>by rw[Lit.az,fx l,Q4,Sz]
theorem DU{p:Prog}(hs:p.size<=10000000):(cO p).length<=100000000:=by
 have b:=tn (fun r:ai=>r.body.flatMap fun l=>(named l).map fun t=>(r.head.rel,t,lU l)) ai.size (fun r=>by
  have:=tn (fun l=>(named l).map fun t=>(r.head.rel,t,lU l)) Lit.size (fun l=>by rw[Rv];exact kZ l) r.body;rw[<-fx]at this
  unfold ai.size;omega) p.rules
 unfold Prog.size at hs;show(p.rules.flatMap _).length<=_;omega
theorem Mm(G:gX)(p:Prog)(hb:p.fit)(hs:p.size<=10000000):Pure prog 17 [ag p.c] (ag (fI p).c):=by
 by_cases A:(dw p).1=0;rotate_left
 .rw[fI,am A];refine ar ab func17 D (by decide) ntmps17 D (by simp) D ?_;refine gA D (zp (Mj G hb A) ?_);refine zE D D (fun B=>?_) fun B=>?_
  .cases B
  refine gA D (zp (c24 p hb) ?_);exact zU D
 have S:=CE A;have Z:p.rules.length<=1000000000:=hb.2.1;rw[fI,be (by simpa using A)];refine ar ab func17 D (by decide) ntmps17 D (by simp) D ?_;refine gA D (zp (Mi G hb A) ?_);refine zJ D D (fun B=>?_) fun B=>?_
 .cases B
 refine gA D (Cy [] (Mh G S (DU hs)) D D D D D D D ?_);rintro r h' n' ⟨m,hR,rfl,rfl,rfl⟩;refine⟨_,rfl,?_⟩;have hW:p.rules.map (iK m)=p.rules.map (qC p):=List.map_congr_left fun r Y=>El S hR Y;rw[<-hW]
 have y: ∀i,i<p.rules.length->(p.rules.map (iK m)).getD i co=iK m (p.rules.getD i co):=fun i J=>by
  rw[Qx,QC,Qy J,Qx,Qy J];rfl
 have j:(p.rules.map (iK m)).length=p.rules.length:=Rv _;refine gA D ?_;refine aD 0 p.rules.length (QN _) (fun i=>⟨[(1,.ptr 0 0),(2,.ptr 1 0),(5,.iv (yf m)),(21,.iv (de 5 p.rules ai.c)),(22,pI p.rules.length),(23,pI i)],[(0,io (au p.c)),(1,io (au eN.z.c))],2⟩) (fun i=>((p.rules.map (iK m)).take i).any (fun d=>li (d.1≠0))=lc) [] (by simp)
  (zW (zK (zK trivial))) fun i J F=>?_
 refine zJ D D (fun b=>?_) fun b=>?_
 .have b:=bv b;have x:=hb.2.2 _ (dS b);have I:=y i b;refine gA D (zp (Me m (p.rules.getD i co) x.1) ?_);refine zJ D D (fun u=>?_) fun u=>?_
  .have u: ¬(iK m (p.rules.getD i co)).1=0:=by simpa using u
   rw[nq F (by rw[j];exact b) (by rw[I];exact decide_eq_true u),I];exact zU D
  .have u:(iK m (p.rules.getD i co)).1=0:=by simpa using u
   refine gA D ⟨b,(cP F (by rw[j];exact b)).2 (by rw[I];simpa using u),[],zW (zK (zK ac))⟩
 .have b:=ci b;rw[lq (any_none F (by rw[j];exact b))];exact zU D
end Go.Proofs.YtflegjieadkonaaGreatDoor
namespace Go.Proofs.YtflegjieadkonaaGreatDoor
open Go Go.Al
section
section
variable {X:Type} (f:X->AO)
def gP(L:List (Nat×Nat×X)):aX:=fun c=>(L.find? fun y=>y.1==c).map fun y=> .obj (f y.2.2) y.2.1
theorem j9(L:List (Nat×Nat×X)):(gP f L).still:=by
 intro b i e h;unfold gP at h;cases hf:L.find? fun y=>y.1==b<;>rw[hf]at h<;>cases h
theorem zZ: ∀{L:List (Nat×Nat×X)} {j:Nat} {y:Nat×Nat×X},(L.map Ra).Nodup->L[j]? =io y->L.find? (fun z=>z.1==y.1)=io y
 | [],_,_,_,h=>by simp at h
 |x::L,0,y,_,h=>by
  simp only[Th,Qu]at h;subst h;simp
 |x::L,j+1,y,hn,h=>by
  rw[SZ]at h;rw[Q4,RT]at hn;have b: ¬x.1=y.1:=fun e=>hn.1 (e▸SY (Rk h));rw[TO (by simpa using b)];exact zZ hn.2 h
theorem ir{L:List (Nat×Nat×X)}{j:Nat}{y:Nat×Nat×X}(hn:(L.map Ra).Nodup)(h:L[j]? =io y):gP f L y.1=io (.obj (f y.2.2) y.2.1):=by
 unfold gP;rw[zZ hn h];rfl
theorem kV{L:List (Nat×Nat×X)}{c:Nat}(h:c∉L.map Ra):gP f L c=jp:=by
 unfold gP;rw[SF,Sk];intro y b;simp only[beq_iff_eq];exact fun e=>h (e▸SY b)
theorem yH{L:List (Nat×Nat×X)}{c:Nat}(h:gP f L c=jp):c∉L.map Ra:=by
 intro b;obtain⟨y,d,rfl⟩:=RH.1 b;unfold gP at h;rw[SF,Sk]at h;exact h y d (by simp)
theorem rR{L:List (Nat×Nat×X)}{y:Nat×Nat×X}(hn:(L.map Ra).Nodup)(h:y.1∉L.map Ra):((L++ [y]).map Ra).Nodup:=by
 rw[QO,Sh];exact⟨hn,by simp,fun u hu v b g=>h (by simp at b;subst g;subst b;exact hu)⟩
theorem AI{L:List (Nat×Nat×X)}{y:Nat×Nat×X}(hn:(L.map Ra).Nodup)(h:y.1∉L.map Ra):(gP f L).put y.1 (.obj (f y.2.2) y.2.1)=gP f (L++ [y]):=by
 funext c
 have b:=rR hn h;unfold aX.put;by_cases d:c=y.1
 .subst d;rw[am D,ir f b (j:=L.length) (y:=y) (by simp)]
 .rw[be d];by_cases x:c∈L.map Ra
  .obtain⟨z,A,rfl⟩:=RH.1 x;obtain⟨i,u⟩:=RE A;rw[ir f hn u,ir f b (j:=i) (by rw[QQ (Qw.1 u).1];exact u)]
  .rw[kV f x,kV f (by simp only[QO,QK,not_or];exact⟨x,by simpa using d⟩)]
theorem Fx{α:Type}{l:List α}:l.Nodup↔ ∀(i j:Nat) (x:α),l[i]? =io x->l[j]? =io x->i=j:=by
 constructor
 .intro h i j x b d;obtain⟨B,u⟩:=Qw.1 b;obtain⟨F,y⟩:=Qw.1 d;exact(Tp h).1 (u.trans y.symm)
 .intro h;rw[List.nodup_iff_pairwise_ne,Sq];intro i j b d A e;have:=h i j l[i] (Qy b) (by rw[Qy d,e]);omega
theorem tV{L:List (Nat×Nat×X)}{i:Nat}{y y':Nat×Nat×X}(hn:(L.map Ra).Nodup)(B:L[i]? =io y)(h:y'.1∉L.map Ra∨y'.1=y.1):((L.set i y').map Ra).Nodup:=by
 rw[S4];have A:=(Qw.1 B).1;have u:(L.map Ra)[i]? =io y.1:=by rw[QC,B];rfl
 rw[Fx]at hn ⊢;have j: ∀k,(L.map Ra)[k]? =io y'.1->i=k:=by
  intro k e;rcases h with h|h
  .exact absurd (Rk e) h
  .rw[h]at e;exact hn _ _ _ u e
 intro a b x d hb;rw[R5]at d hb;split at d
 .rw[am (by simpa using A)]at d;cases d;split at hb
  .omega
  .have:=j b hb;omega
 .split at hb
  .rw[am (by simpa using A)]at hb;cases hb;have:=j a d;omega
  .exact hn a b x d hb
theorem Dp{L:List (Nat×Nat×X)}{i j e:Nat}{y y':Nat×Nat×X}(hn:(L.map Ra).Nodup)(B:L[i]? =io y)(h:y'.1∉L.map Ra∨y'.1=y.1):
  (((gP f L).put y.1 (.out j e)).drop y.1).put y'.1 (.obj (f y'.2.2) y'.2.1)=gP f (L.set i y'):=by
 funext c
 have x:=tV hn B h;have F:=(Qw.1 B).1;unfold aX.put aX.drop;by_cases A:c=y'.1
 .subst A;rw[am D,ir f x (j:=i) (y:=y') (by rw[R5,am D,am F])]
 .rw[be A];by_cases d:c=y.1
  .rw[am d,kV f];rw[S4];intro u;obtain⟨k,b⟩:=RE u;rw[R5]at b;split at b
   .rw[am (by simpa using F)]at b;cases b;exact A D
   .rename_i G;have I:(L.map Ra)[i]? =io y.1:=by rw[QC,B];rfl
    rw[d]at b;exact G (Fx.1 hn _ _ _ I b)
  .rw[be d];show(if c=y.1 then _ else gP f L c)=_;rw[be d];by_cases u:c∈L.map Ra
   .obtain⟨z,Y,rfl⟩:=RH.1 u;obtain⟨k,b⟩:=RE Y;have J: ¬i=k:=fun g=>d (by subst g;rw[B]at b;cases b;rfl);rw[ir f hn b,ir f x (j:=k) (by rw[R5,be J];exact b)]
   .rw[kV f u,kV f];rw[S4];intro S;obtain⟨k,b⟩:=RE S;rw[R5]at b;split at b
    .rw[am (by simpa using F)]at b;cases b;exact A D
    .exact u (Rk b)
end
end
section
section
variable {nt:Nat} {all:List Oper} {todo pend:List (Nat×Oper)} {R:XQ} {s s':AS} {X:aX}
theorem dR(n:Nat){C:Prop}{d b:List (Nat×Oper)}(h:Lm nP nt all n todo pend s True=(C,d,b,s'))(g:yh Tryz.prog nt all d b R s' X)
  (hC:C:=by(repeat' (first|exact ac|exact rfl|exact aC.refl _|exact aC.bk (by assumption)|apply Rm))<;>first|omega|exact ec (fun _=>rfl) _|(simp only[QW];omega)|(simp;done)|(simp;omega)):yh Tryz.prog nt all todo pend R s X:=JA ab n h hC g
theorem dO{j:Nat}{o:Oper}{C b:Prop}(hrd:eG todo=[(j,o)])(ho:Pm nP nt s o=io (C,s'))(hg:cf nt all s.f o=io kw)(hpb:gT all pend o=kw)(hE:nA todo [j]=kw)(hag:dH nP nt all s' (a8 pend o)=io b)
  (h:yh Tryz.prog nt all (todo.filter fun x=>!Q6 x.1 j) (a8 pend o) R s' X)
  (hC:C∧b:=by(repeat' (first|exact ac|exact rfl|exact aC.refl _|exact aC.bk (by assumption)|apply Rm))<;>first|omega|exact ec (fun _=>rfl) _|(simp only[QW];omega)|(simp;done)|(simp;omega)):yh Tryz.prog nt all todo pend R s X:=
 M3 ab hrd ho hg hpb hE hag hC.1 hC.2 h
end
end
section
section
variable {V:Type}
end
abbrev GrM:=List ((KC.int .i64).K×List ae)
abbrev Qp:=List ((KC.int .i64).K×Int)
def dn(dm:Qp)(x:Int):Bool:=li (x∈dm.map Ra)
section
variable {p:Prog} {ring:ae->Int} {dm:Qp} {out:List (List ae)}
def scP(p:Prog)(a:ae):List ae:=(ns p).filter (eg p a)
structure CpI (p:Prog) (ring:ae->Int) (dm:Qp) (out:List (List ae)):Prop where
 one: ∀e∈dm,e.2=1
 nd:(dm.map Ra).Nodup
 sub: ∀k∈dm.map Ra,∃a∈ns p,ring a=k
 cl:Go.Co.closed (ns p).length (Gm p) fun j=>dn dm (ring ((ns p).getD j co))
 eq: ∃f,f+dm.length=(ns p).length∧out++Go.Rg.Bp (ns p) (scP p) ring f (dn dm)=Go.Rg.Bp (ns p) (scP p) ring (ns p).length fun _=>lc
 len:out.length=dm.length
end
end
abbrev Pd:=Int×Nat×List ae
abbrev GL:=List (Nat×Nat×Pd)
def fR(x:Pd):AO:=aW 1 x.2.2 bR
def Ma(o:Option (Nat×Nat×Nat)):Value:=match o with
 |none=> .slice jp 0 0
 |some (b,len,cap)=> .slice (io ⟨b,0,jp⟩) len cap
def Px(o:Option (Nat×Nat×Nat)):IV:= .v (Ma o)
def dvS(p:PV):Option (Nat×Nat×Nat):=match p with
 | .iv (.v (.slice (io ⟨b,0,jp⟩) len cap))=>io (b,len,cap)
 |_=>jp
abbrev OM:=List ((KC.int .i64).K×Option (Nat×Nat×Nat))
abbrev MD(m:OM):AO:= .map (.int .i64) Px jp (.slice jp 0 0) dvS m
def ofM(L:GL):OM:=L.map fun y=>(y.2.2.1,io (y.1,y.2.2.2.2.length,y.2.2.2.1))
def lj(L:GL):GrM:=L.map fun y=>(y.2.2.1,y.2.2.2.2)
structure J2 (L:GL):Prop where
 nd:(L.map Ra).Nodup
 ok: ∀y∈L,y.2.2.2.2≠ []∧y.2.2.2.2.length<=y.2.2.2.1∧y.2.2.2.1<=maxLen∧y.2.2.2.1*1=y.2.1
theorem CG(L:GL)(k:Int):iQ (.int .i64) (ofM L) k=iQ (.int .i64) (lj L) k:=by
 induction L with
 |nil=>rfl
 |cons y L b=>
  have b:iQ (.int .i64) (ofM L) k=iQ (.int .i64) (lj L) k:=b;unfold ofM lj at b ⊢;simp only[Q4,iQ,b]
theorem yL(l:List ae):(aW 1 l bR).all PV.flat:=by
 intro e b q d;obtain⟨s,_,rfl⟩:=RH.1 b;obtain⟨x,_,rfl⟩:=RH.1 d;trivial
theorem E3{l:List ae}{a:ae}:(aW 1 (l++ [a]) bR).real=kw:=by cases l<;>rfl
theorem AE{L:GL}{b j e:Nat}:(((gP fR L).put b (.out j e)).drop b).still:=by
 intro c i g h;unfold aX.drop aX.put at h;split at h
 .cases h
 .exact j9 fR L c i g h
theorem I5{L:GL}{y:Nat×Nat×Pd}(h:J2 L)(hb:y.1∉L.map Ra)(b:y.2.2.2.2≠ []∧y.2.2.2.2.length<=y.2.2.2.1∧y.2.2.2.1<=maxLen∧y.2.2.2.1*1=y.2.1):J2 (L++ [y]):=
 ⟨rR h.nd hb,fun z hz=>by
  rcases QK.1 hz with hz|hz
  .exact h.ok z hz
  .rw[QJ]at hz;subst hz;exact b⟩
theorem Mz{L:GL}{i:Nat}{y y':Nat×Nat×Pd}(h:J2 L)(hi:L[i]? =io y)(hb:y'.1∉L.map Ra∨y'.1=y.1)(d:y'.2.2.2.2≠ []∧y'.2.2.2.2.length<=y'.2.2.2.1∧y'.2.2.2.1<=maxLen∧y'.2.2.2.1*1=y'.2.1):J2 (L.set i y'):=
 ⟨tV h.nd hi hb,fun z b=>by
  rcases Tx b with b|rfl
  .exact h.ok z b
  .exact d⟩
theorem D5{L:GL}{c j e:Nat}{y:Nat×Nat×Pd}(h:((gP fR L).put y.1 (.out j e)).drop y.1 c=jp):c∉L.map Ra∨c=y.1:=by
 by_cases b:c=y.1
 .exact .inr b
 .unfold aX.drop aX.put at h;rw[be b,be b]at h;exact .inl (yH fR h)
def dvL(_:PV):List ae:=[]
theorem NC{L:GL}(h:J2 L):J0 (gP fR L) (MD (ofM L)) (.map (.int .i64) strs [] (.slice jp 0 0) dvL (lj L)):=by
 refine .map _ _ _ _ _ _ _ _ _ _ (by simp[ofM,lj]) (fun j F b=>?_) fun M=> .iA ..
 .unfold lj at b;rw[QC,QF]at b;obtain⟨y,d,rfl⟩:=b;obtain⟨A,u,x,B⟩:=h.ok y (Rk d);refine⟨(y.2.2.1,io (y.1,y.2.2.2.2.length,y.2.2.2.1)),.slice (io ⟨y.1,0,jp⟩) y.2.2.2.2.length y.2.2.2.1,?_,rfl,rfl,?_⟩
  .unfold ofM;rw[QC,d];rfl
  .exact .row y.1 _ _ 1 y.2.1 _ _ (ir fR h.nd d) (by simp) u x (fQ D)
theorem Ae{p:Prog}(h:(fI p).1=0):(dw p).1=0∧fI p=eN.z:=by
 unfold fI at h ⊢;by_cases b:(dw p).1=0
 .rw[be (by simpa using b)]at h ⊢;refine⟨b,?_⟩;cases hf:(p.rules.map (qC p)).find? fun d=>li (d.1≠0) with
  |none=>rfl
  |some d=>
   rw[hf]at h;have:=List.find?_some hf;simp only[decide_eq_true_eq]at this;exact absurd h this
 .rw[am b]at h;exact absurd h b
section
theorem DQ{n:Nat}{l:Lit}{w:WS}(h:(db (n+1) l w).bad=lc):l.kind=1∨l.kind=2∨l.kind=3∨l.kind=4:=by
 rcases Classical.em (l.kind=1∨l.kind=2∨l.kind=3∨l.kind=4) with h1|h1
 .exact h1
 .exfalso;simp only[not_or]at h1;rw[db,xz,be h1.2.1,be h1.1,be h1.2.2.1,be h1.2.2.2]at h;cases h
theorem vA{p:Prog}{r:ai}{n:Int}(h:(ov p r n).1=0): ∀l∈r.body,lQ l=lc:=by
 intro l d;unfold ov at h;split at h
 .cases h
 .split at h
  .cases h
  .rename_i b;simpa using Sk.1 b l d
section
variable (l:List (ae×Nat)) (c:List (List ae)) (rel:ae)
end
section
variable {p:Prog}
end
end
section
structure Hb (p q:Prog):Prop where
 aZ:q.aZ=p.aZ
 len:q.rules.length=p.rules.length
 mem: ∀r,r∈q.rules↔r∈p.rules
section
variable {p q:Prog}
theorem Hb.symm(h:Hb p q):Hb q p:=⟨h.aZ.symm,h.len.symm,fun r=>(h.mem r).symm⟩
structure LessR (p q:Prog):Prop where
 aZ:q.aZ=p.aZ
 len:q.rules.length<=p.rules.length
 mem: ∀r∈q.rules,r∈p.rules
end
end
abbrev dnF(D:List Bool)(b:Nat):Bool:=D.getD b co
section
theorem xK{α:Type}{f:Nat->Option α}{n:Nat}(h: ∀j,j<n->f j=jp):(Rh n).findSome? f=jp:=by
 rw[SN];exact fun x b=>h x (R3.1 b)
theorem Gj{α:Type}{f:Nat->Option α}{i:Nat}{s:α}(h: ∀j,j<i->f j=jp)(hs:f i=io s): ∀{n:Nat},i<n->(Rh n).findSome? f=io s
 |n+1,hi=>by
  rw[SP,Tn];rcases RK.1 hi with hi|hi
  .rw[Gj h hs hi];rfl
  .subst hi;rw[xK h];simp[hs]
section
variable (K:ae->Bool) (r:ai) (dn:Nat->Bool)
def lA(i:Nat):Int×Int:=(Rh i).foldl (qt K r dn) (-1, -1)
theorem uL(i:Nat):lA K r dn (i+1)=qt K r dn (lA K r dn i) i:=by
 unfold lA;rw[SP,Sp];rfl
end
end
section
def lv(dm:WD)(i:Nat):Bool:=li (bG (.int .i64) dm (i:Int) 0>0)
def oy(fstv:Int)(b:Option cQ)(i:Nat)(s:cQ):Bool:=match b with
 |none=>kw
 |some t=>li ((i:Int)=fstv)||(!li (t.lit=fstv)&&li ((s.jU.length:Int)>t.jU.length))
section
variable (C:Nat->Option cQ) (r:ai) (dn:Nat->Bool) (fstv:Int)
def pz(b:Option cQ)(i:Nat):Option cQ:=if dn i=kw then b else match C i with
 |none=>b
 |some s=>if oy fstv b i s=kw then io s else b
def testW(i:Nat):Option cQ:=if !dn i&&li ((r.body.getD i co).kind≠1) then C i else jp
def fp(i:Nat):Option cQ:=(Rh i).foldl (pz C dn fstv) jp
def tY:Option cQ:=match(Rh r.body.length).findSome? (testW C r dn) with
 |some s=>io s
 |none=>fp C dn fstv r.body.length
theorem nH(i:Nat):fp C dn fstv (i+1)=pz C dn fstv (fp C dn fstv i) i:=by
 unfold fp;rw[SP,Sp];rfl
end
def O5(b:Option cQ):List IV:=match b with
 |none=>MI
 |some t=>t.c
abbrev nxF(r:ai)(fstv:Int)(b:Option cQ)(i:Nat):AF:=[(0,.ptr 0 0),(1,pI fstv),(4,.ptr 3 0),(6,.ptr 4 0),(7,pB b.isSome),(16,.iv (lits r.body)),(17,pI r.body.length),(18,pI i)]
abbrev nxH(r:ai)(b:BM)(ks:List ae)(dm:WD)(c:List IV):AH:=[(0,io (wO r (u4 b))),(1,io (bI (aq ks))),(2,io (sW dm)),(3,io (au MI)),(4,io (au c))]
set_option maxHeartbeats 2000000 in
theorem Mk(r:ai)(B:BM)(ks:List ae)(dm:WD)(fstv:Int)(hb:r.size<=10000000)(a0: ∀i:Int,(bG (.int .i64) B i []).length<=1000000000):
  bL Tryz.prog 109 [.ptr 0 0,pI fstv] (Hg r (u4 B) ks dm) (Bu (tY (fun i=>iU (aJ ks) B (r.body.getD i co) i) r (lv dm) fstv)) (wH r (u4 B) ks dm) 3:=by
 have c0:r.body.length<=10000000:=by have:=Lit.aA r.body;unfold ai.size at hb;omega
 generalize Y:(fun i:Nat=>iU (aJ ks) B (r.body.getD i co) i)=C;have Z: ∀i,C i=iU (aJ ks) B (r.body.getD i co) i:=fun i=>by rw[<-Y]
 refine aw ab Tryz.func109 D (by decide) Tryz.ntmps109 D (by simp) ?_;refine gA D ?_;refine ql 0 r.body.length (QN _) (fun i (b:Option cQ)=>⟨nxF r fstv b i,nxH r B ks dm (O5 b),5⟩) (fun i b=>b=fp C (lv dm) fstv i∧ ∀j,j<i->testW C r (lv dm) j=jp) jp [] ⟨rfl,fun j hj=>absurd hj (R1 j)⟩
  (zM (bi (bi (bi (bi ⟨.MO D,rfl,bi (bi (bi trivial))⟩)))) (zH (zK (zK trivial)))) fun i b hi hJ=>?_
 obtain⟨I,F⟩:=hJ;refine zE D D (fun x=>?_) fun x=>?_
 .have x:r.body.length<=i:=by have:=zF x;omega
  have b0:i=r.body.length:=by omega
  subst b0;have hn:tY C r (lv dm) fstv=b:=by unfold tY;rw[xK F,I]
  rw[hn];cases b with
  |none=>
   refine gA D (zD [] D (zM ⟨Nq,rfl,ac⟩ (zH ac)))
  |some t=>
   refine gA D (zD [] D (zW (zH ac)))
 have x:i<r.body.length:=by have:=zT x;omega
 have u:testW C r (lv dm) i=jp-> ∀j,j<i+1->testW C r (lv dm) j=jp:=fun h j hj=>by
  rcases RK.1 hj with hj|hj
  .exact F j hj
  .subst hj;exact h
 have d:=nH C (lv dm) fstv i;rw[<-I]at d;refine zJ D D (fun y=>?_) fun y=>?_
 .have y:lv dm i=kw:=y;refine gA D ⟨x,b,[],⟨by rw[d];unfold pz;rw[am y],u (by unfold testW;rw[y];rfl)⟩,zW (zH (zK (zK ac)))⟩
 have y:lv dm i=lc:=y;have d:fp C (lv dm) fstv (i+1)=match C i with
   |none=>b
   |some s=>if oy fstv b i s=kw then io s else b:=by rw[d];unfold pz;rw[be (by rw[y];exact Ri)]
 have J:=Lb r B ks dm i x hb (a0 i);rw[<-Z i]at J;cases hk:C i with
 |none=>
  rw[hk]at J d;refine gA D (bc [0,1,2] J D D D D D D D D ?_);refine zJ D D (fun S=>?_) fun S=>?_
  .refine gA D ?_;exact⟨x,b,[],⟨d.symm,u (by unfold testW;rw[hk];split<;>rfl)⟩,zW (zH (zK (zK ac)))⟩
  .exact absurd S (show¬((!lc)=lc) by decide)
 |some s=>
  rw[hk]at J d;refine gA D (bc [0,1,2] J D D D D D D D D ?_);refine zJ D D (fun S=>?_) fun S=>?_
  .exact absurd S (show¬((!kw)=kw) by decide)
  refine zJ D D (fun A=>?_) fun A=>?_
  .have A:(r.body.getD i co).kind≠1:=by
    have A:(!li ((r.body.getD i co).kind=1))=kw:=A;simpa using A
   have G:testW C r (lv dm) i=io s:=by unfold testW;rw[y,decide_eq_true A,hk];rfl
   have hn:tY C r (lv dm) fstv=io s:=by unfold tY;rw[Gj F G x]
   rw[hn];refine gA D (zD [] D (zW (zH ac)))
  have A:(r.body.getD i co).kind=1:=zY A;have G:testW C r (lv dm) i=jp:=by unfold testW;rw[decide_eq_false (not_not_intro A),Sd];rfl
  have d:fp C (lv dm) fstv (i+1)=if oy fstv b i s=kw then io s else b:=d;cases b with
  |none=>
   have d:fp C (lv dm) fstv (i+1)=io s:=d;refine zJ D D (fun g1=>?_) fun g1=>?_
   .exact absurd g1 (show¬((!lc)=lc) by decide)
   refine gA D ?_;exact⟨x,io s,[],⟨d.symm,u G⟩,zM (bi (bi (bi (bi ⟨.MO D,rfl,bi (bi (bi ac))⟩)))) (zH (zK (zK ac)))⟩
  |some t=>
   have d:fp C (lv dm) fstv (i+1)=if(li ((i:Int)=fstv)||(!li (t.lit=fstv)&&li ((s.jU.length:Int)>t.jU.length)))=kw then io s else io t:=d;refine zE D D (fun g1=>?_) fun g1=>?_
   .exact absurd g1 (show¬((!kw)=kw) by decide)
   refine zE D D (fun g2=>?_) fun g2=>?_
   .have g2:li ((i:Int)=fstv)=kw:=g2;rw[am (by rw[g2];rfl)]at d;refine gA D ⟨x,io s,[],⟨d.symm,u G⟩,zM (bi (bi (bi (bi ⟨.MO D,rfl,bi (bi (bi ac))⟩)))) (zH (zK (zK ac)))⟩
   have g2:li ((i:Int)=fstv)=lc:=g2;refine zE D D (fun g3=>?_) fun g3=>?_
   .have g3:(!li (t.lit=fstv))=lc:=g3;rw[be (by rw[g2,g3];exact Ri)]at d;refine gA D ⟨x,io t,[],⟨d.symm,u G⟩,zW (zH (zK (zK ac)))⟩
   have g3:(!li (t.lit=fstv))=kw:=g3;refine zJ D D (fun g4=>?_) fun g4=>?_
   .have g4:li ((s.jU.length:Int)>t.jU.length)=kw:=g4;rw[am (by rw[g2,g3,g4];rfl)]at d;refine gA D ⟨x,io s,[],⟨d.symm,u G⟩,zM (bi (bi (bi (bi ⟨.MO D,rfl,bi (bi (bi ac))⟩)))) (zH (zK (zK ac)))⟩
   .have g4:li ((s.jU.length:Int)>t.jU.length)=lc:=g4;rw[be (by rw[g2,g3,g4];exact Ri)]at d;refine gA D ⟨x,io t,[],⟨d.symm,u G⟩,zW (zH (zK (zK ac)))⟩
end
section
theorem zz{α:Type}{f g:Nat->Option α}: ∀{n:Nat},(∀i,i<n->f i=g i)->(Rh n).findSome? f=(Rh n).findSome? g
 |0,_=>rfl
 |n+1,h=>by
  rw[SP,Tn,Tn,zz fun i b=>h i (by omega)];simp[h n (RX n)]
def ky(r:ai)(fstv:Int):Prop:=fstv= -1∨ ∃f:Nat,fstv=f∧f<r.body.length∧(r.body.getD f co).kind=1
section
variable {K:ae->Bool} {r:ai} {dn:Nat->Bool} {fstv:Int} {C:Nat->Option cQ}
def BU(K:ae->Bool)(r:ai)(i:Nat):cQ:=⟨1,i,gW K (r.body.getD i co).atom,Qz⟩
theorem ly{i:Nat}(h:(r.body.getD i co).kind=1):gG K r i=io (BU K r i):=by
 unfold gG mc;rw[am h];rfl
theorem uE{i:Nat}(b:im K r dn i=jp)(hd:dn i=lc)(h: ¬(r.body.getD i co).kind=1):gG K r i=jp:=by
 unfold im at b;rwa[am (by rw[hd,decide_eq_true h];rfl)]at b
theorem GU(hC: ∀i,i<r.body.length->C i=gG K r i)(hn: ∀i,i<r.body.length->im K r dn i=jp)(G: ¬(0<=fstv∧dn fstv.toNat=lc)): ∀m,m<=r.body.length->
  (fp C dn fstv m=jp∧lA K r dn m=(-1, -1))∨ ∃j:Nat,j<m∧dn j=lc∧(r.body.getD j co).kind=1∧fp C dn fstv m=io (BU K r j)∧lA K r dn m=((j:Int),((gW K (r.body.getD j co).atom).length:Int))
 |0,_=> .inl ⟨rfl,rfl⟩
 |m+1,hm=>by
  have y: ∀j:Nat,dn j=lc-> ¬(j:Int)=fstv:=fun j hd e=>G ⟨by omega,by rw[<-e,QW];exact hd⟩;have d:=nH C dn fstv m;have u:=uL K r dn m;unfold pz at d;unfold qt at u;have I:=GU hC hn G m (by omega);have F:fp C dn fstv (m+1)=fp C dn fstv m->lA K r dn (m+1)=lA K r dn m->((fp C dn fstv (m+1)=jp∧lA K r dn (m+1)=(-1, -1))∨ ∃j:Nat,j<m+1∧dn j=lc∧(r.body.getD j co).kind=1∧fp C dn fstv (m+1)=io (BU K r j)∧lA K r dn (m+1)=((j:Int),((gW K (r.body.getD j co).atom).length:Int))):=fun a b=>I.imp (fun h=>⟨a.trans h.1,b.trans h.2⟩) (fun⟨j,h0,h3,h4,h5,h6⟩=>⟨j,Sb h0,h3,h4,a.trans h5,b.trans h6⟩);by_cases hd:dn m=kw
  .rw[am hd]at d;rw[be (by rw[hd];exact fun h=>nomatch h.1)]at u;exact F d u
  have hd:dn m=lc:=by simpa using hd
  rw[be (by rw[hd];exact Ri),hC m (by omega)]at d;by_cases x:(r.body.getD m co).kind=1
  .rw[ly x]at d;have B:=y m hd;right;rcases I with⟨i1,i2⟩|⟨j,i0,i1,i2,i3,i4⟩
   .rw[i1]at d;rw[i2,am ⟨by rw[hd,decide_eq_true x];rfl,show((gW K (r.body.getD m co).atom).length:Int)> -1 by omega⟩]at u;exact⟨m,RX m,hd,x,d,u⟩
   .have J:oy fstv (io (BU K r j)) m (BU K r m)=li (((gW K (r.body.getD m co).atom).length:Int)>(gW K (r.body.getD j co).atom).length):=by
     unfold oy;show(li ((m:Int)=fstv)||(!li ((j:Int)=fstv)&&decide _))=_;rw[decide_eq_false B,decide_eq_false (y j i1)];rfl
    rw[i3]at d;have d:fp C dn fstv (m+1)=if oy fstv (io (BU K r j)) m (BU K r m)=kw then io (BU K r m) else io (BU K r j):=d;rw[J]at d;rw[i4]at u;by_cases A:((gW K (r.body.getD m co).atom).length:Int)>(gW K (r.body.getD j co).atom).length
    .rw[am (decide_eq_true A)]at d;rw[am ⟨by rw[hd,decide_eq_true x];rfl,A⟩]at u;exact⟨m,RX m,hd,x,d,u⟩
    .rw[be (by rw[decide_eq_false A];exact Ri)]at d;rw[be (fun g=>A g.2)]at u;exact⟨j,Sb i0,i1,i2,d,u⟩
  .rw[uE (hn m (by omega)) hd x]at d;rw[be (by rw[decide_eq_false x,Sd];exact fun h=>nomatch h.1)]at u;exact F d u
theorem GV(hC: ∀i,i<r.body.length->C i=gG K r i){f:Nat}(b:fstv=f)(hd:dn f=lc)(d:(r.body.getD f co).kind=1): ∀m,m<=r.body.length->f<m->fp C dn fstv m=io (BU K r f)
 |0,_,h=>absurd h (R1 f)
 |m+1,hm,hfm=>by
  rw[nH];rcases RK.1 hfm with h|h
  .rw[GV hC b hd d m (by omega) h];unfold pz;split
   .rfl
   .cases C m with
    |none=>rfl
    |some s=>
     show(if oy fstv (io (BU K r f)) m s=kw then io s else io (BU K r f))=_;rw[be];unfold oy;show¬(li ((m:Int)=fstv)||(!li ((f:Int)=fstv)&&_))=kw;rw[decide_eq_false (by omega),decide_eq_true b.symm];exact Ri
  .subst h;unfold pz;rw[be (by rw[hd];exact Ri),hC f (by omega),ly d];show(if oy fstv _ f (BU K r f)=kw then io (BU K r f) else _)=_;rw[am];unfold oy;split
   .rfl
   .rw[decide_eq_true b.symm];rfl
theorem Fv(hC: ∀i,i<r.body.length->C i=gG K r i)(hf:ky r fstv):tY C r dn fstv=fe K r dn fstv:=by
 have B:(Rh r.body.length).findSome? (testW C r dn)=(Rh r.body.length).findSome? (im K r dn):=zz fun i y=>by
  unfold testW im;rw[hC i y]
 unfold tY fe;rw[B];cases hs:(Rh r.body.length).findSome? (im K r dn) with
 |some s=>rfl
 |none=>
  have A: ∀i,i<r.body.length->im K r dn i=jp:=fun i y=>SN.1 hs i (R3.2 y);dsimp only;by_cases b:0<=fstv∧dn fstv.toNat=lc
  .rw[am b];rcases hf with rfl|⟨f,rfl,hfl,d⟩
   .exact absurd b.1 (by decide)
   .have hd:dn f=lc:=b.2;rw[GV hC D hd d _ (QH _) hfl];exact(ly d).symm
  .rw[be b];have hb:mv K r dn=lA K r dn r.body.length:=rfl;rw[hb];rcases GU hC A b r.body.length (QH _) with⟨u,x⟩|⟨j,_,_,d,u,x⟩
   .rw[u,x];rfl
   .rw[u,x,be (by show¬(j:Int)<0;omega)];exact(ly d).symm
end
end
abbrev rC:=ae×Bool
def rC.c(t:rC):List IV:=[iS t.1,.v (.bool t.2)]
def o8(kind:Int)(b:ae)(v:sB):rC:=if kind=1 then(b,!ef b||!cZ v) else(pH v,!li (eS v=0)||!li (b=Qz))
def O8(x:Term):rC:=(K9,!li (x.var=Qz)||!cZ x.val)
def BL(x:Term):rC:=if x.kind=3 then O8 x else((o8 x.kind x.var x.val).1,(o8 x.kind x.var x.val).2||(!li (x.kind=1)&&!li (x.kind=2)))
def pA(a:Atom):Nat->rC
 |0=>(a.rel++sO,!iy a.rel)
 |i+1=>((if(i:Int)>0 then(pA a i).1++xb else(pA a i).1)++(BL (a.ad.getD i co)).1,(pA a i).2||(BL (a.ad.getD i co)).2)
def uP(a:Atom):rC:=((pA a a.ad.length).1++sC,(pA a a.ad.length).2)
theorem gv: ∀(b:List ae) (w:WS),(aN w b).bad=w.bad
 | [],w=>rfl
 |s::r,w=>gv r (xj w s)
theorem ti(w:WS)(v:sB):(kE w v).bad=(w.bad||!li (eS v=0)):=by
 rw[kE,gv];rfl
theorem cE(w:WS)(b:Bool):(aH w b).bad=(w.bad||!b):=rfl
theorem Db(w:WS)(t:Term):(iR w t).bad=(w.bad||(BL t).2):=by
 have hE:(⟨#[]⟩:ByteArray)=Qz:=rfl;unfold iR BL o8 O8;by_cases b:t.kind=1
 .rw[am b,gv,cE,be (by omega),am b,vc];simp[b]
 rw[be b];by_cases d:t.kind=2
 .rw[am d,ti,cE,be (by omega),be b];simp[d,hE];cases w.bad<;>cases li (t.var=Qz)<;>cases li (eS t.val=0)<;>rfl
 rw[be d];by_cases j:t.kind=3
 .rw[am j,gv,cE,am j,vd];simp[hE]
 .rw[be j,be j,be b];simp[b,d,lC]
theorem uy(i:Nat)(w:WS):(fH i w).bad=w.bad:=by
 unfold fH;split
 .rfl
 .exact gv _ _
abbrev Pk(a:Atom)(i:Nat):Term:=a.ad.getD i co
structure GInv (p:Prog) (a:Atom) (n:Nat) (m:NM):Prop where
 is:Lj p a n=io m
 has: ∀s,eH .str m s=kw↔ ∃k,k<n∧(Pk a k).kind=1∧(Pk a k).var=s
 val: ∀k,k<n->(Pk a k).kind=1->bG .str m (Pk a k).var 0=Cv p a k
abbrev uO:rC:=(⟨#[]⟩,kw)
def fJ(e:Expr):Int:=if e.kind=4 then(if e.op=1∨e.op=2 then 1 else if e.op=3∨e.op=4∨e.op=5 then 2 else 3) else 4
def Og(op:Int):ae:=if op=1 then⟨#[32,43,32]⟩ else if op=2 then⟨#[32,45,32]⟩ else if op=3 then⟨#[32,42,32]⟩ else if op=4 then⟨#[32,47,32]⟩ else⟨#[32,109,111,100,32]⟩
def zh(e:Expr)(b:Bool):rC:=((o8 e.kind e.var e.val).1,(o8 e.kind e.var e.val).2||(b||(!li (e.op=0)||decide ((e.args.length:Int)>0))))
def Ow(a:Expr):Bool:=sr a&&li (a.val.num>0)
def Ce(a:Expr):Bool:=li (fJ a<3)||Ow a
def Pz(a:Expr):Bool:=sr a&&li (a.val.num=0)
def y5(a0:Bool->Expr->rC)(e:Expr):rC:=
 if e.op=6 then
  (if e.args.length=1 then(sM++(if Pz (bz e)=kw then(⟨#[45,48]⟩:ByteArray) else(a0 (Ce (bz e)) (bz e)).1),(a0 (Ce (bz e)) (bz e)).2) else uO)
 else if e.args.length=2 then((a0 (li (fJ (bz e)<fJ e)) (bz e)).1++Og e.op++(a0 (li (fJ (qu e)<=fJ e)) (qu e)).1,(a0 (li (fJ (bz e)<fJ e)) (bz e)).2||(a0 (li (fJ (qu e)<=fJ e)) (qu e)).2) else uO
def mr(e:Expr)(b:Bool)(k:rC):rC:=
 if e.kind=1∨e.kind=2 then zh e b
 else if¬e.kind=4∨b=kw∨ ¬e.var=⟨#[]⟩∨cZ e.val=lc∨e.op<1∨e.op>6 then uO else k
def dK:Nat->Expr->rC
 |0,e=>mr e kw uO
 |1,e=>mr e lc uO
 |m+2,e=>mr e lc (y5 (fun b a=>if b=kw then(sO++(dK m a).1++sC,(dK m a).2||decide (m<1)) else dK (m+1) a) e)
def x9(m:Nat)(b:Bool)(a:Expr):rC:=if b=kw then(sO++(dK m a).1++sC,(dK m a).2||decide (m<1)) else dK (m+1) a
theorem wj(m:Nat)(e:Expr):dK (m+2) e=mr e lc (y5 (x9 m) e):=rfl
theorem D2(m:Nat)(w:WS)(e:Expr):bW (m+2) w e=gk w e (gU (nI m) (aH w (jC e)) e):=rfl
theorem nQ{op:Int}:aS op=0↔op<1∨op>6:=by
 unfold aS
 repeat' split
 all_goals omega
theorem wW(op:Int):0<=aS op:=by
 unfold aS
 repeat' split
 all_goals decide
theorem xr{e:Expr}(h:aS e.op=0):jC e=lc:=by
 unfold jC;rw[h];simp
theorem wm{e:Expr}(j:e.kind=4)(h:aS e.op=0): ∀n,(dK n e).2=kw:=by
 have d: ∀b k,(mr e b k).2=kw:=fun b k=>by
  unfold mr;rw[be (by omega),am];have:=nQ.1 h;rcases this with h|h
  .exact .inr (.inr (.inr (.inr (.inl h))))
  .exact .inr (.inr (.inr (.inr (.inr h))))
 intro n
 match n with
 |0=>exact d _ _
 |1=>exact d _ _
 |m+2=>exact d _ _
theorem vV(w:WS)(e:Expr)(k:WS)(b:(aH w (jC e)).bad=kw->k.bad=kw)(ho:jC e=lc)(d:e.kind=4):(gk w e k).bad=kw:=by
 unfold gk;split
 .rfl
 rw[be (show¬e.kind=1 by omega),be (show¬e.kind=2 by omega)];exact b (by rw[cE,ho];simp)
theorem vL(a0:Bool->WS->Expr->WS)(w:WS)(e:Expr)(h:w.bad=kw):gU a0 w e=lC w:=by
 unfold gU;rw[am h]
theorem wi{e:Expr}(b:e.kind=4)(h:aS e.op=0): ∀n w,(bW n w e).bad=kw:=by
 intro n w
 match n with
 |0=>rfl
 |1=>exact vV _ _ _ (fun _=>rfl) (xr h) b
 |m+2=>exact vV _ _ _ (fun g=>by rw[vL _ _ _ g];rfl) (xr h) b
theorem ob{e:Expr}(h: ¬(e.kind=4∧aS e.op=0)):fJ e=dq e:=by
 unfold fJ dq;split
 .rename_i b;have:=mt nQ.2 fun g=>h ⟨b,g⟩;unfold aS;split
  .rfl
  split
  .rfl
  rw[am (by omega)]
 .rfl
theorem fz(w:WS)(s:ae):(aN w [s]).bad=w.bad:=rfl
theorem Ap(e:Expr):li ((e.args.length:Int)>0)=!li ((e.args.length:Int)=0):=by
 by_cases h:e.args.length=0
 .rw[h];rfl
 .rw[decide_eq_true (by omega),decide_eq_false (by omega)];rfl
theorem zm{w:WS}{e:Expr}{k:WS}{t:rC}(h:w.bad=lc->jC e=kw->e.kind=4->k.bad=t.2)(hb:(aH w (jC e)).bad=kw->k.bad=kw):(gk w e k).bad=(w.bad||(mr e lc t).2):=by
 unfold gk mr;cases hw:w.bad with
 |true=>rfl
 |false=>
  rw[be (by decide),R4];by_cases b:e.kind=1
  .rw[am b,am (.inl b),fz,cE,hw];unfold zh o8 mQ;rw[am b,Ap];cases ef e.var<;>cases cZ e.val<;>cases li (e.op=0)<;>cases li ((e.args.length:Int)=0)<;>rfl
  by_cases u:e.kind=2
  .rw[be b,am u,am (.inr u),ti,cE,hw];unfold zh o8 oz;rw[be b,Ap];show(lc||!(li (e.var=Qz)&&_)||_)=_;cases li (eS e.val=0)<;>cases li (e.var=Qz)<;>cases li (e.op=0)<;>cases li ((e.args.length:Int)=0)<;>rfl
  have j: ¬(e.kind=1∨e.kind=2):=by omega
  rw[be b,be u,be j];by_cases d:e.kind=4
  .rw[am d];cases ho:jC e with
   |true=>
    rw[h hw ho d,be];unfold jC at ho;rw[Q5,Q5,decide_eq_true_iff,decide_eq_true_iff]at ho;rintro(g|g|g|g|g)
    .exact g d
    .cases g
    .exact g ho.1
    .rw[g]at ho;cases ho.2.1
    .have:=nQ.2 g;omega
   |false=>
    rw[hb (by rw[cE,ho];simp),am];unfold jC at ho;by_cases g1:e.var=⟨#[]⟩
    .by_cases g2:cZ e.val=kw
     .rw[decide_eq_true g1,g2,RV,RV,decide_eq_false_iff_not]at ho;have:=wW e.op;have:=nQ.1 (show aS e.op=0 by omega);exact .inr (.inr (.inr (.inr this)))
     .exact .inr (.inr (.inr (.inl (by simpa using g2))))
    .exact .inr (.inr (.inl g1))
  .rw[be d,am (.inl d)];rfl
theorem G3{m:Nat}(i0: ∀w e,(bW m w e).bad=(w.bad||(dK m e).2))(i1: ∀w e,(bW (m+1) w e).bad=(w.bad||(dK (m+1) e).2))(b:Bool)(w:WS)(a:Expr):(nI m b w a).bad=(w.bad||(x9 m b a).2):=by
 unfold nI x9;split
 .rw[fz,i0,fz];show _=(w.bad||((dK m a).2||_))
  cases m with
  |zero=>
   have:(dK 0 a).2=kw:=by
    have:=i0 ⟨lc,[],lc,0⟩ a;exact this.symm
   rw[this];rfl
  |succ m=>rw[decide_eq_false (by omega),Sn]
 .exact i1 w a
theorem x8{m:Nat}(i0: ∀w e,(bW m w e).bad=(w.bad||(dK m e).2))(i1: ∀w e,(bW (m+1) w e).bad=(w.bad||(dK (m+1) e).2)){b b':Bool}(w:WS)(a:Expr)(h: ¬(a.kind=4∧aS a.op=0)->b=b'):(nI m b w a).bad=(w.bad||(x9 m b' a).2):=by
 by_cases g:a.kind=4∧aS a.op=0
 .have d:(nI m b w a).bad=kw:=by
   unfold nI;split
   .rw[fz];exact wi g.1 g.2 _ _
   .exact wi g.1 g.2 _ _
  have j:(x9 m b' a).2=kw:=by
   unfold x9;split
   .show((dK m a).2||_)=kw;rw[wm g.1 g.2];rfl
   .exact wm g.1 g.2 _
  rw[d,j,SG]
 .rw[h g];exact G3 i0 i1 _ _ _
theorem Fk{m:Nat}(i0: ∀w e,(bW m w e).bad=(w.bad||(dK m e).2))(i1: ∀w e,(bW (m+1) w e).bad=(w.bad||(dK (m+1) e).2))(w:WS)(e:Expr)(hw:w.bad=lc)(d:e.kind=4)(ho:jC e=kw):(gU (nI m) w e).bad=(y5 (x9 m) e).2:=by
 have j: ¬(e.kind=4∧aS e.op=0):=fun g=>by rw[xr g.2]at ho;cases ho
 have b:fJ e=aS e.op:=by rw[ob j];exact am d
 unfold gU y5;rw[be (by rw[hw];decide)];split
 .split
  .rw[x8 i0 i1 (b':=Ce (bz e)) _ _ fun g=>by unfold k9 Ce Ow;rw[ob g]];have:(if(sr (bz e)&&li ((bz e).val.num=0))=kw then aN (aN w [sM]) [sM] else aN w [sM]).bad=lc:=by
    split
    .exact hw
    .exact hw
   rw[this];rfl
  .rfl
 .split
  .rw[x8 i0 i1 (b':=li (fJ (qu e)<=fJ e)) _ _ fun g=>by rw[b,ob g]];rw[gv,x8 i0 i1 (b':=li (fJ (bz e)<fJ e)) _ _ fun g=>by rw[b,ob g],hw];rfl
  .rfl
theorem ny: ∀(n:Nat) (w:WS) (e:Expr),(bW n w e).bad=(w.bad||(dK n e).2)
 |0,w,e=>by
  have:(dK 0 e).2=kw:=by
   show(mr e kw uO).2=kw;unfold mr;split
   .unfold zh;simp
   split<;>rfl
  rw[this,SG];rfl
 |1,w,e=>zm (fun _ _ _=>rfl) (fun _=>rfl)
 |m+2,w,e=>by
  rw[wj,D2];exact zm (fun d b j=>Fk (ny m) (ny (m+1)) _ _ (by rw[cE,d,b];rfl) j b) (fun g=>by rw[vL _ _ _ g];rfl)
def ki(a:Atom):Bool:=li (a.rel=⟨#[]⟩)&&li ((a.ad.length:Int)=0)
def tX(a:eM):Bool:=li (a.func=0)&&(li (a.var=⟨#[]⟩)&&(cy a.gZ&&li ((a.body.length:Int)=0)))
def mI(l:Lit):Bool:=cy l.left&&(cy l.right&&li (l.op=0))
def jG(f:Lit->rC)(l:List Lit):Nat->rC
 |0=>(⟨#[]⟩,lc)
 |i+1=>if(jG f l i).2=kw then uO else if(f (l.getD i co)).2=kw then uO else((if(i:Int)>0 then(jG f l i).1++xb else(jG f l i).1)++(f (l.getD i co)).1,lc)
def Ov(a:eM):rC:=
 if a.func=1 then(((a.var++pD)++gL a.func)++pE,!ef a.var||!cy a.gZ) else(((((a.var++pD)++gL a.func)++pE)++(dK 17 a.gZ).1)++Dt,!ef a.var||(dK 17 a.gZ).2)
def Ee(f:Lit->rC)(a:eM)(br:Int):rC:=
 if a.func<1∨a.func>4∨br<1∨(a.body.length:Int)=0 then uO
 else(((Ov a).1++(jG f a.body a.body.length).1)++w9,(Ov a).2||(jG f a.body a.body.length).2)
def FF(f:Int->Lit->rC)(br:Int)(l:Lit):rC:=
 if l.kind=1∨l.kind=2 then(if l.kind=2 then yJ++(uP l.atom).1 else(uP l.atom).1,(uP l.atom).2||(!mI l||!tX l.agg))
 else if l.kind=3 then(((dK 17 l.left).1++sy l.op)++(dK 17 l.right).1,(dK 17 l.left).2||((dK 17 l.right).2||(!ki l.atom||(!tX l.agg||(li (l.op<1)||decide (l.op>6))))))
 else if l.kind=4 then((Ee (f (br-1)) l.agg br).1,(Ee (f (br-1)) l.agg br).2||(!ki l.atom||!mI l)) else uO
def p8:Nat->Int->Lit->rC
 |0,_,_=>uO
 |n+1,br,l=>FF (p8 n) br l
theorem uH{f:Lit->WS->WS}{l:List Lit}{w:WS}(h:w.bad=kw): ∀i,cG f l w i=w
 |0=>rfl
 |i+1=>by rw[cG,uH h i,am h]
theorem Ai{f:Lit->WS->WS}{g:Lit->rC}{l:List Lit}{br:Int}(b: ∀l w,(f l w).br=w.br)(h: ∀i,i<l.length-> ∀w:WS,w.br=br->(f (l.getD i co) w).bad=(w.bad||(g (l.getD i co)).2))(w:WS)(hw:w.br=br): ∀i,i<=l.length->(cG f l w i).bad=(w.bad||(jG g l i).2)
 |0,_=>by show w.bad=(w.bad||false);rw[Sn]
 |i+1,hi=>by
  have d:=Ai b h w hw i (by omega);cases hb:w.bad with
  |true=>rw[uH hb,hb];rfl
  |false=>
   rw[hb,R4]at d;rw[cG,d,jG,R4];split
   .rw[d];assumption
   .rename_i u;rw[h i (by omega) _ (by rw[n7,lz f b];exact hw),uy,d];rw[Tc]at u;rw[u,R4];split
    .assumption
    .rename_i j;rw[Tc]at j;rw[j]
theorem CT(w:WS)(n:Int):(sY w n).bad=w.bad:=rfl
theorem MA(w:WS)(a:eM):(oh (aN (aH w (ef a.var)) [a.var,pD,gL a.func,pE]) a).bad=(w.bad||(Ov a).2):=by
 unfold oh Ov;split
 .rw[cE,gv,cE,TF]
 .rw[fz,ny,gv,cE,TF]
theorem JX{f:Lit->WS->WS}{g:Int->Lit->rC}(b: ∀l w,(f l w).br=w.br)(w:WS)(a:eM)(h: ∀i,i<a.body.length-> ∀v:WS,(f (a.body.getD i co) v).bad=(v.bad||(g (16-v.br) (a.body.getD i co)).2)):(uV f w a).bad=(w.bad||(Ee (g (16-w.br-1)) a (16-w.br)).2):=by
 unfold uV Ee;split
 .rw[am (by omega),SG];rfl
 .rw[be (by omega),fz,CT,Ai (g:=g (16-w.br-1)) b (br:=w.br+1) (fun i d v j=>by rw[h i d v,j,show(16:Int)-(w.br+1)=16-w.br-1 by omega]) _ (by show(sY _ 1).br=_;show(oh _ _).br+1=_;rw[A4,cI,mS]) _ (QH _),CT,MA,TF]
theorem Fy(n:Nat):li ((n:Int)>0)=!li ((n:Int)=0):=by
 by_cases h:n=0
 .rw[h];rfl
 .rw[decide_eq_true (by omega),decide_eq_false (by omega)];rfl
theorem wI(w:WS)(a:Atom):(iH w a).bad=(w.bad||(uP a).2):=by
 unfold iH uP;rw[fz];have: ∀i,(eh a.ad (aN (aH w (iy a.rel)) [a.rel,sO]) i).bad=(w.bad||(pA a i).2):=by
  intro i
  induction i with
  |zero=>rw[eh,gv];rfl
  |succ i ih=>rw[eh,Db,uy,ih,pA,TF]
 exact this _
theorem Ci: ∀(n:Nat) (l:Lit) (w:WS),l.size<=n->(db n l w).bad=(w.bad||(p8 n (16-w.br) l).2)
 |0,l,w,h=>by have:=l.size_pos;omega
 |n+1,l,w,h=>by
  have hs:=l.size_eq;have b:=JX (f:=db n) (g:=p8 n) (sP n) (aH w (hQ l)) l.agg fun i y v=>by
   have y:i<l.an.length:=y;have:=Lit.aV l.an i y;have:=l.left.size_pos;exact Ci n (l.an.getD i co) v (by omega)
  rw[mS]at b;rw[db,p8];have Y:ki l.atom=(li (l.atom.rel=⟨#[]⟩)&&li ((l.atom.ad.length:Int)=0)):=rfl;have Z:tX l.agg=(li (l.cH=0)&&(li (l.ba=⟨#[]⟩)&&(cy l.iJ&&li ((l.an.length:Int)=0)))):=rfl;have n3:mI l=(cy l.left&&(cy l.right&&li (l.op=0))):=rfl;have n4:(!(!li (l.atom.rel=⟨#[]⟩)||!li ((l.atom.ad.length:Int)=0)))=ki l.atom:=by rw[Y];simp
  have n5:(!(!li (l.op=0)||(!cy l.left||!cy l.right)))=mI l:=by
   rw[n3];cases li (l.op=0)<;>cases cy l.left<;>cases cy l.right<;>rfl
  have F:hQ l=((li (l.kind=1)||decide (l.kind=2)||ki l.atom)&&((!!li (l.kind=3)||mI l)&&(li (l.kind=4)||tX l.agg))):=by
   unfold hQ;rw[Fy,n4,n5,Z]
  unfold xz FF;rw[F]at b ⊢;generalize ki l.atom=A at*
  generalize tX l.agg=G at*
  generalize mI l=S at*
  by_cases d:l.kind=2
  .rw[am d,am (.inr d),wI,fz,cE];simp only[d];cases w.bad<;>cases(uP l.atom).2<;>cases A<;>cases G<;>cases S<;>rfl
  by_cases x:l.kind=1
  .rw[be d,am x,am (.inl x),wI,cE];simp only[x];cases w.bad<;>cases(uP l.atom).2<;>cases A<;>cases G<;>cases S<;>rfl
  have B: ¬(l.kind=1∨l.kind=2):=by omega
  rw[be d,be x,be B];by_cases j:l.kind=3
  .rw[am j,am j];have J:li (l.op<1)=kw∨li (l.op>6)=kw∨ ¬(l.op<1∨7<=l.op):=by
    simp only[decide_eq_true_eq];omega
   split
   .rename_i I;have:(li (l.op<1)||decide (l.op>6))=kw:=by simp;omega
    rw[this];simp[lC]
   .rename_i I;have:(li (l.op<1)||decide (l.op>6))=lc:=by simp;omega
    rw[this,ny,fz,ny,cE];simp only[j];cases w.bad<;>cases(dK 17 l.left).2<;>cases(dK 17 l.right).2<;>cases A<;>cases G<;>rfl
  rw[be j,be j];by_cases u:l.kind=4
  .rw[am u,am u,b,cE];simp only[u];cases w.bad<;>cases(Ee (p8 n (16-w.br-1)) l.agg (16-w.br)).2<;>cases A<;>cases G<;>cases S<;>rfl
  .rw[be u,be u];show kw=(_||true)
   rw[SG]
section
structure Ask where
 place:Int
 item:Int
 type:Int
 FQ:Int
 deriving Inhabited
def Ask.c(a:Ask):List IV:=[iI a.place,iI a.item,iI a.type,iI a.FQ]
structure AK where
 items:List bU
 root:List Int
 l:List Ask
def AK.rt(A:AK)(i:Int):Int:=A.root.getD i.toNat 0
section
variable (r:ai) (lit w:Int)
end
inductive F2 {α β:Type} (R:α->β->Prop):List α->List β->Prop
 |nil:F2 R [] []
 |cons {a b l m}:R a b->F2 R l m->F2 R (a::l) (b::m)
def CK(b:List bU)(k:Ask)(x:Want):Prop:=k.place=x.lit∧((∃i:Nat,k.item=i∧b[i]? =io x.at_∧x.has=0∧k.type=x.kind∧(x.kind=1∨x.kind=2))∨(k.item= -1∧ ¬x.has=0∧(k.FQ=k.type↔x.has=x.kind)))
structure Cor (up:UM) (W:List Want) (A:AK):Prop where
 len:A.root.length=A.items.length
 lt: ∀z∈A.root,0<=z∧z<A.items.length
 cls: ∀(i j:Nat) (u v:bU),A.items[i]? =io u->A.items[j]? =io v->(A.root.getD i 0=A.root.getD j 0↔bE up u=bE up v)
 up: ∀q∈up,q.1∈A.items∧q.2∈A.items
 ws:F2 (CK A.items) A.l W
def ON(l:List Want)(q:bU->Bool):Option Int:=(l.find? fun x=>li (x.has=0)&&q x.at_).map Want.kind
def Sw(l m:List Want):Prop:=(∀q,ON l q=ON m q)∧ ∀x,x∈l↔x∈m
theorem Sw.refl(l:List Want):Sw l l:=⟨fun _=>rfl,fun _=>Iff.rfl⟩
def Stp(X:List Want)(A B:AK):Prop:= ∀b W,Cor b W A->Cor b (W++X) B
theorem Stp.nil(A:AK):Stp [] A A:=fun b W h=>by rw[Ro];exact h
end
def Eh(lit:Int)(A B:AK):Prop:= ∃m,B.l=A.l++m∧ ∀k∈m,k.place=lit
theorem Eh.refl(lit:Int)(A:AK):Eh lit A A:=⟨[],by simp,fun k b=>(nomatch b)⟩
theorem Eh.trans{lit:Int}{A B C:AK}(h:Eh lit A B)(g:Eh lit B C):Eh lit A C:=by
 obtain⟨m,b,d⟩:=h;obtain⟨n,g1,g2⟩:=g;exact⟨m++n,by rw[g1,b,QU],fun k j=>(QK.1 j).elim (d k) (g2 k)⟩
def AK.kind(A:AK)(i:Int):Int:=((A.l.find? fun k=>li (k.item>=0)&&li (A.rt k.item=A.rt i)).map Ask.type).getD 0
def AK.bad(A:AK)(k:Ask):Bool:=!li ((if k.item>=0 then A.kind k.item else k.FQ)=k.type)
section
abbrev AK.cell(o:List ae)(a b c na nb d:Nat):AO:= .cells [.sl a 0 na 2,.sl b 0 nb 1,.sl c 0 d 4,.iv (strs o)]
abbrev AK.O(A:AK)(o:List ae):List AO:=[AK.cell o 1 2 3 A.items.length A.root.length A.l.length,aW 2 A.items bU.c,aW 1 A.root cR,aW 4 A.l Ask.c]
abbrev AK.K(A:AK)(o:List ae):AH:=[(0,io (AK.cell o 1 2 3 A.items.length A.root.length A.l.length)),(1,io (aW 2 A.items bU.c)),(2,io (aW 1 A.root cR)),(3,io (aW 4 A.l Ask.c))]
abbrev AK.H(A:AK)(o:List ae):AH:=[(0,io (AK.cell o 4 5 6 A.items.length A.root.length A.l.length)),(4,io (aW 2 A.items bU.c)),(5,io (aW 1 A.root cR)),(6,io (aW 4 A.l Ask.c))]
section
variable {P:Program} {nt:Nat} {Q:AQ} {k:List KI} {s:AS}
end
end
end Go.Proofs.YtflegjieadkonaaGreatDoor
namespace Go.Proofs.YtflegjieadkonaaGreatDoor
open Go Go.Al Go.Proofs.Tryz
def AK.ok(A:AK):Prop:=A.root.length=A.items.length∧ ∀k∈A.l,k.item<A.items.length
structure Gr (n:Nat) (A B:AK):Prop where
 ok:A.ok->B.ok
 it:B.items.length<=A.items.length+n
 ln:B.l.length<=A.l.length+n
 mn:A.items.length<=B.items.length
theorem Gr.refl(A:AK):Gr 0 A A:=⟨id,QH _,QH _,QH _⟩
theorem Gr.trans{n m:Nat}{A B C:AK}(h:Gr n A B)(g:Gr m B C):Gr (n+m) A C:=
 ⟨fun o=>g.ok (h.ok o),by have:=h.it;have:=g.it;omega,by have:=h.ln;have:=g.ln;omega,by have:=h.mn;have:=g.mn;omega⟩
theorem xD(k a:List ae):aJ (k++a)=fun x=>aJ k x||aJ a x:=by
 funext x
 unfold aJ;rw[List.any_append]
structure SJ (r:ai) (fstv:Int) (all:List cQ) (n:Nat) (D:List Bool) (k:List ae) (L:List cQ):Prop where
 dl:D.length=r.body.length
 ll:L.length=n
 kl:k.length<=1000000000+n*2000000
 rest:L++cV r fstv (r.body.length-n) (dnF D) (aJ k)=all
def jh(dn:Nat->Bool):Nat->Nat
 |0=>0
 |n+1=>jh dn n+if dn n=kw then 1 else 0
theorem CO(dn:Nat->Bool): ∀n,jh dn n<=n
 |0=>QH _
 |n+1=>by have:=CO dn n;unfold jh;split<;>omega
theorem xS{dn:Nat->Bool}{i:Nat}(hd:dn i=lc): ∀{n},i<n->jh dn n<n
 |0,h=>absurd h (R1 i)
 |n+1,h=>by
  unfold jh;rcases RK.1 h with h|h
  .have:=xS hd h;split<;>omega
  .subst h;rw[be (by rw[hd];exact Ri)];have:=CO dn i;omega
def mJ(dn:Nat->Bool)(i:Int):Nat->Bool:=fun j=>dn j||decide ((j:Int)=i)
theorem wx{dn:Nat->Bool}{i:Nat}: ∀{n},n<=i->jh (mJ dn i) n=jh dn n
 |0,_=>rfl
 |n+1,h=>by
  have e:mJ dn i n=dn n:=by unfold mJ;rw[decide_eq_false (by omega),Sn]
  unfold jh;rw[wx (by omega),e]
theorem uA{dn:Nat->Bool}{i:Nat}(hd:dn i=lc): ∀{n},i<n->jh (mJ dn i) n=jh dn n+1
 |0,h=>absurd h (R1 i)
 |n+1,h=>by
  unfold jh;rcases RK.1 h with h|h
  .have e:mJ dn i n=dn n:=by unfold mJ;rw[decide_eq_false (by omega),Sn]
   rw[uA hd h,e];omega
  .subst h;rw[wx (QH _),am (by unfold mJ;rw[decide_eq_true D,SG]),be (by rw[hd];exact Ri)]
theorem p7{V:Type}{m:List ((KC.int .i64).K×V)}{a c:Int}{v z:V}:bG (.int .i64) (cj (.int .i64) m a v) c z=if a=c then v else bG (.int .i64) m c z:=by
 induction m with
 |nil=>simp only[cj,bG]
 |cons x r ih=>
  obtain⟨k,b⟩:=x;simp only[cj];by_cases h:k=a
  .rw[am h];simp only[bG];by_cases d:a=c
   .simp[d]
   .have: ¬k=c:=fun e=>d (h▸e)
    rw[be d,be d,be this]
  .rw[be h];simp only[bG,ih];by_cases d:k=c
   .have: ¬a=c:=fun e=>h (d.trans e.symm)
    simp[d,this]
   .simp[d]
theorem xP{dm:WD}{i:Nat}(h0:0<=bG (.int .i64) dm (i:Int) 0):lv (D6 dm i)=mJ (lv dm) i:=by
 funext j
 unfold lv D6 mJ;rw[p7];by_cases h:(i:Int)=(j:Int)
 .rw[am h,decide_eq_true (by omega:(j:Int)=i),SG,decide_eq_true (by omega)]
 .rw[be h,decide_eq_false (by omega: ¬(j:Int)=i),Sn]
theorem p3{K:ae->Bool}{r:ai}{dn:Nat->Bool}{fstv:Int}{s:cQ}(hf:fstv<r.body.length)(h:fe K r dn fstv=io s): ∃i:Nat,s.lit=i∧i<r.body.length∧dn i=lc∧gG K r i=io s:=by
 obtain⟨i,u,x,y⟩:=Fu hf h;refine⟨i,u,x,y,?_⟩;have key: ∀j:Nat,gG K r j=io s->gG K r i=io s:=fun j d=>by
  have:=mb d;have:i=j:=by omega
  subst this;exact d
 unfold fe at h;cases hg:(Rh r.body.length).findSome? (im K r dn) with
 |some s'=>
  rw[hg]at h;cases h;obtain⟨j,_,b⟩:=SU hg;unfold im at b;split at b
  .exact key j b
  .cases b
 |none=>
  rw[hg]at h;dsimp only at h;split at h
  .exact key _ h
  .split at h
   .cases h
   .exact key _ h
theorem rA{K:ae->Bool}{r:ai}{l:Lit}{i:Int}{s:cQ}(h:mc K r l i=io s)(b:s.kind=1):l.kind=1:=by
 unfold mc xT yd at h
 repeat' split at h
 all_goals first
  |assumption
  |(cases h;cases b)
  |cases h
structure wM (r:ai) (bm:BM):Prop where
 can: ∀(K:ae->Bool) (i:Nat),i<r.body.length->iU K bm (r.body.getD i co) i=gG K r i
 add: ∀i,i<r.body.length->(r.body.getD i co).kind=1-> ∀x,aJ (cN (r.body.getD i co)) x=aJ (aU (r.body.getD i co).atom) x
 br: ∀i:Int,(bG (.int .i64) bm i []).length<=1000000000
theorem wM.take{r:ai}{d:BM}(h:wM r d){K:ae->Bool}{s:cQ}{i:Nat}(hi:i<r.body.length)(hs:s.lit=i)(hc:gG K r i=io s):aJ (gp r s)=aJ (pC r s):=by
 funext x
 unfold gp pC;by_cases b:s.kind=1
 .rw[am b,am b,hs];exact h.add i hi (rA hc b) x
 .rw[be b,be b]
theorem yq(r:ai)(s:cQ){i:Nat}(hs:s.lit=i)(hi:i<r.body.length)(hb:r.size<=10000000):(gp r s).length<=10000000:=by
 have b:(r.body.getD i co).size<=10000000:=by have:=Lit.aV r.body i hi;unfold ai.size at hb;omega
 have d:=pe (r.body.getD i co);unfold gp;split
 .rw[hs];show(cN (r.body.getD i co)).length<=_;omega
 .split
  .simp
  .simp
structure SW (r:ai) (fstv:Int) (all:List cQ) (c:Option cQ) (ks:List ae) (dm:WD) (L:List cQ):Prop where
 cur:c=fe (aJ ks) r (lv dm) fstv
 kl:ks.length<=1000000000+L.length*10000000
 cnt:jh (lv dm) r.body.length=L.length
 pos: ∀i:Int,0<=bG (.int .i64) dm i 0∧bG (.int .i64) dm i 0<=1
 rest:L++cV r fstv (r.body.length-L.length) (lv dm) (aJ ks)=all
theorem Iv{r:ai}{fstv:Int}{all:List cQ}{ks:List ae}{dm:WD}{L:List cQ}(h:SW r fstv all jp ks dm L):L=all:=by
 have b:=h.rest;have d:=h.cur.symm;cases hm:r.body.length-L.length with
 |zero=>rw[hm]at b;simpa[cV]using b
 |succ m=>rw[hm,cV,d]at b;simpa using b
theorem Iu{r:ai}{B:BM}{fstv:Int}{all:List cQ}{s:cQ}{ks:List ae}{dm:WD}{L:List cQ}(G:wM r B)(hf:fstv<r.body.length)(hb:r.size<=10000000)(h:SW r fstv all (io s) ks dm L):
  ∃i:Nat,s.lit=i∧i<r.body.length∧(0<=bG (.int .i64) dm (i:Int) 0∧bG (.int .i64) dm (i:Int) 0<=1000000000)∧L.length<r.body.length∧SW r fstv all (fe (aJ (ks++gp r s)) r (lv (D6 dm i)) fstv) (ks++gp r s) (D6 dm i) (L++ [s]):=by
 obtain⟨i,u,b,x,F⟩:=p3 hf h.cur.symm;have y:=h.pos i;have d:=xS x b;rw[h.cnt]at d;have I:bG (.int .i64) dm (i:Int) 0=0:=by
  have:=zF x;omega
 refine⟨i,u,b,⟨y.1,by omega⟩,d,rfl,?_,?_,?_,?_⟩
 .have J:=yq r s u b hb;have S:=h.kl;rw[Qv,Qv,Rp,RJ];omega
 .rw[xP y.1,uA x b,h.cnt,Qv,Rp]
 .intro j;unfold D6;rw[p7];split
  .omega
  .exact h.pos j
 .have A:=h.rest;rw[show r.body.length-L.length=(r.body.length-(L.length+1))+1 by omega,cV,<-h.cur]at A;rw[<-A,QU,Qv,Rp,xP y.1,xD,G.take b u F,<-u];rfl
abbrev stF(fstv:Int)(n:Nat)(b:Bool):AF:=[(0,.ptr 0 0),(1,pI fstv),(5,.sl 6 0 n 4),(6,.ptr 5 0),(7,pB b)]
abbrev stH(r:ai)(b:BM)(ks:List ae)(dm:WD)(c:List IV)(L:List cQ):AH:=[(0,io (wO r (u4 b))),(1,io (bI (aq ks))),(2,io (sW dm)),(5,io (au c)),(6,io (aW 4 L cQ.c))]
set_option maxHeartbeats 1000000 in
theorem w6(r:ai)(b:BM)(ks:List ae)(fstv:Int)(G:wM r b)(S:ky r fstv)(hf:fstv<r.body.length)(hb:r.size<=10000000)(hk:ks.length<=1000000000):
  bL prog 73 [.ptr 0 0,pI fstv] (Hg r (u4 b) ks []) (.iv (de 4 (cV r fstv r.body.length (fun _=>lc) (aJ ks)) cQ.c)) [] 3:=by
 have a0:r.body.length<=10000000:=by have:=Lit.aA r.body;unfold ai.size at hb;omega
 have hN: ∀ks dm,bL prog 109 [.ptr 0 0,pI fstv] (Hg r (u4 b) ks dm) (Bu (fe (aJ ks) r (lv dm) fstv)) (wH r (u4 b) ks dm) 3:=fun ks dm=>by
  have h:=Mk r b ks dm fstv hb G.br;rwa[Fv (fun i Y=>G.can (aJ ks) i Y) S]at h
 generalize I:cV r fstv r.body.length (fun _=>lc) (aJ ks)=all
 have h0:SW r fstv all (fe (aJ ks) r (lv []) fstv) ks [] []:=⟨rfl,by omega,by
  have: ∀n,jh (lv []) n=0:=fun n=>by induction n with
   |zero=>rfl
   |succ n ih=>unfold jh;rw[ih];rfl
  exact this _,fun _=>by simp[bG],by
  have:lv []=fun _=>lc:=by funext j;rfl
  rw[this];exact I⟩
 generalize J:fe (aJ ks) r (lv []) fstv=c at h0;have u:=hN ks [];rw[J]at u;refine aw ab func73 D (by decide) ntmps73 D (by simp) ?_;refine gA D (bc [0,1,2] u D D D D D D D D ?_);refine gA D ?_;refine nX 5 4 D ?_;refine mZ (σ:={x:Option cQ×List ae×WD×List cQ//SW r fstv all x.1 x.2.1 x.2.2.1 x.2.2.2}) (fun x=>⟨stF fstv x.1.2.2.2.length (DD x.1.1).2,stH r b x.1.2.1 x.1.2.2.1 (DD x.1.1).1.c x.1.2.2.2,7⟩) (fun x=>r.body.length-x.1.2.2.2.length) ⟨(c,ks,[],[]),h0⟩ [3,4]
  (zW (zH (zK (zS trivial)))) fun x=>?_
 obtain⟨⟨c,ks,dm,L⟩,A⟩:=x;have A:SW r fstv all c ks dm L:=A;show GO prog _ _ _ ⟨stF fstv L.length (DD c).2,stH r b ks dm (DD c).1.c L,7⟩;refine zJ D D (fun Z=>?_) fun Z=>?_
 .cases c with
  |none=>exact absurd Z (show¬(lc=kw) by decide)
  |some s=>
   obtain⟨i,hs,Y,hd,d0,y⟩:=Iu G hf hb A;obtain⟨B,lt,d,F⟩:=s;cases hs;have c0:=A.kl;refine gA D (bc [0,1,2] (EX r (u4 b) ks dm B i d F Y hb (by omega) hd) D D D D D D D D ?_);have hn:=hN (ks++gp r ⟨B,(i:Int),d,F⟩) (D6 dm i);generalize b0:fe (aJ (ks++gp r ⟨B,(i:Int),d,F⟩)) r (lv (D6 dm i)) fstv=c2 at hn y;refine gA D (bc [0,1,2] hn D D D D D D D D ?_);refine gA D ⟨⟨(c2,ks++gp r ⟨B,(i:Int),d,F⟩,D6 dm i,L++ [⟨B,(i:Int),d,F⟩]),y⟩,[9,8],by simp only[Qv,Rp];omega,zM (bi (bi ⟨.row (by rw[Qv];rfl),rfl,bi (bi ac)⟩)) (zH (zK (hR D (by rw[QO];rfl) D ac)))⟩
 .cases c with
  |some s=>exact absurd Z (show¬(kw=lc) by decide)
  |none=>
   have:=Iv A;subst this;refine gM 1 D (jL [] (t:=⟨[(5,.sl 6 0 L.length 4)],[(6,io (aW 4 L cQ.c))],7⟩) (zW (zS ac)) ?_);refine xF 6 (fun k=>cQ.c (L.getD k co)) D (fQ D) (by simp[AF.tP,PV.cU]) ⟨tE _ _ _ _ _ _,ac⟩ ?_
   refine jL (L:=[]) (t:=⟨[(5,.iv (de 4 L cQ.c))],[],7⟩) (zM ⟨(by
    show aC (.iv (.c5 4 L.length fun k=>cQ.c (L.getD (0+k) co))) (.iv (de 4 L cQ.c));simp only[Q9]
    exact .refl _),rfl,ac⟩ ac) ?_
   refine gA D (zD [] D (zW ac))
def fh(l:Lit):List ae:=(if l.cH=1 then[] else aY l.iJ)++l.an.flatMap cN
def Hk(r:ai)(l:Lit):List ae:=if l.kind=4 then(outer r).filter (aJ (fh l)) else[]
def uW(G:BM)(k:Int)(l:List ae):BM:=l.foldl (fun G a=>cj (.int .i64) G k (bG (.int .i64) G k []++ [a])) G
def JQ(r:ai)(i:Nat):BM:=(Rh i).foldl (fun G (i:Nat)=>uW G i (Hk r (r.body.getD i co))) []
def CU(r:ai):BM:=JQ r r.body.length
theorem Ef(G:BM)(k:Int)(l:List ae)(a:ae):uW G k (l++ [a])=cj (.int .i64) (uW G k l) k (bG (.int .i64) (uW G k l) k []++ [a]):=by
 unfold uW;rw[Sp];rfl
theorem Ak(r:ai)(i:Nat):JQ r (i+1)=uW (JQ r i) i (Hk r (r.body.getD i co)):=by
 unfold JQ;rw[SP,Sp];rfl
theorem C3(k c:Int): ∀(l:List ae) (G:BM),bG (.int .i64) (uW G k l) c []=if k=c then bG (.int .i64) G c []++l else bG (.int .i64) G c []
 | [],G=>by unfold uW;simp
 |a::l,G=>by
  show bG (.int .i64) (uW (cj (.int .i64) G k (bG (.int .i64) G k []++ [a])) k l) c []=_;rw[C3 k c l,p7];by_cases h:k=c
  .subst h;rw[am D,am D,am D,QU];rfl
  .rw[be h,be h,be h]
theorem Bw(r:ai)(c:Int): ∀n,bG (.int .i64) (JQ r n) c []=if 0<=c∧c<n then Hk r (r.body.getD c.toNat co) else[]
 |0=>by rw[be (by omega)];rfl
 |n+1=>by
  rw[Ak,C3,Bw r c n];by_cases h:(n:Int)=c
  .subst h;rw[am D,be (by omega),am (by omega),QW];rfl
  .rw[be h];by_cases b:0<=c∧c<n
   .rw[am b,am (by omega)]
   .rw[be b,be (by omega)]
theorem JO(r:ai)(l:Lit):(Hk r l).length<=r.size:=by
 unfold Hk;split
 .exact Rr (RP _ _) (vI r)
 .exact QN _
theorem Nb(r:ai){i:Nat}(hi:i<r.body.length):bG (.int .i64) (CU r) (i:Int) []=Hk r (r.body.getD i co):=by
 unfold CU;rw[Bw,am (by omega)];rfl
theorem JP(r:ai)(c:Int):(bG (.int .i64) (CU r) c []).length<=r.size:=by
 unfold CU;rw[Bw];split
 .exact JO r _
 .exact QN _
theorem Fp{L:GL}(k:Int)(a:ae):
  (iQ (.int .i64) (ofM L) k=jp∧bG (.int .i64) (ofM L) k jp=jp∧(∀b e a0,cj (.int .i64) (ofM L) k (io (b,1,a0))=ofM (L++ [(b,e,k,a0,[a])])∧lj (L++ [(b,e,k,a0,[a])])=cj (.int .i64) (lj L) k (bG (.int .i64) (lj L) k []++ [a])))∨
  ∃i y,L[i]? =io y∧bG (.int .i64) (ofM L) k jp=io (y.1,y.2.2.2.2.length,y.2.2.2.1)∧(∀b e a0,cj (.int .i64) (ofM L) k (io (b,y.2.2.2.2.length+1,a0))=ofM (L.set i (b,e,k,a0,y.2.2.2.2++ [a]))∧lj (L.set i (b,e,k,a0,y.2.2.2.2++ [a]))=cj (.int .i64) (lj L) k (bG (.int .i64) (lj L) k []++ [a])):=by
 cases hf:iQ (.int .i64) (ofM L) k with
 |none=>
  obtain⟨d,_,u,_⟩:=jq hf;rw[CG]at hf;obtain⟨x,_,B,_⟩:=jq hf;exact .inl ⟨rfl,d jp,fun b e a0=>⟨by rw[u];simp[ofM],by rw[B,x];simp[lj]⟩⟩
 |some i=>
  right;obtain⟨v,d,u,_,x,_⟩:=jo hf;rw[CG]at hf;obtain⟨G,g1,g2,_,g3,_⟩:=jo hf;have j: ∃y,L[i]? =io y:=by
   unfold ofM at d;rw[QC,QF]at d;obtain⟨y,j,_⟩:=d;exact⟨y,j⟩
  obtain⟨y,j⟩:=j;have F:v=io (y.1,y.2.2.2.2.length,y.2.2.2.1):=by
   unfold ofM at d;rw[QC,j]at d;simp only[RZ,Qu,QI]at d;exact d.2.symm
  have A:G=y.2.2.2.2:=by
   unfold lj at g1;rw[QC,j]at g1;simp only[RZ,Qu,QI]at g1;exact g1.2.symm
  refine⟨i,y,j,by rw[u jp,F],fun b e a0=>⟨?_,?_⟩⟩
  .rw[x];unfold ofM;rw[S4];simp
  .rw[g3,g2 [],A];unfold lj;rw[S4]
abbrev Nu(r:ai):AO:= .cells [.iv (iS r.head.rel),.iv (de 5 r.head.ad Term.c),.iv (lits r.body),.iv (iI r.at_.line),.iv (iI r.at_.yg),.mp 1,.mp 2,.mp 3]
theorem vS: ∀l:List Lit,(l.flatMap cN).length<=Lit.az l
 | []=>QH _
 |e::r=>by
  have b:=pe e;have d:=vS r;simp only[Rl,Qv,Lit.az];omega
theorem DP(l:List Lit){k:Nat}(h:k<l.length):((l.take k).flatMap cN).length+(l.getD k co).size<=2*Lit.az l:=by
 have d:=vS (l.take k);have j:=Lit.aV l k h;have b: ∀(l:List Lit) k,Lit.az (l.take k)<=Lit.az l:=fun l=>by
  induction l with
  |nil=>intro k;simp
  |cons e r ih=>intro k;cases k with
   |zero=>simp[Lit.az]
   |succ k=>have:=ih k;simp only[RY,Lit.az];omega
 have:=b l k;omega
abbrev Qk(r:ai)(i:Nat):AF:=[(2,.ptr 0 0),(5,.ptr 4 0),(8,.iv (strs (outer r))),(39,.iv (lits r.body)),(40,pI r.body.length),(41,pI i)]
abbrev Qi(r:ai)(ks:List ae)(L:GL):AH:=[(0,io (au r.c)),(1,io (bI (aq ks))),(2,io (MD (ofM L))),(3,io (sW [])),(4,io (Nu r))]
theorem hB{n:Nat}{σ:Nat->Nat}{h:AH}{r:ai}{m:NM}{b:List ae}{d:OM}{L:GL}{rest:AH}(h0:h.get (σ 0)=io (au r.c))(h1:h.get (σ 1)=io (bI m))(x:h.get (σ 2)=io (MD d))(y:h.get (σ 3)=io (sW []))
  (A:h.get (σ 4)=io (.cells [.iv (iS r.head.rel),.iv (de 5 r.head.ad Term.c),.iv (lits r.body),.iv (iI r.at_.line),.iv (iI r.at_.yg),.mp (σ 1),.mp (σ 2),.mp (σ 3)])) (j:m=aq b) (u:d=ofM L) (B:(Nu r).low n) (hb:QZ 4 n=kw) (hr:mg n σ h rest):
  mg n σ h ((0,io (au r.c))::(1,io (bI (aq b)))::(2,io (MD (ofM L)))::(3,io (sW []))::(4,io (Nu r))::rest):=by
 subst j u;have F:4<n:=Qs hb;exact⟨⟨_,h0,.of_eq D⟩,by omega,oc n r.c,⟨_,h1,.of_eq D⟩,by omega,ac,⟨_,x,.of_eq D⟩,by omega,ac,⟨_,y,.of_eq D⟩,by omega,ac,⟨_,A,.of_eq D⟩,F,B,hr⟩
abbrev Nd(r:ai)(i:Nat):AF:=[(2,.ptr 0 0),(5,.ptr 4 0),(8,.iv (strs (outer r))),(39,.iv (lits r.body)),(40,pI r.body.length),(41,pI i),(9,pI i),(10,.ptr 5 0),(11,.mp 6)]
abbrev Qj(r:ai)(i:Nat)(l:Lit)(k:Nat):AF:=[(2,.ptr 0 0),(5,.ptr 4 0),(8,.iv (strs (outer r))),(39,.iv (lits r.body)),(40,pI r.body.length),(41,pI i),(9,pI i),(10,.ptr 5 0),(11,.mp 6),(61,.iv (lits l.an)),(62,pI l.an.length),(63,pI k)]
abbrev Nc(r:ai)(i:Nat)(k:Nat):AF:=[(2,.ptr 0 0),(5,.ptr 4 0),(8,.iv (strs (outer r))),(39,.iv (lits r.body)),(40,pI r.body.length),(41,pI i),(9,pI i),(10,.ptr 5 0),(11,.mp 6),(71,.iv (strs (outer r))),(72,pI (outer r).length),(73,pI k)]
abbrev O4(r:ai)(i:Nat)(k n:Nat):AF:=[(2,.ptr 0 0),(5,.ptr 4 0),(8,.iv (strs (outer r))),(39,.iv (lits r.body)),(40,pI r.body.length),(41,pI i),(9,pI i),(10,.ptr 5 0),(11,.mp 6),(71,.iv (strs (outer r))),(72,pI (outer r).length),(73,pI k),(84,.mp 2),(85,pI i),(94,.sl 9 0 n 1)]
abbrev O3(r:ai)(ks:List ae)(L:GL)(l:Lit)(occ:List ae)(x:List ae):AH:=[(0,io (au r.c)),(1,io (bI (aq ks))),(2,io (MD (ofM L))),(3,io (sW [])),(4,io (Nu r)),(5,io (au l.c)),(6,io (bI (aq occ))),(9,io (aW 1 x bR))]
abbrev By(r:ai)(ks:List ae)(L:GL)(l:Lit)(occ:List ae):AH:=[(0,io (au r.c)),(1,io (bI (aq ks))),(2,io (MD (ofM L))),(3,io (sW [])),(4,io (Nu r)),(5,io (au l.c)),(6,io (bI (aq occ)))]
set_option maxHeartbeats 1000000 in
theorem AR(r:ai)(ks:List ae)(hb:r.size<=2000000)(hk:ks.length<=1000000000):bL prog 72 [ag r.c,.iv (strs ks)] [] (.ptr 0 0) (wH r (u4 (CU r)) ks []) 3:=by
 have s0:r.body.length<=2000000:=by have:=Lit.aA r.body;unfold ai.size at hb;omega
 have r0:(outer r).length<=2000000:=Rr (vI r) hb;refine aw ab func72 D (by decide) ntmps72 D (by simp) ?_;refine gA D ?_;refine aD 0 ks.length (QN _) (fun j=>⟨[(2,.ptr 0 0),(5,.ptr 4 0),(22,.iv (strs ks)),(23,pI ks.length),(24,pI j)],[(0,io (au r.c)),(1,io (bI (aq (ks.take j)))),(2,io (MD (ofM []))),(3,io (sW [])),(4,io (Nu r))],5⟩) (fun _=>True) [] ac ?_ fun j hj _=>?_
 .exact zW (zK (DV D (fun _=> .v _) D (DV D (fun _=> .v _) D (DV D (fun _=> .v _) D (zO ac)))))
 refine zJ D D (fun G=>?_) fun G=>?_
 .have G:=bv G;have i0:=bf (ks.take j) (ks.getD j co);have n0:=dE (ks.take j) (ks.getD j co);simp only[RW]at n0;refine gA D ⟨G,ac,[],zW (hB D D D D D (by rw[cC G,bZ];rfl) D D D ac)⟩
 have G:=ci G;have e0:ks.take j=ks:=QM G;rw[e0];refine gA D (zp (M9 r (by omega)) ?_);refine gM 2 D (Li ?_);refine bP (bP (ph ⟨Qk r 0,Qi r ks [],5⟩ ?_ ?_))
 .refine gA D (kv [] ?_);exact zW (hB D D D D D D D D D ac)
 refine eC (rh 0 r.body.length (QN _) (fun i (x:ULift.{1} GL)=>⟨Qk r i,Qi r ks x.down,5⟩)
  (fun i x Y=>Y=gP fR x.down∧J2 x.down∧lj x.down=JQ r i∧ ∀y∈x.down,y.2.2.2.2.length<=i*(outer r).length) ⟨[]⟩ [] ⟨rfl,⟨RF,fun y hy=>(nomatch hy)⟩,rfl,fun y hy=>(nomatch hy)⟩
  (zW (hB D D D D D D D D D ac)) (fun _ _ _ h=>h.1▸j9 fR _) fun i x Y hi hJ=>?_)
 obtain⟨rfl,c0,Z,g0⟩:=hJ;obtain⟨L⟩:=x;have c0:J2 L:=c0;have Z:lj L=JQ r i:=Z;have g0: ∀y∈L,y.2.2.2.2.length<=i*(outer r).length:=g0;refine bP (fi ?_);refine gA D ?_;refine bP (ku D (fun G=>kr ?_) (fun G=>nW ?_));rotate_left
 .have G:=ci G;have j0:i=r.body.length:=by omega
  subst j0;change GX _ _ [.code _] _ _ _;refine FT (EF (i:=2) (o':= .map (.int .i64) strs [] (.slice jp 0 0) dvL (lj L)) D (NC c0)) fun t Y I=>?_;obtain⟨rfl,rfl⟩:=I;rw[Z];refine fi ?_;refine sS 2 D ?_;refine gA D (zD [4,1,3] D (zW (zH ac)))
 have G:=bv G;have b0:=Ak r i;refine bP (eC ?_);refine uh 2 ⟨Qk r i++ [(9,pI i),(10,.ptr 5 0),(48,pB (li ((r.body.getD i co).kind=4)))],Qi r ks L++ [(5,io (au (r.body.getD i co).c))],6⟩ D ?_ ?_
 .refine gA D (kv [5] ?_);exact zW (hB D D D D D D D D D (zK ac))
 refine ku D (fun q1=>?_) (fun q1=>kr ?_)
 .have q1:(r.body.getD i co).kind=4:=zT q1;generalize q0:r.body.getD i co=l at*
  have x0:l.size<=10000000:=by rw[<-q0];have:=Lit.aV r.body i G;unfold ai.size at hb;omega
  have w0:=l.size_eq;have t0:i*(outer r).length<=2000000*2000000:=Nat.mul_le_mul (by omega) r0;have o0:=fj l.iJ;have f0:=Lit.aA l.an;refine uh 1 ⟨Nd r i,By r ks L l [],7⟩ D ?_ ?_
  .refine gA D (kv [6] ?_);exact zW (hB D D D D D D D D D (zK (DV D (fun _=> .v _) D ac)))
  refine uh 1 ⟨Nd r i,By r ks L l (if l.cH=1 then[] else aY l.iJ),7⟩ D ?_ ?_
  .refine zJ D D (fun q2=>?_) fun q2=>?_
   .have q2: ¬l.cH=1:=by simpa using q2
    rw[be q2];refine gA D (bc [6] (oU _ l.iJ [] (QH _) (by simp only[R0];omega)) D D D D D D D D ?_);refine gA D (kv [] ?_);exact zW (hB D D D D D D D D D (zK (zC ac)))
   .have q2:l.cH=1:=by simpa using q2
    rw[am q2];refine gA D (kv [] ?_);exact zW (hB D D D D D D D D D (zK (zC ac)))
  generalize d0:(if l.cH=1 then[] else aY l.iJ)=pre;have v0:pre.length<=l.iJ.size:=by rw[<-d0];split;simp;exact o0
  have j0:fh l=pre++l.an.flatMap cN:=by unfold fh;rw[d0]
  refine uh 1 ⟨Nd r i,By r ks L l (fh l),7⟩ D ?_ ?_
  .refine gA D ?_;refine aD 0 l.an.length (QN _) (fun k=>⟨Qj r i l k,By r ks L l (pre++(l.an.take k).flatMap cN),7⟩) (fun _=>True) [] ac
    (zM (bi (bi (bi (bi (bi (bi (bi (bi (bi ⟨.iv (mX _),rfl,bi (bi trivial)⟩))))))))) (hB D D D D D D D D D (zK (hM D (by simp) D trivial)))) fun k hk _=>?_
   refine zJ D D (fun B=>?_) fun B=>?_
   .have B:=bv B;have hs:=bn (f:=cN) B;have hz:=Lit.aV l.an k B;refine gA D (bc [6] (E0 (l.an.getD k co) (pre++(l.an.take k).flatMap cN) (by have:=DP l.an B;rw[Qv];omega)) D D D D D D D D ?_);refine gA D ⟨B,ac,[],zW (hB D D D D D D D D D (zK (hM D (by rw[hs,QU]) D ac)))⟩
   .have B:=ci B;rw[QM B];refine gA D (kv [] ?_);exact zW (hB D D D D D D D D D (zK (hM D (by rw[j0]) D ac)))
  refine bP (ph ⟨Nc r i 0,By r ks L l (fh l),7⟩ ?_ ?_)
  .refine gA D (kv [] ?_);exact zW (hB D D D D D D D D D (zK (zC ac)))
  refine eC (rh 0 (outer r).length (QN _) (fun k (x:ULift.{1} GL)=>⟨Nc r i k,By r ks x.down l (fh l),7⟩)
   (fun k x Y=>Y=gP fR x.down∧J2 x.down∧lj x.down=uW (JQ r i) i (((outer r).take k).filter (aJ (fh l)))∧ ∀y∈x.down,y.2.2.2.2.length<=i*(outer r).length+k) ⟨L⟩ [] ⟨rfl,c0,Z,g0⟩
   (zW (hB D D D D D D D D D (zK (zC ac)))) (fun _ _ _ h=>h.1▸j9 fR _) fun k x Y hk hJ=>?_)
  obtain⟨rfl,u,F,A⟩:=hJ;obtain⟨J⟩:=x;have u:J2 J:=u;have F:lj J=uW (JQ r i) i (((outer r).take k).filter (aJ (fh l))):=F;have A: ∀y∈J,y.2.2.2.2.length<=i*(outer r).length+k:=A;refine bP (fi ?_);refine gA D ?_;refine bP (ku D (fun B=>kr ?_) (fun B=>nW ?_));rotate_left
  .change GX _ _ (.aB 3::_) _ _ _;have B:=ci B;rw[QM B]at F;refine pj (fi ?_);refine gA D ⟨G,⟨J⟩,[],⟨rfl,u,by rw[b0,F];unfold Hk;rw[am q1],fun z hz=>by have:=A z hz;rw[SQ];omega⟩,zW (hB D D D D D D D D D ac)⟩
  have B:=bv B;have m0:=cC B;refine bP (eC ?_);refine uh 2 ⟨Nc r i k++ [(15,pS ((outer r).getD k co)),(80,pB (aJ (fh l) ((outer r).getD k co)))],By r ks J l (fh l),7⟩ D ?_ ?_
  .refine gA D (kv [] ?_);exact zM (bi (bi (bi (bi (bi (bi (bi (bi (bi (bi (bi (bi (bi ⟨.of_eq (by rw[<-qq];rfl),rfl,ac⟩))))))))))))) (hB D D D D D D D D D (zK (zC ac)))
  refine ku D (fun q4=>?_) (fun q4=>kr ?_);rotate_left
  .refine pj (fi ?_);refine gA D ⟨B,⟨J⟩,[],⟨rfl,u,by rw[m0,Tg,List.filter_cons_of_neg (by rw[q4];exact Ri),List.filter_nil,Ro];exact F,fun z hz=>Nat.le_succ_of_le (A z hz)⟩,zW (hB D D D D D D D D D (zK (zC ac)))⟩
  have p0:((outer r).take (k+1)).filter (aJ (fh l))=((outer r).take k).filter (aJ (fh l))++ [(outer r).getD k co]:=by
   rw[m0,Tg,List.filter_cons_of_pos q4];rfl
  have k0:=Fp (L:=J) i ((outer r).getD k co);rw[F,<-Ef,<-p0]at k0;refine FU cW D D D ?_;refine dR 12 D ?_;refine dO D D D D D D ?_;rcases k0 with⟨_,i0,hnew⟩|⟨t,y,hy,i0,hnew⟩
  .refine nB (K6 (d:=91) (p:= .iv (.v (.slice jp 0 0))) (.of_eq (show PV.iv (.v (Ma (bG (.int .i64) (ofM J) (i:Int) jp)))=_ by rw[i0];rfl))) fun t Y I=>?_
   obtain⟨rfl,rfl⟩:=I;refine dO D D D D D D ?_;refine nB (K5 (t:=⟨O4 r i k 1,O3 r ks J l (fh l) [(outer r).getD k co],10⟩) (L:=[]) (zW (hB D D D D D D D D D (zK (zC (zS ac)))))) fun t Y I=>?_;obtain⟨rfl,rfl⟩:=I;refine nB (vt (i:=9) (d:=94) (j9 fR J) D D (yL _) D (by simp)) fun t Y I=>?_;obtain⟨b,e,a0,f0,g1,g2,g3,rfl,rfl⟩:=I;refine dO D D D D D D ?_;refine CI ?_;refine pj (fi ?_);refine gA D ?_;have S:=yH fR f0;obtain⟨p1,p2⟩:=hnew b e a0
   exact⟨B,⟨J++ [(b,e,(i:Int),a0,[(outer r).getD k co])]⟩,[],⟨AI fR (y:=(b,e,(i:Int),a0,[(outer r).getD k co])) u.nd S,I5 u S ⟨by simp,by simpa using g1,g2,g3⟩,p2,fun z hz=>by
    rcases QK.1 hz with hz|hz
    .have:=A z hz;omega
    .rw[QJ]at hz;subst hz;show 1<=_;omega⟩,zW (hB D D D D D D p1 D D (zK (zC ac)))⟩
  .obtain⟨k1,k2,k3,k4⟩:=u.ok y (Rk hy);have k5:=A y (Rk hy);refine nB (Dc (d:=91) (sz:=1) (ir fR u.nd hy) (show PV.iv (.v (Ma (bG (.int .i64) (ofM J) (i:Int) jp)))=_ by rw[i0];rfl) (SD.2 k1) k2 k3 k4) fun t Y I=>?_;obtain⟨rfl,rfl⟩:=I;refine nB (K6 (d:=91) (p:= .sl 8 0 (y.2.2.2.2.map fun x=>(bR x).map PV.iv).length 1) (aC.row (by simp))) fun t Y I=>?_;obtain⟨rfl,rfl⟩:=I;refine dO D D D D D D ?_ ⟨?_,?_⟩;rotate_left
   .exact⟨rfl,by simp,rfl,by simp;omega,by simp;omega⟩
   .repeat' (first|exact ac|exact rfl|exact aC.refl _|apply Rm)
   refine nB (K5 (t:=⟨O4 r i k (y.2.2.2.2.length+1),O3 r ks J l (fh l) (y.2.2.2.2++ [(outer r).getD k co]),10⟩) (L:=[]) (zM (bi (bi (bi (bi (bi (bi (bi (bi (bi (bi (bi (bi (bi (bi ⟨.row (by simp),rfl,ac⟩)))))))))))))) (hB D D D D D D D D D (zK (zC (hR D (by simp;rfl) D ac)))))) fun t Y I=>?_;obtain⟨rfl,rfl⟩:=I;refine nB (Df y.1) fun t Y I=>?_;obtain⟨rfl,rfl⟩:=I;refine nB (vt (i:=9) (d:=94) AE D E3 (yL _) D (by simp)) fun t Y I=>?_;obtain⟨b,e,a0,f0,g1,g2,g3,rfl,rfl⟩:=I;refine dO D D D D D D ?_;refine CI ?_;refine pj (fi ?_);refine gA D ?_;have S:=D5 f0;obtain⟨p1,p2⟩:=hnew b e a0
   exact⟨B,⟨J.set t (b,e,(i:Int),a0,y.2.2.2.2++ [(outer r).getD k co])⟩,[],⟨Dp fR (y':=(b,e,(i:Int),a0,y.2.2.2.2++ [(outer r).getD k co])) u.nd hy S,Mz u hy S ⟨by simp,by simpa using g1,g2,g3⟩,p2,fun z hz=>by
    rcases Tx hz with hz|rfl
    .have:=A z hz;omega
    .simp;omega⟩,zW (hB D D D D D D p1 D D (zK (zC ac)))⟩
 .refine pj (fi ?_);refine gA D ⟨G,⟨L⟩,[],⟨rfl,c0,by rw[b0];unfold Hk;rw[be (zF q1)];exact Z,fun z hz=>by have:=g0 z hz;rw[SQ];omega⟩,zW (hB D D D D D D D D D ac)⟩
def dM(p:Prog)(n:Int):Int:=if n<1∨n>p.rules.length then 1 else if(fI p).1≠0 then 4 else 0
theorem oZ{p:Prog}{n:Int}(h:dM p n=0):1<=n∧n<=p.rules.length∧(fI p).1=0:=by
 unfold dM at h;split at h
 .cases h
 .rename_i d;split at h
  .cases h
  .rename_i b;exact⟨by omega,by omega,SC.1 b⟩
def FV(r:ai)(l:List ae)(i:Nat):Bool:=aJ (outer r) (l.getD i co)&&!aJ (l.take i) (l.getD i co)
def jt(r:ai)(l:List ae):Bool:=(Rh l.length).all (FV r l)
theorem BH{r:ai}{l:List ae}{i:Nat}(hi:i<l.length)(h:FV r l i=lc):jt r l=lc:=
 S9.2 ⟨i,R3.2 hi,by rw[h];exact Ri⟩
theorem yk{r:ai}{l:List ae}(h: ∀i,i<l.length->FV r l i=kw):jt r l=kw:=
 Q7.2 fun i b=>h i (R3.1 b)
abbrev aL(p:Prog)(n:Int):ai:=p.rules.getD (n-1).toNat co
abbrev B7(x:kP×Int):PV:= .bB [ag x.1.c,pI x.2]
theorem zP(e:Int):aC (.bB [.agg [pI 0,pI 0,.iv (.v (.slice jp 0 0)),.iv (.v (.slice jp 0 0))],pI e]) (B7 (kP.z,e)):= .bB ⟨.agg ⟨.refl _,.refl _,.nil _ _,.nil _ _,ac⟩,.refl _,ac⟩
def c4(r:ai)(fstv:Int):Prop:=fstv< -1∨fstv>=r.body.length∨(0<=fstv∧(r.body.getD fstv.toNat co).kind≠1)
instance (r:ai)(fstv:Int):Decidable (c4 r fstv):=inferInstanceAs (Decidable (_∨_))
def mj(r:ai)(fstv:Int)(k:List ae):List cQ:=cV r fstv r.body.length (fun _=>lc) (aJ k)
def kj(p:Prog)(n fstv:Int):kP×Int:=if dM p n≠0 then(kP.z,dM p n) else if c4 (aL p n) fstv then(kP.z,90) else(⟨n,fstv,[],mj (aL p n) fstv []⟩,0)
def lV(p:Prog)(n:Int)(l:List ae):kP×Int:=if dM p n≠0 then(kP.z,dM p n) else if jt (aL p n) l=lc then(kP.z,90) else(⟨n, -1,l,mj (aL p n) (-1) l⟩,0)
def jJ(p:Prog)(n:Int):kP×Int:=if dM p n≠0 then(kP.z,dM p n) else lV p n (aU (aL p n).head)
theorem xc{p:Prog}{n:Int}(h:dM p n=0):aL p n∈p.rules:=dS (by have:=oZ h;omega)
theorem BO{α:Type}(f:α->Nat): ∀{l:List α} {x:α},x∈l->f x<=(l.map f).sum
 |y::l,x,h=>by
  rw[Q4,Sz];rcases QY.1 h with rfl|h
  .omega
  .have:=BO f h;omega
theorem mK{p:Prog}{n:Int}(h:dM p n=0):(aL p n).size<=p.size:=by
 have:=BO ai.size (xc h);unfold Prog.size;omega
def ai.z0:ai:=⟨⟨Qz,[]⟩,[],⟨0,0⟩⟩
def iu(p:Prog)(n:Int):ai:=if dM p n=0 then aL p n else ai.z0
theorem zR(e:Int):aC (.bB [.agg [pS Qz,.iv (.v (.slice jp 0 0)),.iv (.v (.slice jp 0 0)),pI 0,pI 0],pI e]) (.bB [ag ai.z0.c,pI e]):= .bB ⟨.agg ⟨.refl _,.nil _ _,.nil _ _,.refl _,.refl _,ac⟩,.refl _,ac⟩
theorem w7(p:Prog)(n:Int)(hb:p.fit)(hs:p.size<=10000000):Pure prog 71 [ag p.c,pI n] (.bB [ag (iu p n).c,pI (dM p n)]):=by
 have j:p.rules.length<=1000000000:=hb.2.1;refine ar ab func71 D (by decide) ntmps71 D (by simp) D ?_;refine zE D D (fun g1=>?_) fun g1=>?_
 .have g1:n<1:=zT g1;have h:dM p n=1:=by unfold dM;rw[am (.inl g1)]
  rw[show iu p n=ai.z0 by unfold iu;rw[be (by rw[h];decide)],h];refine gA D (zL ?_);exact zR _
 have g1: ¬n<1:=zF g1;refine zJ D D (fun g2=>?_) fun g2=>?_
 .have g2:n>p.rules.length:=zT g2;have h:dM p n=1:=by unfold dM;rw[am (.inr g2)]
  rw[show iu p n=ai.z0 by unfold iu;rw[be (by rw[h];decide)],h];refine gA D (zL ?_);exact zR _
 have g2: ¬n>p.rules.length:=zF g2;have d:dM p n=if(fI p).1≠0 then 4 else 0:=by unfold dM;rw[be (fun g=>g.elim g1 g2)]
 refine gA D (zp (Mm EM p hb hs) ?_);refine zJ D D (fun b=>?_) fun b=>?_
 .have b:(fI p).1≠0:=by
   have b:(!li ((fI p).1=0))=kw:=b;simpa using b
  rw[am b]at d;rw[show iu p n=ai.z0 by unfold iu;rw[be (by rw[d];decide)],d];refine gA D (zL ?_);exact zR _
 .have b: ¬(fI p).1≠0:=by
   have b:(!li ((fI p).1=0))=lc:=b;simpa using b
  rw[be b]at d;rw[show iu p n=aL p n by unfold iu;rw[am d],d];refine gA D (zL ?_);exact .refl _
theorem BZ(r:ai)(hb:r.size<=2000000):bL prog 72 [ag r.c,.iv (.v (.slice jp 0 0))] [] (.ptr 0 0) (wH r (u4 (CU r)) [] []) 3:=
 (AR r [] hb (by simp)).le ⟨.refl _,.nil _ _,ac⟩
def Pg:Prop:= ∀(p:Prog) (r:ai),(fI p).1=0->r∈p.rules->r.size<=2000000->wM r (CU r)
set_option maxHeartbeats 1000000 in
theorem AP(F:Pg)(p:Prog)(n fstv:Int)(hb:p.fit)(hs:p.size<=2000000):Pure prog 36 [ag p.c,pI n,pI fstv] (B7 (kj p n fstv)):=by
 have Y:p.rules.length<=1000000000:=hb.2.1;refine ar ab func36 D (by decide) ntmps36 D (by simp) D ?_;refine gA D (zp (w7 p n hb (by omega)) ?_);refine zJ D D (fun b=>?_) fun b=>?_
 .have b:dM p n≠0:=by
   have b:(!li (dM p n=0))=kw:=b;simpa using b
  rw[show kj p n fstv=(kP.z,dM p n) by unfold kj;rw[am b]];refine gA D (zL ?_);exact zP _
 have b:dM p n=0:=zY b;have u:=oZ b;have y:=mK b;have Z:(n-1).toNat<p.rules.length:=by omega
 have G:(aL p n).body.length<=2000000:=by have:=Lit.aA (aL p n).body;unfold ai.size at y;omega
 have B:kj p n fstv=if c4 (aL p n) fstv then(kP.z,90) else(⟨n,fstv,[],mj (aL p n) fstv []⟩,0):=by unfold kj;rw[be (by simpa using b)]
 have bad:c4 (aL p n) fstv->kj p n fstv=(kP.z,90):=fun h=>by rw[B,am h]
 have d: ¬c4 (aL p n) fstv->kj p n fstv=(⟨n,fstv,[],mj (aL p n) fstv []⟩,0):=fun h=>by rw[B,be h]
 have A:=F p (aL p n) u.2.2 (xc b) (by omega);have x:iu p n=aL p n:=by unfold iu;rw[am b]
 rw[x];generalize aL p n=r at*
 refine zE D D (fun g1=>?_) fun g1=>?_
 .have g1:fstv< -1:=zT g1;rw[bad (.inl g1)];refine gA D (zL ?_);exact zP _
 have g1: ¬fstv< -1:=zF g1;refine zE D D (fun g2=>?_) fun g2=>?_
 .have g2:fstv>=r.body.length:=zT g2;rw[bad (.inr (.inl g2))];refine gA D (zL ?_);exact zP _
 have g2: ¬fstv>=r.body.length:=zF g2;have a0: ¬c4 r fstv->ky r fstv:=fun h=>by
  by_cases I:fstv= -1
  .exact .inl I
  .refine .inr ⟨fstv.toNat,by unfold c4 at h;omega,by unfold c4 at h;omega,?_⟩;exact SC.1 fun S=>h (.inr (.inr ⟨by unfold c4 at h;omega,S⟩))
 refine zJ D D (fun g3=>?_) fun g3=>?_
 .have g3:fstv>=0:=zT g3;have J:fstv.toNat<r.body.length:=by omega
  refine zJ D D (fun g4=>?_) fun g4=>?_
  .have g4:(r.body.getD fstv.toNat co).kind≠1:=by
    have g4:(!li ((r.body.getD fstv.toNat co).kind=1))=kw:=g4;simpa using g4
   rw[bad (.inr (.inr ⟨g3,g4⟩))];refine gA D (zL ?_);exact zP _
  .have g4: ¬(r.body.getD fstv.toNat co).kind≠1:=by
    have g4:(!li ((r.body.getD fstv.toNat co).kind=1))=lc:=g4;simpa using g4
   have j: ¬c4 r fstv:=fun h=>h.elim g1 fun h=>h.elim g2 fun h=>g4 h.2;rw[d j];refine gA D (bc [] (BZ r (by omega)) D D D D D D D D ?_);refine gA D (bc [3,4,5] (w6 r (CU r) [] fstv A (a0 j) (by omega) (by omega) (by simp)) D D D D D D D D ?_);refine gA D (zL ?_);exact .bB ⟨.agg ⟨.refl _,.refl _,.nil _ _,.refl _,ac⟩,.refl _,ac⟩
 .have g3: ¬fstv>=0:=zF g3;have j: ¬c4 r fstv:=fun h=>h.elim g1 fun h=>h.elim g2 fun h=>g3 h.1;rw[d j];refine gA D (bc [] (BZ r (by omega)) D D D D D D D D ?_);refine gA D (bc [3,4,5] (w6 r (CU r) [] fstv A (a0 j) (by omega) (by omega) (by simp)) D D D D D D D D ?_);refine gA D (zL ?_);exact .bB ⟨.agg ⟨.refl _,.refl _,.nil _ _,.refl _,ac⟩,.refl _,ac⟩
end Go.Proofs.YtflegjieadkonaaGreatDoor
namespace Go.Proofs.YtflegjieadkonaaGreatDoor
open Go Go.Al
theorem zV{α β:Type}{f g:α->List β}: ∀{l:List α},(∀x∈l,f x=g x)->l.flatMap f=l.flatMap g
 | [],_=>rfl
 |x::l,h=>by
  rw[Rl,Rl,h x Q3,zV fun y b=>h y (QR _ b)]
theorem Iq{α:Type}[Inhabited α]{l:List α}(h:l.length=2):l=[l.getD 0 co,l.getD 1 co]:=by
 match l,h with
 | [a,b],_=>rfl
theorem I4{α:Type}[Inhabited α]{l:List α}(h:l.length=1):l=[l.getD 0 co]:=by
 match l,h with
 | [a],_=>rfl
theorem lr: ∀(n:Nat) (e:Expr),(dK n e).2=lc->aY e=aP e:=by
 intro n
 induction n using Nat.strongRecOn with
 |ind n ih=>
  intro e h;rw[pr,lZ];have u: ∀(b:Bool) (k:rC),(mr e b k).2=lc->((e.kind=1∨e.kind=2)∧e.args=[])∨(e.kind=4∧k.2=lc):=fun b k hh=>by
   unfold mr at hh;split at hh
   .rename_i hk;refine .inl ⟨hk,?_⟩;unfold zh at hh;simp only[Rq,decide_eq_false_iff_not]at hh;exact Rx (by omega)
   .split at hh
    .cases hh
    .rename_i d;exact .inr ⟨SC.1 fun g=>d (.inl g),hh⟩
  have x:(e.kind=1∨e.kind=2)∧e.args=[]->((if e.kind=1 then[e.var] else[])++e.args.flatMap aY)=if e.kind=1 then[e.var] else if e.kind=4 then e.args.flatMap aP else[]:=by
   rintro⟨hk,ha⟩;rw[ha];rcases hk with hk|hk
   .rw[am hk,am hk];rfl
   .rw[be (by omega),be (by omega),be (by omega)];rfl
  match n,h with
  |0,h=>
   rcases u _ _ h with y|⟨_,d⟩
   .exact x y
   .cases d
  |1,h=>
   rcases u _ _ h with y|⟨_,d⟩
   .exact x y
   .cases d
  |m+2,h=>
   rw[wj]at h;rcases u _ _ h with y|⟨G,d⟩
   .exact x y
   .rw[be (by omega),be (by omega),am G,Sa];have j: ∀b a,(x9 m b a).2=lc->aY a=aP a:=fun b a hh=>by
     unfold x9 at hh;split at hh
     .simp only[Rq]at hh;exact ih m (by omega) a hh.1
     .exact ih (m+1) (by omega) a hh
    unfold y5 at d;split at d
    .split at d
     .rename_i B;have A:=j _ _ d;rw[I4 B];simp only[Rl,TI];rw[show aY (e.args.getD 0 co)=aP (e.args.getD 0 co) from A]
     .cases d
    .split at d
     .rename_i B;simp only[Rq]at d;have A:=j _ _ d.1;have F:=j _ _ d.2;rw[Iq B];simp only[Rl,TI];rw[show aY (e.args.getD 0 co)=aP (e.args.getD 0 co) from A,show aY (e.args.getD 1 co)=aP (e.args.getD 1 co) from F]
     .cases d
theorem nZ{e:Expr}(h:cy e=kw):aY e=[]:=by
 unfold cy at h;simp only[Q5,decide_eq_true_eq]at h;obtain⟨b,_,_,_,d⟩:=h;rw[pr,be (by omega),Rx (l:=e.args) (by omega)];rfl
theorem wF{a:Atom}(h:ki a=kw):bA a=[]:=by
 unfold ki at h;simp only[Q5,decide_eq_true_eq]at h;have:a.ad=[]:=Rx (by omega);unfold bA;rw[this];rfl
theorem zf: ∀(n:Nat) (br:Int) (l:Lit),(p8 n br l).2=lc->cN l=bb l∧(l.kind=4->fh l=aR l.agg)∧(l.kind=3->aY l.left=aP l.left∧aY l.right=aP l.right)
 |0,_,_,h=>by cases h
 |n+1,br,l,h=>by
  rw[p8]at h;unfold FF at h;unfold cN bb;split at h
  .rename_i G;simp only[Rq,Sx]at h;have d:=h.2.1;unfold mI at d;simp only[Q5]at d;refine⟨by rw[am G,nZ d.1,nZ d.2.1];simp,fun g=>by omega,fun g=>by omega⟩
  .rename_i G;rw[be G];split at h
   .rename_i A;simp only[Rq,Sx]at h;refine⟨by rw[am A,wF h.2.2.1,lr _ _ h.1,lr _ _ h.2.1];rfl,fun g=>by omega,fun _=>⟨lr _ _ h.1,lr _ _ h.2.1⟩⟩
   .rename_i A;split at h
    .rename_i S;simp only[Rq,Sx]at h;have d:=h.2.2;unfold mI at d;simp only[Q5]at d;refine⟨by rw[be A,wF h.2.1,nZ d.1,nZ d.2.1];rfl,fun _=>?_,fun g=>absurd g A⟩;have j:=h.1;unfold Ee at j;split at j
     .cases j
     .simp only[Rq]at j;unfold fh aR;congr 1
      .show(if l.cH=1 then[] else aY l.iJ)=if l.cH=1 then[] else aP l.iJ;by_cases u:l.cH=1
       .rw[am u,am u]
       .rw[be u,be u];have F:=j.1;unfold Ov at F;rw[be (show¬l.agg.func=1 from u)]at F;simp only[Rq]at F;exact lr _ _ F.2
      .refine zV fun x J=>?_
       have hb: ∀i,i<=l.an.length->(jG (p8 n (br-1)) l.an i).2=lc:=by
        have I: ∀k i,i+k=l.an.length->(jG (p8 n (br-1)) l.an i).2=lc:=by
         intro k
         induction k with
         |zero=>intro i B;rw[show i=l.an.length by omega];exact j.2
         |succ k ih=>
          intro i B;have b:=ih (i+1) (by omega);rw[jG]at b;split at b
          .cases b
          .rename_i y;simpa using y
        exact fun i B=>I (l.an.length-i) i (by omega)
       obtain⟨i,B,rfl⟩:=RG.1 J;have b:=hb (i+1) (by omega);rw[jG]at b;split at b
       .cases b
       .split at b
        .cases b
        .rename_i y;rw[Tc,Qx,Qy B]at y;exact(zf n (br-1) _ y).1
    .cases h
theorem qw{K:ae->Bool}{a b:List ae}(h: ∀x,x∈a↔x∈b):a.all K=b.all K:=by
 rw[RS,Q7,Q7];exact⟨fun g x d=>g x ((h x).2 d),fun g x d=>g x ((h x).1 d)⟩
theorem Aa:Pg:=by
 intro p r h hr hb;have h0:=(Ae h).1;have hF:=(px p).1 h0;unfold ig at hF;have h2:=(pQ p _).1 (SH.1 hF).2;obtain⟨j,hj,rfl⟩:=RG.1 hr;have Z:=h2 j hj;have h4:(ov p p.rules[j] ((j:Int)+1)).1=0:=by
  rw[sq,Qx,Qy hj]at Z;exact Z
 generalize p.rules[j]=r at*
 have b: ∀i,i<r.body.length->cN (r.body.getD i co)=bb (r.body.getD i co)∧((r.body.getD i co).kind=4->fh (r.body.getD i co)=aR (r.body.getD i co).agg)∧((r.body.getD i co).kind=3->aY (r.body.getD i co).left=aP (r.body.getD i co).left∧aY (r.body.getD i co).right=aP (r.body.getD i co).right):=fun i y=>by
  have u:=vA h4 _ (dS y);unfold lQ at u;rw[Ci _ _ _ (QH _),Rq]at u;exact zf _ _ _ u.2
 refine⟨fun K i y=>?_,fun i y hk x=>?_,fun i=>Rr (JP r i) (by omega)⟩
 .obtain⟨f1,f2,f3⟩:=b i y;have I:=Nb r y;unfold gG;generalize r.body.getD i co=l at*
  unfold iU mc;by_cases G:l.kind=1
  .rw[am G,am G]
  rw[be G,be G];by_cases F:l.kind=2
  .rw[am F,am F];unfold qJ;have:(cN l).all K=(aU l.atom).all K:=qw fun x=>by
    rw[f1,c6];unfold bb;rw[am (.inr F)]
   rw[this]
  rw[be F,be F];have d:bb l=if l.kind=3 then aP l.left++aP l.right else[]:=by unfold bb;rw[be (by omega)]
  by_cases A:l.kind=3
  .rw[am A,am A];rw[am A]at d;obtain⟨e1,e2⟩:=f3 A;have a1:(cN l).all K=((bx l.left).all K&&(bx l.right).all K):=by
    rw[f1,d,List.all_append,qw fun x=>(bF (x:=x) (e:=l.left)).symm,qw fun x=>(bF (x:=x) (e:=l.right)).symm]
   have a2:dY K l.left l.right=pO K l.left l.right:=by
    unfold dY pO;rw[e2,qw fun x=>(bF (x:=x) (e:=l.right)).symm,Bool.and_assoc]
   have a3:dY K l.right l.left=pO K l.right l.left:=by
    unfold dY pO;rw[e1,qw fun x=>(bF (x:=x) (e:=l.left)).symm,Bool.and_assoc]
   unfold uB xT;rw[a1,a2,a3]
  rw[be A,be A];by_cases B:l.kind=4
  .rw[am B,am B,I];unfold wL yd;have:(Hk r l).all K=(nV l.agg).all fun v=>!aJ (outer r) v||K v:=by
    unfold Hk;rw[am B,f2 B,RS,Q7,Q7];constructor
    .intro g x J;cases ho:aJ (outer r) x with
     |false=>rfl
     |true=>
      show K x=kw;exact g x (Rn.2 ⟨aI.1 ho,aI.2 (ld.1 J)⟩)
    .intro g x J;obtain⟨S,Y⟩:=Rn.1 J;have:=g x (ld.2 (aI.1 Y));rw[aI.2 S]at this;exact this
   rw[this]
  .rw[be B,be B]
 .obtain⟨f1,_⟩:=b i y;rw[f1];refine vY (fun x=>?_) x;rw[c6];unfold bb;rw[am (.inl hk)]
end Go.Proofs.YtflegjieadkonaaGreatDoor
namespace Go.Proofs.YtflegjieadkonaaGreatDoor
open Go Go.Al Go.Proofs.Tryz
theorem Dw{α:Type}[Inhabited α](l:List α)(f:α->List IV):((Rh l.length).map fun k=>(f (l.getD k co)).map PV.iv)=l.map fun x=>(f x).map PV.iv:=by
 refine Ua (by simp) fun i d b=>?_;simp only[Rv]at b;simp[Qy b]
theorem II(l:List ae)(hb:l.length<=1000000000):Pure prog 79 [.iv (strs l)] (.iv (strs l)):=by
 refine ar ab func79 D (by decide) ntmps79 D (by simp) D ?_;refine mu D ac (F1 D D D D underlying53 D fun b j=>?_);refine zJ D D (fun u=>?_) fun u=>?_
 .have d:l=[]:=Rx (j u);subst d;refine gA D (zL ?_);exact .nil _ _
 refine mu D ac (Js ab D D D D D D D fun y=>?_);by_cases d:l=[]
 .subst d;refine mu D ac (Gc ab D D D D D D D D (el2:=fun k=>bR (([]:List ae).getD k co)) D ?_);refine gA D (zL ?_);exact .refl _
 .have x:0<l.length:=SD.2 d;refine mu D ac (Jt ab D D D D D D D D (by decide) D (BR D) (by simp;omega) (by show((Rh l.length).map _).length*16<=_;simp;omega) (by simp;omega) D ?_);refine gA D (fS (by first|exact .inr D|exact .inl D) D D ((Dw l bR)) ((by simp)))
theorem BW(r:ai)(l:List ae)(hb:r.size<=10000000)(J:l.length<=1000000000):Pure prog 78 [ag r.c,.iv (strs l)] (pB (jt r l)):=by
 refine ar ab func78 D (by decide) ntmps78 D (by simp) D ?_;refine gA D (zp (M9 r hb) ?_);refine gA D ?_;refine aD 0 l.length (QN _) (fun i=>⟨[(5,.iv (strs (outer r))),(6,.mp 1),(12,.iv (strs l)),(13,pI l.length),(14,pI i)],[(1,io (bI (aq (l.take i))))],2⟩) (fun i=> ∀j,j<i->FV r l j=kw) [] (fun j hj=>absurd hj (R1 j))
  (zW (DV D (fun _=> .v _) D trivial)) fun i I F=>?_
 refine zE D D (fun b=>?_) fun b=>?_
 .have b:=ci b;rw[yk fun j hj=>F j (by omega)];exact zU D
 have b:=bv b;have y:=bf (l.take i) (l.getD i co);have B:=dE (l.take i) (l.getD i co);simp only[RW]at B;have G:aq (l.take (i+1))=bump (aq (l.take i)) (l.getD i co):=by rw[cC b,bZ]
 have A:bG .str (bump (aq (l.take i)) (l.getD i co)) (l.getD i co) 0=(oq (l.take i) (l.getD i co):Int)+1:=by
  unfold bump;rw[jF,am D,y]
 have x:aJ (l.take i) (l.getD i co)=li (bG .str (bump (aq (l.take i)) (l.getD i co)) (l.getD i co) 0>1):=by
  rw[A,bO,y,<-decide_not,decide_eq_decide];omega
 refine zJ D D (fun d=>?_) fun d=>?_
 .have d:aJ (l.take i) (l.getD i co)=lc:=by rw[x];exact d
  refine gA D (zp (vz (outer r) (l.getD i co)) ?_);refine zJ D D (fun u=>?_) fun u=>?_
  .have u:aJ (outer r) (l.getD i co)=lc:=zA u;rw[BH b (by unfold FV;rw[u];rfl)];exact zU D
  .have u:aJ (outer r) (l.getD i co)=kw:=zB u;refine gA D ?_
   exact⟨b,fun j hj=>by
    rcases RK.1 hj with hj|hj
    .exact F j hj
    .subst hj;unfold FV;rw[d,u];rfl,[],zW (hM D G.symm D trivial)⟩
 .have d:aJ (l.take i) (l.getD i co)=kw:=by rw[x];exact d
  rw[BH b (by unfold FV;rw[d,S5,Sd])];exact zU D
set_option maxHeartbeats 1000000 in
theorem IG(p:Prog)(n:Int)(l:List ae)(hb:p.fit)(hs:p.size<=2000000)(u:l.length<=1000000000):Pure prog 40 [ag p.c,pI n,.iv (strs l)] (B7 (lV p n l)):=by
 have F:p.rules.length<=1000000000:=hb.2.1;refine ar ab func40 D (by decide) ntmps40 D (by simp) D ?_;refine gA D (zp (w7 p n hb (by omega)) ?_);refine zE D D (fun d=>?_) fun d=>?_
 .have d:dM p n≠0:=zF d;rw[show lV p n l=(kP.z,dM p n) by unfold lV;rw[am d]];refine zJ D D (fun b=>?_) fun b=>?_
  .refine gA D (zL ?_);exact zP _
  .exfalso;have b:(!li (dM p n=0))=lc:=b;simp at b;exact d b
 have d:dM p n=0:=zT d;have x:=oZ d;have G:=mK d;have A:lV p n l=if jt (aL p n) l=lc then(kP.z,90) else(⟨n, -1,l,mj (aL p n) (-1) l⟩,0):=by unfold lV;rw[be (by simpa using d)]
 have B:=Aa p (aL p n) x.2.2 (xc d) (by omega);have y:iu p n=aL p n:=by unfold iu;rw[am d]
 rw[y];generalize aL p n=r at*
 refine gA D (zp (BW r l (by omega) u) ?_);refine zJ D D (fun b=>?_) fun b=>?_
 .have b:jt r l=lc:=zA b;rw[A,am b];refine zJ D D (fun j=>?_) fun j=>?_
  .refine gA D (zL ?_);exact zP _
  .cases j
 have b: ¬jt r l=lc:=by
  have b:(!jt r l)=lc:=b;simpa using b
 rw[A,be b];refine zJ D D (fun j=>?_) fun j=>?_
 .exfalso;rw[d]at j;cases j
 refine gA D (Au (II l u) ?_);refine gA D (zd [] (AR r l (by omega) u) ?_);refine gA D (zd [3,4,5] (w6 r (CU r) l (-1) B (.inl D) (by omega) (by omega) u) ?_);refine gA D (zL ?_);exact .refl _
theorem A1(a:Atom):outer ⟨a,[],⟨0,0⟩⟩=aU a:=rfl
set_option maxHeartbeats 1000000 in
theorem E2(p:Prog)(n:Int)(hb:p.fit)(hs:p.size<=2000000):Pure prog 41 [ag p.c,pI n] (B7 (jJ p n)):=by
 have B:p.rules.length<=1000000000:=hb.2.1;refine ar ab func41 D (by decide) ntmps41 D (by simp) D ?_;refine gA D (zp (w7 p n hb (by omega)) ?_);refine zJ D D (fun b=>?_) fun b=>?_
 .have b:dM p n≠0:=by
   have b:(!li (dM p n=0))=kw:=b;simpa using b
  rw[show jJ p n=(kP.z,dM p n) by unfold jJ;rw[am b]];refine gA D (zL ?_);exact zP _
 have b:dM p n=0:=zY b;have A:=oZ b;have j:=mK b;have d:iu p n=aL p n:=by unfold iu;rw[am b]
 have u:=gH (aL p n).head;have x:(aL p n).head.ad.length<=2000000:=by unfold ai.size at j;omega
 rw[d,show jJ p n=lV p n (aU (aL p n).head) by unfold jJ;rw[be (by simpa using b)]];have y:Pure prog 80 [.agg [.iv (iS (aL p n).head.rel),.iv (de 5 (aL p n).head.ad Term.c),.iv (.v (.slice jp 0 0)),pI 0,pI 0]] (.iv (strs (aU (aL p n).head))):=by
  have h:=M9 ⟨(aL p n).head,[],⟨0,0⟩⟩ (by unfold ai.size;simp only[Lit.az];omega);rw[A1]at h;exact h.le ⟨.agg ⟨.refl _,.refl _,.nil _ _,.refl _,.refl _,ac⟩,ac⟩
 refine gA D (zp (y) ?_);refine gA D (zp (IG p n (aU (aL p n).head) hb hs (by omega)) ?_);refine gA D (zL ?_);exact .refl _
theorem EI{a b:cQ}(h1:a.kind=b.kind)(d:a.lit=b.lit)(j:a.var=b.var)(u:a.jU=b.jU):a=b:=by
 cases a;cases b;simp only at h1 d j u;subst h1 d j u;rfl
structure kP.fit (a:kP):Prop where
 g:a.given.length<=1000000000
 s:a.steps.length<=1000000000
 c: ∀s∈a.steps,s.jU.length<=1000000000
theorem IH(a b:List Int)(hb:a.length<=1000000000000):Pure prog 82 [.iv (de 1 a cR),.iv (de 1 b cR)] (pB (li (a=b))):=by
 refine ar ab func82 D (by decide) ntmps82 D (by simp) D ?_;refine zJ D D (fun g1=>?_) fun g1=>?_
 .have g1: ¬a.length=b.length:=by
   have g1:(!li ((a.length:Int)=b.length))=kw:=g1;simp at g1;omega
  rw[show li (a=b)=lc from decide_eq_false fun h=>g1 (by rw[h])];exact zU D
 have g1:a.length=b.length:=by
  have g1:(!li ((a.length:Int)=b.length))=lc:=g1;simp at g1;omega
 refine gA D ?_;refine aD 0 a.length (QN _) (fun i=>⟨[(0,.iv (de 1 a cR)),(1,.iv (de 1 b cR)),(12,pI a.length),(13,pI i)],[],0⟩) (fun i=> ∀j,j<i->a.getD j co=b.getD j co) [] (fun j hj=>absurd hj (R1 j))
  (zW trivial) fun i F x=>?_
 refine zE D D (fun u=>?_) fun u=>?_
 .have u:=ci u;have B:a=b:=by
   refine Ua g1 fun j y A=>?_;have:=x j (by omega);rw[Qx,Qx,Qy y,Qy A]at this;exact this
  rw[decide_eq_true B];exact zU D
 have u:=bv u;refine zJ D D (fun d=>?_) fun d=>?_
 .have d: ¬a.getD i co=b.getD i co:=zX d;rw[show li (a=b)=lc from decide_eq_false fun h=>d (by rw[h])];exact zU D
 .have d:a.getD i co=b.getD i co:=zY d;refine gA D ?_
  exact⟨u,fun j hj=>by
   rcases RK.1 hj with hj|hj
   .exact x j hj
   .subst hj;exact d,[],zW ac⟩
def kU(r:ai)(dn:Nat->Bool)(K:ae->Bool)(s:cQ):Bool:=li (0<=s.lit∧s.lit<r.body.length)&&(!dn s.lit.toNat&&li (gG K r s.lit.toNat=io s))
def ye(r:ai):List cQ->(Nat->Bool)->(ae->Bool)->Bool
 | [],_,_=>kw
 |s::L,dn,K=>kU r dn K s&&ye r L (mJ dn s.lit) (fun x=>K x||aJ (pC r s) x)
def eR(p:Prog)(pl:kP):Bool:=li (dM p pl.iY=0)&&(jt (aL p pl.iY) pl.given&&(li (pl.steps.length=(aL p pl.iY).body.length)&&ye (aL p pl.iY) pl.steps (fun _=>lc) (aJ pl.given)))
theorem n6{α:Type}[Inhabited α]{l:List α}{i:Nat}(h:i<l.length):l.drop i=l.getD i co::l.drop (i+1):=by
 rw[List.drop_eq_getElem_cons h,Qx,Qy h];rfl
structure VJ (r:ai) (pl:kP) (i:Nat) (ks:List ae) (dm:WD):Prop where
 rest:ye r pl.steps (fun _=>lc) (aJ pl.given)=ye r (pl.steps.drop i) (lv dm) (aJ ks)
 kl:ks.length<=1000000000+i*10000000
 pos: ∀i:Int,0<=bG (.int .i64) dm i 0∧bG (.int .i64) dm i 0<=1
theorem Nz{r:ai}{pl:kP}{i:Nat}{ks:List ae}{dm:WD}(h:VJ r pl i ks dm)(hi:i<pl.steps.length)(hs:kU r (lv dm) (aJ ks) (pl.steps.getD i co)=lc):ye r pl.steps (fun _=>lc) (aJ pl.given)=lc:=by
 rw[h.rest,n6 hi,ye,hs];rfl
theorem Hm{r:ai}{u:BM}(x:wM r u)(hb:r.size<=10000000){pl:kP}{i:Nat}{ks:List ae}{dm:WD}(h:VJ r pl i ks dm)(hi:i<pl.steps.length){s:cQ}(he:pl.steps.getD i co=s){j:Nat}(hj:s.lit=j)(b:j<r.body.length)(hd:lv dm j=lc)(hc:gG (aJ ks) r j=io s):
  VJ r pl (i+1) (ks++gp r s) (D6 dm j):=by
 have y:=h.pos j;refine⟨?_,?_,fun c=>?_⟩
 .rw[h.rest,n6 hi,ye,he];have d:kU r (lv dm) (aJ ks) s=kw:=by
   unfold kU;rw[hj,QW,hd,hc,decide_eq_true D,decide_eq_true (by omega)];rfl
  rw[d,RV,xP y.1,xD,x.take b hj hc,hj]
 .have A:=yq r s hj b hb;have B:=h.kl;rw[Qv,RJ];omega
 .unfold D6;rw[p7];split
  .have:=zF hd;omega
  .exact h.pos c
theorem GF(K:ae->Bool)(a:Atom):(gW K a).length<=a.ad.length:=by
 unfold gW;rw[Rv];exact Rr (RP _ _) (by simp)
theorem GQ{K:ae->Bool}{r:ai}{l:Lit}{i:Int}{s:cQ}(h:mc K r l i=io s):s.jU.length<=l.atom.ad.length:=by
 unfold mc xT yd at h
 repeat' split at h
 all_goals first
  |(cases h;exact GF K _)
  |(cases h;exact QN _)
  |cases h
abbrev vW(r:ai):AO:= .cells [.iv (iS r.head.rel),.iv (de 5 r.head.ad Term.c),.iv (lits r.body),.iv (iI r.at_.line),.iv (iI r.at_.yg),.mp 4,.iv (u4 (CU r)),.mp 5]
theorem hV{n:Nat}{σ:Nat->Nat}{h:AH}{r:ai}{m:NM}{d:List ae}{dm b:WD}{rest:AH}(h0:h.get (σ 3)=io (.cells [.iv (iS r.head.rel),.iv (de 5 r.head.ad Term.c),.iv (lits r.body),.iv (iI r.at_.line),.iv (iI r.at_.yg),.mp (σ 4),.iv (u4 (CU r)),.mp (σ 5)]))
  (h1:h.get (σ 4)=io (bI m)) (x:h.get (σ 5)=io (sW dm)) (j:m=aq d) (u:dm=b) (y:(vW r).low n) (hb:QZ 5 n=kw) (hr:mg n σ h rest):mg n σ h ((3,io (vW r))::(4,io (bI (aq d)))::(5,io (sW b))::rest):=by
 subst j u;have A:5<n:=Qs hb;exact⟨⟨_,h0,.of_eq D⟩,by omega,y,⟨_,h1,.of_eq D⟩,by omega,ac,⟨_,x,.of_eq D⟩,A,ac,hr⟩
set_option maxHeartbeats 1000000 in
theorem w5(p:Prog)(pl:kP)(hb:p.fit)(hs:p.size<=2000000)(a0:pl.given.length<=1000000000):Pure prog 43 [ag p.c,ag pl.c] (pB (eR p pl)):=by
 have k0:p.rules.length<=1000000000:=hb.2.1;refine ar ab func43 D (by decide) ntmps43 D (by simp) D ?_;refine gA D (zp (w7 p pl.iY hb (by omega)) ?_);refine zE D D (fun A=>?_) fun A=>?_
 .have A: ¬dM p pl.iY=0:=zX A;rw[show eR p pl=lc by unfold eR;rw[decide_eq_false A];rfl];exact zU D
 have A:dM p pl.iY=0:=zY A;have c0:=oZ A;have b0:=mK A;have hA:=Aa p (aL p pl.iY) c0.2.2 (xc A) (by omega);have d0:iu p pl.iY=aL p pl.iY:=by unfold iu;rw[am A]
 have hv:eR p pl=(jt (aL p pl.iY) pl.given&&(li (pl.steps.length=(aL p pl.iY).body.length)&&ye (aL p pl.iY) pl.steps (fun _=>lc) (aJ pl.given))):=by unfold eR;rw[decide_eq_true A,RV]
 rw[d0];generalize aL p pl.iY=r at*
 have g0:r.body.length<=2000000:=by have:=Lit.aA r.body;unfold ai.size at b0;omega
 refine gA D (zp (BW r pl.given (by omega) a0) ?_);refine zE D D (fun Z=>?_) fun Z=>?_
 .have Z:jt r pl.given=lc:=zA Z;rw[show eR p pl=lc by rw[hv,Z];rfl];exact zU D
 have Z:jt r pl.given=kw:=zB Z;refine zJ D D (fun B=>?_) fun B=>?_
 .have B: ¬pl.steps.length=r.body.length:=by
   have B:(!li ((pl.steps.length:Int)=r.body.length))=kw:=B;simp at B;omega
  rw[show eR p pl=lc by rw[hv,decide_eq_false B,Si,Sd]];exact zU D
 have B:pl.steps.length=r.body.length:=by
  have B:(!li ((pl.steps.length:Int)=r.body.length))=lc:=B;simp at B;omega
 rw[Z,decide_eq_true B,RV,RV]at hv;refine gA D (bc [] (AR r pl.given (by omega) a0) D D D D D D D D ?_);refine gA D ?_;refine ql 0 pl.steps.length (QN _) (fun i (x:List ae×WD)=>⟨[(5,.ptr 2 0),(7,.ptr 3 0),(42,.iv (de 4 pl.steps cQ.c)),(43,pI pl.steps.length),(44,pI i)],[(2,io (au r.c)),(3,io (vW r)),(4,io (bI (aq x.1))),(5,io (sW x.2))],6⟩) (fun i x=>VJ r pl i x.1 x.2) (pl.given,[]) []
  ⟨rfl,by omega,fun _=>by simp[bG]⟩
  (zW (zK (hV D D D D D D D trivial))) fun i x hi I=>?_
 obtain⟨d,dm⟩:=x;have I:VJ r pl i d dm:=I;show GO prog _ _ _ ⟨[(5,.ptr 2 0),(7,.ptr 3 0),(42,.iv (de 4 pl.steps cQ.c)),(43,pI pl.steps.length),(44,pI i)],[(2,io (au r.c)),(3,io (vW r)),(4,io (bI (aq d))),(5,io (sW dm))],6⟩;have j0:=I.kl;refine zE D D (fun F=>?_) fun F=>?_
 .have F:=ci F;rw[hv,I.rest,List.drop_eq_nil_of_le F,ye];exact zU D
 have F:i<pl.steps.length:=by have:=zT F;omega
 have y:kU r (lv dm) (aJ d) (pl.steps.getD i co)=lc->eR p pl=lc:=fun h=>hv.trans (Nz I F h);have b: ∀j:Nat,(pl.steps.getD i co).lit=j->j<r.body.length->lv dm j=lc->gG (aJ d) r j=io (pl.steps.getD i co)->VJ r pl (i+1) (d++gp r (pl.steps.getD i co)) (D6 dm j):=fun j h2 h3 h4 h5=>Hm hA (by omega) I F D h2 h3 h4 h5;refine zJ D D (fun g1=>?_) fun g1=>?_
 .have g1:(pl.steps.getD i co).lit<0:=zT g1;rw[y (by unfold kU;rw[decide_eq_false (by omega)];rfl)];exact zU D
 have g1: ¬(pl.steps.getD i co).lit<0:=zF g1;refine zJ D D (fun g2=>?_) fun g2=>?_
 .have g2:(pl.steps.getD i co).lit>=r.body.length:=zT g2;rw[y (by unfold kU;rw[decide_eq_false (by omega)];rfl)];exact zU D
 have g2: ¬(pl.steps.getD i co).lit>=r.body.length:=zF g2;obtain⟨j,J⟩: ∃j:Nat,(pl.steps.getD i co).lit=j:=⟨(pl.steps.getD i co).lit.toNat,by omega⟩
 have u:j<r.body.length:=by omega
 have G:kU r (lv dm) (aJ d) (pl.steps.getD i co)=(!lv dm j&&li (gG (aJ d) r j=io (pl.steps.getD i co))):=by
  unfold kU;rw[decide_eq_true (by omega),RV,J];rfl
 refine zJ D D (fun g3=>?_) fun g3=>?_
 .have g3:lv dm j=kw:=by unfold lv;rw[<-J];exact g3
  rw[y (by rw[G,g3];rfl)];exact zU D
 have g3:lv dm j=lc:=by unfold lv;rw[<-J];exact g3
 have S:=Lb r (CU r) d dm j u (by omega) (hA.br j);rw[hA.can (aJ d) j u]at S;have b:=b j J u g3;cases hk:gG (aJ d) r j with
 |none=>
  rw[hk]at S;rw[<-J]at S;rw[y (by rw[G,hk,decide_eq_false (fun h=>nomatch h),Sd])];refine gA D (bc [3,4,5] S D D D D D D D D ?_);refine zJ D D (fun q1=>?_) fun q1=>?_
  .exact absurd q1 (show¬((!lc)=lc) by decide)
  .exact zU D
 |some w=>
  rw[hk]at S b G;rw[<-J]at S;have e0:=mb hk;have Y: ∀{α:Type} {f:cQ->α},¬f w=f (pl.steps.getD i co)->eR p pl=lc:=fun h=>y (by rw[G,decide_eq_false (fun g=>h (by rw[RC g])),Sd])
  have i0:w.jU.length<=2000000:=by
   have h:=GQ hk;have h2:=Lit.aV r.body j u;have h3:=(r.body.getD j co).size_eq;unfold ai.size at b0;omega
  refine gA D (bc [3,4,5] S D D D D D D D D ?_);refine zE D D (fun q1=>?_) fun q1=>?_
  .exact absurd q1 (show¬((!kw)=kw) by decide)
  refine zE D D (fun q2=>?_) fun q2=>?_
  .have q2: ¬w.kind=(pl.steps.getD i co).kind:=zX q2;rw[Y (f:=cQ.kind) q2];exact zU D
  have q2:w.kind=(pl.steps.getD i co).kind:=zY q2;refine zE D D (fun q3=>?_) fun q3=>?_
  .have q3: ¬w.var=(pl.steps.getD i co).var:=zX q3;rw[Y (f:=cQ.var) q3];exact zU D
  have q3:w.var=(pl.steps.getD i co).var:=zY q3;refine gA D (zp (IH w.jU (pl.steps.getD i co).jU (by omega)) ?_);refine zJ D D (fun q4=>?_) fun q4=>?_
  .have q4: ¬w.jU=(pl.steps.getD i co).jU:=zX q4;rw[Y (f:=cQ.jU) q4];exact zU D
  have q4:w.jU=(pl.steps.getD i co).jU:=zY q4;have f0:w=pl.steps.getD i co:=EI q2 (e0.trans J.symm) q3 q4;have b:=b (by rw[f0]);have ht:=EX r (u4 (CU r)) d dm (pl.steps.getD i co).kind j (pl.steps.getD i co).jU (pl.steps.getD i co).var u (by omega) (by omega) ⟨(I.pos j).1,by have:=(I.pos j).2;omega⟩;rw[show cQ.mk (pl.steps.getD i co).kind (j:Int) (pl.steps.getD i co).jU (pl.steps.getD i co).var=pl.steps.getD i co from EI D J.symm D D]at ht;refine gA D (bc [3,4,5] ht D D D D D D D D ?_);refine gA D ⟨F,(d++gp r (pl.steps.getD i co),D6 dm j),[],b,zW (zK (hV D D D D D D D ac))⟩
end Go.Proofs.YtflegjieadkonaaGreatDoor
namespace Go.Proofs.YtflegjieadkonaaGreatDoor
open Go Go.Al
section
structure qx (r:ai):Prop where
 kinds: ∀l∈r.body,l.kind=1∨l.kind=2∨l.kind=3∨l.kind=4
 head: ∀x∈bA r.head,x∈bq r
 lits: ∀l∈r.body,¬l.kind=4-> ∀x∈bb l,x∈bq r
 Ql: ∀l∈r.body,l.kind=4-> ∀x∈aR l.agg,x∈ax r->x∈bq r
 O6: ∀l∈r.body,l.kind=4->l.ba∈bq r
 scope: ∀l∈r.body,l.kind=4->l.ba∉aR l.agg
theorem je{r:ai}{m:NM}(h:pd r m=lc): ∀x∈m.map Ra,x∈bq r:=by
 intro x b;obtain⟨y,d,rfl⟩:=RH.1 b;have:=RD.1 h y d;exact aI.1 (by simpa using this)
theorem zb{m:NM}{s x:ae}(h:x=s∨x∈m.map Ra):x∈(bump m s).map Ra:=by
 unfold bump;by_cases b:s∈m.map Ra
 .rw[lT b];rcases h with rfl|h
  .exact b
  .exact h
 .rw[da b,QK];rcases h with rfl|h
  .exact .inr (Sc _)
  .exact .inl h
theorem EB{p:Prog}{r:ai}{n:Int}(h:(ov p r n).1=0):qx r:=by
 have I:=tA h;have S:=(cX (by decide) (cX (by decide) (cX (by decide) (cX (by decide) (cX (by decide) I).2).2).2).2).1;have F:=(cX (by decide) (cX (by decide) (cX (by decide) I).2).2).1;have j: ∀l∈r.body,∃i:Nat,i<r.body.length∧aj r (i:Int)=l∧gz r i=lc:=fun l b=>by
  obtain⟨i,u,rfl⟩:=RG.1 b;exact⟨i,u,by unfold aj;simp[Qx,u],S _ (sN u)⟩
 have J: ∀l∈r.body,l.kind=4->pd r (bump (kq r l.agg) l.ba)=lc:=fun l b d=>by
  obtain⟨i,u,A,hb⟩:=j l b;unfold gz at hb;rw[be (by omega),A,am d,Rq]at hb;exact hb.2
 refine⟨fun l b=>?_,fun x B=>?_,fun l b d x B=>?_,fun l b d x B Z=>?_,fun l b d=>?_,fun l b d=>?_⟩
 .have hb:=vA h l b;have hp:=l.size_pos;unfold lQ at hb;obtain⟨m,b⟩: ∃m,l.size=m+1:=⟨l.size-1,by omega⟩
  rw[b]at hb;exact DQ hb
 .have hb:=S _ (Cg r.body.length);unfold gz at hb;rw[am (by decide)]at hb;exact je hb x (((cS _).2 x).2 B)
 .obtain⟨i,u,A,hb⟩:=j l b;unfold gz at hb;rw[be (by omega),A,be d]at hb;exact je hb x (((cS _).2 x).2 B)
 .refine je (J l b d) x (zb (.inr ?_));obtain⟨y,hy,rfl⟩:=RH.1 (((cS (aR l.agg)).2 x).2 B);refine RH.2 ⟨y,Rn.2 ⟨hy,?_⟩,rfl⟩;rw[Rw];refine bN.2 fun Y=>?_;obtain⟨z,hz,G⟩:=RH.1 Y;have:=(Rn.1 hz).2;rw[Rw]at this;exact bN.1 this (by rw[G];exact Z)
 .exact je (J l b d) _ (zb (.inl D))
 .obtain⟨i,u,A,_⟩:=j l b;have hb:=F _ (sN u);unfold kH at hb;rw[be (by omega),A,am d,Rq]at hb;exact bN.1 hb.2
theorem qx.outer{r:ai}(h:qx r): ∀x∈ax r,x∈bq r:=fun x hx=>by
 rcases QK.1 hx with hx|hx
 .exact h.head x hx
 .obtain⟨l,d,hx⟩:=SI.1 hx;unfold cM at hx;by_cases b:l.kind=4
  .rw[am b]at hx;rcases QK.1 hx with hx|hx
   .unfold bb at hx;rw[be (by omega),be (by omega)]at hx;cases hx
   .rw[QJ]at hx;subst hx;exact h.O6 l d b
  .rw[be b,Ro]at hx;exact h.lits l d b x hx
def rD(l:Lit)(ks:List ae):Prop:=(l.kind=1-> ∀x∈bA l.atom,x∈ks)∧(l.kind=3-> ∀x∈bb l,x∈ks)∧(l.kind=4->l.ba∈ks)
def sd(r:ai)(dn:Nat->Bool)(ks:List ae):Prop:= ∀i,i<r.body.length->dn i=kw->rD (r.body.getD i co) ks
theorem rD.mono{l:Lit}{a b:List ae}(h:rD l a)(hs: ∀x∈a,x∈b):rD l b:=
 ⟨fun k x d=>hs x (h.1 k x d),fun k x d=>hs x (h.2.1 k x d),fun k=>hs _ (h.2.2 k)⟩
theorem Fq{l:Lit}(h:l.kind=3){x:ae}:x∈bb l↔x∈aP l.left∨x∈aP l.right:=by
 unfold bb;rw[be (by omega),am h,QK]
theorem Bz{ks v:List ae}(h:v.all (aJ ks)=kw): ∀x∈v,x∈ks:=fun x b=>aI.1 (Q7.1 h x b)
theorem lK{ks:List ae}{e o:Expr}(h:pO (aJ ks) e o=kw):e.kind=1∧e.var∉ks∧ ∀x∈aP o,x∈ks:=by
 unfold pO at h;simp only[Q5,decide_eq_true_eq,Rw]at h;exact⟨h.1.1,bN.1 h.1.2,fun x b=>Bz h.2 x (bF.2 b)⟩
theorem Lk{e:Expr}(h:e.kind=1){x:ae}(b:x∈aP e):x=e.var:=by
 rw[lZ,am h]at b;simpa using b
theorem DT{r:ai}{ks:List ae}{i:Nat}{s:cQ}(hc:gG (aJ ks) r i=io s):rD (r.body.getD i co) (ks++pC r s):=by
 have G:=mb hc;have b:pC r s=if s.kind=1 then aU (r.body.getD i co).atom else if s.kind=3 then[s.var] else[]:=by unfold pC;rw[G];rfl
 unfold gG at hc;generalize r.body.getD i co=l at*
 unfold mc at hc;split at hc
 .rename_i B;cases hc;rw[am D]at b;exact⟨fun _ x hx=>by rw[b];exact RA _ (c6.2 hx),fun h=>by omega,fun h=>by omega⟩
 .rename_i B;split at hc
  .rename_i I;exact⟨fun h=>by omega,fun h=>by omega,fun h=>by omega⟩
  .split at hc
   .rename_i A;refine⟨fun h=>by omega,fun _ x hx=>?_,fun h=>by omega⟩;rw[Fq A]at hx;unfold xT at hc;split at hc
    .rename_i d;rw[Q5]at d;refine Q8 _ ?_;rcases hx with hx|hx
     .exact Bz d.1 x (bF.2 hx)
     .exact Bz d.2 x (bF.2 hx)
    .split at hc
     .cases hc
     .split at hc
      .rename_i j;cases hc;obtain⟨u,_,y⟩:=lK j;rcases hx with hx|hx
       .rw[b,Lk u hx];exact RA _ (by simp)
       .exact Q8 _ (y x hx)
      .split at hc
       .rename_i j;cases hc;obtain⟨u,_,y⟩:=lK j;rcases hx with hx|hx
        .exact Q8 _ (y x hx)
        .rw[b,Lk u hx];exact RA _ (by simp)
       .cases hc
   .rename_i A;split at hc
    .rename_i J;refine⟨fun h=>by omega,fun h=>by omega,fun _=>?_⟩;unfold yd at hc;split at hc
     .split at hc
      .rename_i F;exact Q8 _ (aI.1 F)
      .cases hc;rw[b];exact RA _ (by simp)
     .cases hc
    .cases hc
theorem Bd{r:ai}{dn:Nat->Bool}{ks:List ae}(h:sd r dn ks){i:Nat}{s:cQ}(hc:gG (aJ ks) r i=io s):sd r (mJ dn s.lit) (ks++pC r s):=by
 intro j b hd;have u:=mb hc;unfold mJ at hd;rw[R9,decide_eq_true_eq]at hd;rcases hd with hd|hd
 .exact(h j b hd).mono fun x d=>Q8 _ d
 .have:j=i:=by omega
  subst this;exact DT hc
theorem FI{r:ai}(hT:qx r){ks:List ae}(hp: ∀l∈r.body,l.kind=1-> ∀x∈bA l.atom,x∈ks)
  (hl: ∀i,i<r.body.length->rD (r.body.getD i co) ks∨gG (aJ ks) r i=jp): ∀x∈bq r,x∈ks:=by
 refine kB (may:=fun u=>aQ u) (more:=fun u=>iT (ax r) u) l4 (A6 (ax r)) (C:=ks) (jQ fun l A=>?_) _ _ fun x d=>?_
 .obtain⟨i,G,rfl⟩:=RG.1 A;have j:=hl i G;have F:=hT.scope _ A;unfold gG at j;rw[Qx,Qy G,R2]at j;generalize r.body[i]=l at*
  unfold kY;have Y: ¬(fo (aQ ks) ks l).2=kw:=by
   intro hb;have Z:=hb;unfold fo at hb;split at hb
   .cases hb
   .rename_i y;rw[not_or,SC,SC]at y;have S: ∀{e:Expr},aQ ks e=kw->(bx e).all (aJ ks)=kw:=fun{e} hc=>Q7.2 fun x d=>by
     unfold aQ at hc;exact Q7.1 hc x (bF.1 d)
    rcases j with hk|hk
    .have:=hk.2.1 y.1;split at hb
     .rename_i b;exact bN.1 b.2.1 (this _ ((Fq y.1).2 (.inl (kz b.1))))
     .split at hb
      .rename_i b;exact bN.1 b.2.1 (this _ ((Fq y.1).2 (.inr (kz b.1))))
      .cases hb
    .unfold mc xT at hk;rw[be (by omega),be (by omega),am y.1]at hk;split at hk
     .cases hk
     .rw[be (by rw[SC];exact y.2)]at hk;split at hk
      .cases hk
      .rename_i I;split at hk
       .cases hk
       .rename_i J;unfold pO at I J;split at hb
        .rename_i b;exact I (by rw[decide_eq_true b.1,b.2.1,S b.2.2];rfl)
        .split at hb
         .rename_i b;exact J (by rw[decide_eq_true b.1,b.2.1,S b.2.2];rfl)
         .cases hb
  rw[be Y,be];rintro⟨k4,hv,hmo⟩;rcases j with hk|hk
  .exact bN.1 hv (hk.2.2 k4)
  .unfold mc yd at hk;rw[be (by omega),be (by omega),be (by omega),am k4]at hk;split at hk
   .split at hk<;>cases hk
   .rename_i B;refine B (Q7.2 fun x d=>?_);unfold iT at hmo;have:=Q7.1 hmo x (ld.1 d);rw[R9,decide_eq_true_eq]at this;rcases this with this|this
    .subst this;exact absurd (ld.1 d) (F k4)
    .rw[vY (fun x=>hP) x];exact this
 .rw[Sa,SI]at d;obtain⟨l,A,d⟩:=d;unfold bj at d;split at d
  .rename_i k;exact hp l A k x d
  .cases d
section
variable {r:ai} {fstv:Int}
theorem Am(K:ae->Bool)(dn:Nat->Bool): ∀n,(lA K r dn n=(-1, -1)∧ ∀i,i<n->(r.body.getD i co).kind=1->dn i=kw)∨0<=(lA K r dn n).1
 |0=> .inl ⟨rfl,fun i hi=>absurd hi (R1 i)⟩
 |n+1=>by
  have h:=uL K r dn n;unfold qt at h;rcases Am K dn n with⟨h1,j⟩|h1
  .split at h
   .exact .inr (by rw[h];exact Int.natCast_nonneg n)
   .rename_i b;rw[h1]at b;refine .inl ⟨h.trans h1,fun i hi d=>?_⟩;rcases RK.1 hi with hi|hi
    .exact j i hi d
    .subst hi;cases hd:dn i with
     |true=>rfl
     |false=>exact absurd ⟨by rw[hd,decide_eq_true d];rfl,by show((gW K (r.body.getD i co).atom).length:Int)> -1;omega⟩ b
  .split at h
   .exact .inr (by rw[h];exact Int.natCast_nonneg n)
   .exact .inr (by rw[h];exact h1)
theorem DI(hT:qx r)(hf:ky r fstv){dn:Nat->Bool}{ks:List ae}(Z:sd r dn ks)(h:fe (aJ ks) r dn fstv=jp): ∀i,i<r.body.length->dn i=kw:=by
 have ht: ∀i,i<r.body.length->im (aJ ks) r dn i=jp:=fun i b=>by
  unfold fe at h;cases hs:(Rh r.body.length).findSome? (im (aJ ks) r dn) with
  |some s=>rw[hs]at h;cases h
  |none=>exact SN.1 hs i (R3.2 b)
 have G: ∀i,i<r.body.length->(r.body.getD i co).kind=1->dn i=kw:=by
  unfold fe at h;rw[xK ht]at h;dsimp only at h;split at h
  .rename_i d;rcases hf with rfl|⟨f,rfl,_,y⟩
   .exact absurd d.1 (by decide)
   .rw[show((f:Int)).toNat=f from rfl,ly y]at h;cases h
  .split at h
   .rename_i hb;rcases Am (aJ ks) dn r.body.length with⟨_,h2⟩|h2
    .exact h2
    .exfalso;have J:mv (aJ ks) r dn=lA (aJ ks) r dn r.body.length:=rfl;rw[J]at hb;omega
   .rename_i hb;rcases xZ (aJ ks) r dn (Rh r.body.length) (-1, -1) with h2|⟨i,_,h2,_,h3⟩
    .exact absurd (show(mv (aJ ks) r dn).1<0 by unfold mv;rw[h2];decide) hb
    .have:(mv (aJ ks) r dn).1=i:=h2;rw[this,QW,ly h3]at h;cases h
 have F: ∀i,i<r.body.length->dn i=lc->gG (aJ ks) r i=jp:=fun i b hd=>uE (ht i b) hd fun g=>by
  rw[G i b g]at hd;cases hd
 have u: ∀x∈bq r,x∈ks:=FI hT (fun l B k=>by
  obtain⟨i,b,rfl⟩:=RG.1 B;have e:r.body.getD i co=r.body[i]:=by rw[Qx,Qy b];rfl
  rw[<-e]at k ⊢
  exact(Z i b (G i b k)).1 k) fun i b=>by
  cases hd:dn i with
  |true=>exact .inl (Z i b hd)
  |false=>exact .inr (F i b hd)
 intro i b;cases hd:dn i with
 |true=>rfl
 |false=>
  exfalso;have d:=F i b hd;have B:r.body.getD i co∈r.body:=dS b;have S:=hT.kinds _ B;have A:=hT.lits _ B;have I:=hT.Ql _ B;have y:=G i b;unfold gG at d;generalize r.body.getD i co=l at*
  have Y: ∀{v:List ae},(∀x∈v,x∈bq r)->v.all (aJ ks)=kw:=fun{v} g=>Q7.2 fun x j=>aI.2 (u x (g x j));rcases S with k|k|k|k
  .rw[y k]at hd;cases hd
  .unfold mc at d;rw[be (by omega),am k,am (Y fun x j=>A (by omega) x (by unfold bb;rw[am (.inr k)];exact c6.1 j))]at d;cases d
  .unfold mc xT at d
   rw[be (by omega),be (by omega),am k,am (by
    rw[Y fun x j=>A (by omega) x ((Fq k).2 (.inl (bF.1 j))),Y fun x j=>A (by omega) x ((Fq k).2 (.inr (bF.1 j)))];rfl)]at d
   cases d
  .unfold mc yd at d;rw[be (by omega),be (by omega),be (by omega),am k,am]at d
   .split at d<;>cases d
   .refine Q7.2 fun x j=>?_
    cases ho:aJ (outer r) x with
    |false=>rfl
    |true=>exact aI.2 (u x (I k x (ld.1 j) (hP.1 (aI.1 ho))))
theorem CN{dn:Nat->Bool}: ∀{n},(∀i,i<n->dn i=kw)->jh dn n=n
 |0,_=>rfl
 |n+1,h=>by unfold jh;rw[CN fun i b=>h i (by omega),am (h n (RX n))]
theorem JW{dn:Nat->Bool}{n i:Nat}(h:jh dn n=n)(hi:i<n):dn i=kw:=by
 cases hd:dn i with
 |true=>rfl
 |false=>have:=xS hd hi;omega
theorem Jk(ks:List ae)(r:ai)(s:cQ):(fun x=>aJ ks x||aJ (pC r s) x)=aJ (ks++pC r s):=(xD _ _).symm
theorem tp(hf:ky r fstv)(b:fstv<r.body.length)(hT:qx r){n:Nat}{dn:Nat->Bool}{ks:List ae}(hn:jh dn r.body.length+(n+1)=r.body.length)(y:sd r dn ks):
  ∃(s:cQ) (i:Nat),s.lit=(i:Int)∧i<r.body.length∧dn i=lc∧gG (aJ ks) r i=io s∧fe (aJ ks) r dn fstv=io s∧cV r fstv (n+1) dn (aJ ks)=s::cV r fstv n (mJ dn s.lit) (aJ (ks++pC r s))∧jh (mJ dn s.lit) r.body.length+n=r.body.length∧sd r (mJ dn s.lit) (ks++pC r s):=by
 cases hx:fe (aJ ks) r dn fstv with
 |none=>exact absurd (CN (DI hT hf y hx)) (by omega)
 |some s=>
  obtain⟨i,d,j,u,x⟩:=p3 b hx;refine⟨s,i,d,j,u,x,rfl,?_,?_,Bd y x⟩
  .rw[cV,hx,<-Jk];rfl
  .rw[d,uA u j];omega
theorem vw(hf:ky r fstv)(b:fstv<r.body.length)(hT:qx r): ∀(n:Nat) (dn:Nat->Bool) (ks:List ae),jh dn r.body.length+n=r.body.length->sd r dn ks->(cV r fstv n dn (aJ ks)).length=n
 |0,_,_,_,_=>rfl
 |n+1,dn,ks,hn,hk=>by
  obtain⟨s,i,_,_,_,_,_,u,j,d⟩:=tp hf b hT hn hk;rw[u,Rf,vw hf b hT n _ _ j d]
theorem yC(b:fstv<r.body.length): ∀(n:Nat) (dn:Nat->Bool) (K:ae->Bool),ye r (cV r fstv n dn K) dn K=kw
 |0,_,_=>rfl
 |n+1,dn,K=>by
  rw[cV];cases hx:fe K r dn fstv with
  |none=>rfl
  |some s=>
   obtain⟨i,j,y,u,x⟩:=p3 b hx;show ye r (s::_) dn K=kw;rw[ye];have d:kU r dn K s=kw:=by
    unfold kU;rw[j,QW,u,x,decide_eq_true D,decide_eq_true (by omega)];rfl
   rw[d,RV];exact yC b n _ _
def jv(L:List cQ)(i:Nat):List cQ:=(L.set (i+1) (L.getD i co)).set i (L.getD (i+1) co)
theorem DH{K:ae->Bool}{dn:Nat->Bool}{s:cQ}(h:fe K r dn fstv=io s)(u:s.kind=1){j:Nat}(hj:j<r.body.length):im K r dn j=jp:=by
 unfold fe at h;cases hs:(Rh r.body.length).findSome? (im K r dn) with
 |none=>exact SN.1 hs j (R3.2 hj)
 |some s'=>
  rw[hs]at h;cases h;obtain⟨i,_,b⟩:=SU hs;unfold im at b;split at b
  .rename_i d;rw[Q5,decide_eq_true_eq]at d;exact absurd (rA b u) d.2
  .cases b
theorem wA{K:ae->Bool}{l:Lit}{i:Int}{s:cQ}(h:mc K r l i=io s)(b:l.kind=1):s.kind=1:=by
 unfold mc at h;rw[am b]at h;cases h;rfl
theorem rI(u:fstv<r.body.length): ∀(n:Nat) (dn:Nat->Bool) (K:ae->Bool) (i:Nat),i+1<(cV r fstv n dn K).length->((cV r fstv n dn K).getD i co).kind=1->((cV r fstv n dn K).getD (i+1) co).kind=2->
  ye r (jv (cV r fstv n dn K) i) dn K=lc
 |0,_,_,_,h,_,_=>by cases h
 |n+1,dn,K,i,h,d,b=>by
  rw[cV]at h d b ⊢;cases hx:fe K r dn fstv with
  |none=>rw[hx]at h;cases h
  |some s=>
   rw[hx]at h d b;dsimp only at h d b ⊢;cases i with
   |succ i=>
    have F:=rI u n _ _ i (by simpa using h) d b;show ye r (s::jv _ i) dn K=lc;rw[ye,Bool.and_eq_false_iff];exact .inr F
   |zero=>
    have d:s.kind=1:=d;cases n with
    |zero=>simp[cV]at h
    |succ n=>
     rw[cV]at h b ⊢;cases hy:fe (fun x=>K x||aJ (pC r s) x) r (fun j=>dn j||decide ((j:Int)=s.lit)) fstv with
     |none=>rw[hy]at h;simp at h
     |some t=>
      rw[hy]at b;dsimp only at b ⊢;have b:t.kind=2:=b;obtain⟨j,g1,g2,g3,g4⟩:=p3 u hy;have hd:dn j=lc:=by
       rw[Rq]at g3;exact g3.1
      have y: ¬(r.body.getD j co).kind=1:=fun g=>by
       have:=wA g4 g;omega
      have B:gG K r j=jp:=uE (DH hx d g2) hd y;show ye r (t::s::_) dn K=lc;have A:kU r dn K t=lc:=by
       unfold kU;rw[g1,QW,B];simp
      rw[ye,A,Si]
end
def j7(l:List ae)(s:ae):List ae:=if aJ l s=kw then l else l++ [s]
def s7(a:List ae)(t:Term):List ae:=if t.kind=1 then j7 a t.var else a
def fX(r:ai)(s:cQ):Lit:=r.body.getD s.lit.toNat co
def G0(r:ai)(s:cQ):Prop:=s.lit<0∨s.lit>=r.body.length∨ ¬li (s.kind=1)=li ((fX r s).kind=1)
instance (r:ai)(s:cQ):Decidable (G0 r s):=inferInstanceAs (Decidable (_∨_))
def gQ(b:List Int)(s:cQ):List Int:=b.set s.lit.toNat (b.getD s.lit.toNat co+1)
def mB(r:ai)(set:List ae)(s:cQ):List ae:=if s.kind=1 then(fX r s).atom.ad.foldl s7 set else set
def rP(r:ai):List cQ->List Int->List ae->Bool
 | [],seen,set=>(seen.all fun x=>li (x=1))&&li (set.length=(outer r).length)
 |s::L,seen,set=>if G0 r s then lc
  else if s.kind=3 then(if aJ (mB r set s) s.var=kw then lc else rP r L (gQ seen s) (mB r set s++ [s.var]))
  else rP r L (gQ seen s) (mB r set s)
def y6(r:ai)(pl:kP):Bool:=li (pl.steps.length=r.body.length)&&rP r pl.steps (SM r.body.length 0) pl.given
theorem C4{l:List ae}{s x:ae}:x∈j7 l s↔x∈l∨x=s:=by
 unfold j7;split
 .rename_i h;exact⟨.inl,fun g=>g.elim id fun e=>by rw[e];exact aI.1 h⟩
 .simp
theorem rE{l:List ae}{s:ae}(h:l.Nodup):(j7 l s).Nodup:=by
 unfold j7;split
 .exact h
 .rename_i g;refine Sh.2 ⟨h,by simp,fun a d b hb=>?_⟩;rw[QJ]at hb;subst hb;intro e;subst e;exact g (aI.2 d)
theorem BB: ∀(ts:List Term) (a:List ae),a.Nodup->(ts.foldl s7 a).Nodup∧ ∀x,x∈ts.foldl s7 a↔x∈a∨x∈ts.flatMap fun t=>if t.kind=1 then[t.var] else[]
 | [],a,h=>⟨h,fun x=>by simp⟩
 |t::ts,a,h=>by
  have b:(s7 a t).Nodup:=by unfold s7;split;exact rE h;exact h
  obtain⟨d,j⟩:=BB ts (s7 a t) b;refine⟨d,fun x=>?_⟩;rw[Rc,j x,Rl,QK,<-or_assoc];refine or_congr_left ?_;unfold s7;split
  .rw[C4,QJ]
  .simp
theorem JK{ks:List ae}{r:ai}{l:Lit}{i:Int}{s:cQ}(h:mc (aJ ks) r l i=io s)(b:s.kind=3):s.var∉ks∧s.var∈cM l:=by
 unfold mc at h;split at h
 .cases h;cases b
 .split at h
  .split at h<;>cases h;cases b
  .split at h
   .rename_i x;unfold xT at h;split at h
    .cases h;cases b
    .split at h
     .cases h
     .split at h
      .rename_i d;cases h;obtain⟨j,u,_⟩:=lK d;exact⟨u,(vX x).1 _ (kz j)⟩
      .split at h
       .rename_i d;cases h;obtain⟨j,u,_⟩:=lK d;exact⟨u,(vX x).2 _ (kz j)⟩
       .cases h
   .split at h
    .rename_i y;unfold yd at h;split at h
     .split at h
      .cases h;cases b
      .rename_i A;cases h;refine⟨fun g=>A (aI.2 g),?_⟩;unfold cM;rw[am y];exact RA _ (Sc _)
     .cases h
    .cases h
theorem Fg{r:ai}{l:Lit}(h:l∈r.body): ∀x∈cM l,x∈ax r:=fun x b=>RA _ (SI.2 ⟨l,h,b⟩)
theorem G1{l:Lit}(h:l.kind=1): ∀x∈bA l.atom,x∈cM l:=fun x b=>by
 unfold cM bb;rw[am (.inl h)];exact Q8 _ b
theorem pL{l:List ae}(h:qA l):l.Nodup:=TC (fun{a b} g e=>by subst e;exact jE _ g) h
theorem ET{b:List Int}{dn:Nat->Bool}{n:Nat}(A:b.length=n)(h: ∀j,j<n->b.getD j co=if dn j=kw then 1 else 0){s:cQ}{i:Nat}(hi:s.lit=i)(u:i<n)(hd:dn i=lc):
  (gQ b s).length=n∧ ∀j,j<n->(gQ b s).getD j co=if mJ dn s.lit j=kw then 1 else 0:=by
 unfold gQ;rw[hi,QW];refine⟨by rw[SO,A],fun j y=>?_⟩;have x:=h j y;have d:=h i u;rw[hd,be Ri]at d;rw[d,Qx,R5];unfold mJ;by_cases e:i=j
 .subst e;rw[am D,am (by omega),decide_eq_true D,SG,am D];rfl
 .rw[be e,decide_eq_false (by omega),Sn,<-x,Qx]
theorem lI{r:ai}{fstv:Int}(hf:ky r fstv)(y:fstv<r.body.length)(hT:qx r): ∀(n:Nat) (dn:Nat->Bool) (ks:List ae) (d:List Int) (set:List ae),jh dn r.body.length+n=r.body.length->sd r dn ks->
  d.length=r.body.length->(∀i,i<r.body.length->d.getD i co=if dn i=kw then 1 else 0)->set.Nodup->(∀x,x∈set↔x∈ks)->(∀x∈set,x∈ax r)->
  rP r (cV r fstv n dn (aJ ks)) d set=kw
 |0,dn,ks,d,set,hn,hk,hl,hs,hnd,A,ho=>by
  have hd: ∀i,i<r.body.length->dn i=kw:=fun i u=>JW (by omega) u;show((d.all fun x=>li (x=1))&&li (set.length=(outer r).length))=kw;rw[Q5,Q7,decide_eq_true_eq];constructor
  .intro x hx;obtain⟨i,u,rfl⟩:=RG.1 hx;have:=hs i (by omega);rw[hd i (by omega),am D,Qx,Qy u]at this;exact decide_eq_true this
  .have S:=FI hT (ks:=ks) (fun l A k=>by
    obtain⟨i,u,rfl⟩:=RG.1 A;have e:r.body.getD i co=r.body[i]:=by rw[Qx,Qy u];rfl
    rw[<-e]at k ⊢
    exact(hk i u (hd i u)).1 k) fun i u=> .inl (hk i u (hd i u))
   have G:=nU hnd fun x hx=>hP.2 (ho x hx);have h2:=nU (pL (pW r)) fun x hx=>(A x).2 (S x (hT.outer x (hP.1 hx)))
   omega
 |n+1,dn,ks,d,set,hn,hk,hl,hs,hnd,A,ho=>by
  obtain⟨s,i,G,h2,h3,h4,_,he,F,B⟩:=tp hf y hT hn hk;have Y:r.body.getD i co∈r.body:=dS h2;have Z:fX r s=r.body.getD i co:=by unfold fX;rw[G];rfl
  obtain⟨q1,q2⟩:=ET hl hs G h2 h3;have J:s.kind=1↔(r.body.getD i co).kind=1:=⟨rA h4,wA h4⟩
  rw[he,rP,be]
  .have b:pC r s=if s.kind=1 then aU (r.body.getD i co).atom else if s.kind=3 then[s.var] else[]:=by unfold pC;rw[G];rfl
   by_cases k3:s.kind=3
   .have j:mB r set s=set:=by unfold mB;rw[be (by omega)]
    obtain⟨n1,n2⟩:=JK h4 k3;rw[be (by omega),am k3]at b;have I: ¬aJ set s.var=kw:=fun g=>n1 ((A _).1 (aI.1 g));rw[am k3,j,be I];refine lI hf y hT n _ _ _ _ F B q1 q2 ?_ (fun x=>?_) fun x hx=>?_
    .have:=rE (s:=s.var) hnd;unfold j7 at this;rwa[be I]at this
    .rw[b,QK,QK,A x]
    .rcases QK.1 hx with hx|hx
     .exact ho x hx
     .rw[QJ]at hx;subst hx;exact Fg Y _ n2
   .rw[be k3];by_cases k1:s.kind=1
    .have j:mB r set s=(r.body.getD i co).atom.ad.foldl s7 set:=by unfold mB;rw[am k1,Z]
     obtain⟨f1,f2⟩:=BB (r.body.getD i co).atom.ad set hnd;rw[am k1]at b;rw[j];refine lI hf y hT n _ _ _ _ F B q1 q2 f1 (fun x=>?_) fun x hx=>?_
     .rw[f2 x,b,QK,A x,c6];rfl
     .rcases(f2 x).1 hx with hx|hx
      .exact ho x hx
      .exact Fg Y _ (G1 (J.1 k1) x hx)
    .have j:mB r set s=set:=by unfold mB;rw[be k1]
     rw[be k1,be k3]at b;rw[j];exact lI hf y hT n _ _ _ _ F B q1 q2 hnd (fun x=>by rw[b,Ro,A x]) ho
  .unfold G0;rw[Z,G];rintro(g|g|g)
   .omega
   .omega
   .exact g (decide_eq_decide.2 J)
theorem wv: ∀n,jh (fun _=>lc) n=0
 |0=>rfl
 |n+1=>by unfold jh;rw[wv n];rfl
theorem C6{r:ai}{l:List ae}(h:jt r l=kw):l.Nodup∧ ∀x∈l,x∈ax r:=by
 have u: ∀i,i<l.length->FV r l i=kw:=fun i b=>Q7.1 h i (R3.2 b);have e: ∀i (b:i<l.length),l.getD i co=l[i]:=fun i b=>by rw[Qx,Qy b];rfl
 constructor
 .rw[List.Nodup,Sq];intro i j b y d A;have:=u j y;unfold FV at this;rw[Q5,Rw,e j y]at this;refine bN.1 this.2 ?_;rw[<-A];exact S7.2 ⟨i,by rw[Rt,am d,Qy b]⟩
 .intro x B;obtain⟨i,b,rfl⟩:=RG.1 B;have:=u i b;unfold FV at this;rw[Q5,e i b]at this;exact hP.1 (aI.1 this.1)
structure Holds (p:Prog) (pl:kP):Prop where
 once:y6 (aL p pl.iY) pl=kw
 valid:eR p pl=kw
 eager: ∀i,i+1<pl.steps.length->(pl.steps.getD i co).kind=1->(pl.steps.getD (i+1) co).kind=2->eR p ⟨pl.iY,pl.first,pl.given,jv pl.steps i⟩=lc
theorem holds_of{p:Prog}{n fstv:Int}{l:List ae}(h:dM p n=0)(hf:ky (aL p n) fstv)(d:fstv<(aL p n).body.length)(F:jt (aL p n) l=kw):Holds p ⟨n,fstv,l,mj (aL p n) fstv l⟩:=by
 have A:=oZ h;have hT:qx (aL p n):=by
  have B:=(px p).1 (Ae A.2.2).1;unfold ig at B;have x:=(pQ p _).1 (SH.1 B).2;exact EB (x (n-1).toNat (by omega))
 obtain⟨J,v2⟩:=C6 F;have u:sd (aL p n) (fun _=>lc) l:=fun i _ hd=>by cases hd
 have j:jh (fun _=>lc) (aL p n).body.length+(aL p n).body.length=(aL p n).body.length:=by rw[wv];omega
 have b:=vw hf d hT _ _ l j u;have key: ∀L:List cQ,L.length=(aL p n).body.length->eR p ⟨n,fstv,l,L⟩=ye (aL p n) L (fun _=>lc) (aJ l):=fun L I=>by
  unfold eR;rw[decide_eq_true h,F,decide_eq_true I,RV,RV,RV]
 refine⟨?_,?_,fun i y G x=>?_⟩
 .show y6 (aL p n) _=kw;unfold y6;rw[decide_eq_true (show(mj (aL p n) fstv l).length=_ from b),RV];refine lI hf d hT _ _ l _ _ j u (by simp) (fun i y=>?_) J (fun _=>Iff.rfl) v2;rw[Qx,S0,am y,be Ri];rfl
 .exact(key _ b).trans (yC d _ _ _)
 .refine(key _ ?_).trans (rI d _ _ _ i y G x);unfold jv;rw[SO,SO];exact b
end
def Gn:Expr:= .mk 0 Qz ⟨0,0,Qz⟩ 0 []
end Go.Proofs.YtflegjieadkonaaGreatDoor
