/-
  What the proofs of the claims need: part 5 of 5.
-/
import Derived.Test.YtbhphmfbligliaaGreatDoorPart4
open And renaming intro→S3
open Bool renaming and_eq_true→Tz,and_false→U9,eq_iff_iff→Uo,false_and→US,not_eq_false'→Va,or_eq_true→U0
open ByteArray renaming data→WZ,empty→Ta
open Classical renaming not_not→Vk
open Int renaming fdiv_eq_ediv_of_nonneg→Uu,le_refl→UL,toNat→Vf,toNat_natCast→S7
open Int.ofNat renaming inj→W0
open List renaming all_eq_true→TI,append_assoc→Tb,append_eq_nil_iff→Vr,append_nil→TC,cons_append→Tu,drop_eq_getElem_cons→Vc,drop_of_length_le→Wn,drop_zero→V4,ext_getElem?→Vj,flatMap_append→UI,flatMap_cons→TJ,flatMap_nil→Wg,foldl_cons→TM,fst_mem_of_mem_zipIdx→Vb,getD→V0,getD_cons_succ→Um,getD_eq_getElem?_getD→S4,getElem?_drop→Uc,getElem?_eq_getElem→S5,getElem?_eq_some_iff→S2,getElem?_map→S6,getElem?_of_mem→Ue,getElem?_take→TE,getElem?_zipIdx→Ww,length→Vg,length_append→S1,length_cons→Tr,length_drop→UP,length_eq_zero_iff→Uh,length_map→TB,length_nil→Ur,length_reverse→U3,length_singleton→TU,length_take→TA,map_append→Tc,map_congr_left→Ux,map_cons→Tg,map_map→UN,map_nil→Tx,mem_append→Ts,mem_append_right→Uy,mem_cons→Tt,mem_cons_of_mem→Tl,mem_cons_self→Tm,mem_iff_getElem→UQ,mem_map→Uf,mem_of_getElem?→T7,mem_of_mem_take→Us,mem_range→U8,mem_singleton→Tk,nil_append→TD,nodup_nil→T3,range→TX,take_append_drop→T9,take_length→TV,take_of_length_le→Tf,take_zero→Vw
open Nat renaming add_assoc→Ua,add_comm→VL,add_mul→TP,beq→Tw,le_of_ble_eq_true→SY,le_of_not_lt→UG,le_refl→S9,le_trans→TQ,lt_succ_self→Ut,mul_le_mul_right→Tq,not_lt_zero→Ve,pow_succ→VO,zero_add→Tp,zero_le→Te
open Option renaming map_map→V2,map_some→T4
open Prod renaming fst→T2
set_option maxRecDepth 100000
open Bool renaming false→jp,true→is
open Decidable renaming decide→kw
open Inhabited renaming default→co
open Option renaming none→io,some→dl
open Array renaming getD_eq_getD_getElem?→SZ
open Option.some renaming injEq→S0
open Nat renaming le_succ→UT
open Array renaming range→V8
open Array renaming getElem?_map→U7
open Option renaming getD_some→Uk
open Array renaming getElem?_eq_getElem→T1
open Array renaming append_assoc→VG
open Array renaming getElem?_append_left→TG
open List renaming getElem?_append_right→Ti
open Nat renaming sub_mul→Wu
open Array renaming getElem?_append_right→U4
open Array renaming getElem?_toList→TF
open Nat renaming mod_eq_of_lt→Vy
open List renaming getElem?_cons_succ→Vn
open Option renaming map_eq_some_iff→S8
open Array renaming toList_append→Vm
namespace Go.Proofs.YtbhphmfbligliaaGreatDoor
open Go Go.Al Go.En
theorem uN{V:Type}{m:List ((KC.str).K×V)}{s t:ae}{v:V}:cY .str (cH .str m s v) t=(kw (s=t)||cY .str m t):=by
 rw[Uo,U0,mY,mY,decide_eq_true_eq];by_cases h:s∈m.map T2
 .rw[lZ h];exact⟨.inr,fun g=>g.elim (fun e=>e▸h) id⟩
 .rw[cU h,Ts,Tk];exact⟨fun g=>g.elim .inr (fun e=> .inl e.symm),fun g=>g.elim (fun e=> .inr e.symm) .inl⟩
theorem zV{p:Prog}(h:(p.aw.map Decl.name).Nodup): ∀(n:Nat),n<=p.aw.length-> ∀i,i<n->cI .str (x9 p n) (p.aw.getD i co).name 0=(i:Int)
 |0,_,i,hi=>absurd hi (Ve _)
 |n+1,hn,i,hi=>by
  show cI .str (cH .str (x9 p n) _ (n:Int)) _ 0=_;rw[eD];by_cases e:i=n
  .subst e;rw[am I]
  .have d:i<n:=by omega
   have j: ¬(p.aw.getD n co).name=(p.aw.getD i co).name:=fun y=>by
    have u:(p.aw.map Decl.name)[n]? =dl (p.aw.getD n co).name:=by rw[S6,S4,S5 (by omega)];rfl
    have x:(p.aw.map Decl.name)[i]? =dl (p.aw.getD i co).name:=by rw[S6,S4,S5 (by omega)];rfl
    rw[y,<-x]at u;have:=(List.getElem?_inj (by simp;omega) h).1 u;omega
   rw[be j];exact zV h n (by omega) i d
theorem Dh: ∀(l:List Decl) (m:DM) (s:ae),cY .str (l.foldl c6 m) s=is->cY .str m s=jp-> ∃i,i<l.length∧(l.getD i co).name=s∧cI .str (l.foldl c6 m) s Decl.z=l.getD i co
 | [],m,s,h,h2=>by rw[List.foldl_nil]at h;rw[h]at h2;cases h2
 |d::l,m,s,h,h2=>by
  rw[TM]at h ⊢;by_cases e:d.name=s
  .refine⟨0,by simp,e,?_⟩;have j:c6 m d=cH .str m d.name d:=by unfold c6;rw[e,h2];rfl
   have key: ∀(l:List Decl) (m:DM),cY .str m s=is->cI .str (l.foldl c6 m) s Decl.z=cI .str m s Decl.z:=by
    intro l
    induction l with
    |nil=>exact fun _ _=>rfl
    |cons x l ih=>
     intro m j;rw[TM];by_cases y:cY .str m x.name=is
     .rw[show c6 m x=m by unfold c6;rw[am y]];exact ih m j
     .have u: ¬x.name=s:=fun e=>y (e▸j)
      rw[show c6 m x=cH .str m x.name x by unfold c6;rw[be y]];rw[ih _ (by rw[uN];simp[u,j]),eD,be u]
   rw[key l _ (by rw[j,e,uN];simp),j,e,eD,am I];rfl
  .have A:cY .str (c6 m d) s=jp:=by
    unfold c6;split
    .exact h2
    .rw[uN];simp[e,h2]
   obtain⟨i,g1,g2,g3⟩:=Dh l _ s h A;exact⟨i+1,by simpa using g1,by simpa using g2,by simpa using g3⟩
theorem Pj{n:Int}(h1: -2147483647<=n)(d:n<=2147483647):zz n<2 ^ 64:=by
 unfold zz;split<;>omega
theorem xx{b:By}{S:List ae}(F:S.Nodup)(Z:S.length<=4194304): ∀(l:List eK) (ks:List Int) {s:RS} {r:By},l.length=ks.length->(∀i,i<l.length->(l.getD i co).kind=ks.getD i co)->(∀v∈l,b7 v=0)->(∀v∈l,v.kind=2->v.sym∈S)->At b s (l.flatMap (j6 S)++r)->fe b S ks s=(dl l,⟨s.p+(l.flatMap (j6 S)).length,0⟩)
 | [],[],s,r,_,_,_,_,h=>by
  have:=h.f;cases s
  simp_all [fe]
 | [],_::_,_,_,h,_,_,_,_=>by simp at h
 |_::_,[],_,_,h,_,_,_,_=>by simp at h
 |v::l,k::ks,s,r,hlen,hk,hv,hs,h=>by
  rw[TJ,Tb]at h;have x:v.kind=k:=hk 0 (by simp);have j:=hv v (Tm ..);have J:=fun(s:RS) (h:At b s (l.flatMap (j6 S)++r))=>xx F Z l ks (s:=s) (r:=r) (by simpa using hlen) (fun i u=>by simpa using hk (i+1) (by simpa using u)) (fun v d=>hv v (Tl _ d)) (fun v d=>hs v (Tl _ d)) h;rw[fe];by_cases y:k=1
  .have d:v.kind=1:=x.trans y;rw[am y];unfold j6 at h;rw[am d]at h;unfold b7 at j;rw[am d]at j;split at j;rotate_left
   .cases j
   rename_i hb;rw[Gr h hb.2.1 hb.2.2 (Pj hb.2.1 hb.2.2)];have A:=h.go;rw[J _ A];have B:j6 S v=enc (zz v.num):=by unfold j6;rw[am d]
   have:v=⟨k,v.num,Ta⟩:=by cases v;simp_all
   simp only[TJ,S1,B,<-this,Ua]
  .have d: ¬v.kind=1:=by rw[x];exact y
   rw[be y];unfold j6 at h;rw[be d]at h;unfold b7 at j;rw[be d]at j;split at j;rotate_left
   .cases j
   rename_i D;split at j;rotate_left
   .cases j
   rename_i hb;have hm:=hs v (Tm ..) D;obtain⟨i,u⟩:=Ue hm;have C:=(S2.1 u).1;have G:=Nz F u;rw[G]at h;rw[jD h (by simp only[S7];omega) (by simp only[S7];omega)];simp only[S7];rw[am C];have A:=h.go;simp only[S7]at A;rw[J _ A];have B:j6 S v=enc i:=by unfold j6;rw[be d,G];rfl
   have Y:S.getD i co=v.sym:=by rw[S4,u];rfl
   have:v=⟨k,0,S.getD i co⟩:=by rw[Y];cases v;simp_all
   simp only[TJ,S1,B,<-this,Ua]
theorem yW{b:By}: ∀(l:List Int) {s:RS} {r:By},(∀u∈l,0<=u∧u<=65536)->At b s (l.flatMap sP++r)->jJ b l.length s=(l,⟨s.p+(l.flatMap sP).length,0⟩)
 | [],s,r,_,h=>by
  have:=h.f;cases s
  simp_all [jJ]
 |u::l,s,r,hu,h=>by
  rw[TJ,Tb]at h;have x:=hu u (Tm ..);have d:jJ b l.length ⟨s.p+(enc u.toNat).length,0⟩=_:=yW l (fun v j=>hu v (Tl _ j)) h.go;rw[Tr,jJ,jD (n:=u.toNat) h (by omega) (by omega)];have:((u.toNat:Nat):Int)=u:=by omega
  simp only[d,this,TJ,S1,sP,Ua]
structure RD (p:Prog):Prop where
 nodup:(p.aw.map Decl.name).Nodup
 aw:p.aw.length<=64
 rules:p.rules.length<=256
def A1(lines:Bool)(n:cK):Prop:=n.up.length=if lines=is then n.kids.toNat else 0
theorem Dd{p:Prog}{f:Fact}(h:oB p f=0):cY .str (p4 p) f.rel=is∧f.args.length<=8∧(∀v∈f.args,b7 v=0)∧f.args.length=(eF p f.rel).types.length∧ ∀i,i<f.args.length->(f.args.getD i co).kind=(eF p f.rel).types.getD i co:=by
 unfold oB at h;split at h
 .cases h
 rename_i d;split at h;rotate_left
 .cases h
 rename_i j;simp only[not_or,Bool.not_eq_false,Vk]at d;obtain⟨g1,g2,g3⟩:=d;unfold mb at g2;simp only[Tz,decide_eq_true_eq,TI]at g2;refine⟨g1,g2.2.1,g2.2.2,by omega,fun i u=>?_⟩;have:=TI.1 j i (U8.2 u);exact of_decide_eq_true this
theorem F9{p:Prog}(hc:RD p){b:By}{S:List ae}(Y:S.Nodup)(Z:S.length<=4194304){lines:Bool}{n:cK}{a:Nat}(ha:a<=65536)(hf:jX p n a=is)(hu:A1 lines n)(hs: ∀v∈n.fact.args,v.kind=2->v.sym∈S){s:RS}{r:By}(h:At b s (lQ p S n++r)):
  qm p b S lines s=(dl n,⟨s.p+(lQ p S n).length,0⟩):=by
 unfold jX at hf;simp only[Tz,decide_eq_true_eq,TI]at hf;obtain⟨f1,f2,f3,f4,f5⟩:=hf;obtain⟨g1,g2,g3,g4,g5⟩:=Dd f4;obtain⟨i,B,C,hd⟩:=Dh p.aw [] n.fact.rel g1 I;have hd:eF p n.fact.rel=p.aw.getD i co:=hd;have x:cI .str (sT p) n.fact.rel 0=(i:Int):=by rw[<-C];exact zV hc.nodup _ (S9 _) i B
 have hr:=hc.aw;have a0:=hc.rules;have b0:(bU p).length=p.rules.length+1:=by simp[bU]
 have h0:=h;unfold lQ at h;rw[x]at h;simp only[S7,Tb]at h;have D:=jD (most:=64) h (by omega) (by omega);have A:=h.go;have F:=xx Y Z n.fact.args (eF p n.fact.rel).types g4 g5 g3 hs A;have a2:=A.go;have G:=jD (most:=256) a2 (by omega) (by omega);have a3:=a2.go;have y:((n.cW.toNat:Nat):Int)=n.cW:=by omega
 have J:(if lines=is then jJ b ((bU p).getD n.cW.toNat 0).toNat ⟨s.p+(enc i).length+(n.fact.args.flatMap (j6 S)).length+(enc n.cW.toNat).length,0⟩ else([],⟨s.p+(enc i).length+(n.fact.args.flatMap (j6 S)).length+(enc n.cW.toNat).length,0⟩))=(n.up,⟨s.p+(enc i).length+(n.fact.args.flatMap (j6 S)).length+(enc n.cW.toNat).length+(n.up.flatMap sP).length,0⟩):=by
  unfold A1 at hu;cases lines with
  |true=>
   rw[am I]at hu ⊢;rw[<-f3,<-hu];refine yW n.up (fun u hu=>?_) a3;have:=f5 u hu;unfold kQ at this;simp only[Tz,decide_eq_true_eq]at this;omega
  |false=>
   rw[be (by simp)]at hu ⊢;have:n.up=[]:=Uh.1 hu;rw[this];rfl
 unfold qm;simp only[D];rw[am ⟨ac,B⟩,<-hd,F];simp only[G];rw[am ⟨ac,by omega⟩,J];simp only[if_true];have j:(lQ p S n).length=(enc i).length+((n.fact.args.flatMap (j6 S)).length+((enc n.cW.toNat).length+(n.up.flatMap sP).length)):=by
  unfold lQ;rw[x];simp
 have d:(eF p n.fact.rel).name=n.fact.rel:=by rw[hd,C]
 rw[j,d,y,<-f3];simp only[Ua]
theorem wK{p:Prog}(hc:RD p){b:By}{S:List ae}(j:S.Nodup)(u:S.length<=4194304){lines:Bool}: ∀(l:List cK) (a:Nat),a+l.length<=65536->bF p a l=is->(∀n∈l,A1 lines n)->(∀n∈l,∀v∈n.fact.args,v.kind=2->v.sym∈S)-> ∀{s:RS} {r:By},At b s (l.flatMap (lQ p S)++r)->fX p b S lines l.length s=(dl l,⟨s.p+(l.flatMap (lQ p S)).length,0⟩)
 | [],a,_,_,_,_,s,r,h=>by
  have:=h.f;cases s
  simp_all [fX]
 |n::l,a,ha,hf,hu,hs,s,r,h=>by
  rw[TJ,Tb]at h;rw[bF,Tz]at hf;rw[Tr]at ha;rw[Tr,fX,am h.f,F9 hc j u (by omega) hf.1 (hu n (Tm ..)) (hs n (Tm ..)) h];have y:=wK hc j u l (a+1) (by omega) hf.2 (fun x d=>hu x (Tl _ d)) (fun x d=>hs x (Tl _ d)) h.go;simp only[y,TJ,S1,Ua]
theorem fU{p:Prog}: ∀(l:List cK) (a:Nat),bF p a l=is-> ∀n∈l,n.fact.args.length<=8∧ ∀v∈n.fact.args,b7 v=0
 | [],_,_,_,hn=>nomatch hn
 |x::l,a,h,n,hn=>by
  rw[bF,Tz]at h;rcases Tt.1 hn with rfl|hn
  .have d:=h.1;unfold jX at d;simp only[Tz,decide_eq_true_eq]at d;obtain⟨g1,g2,g3,_⟩:=Dd d.2.2.2.1;exact⟨g2,g3⟩
  .exact fU l _ h.2 n hn
theorem y1{v:eK}(h:b7 v=0)(j:v.kind=2):v.sym.size<=64:=by
 unfold b7 at h;rw[be (by omega),am j]at h;split at h
 .rename_i d;exact d.2
 .cases h
theorem Ht{p:Prog}(hc:RD p){m:Nat}{kd:UInt8}{lines:Bool}{l:List cK}(hl:l.length<=65536)(hf:bF p 0 l=is)(hu: ∀n∈l,A1 lines n)(r:By):
  BX p (bL p m kd l++r) lines=(dl l,⟨(bL p m kd l).length,0⟩):=by
 obtain⟨q1,q2,q3⟩:(bc l).Nodup∧(∀t∈([]:List ae),t∈bc l)∧ ∀n∈l,∀v∈n.fact.args,v.kind=2->v.sym∈bc l:=pK l (S:=[]) T3;have j:=fU l 0 hf;obtain⟨q4,q5⟩:(∀t∈bc l,t.size<=64)∧(bc l).length<=([]:List ae).length+8*l.length:=kV (G:=fun s=>s.size<=64) l (S:=[]) (by simp) fun n Z=>⟨(j n Z).1,fun v hv hk=>y1 ((j n Z).2 v hv) hk⟩
 have a0:(bc l).length<=524288:=by
  simp only[Ur]at q5;omega
 obtain⟨b,hb⟩: ∃b,b=bL p m kd l++r:=⟨_,rfl⟩
 have h0:At b ⟨0,0⟩ (jq kd m++(lJ (bc l)++(gp p (bc l) l++r))):=⟨rfl,Te _,by
  show b.drop 0=_
  rw[V4,hb,bL,Tb,Tb]⟩
 have hh:(jq kd m).length=9:=rfl;have A:=h0.go;rw[hh]at A;have y:vN b 9 ⟨0,0⟩=⟨9,0⟩:=by
  have:9<=b.length:=A.le;simp[vN,this]
 have Y:At b ⟨0+9,0⟩ (enc (bc l).length++((bc l).flatMap (fun s=>me (pM s))++(gp p (bc l) l++r))):=by
  rw[lJ,Tb]at A;exact A
 have J:=jD (most:=4194304) Y (by omega) (by omega);have C:=Y.go;have u: ∀L:List ae,L.flatMap (fun s=>me (pM s))=(L.map pM).flatMap me:=fun L=>by rw[List.flatMap_map]
 rw[u]at C
 have B:=tP (most:=64) (by omega) ((bc l).map pM) C (fun t ht=>by
  obtain⟨s,hs,rfl⟩:=Uf.1 ht;have:=q4 s hs
  simpa[pM]using this)
 rw[TB]at B;have D:=C.go;have d:((bc l).map pM).map y5=bc l:=by
  rw[UN]
  conv=>rhs;rw[<-List.map_id (bc l)]
  refine Ux fun s _=>?_;cases s;simp[pM,y5]
 have F:ko b=(bc l,⟨0+9+(enc (bc l).length).length+(((bc l).map pM).flatMap me).length,0⟩):=by
  unfold ko;rw[y];simp only[Tp]at J B ⊢;simp only[J,B,d]
 rw[gp,Tb]at D;have e3:=jD (most:=65536) D hl (by omega);have h5:=D.go;have e4:=wK hc q1 (by omega) l 0 (by omega) hf hu q3 h5;rw[<-hb];unfold BX;rw[F];simp only[e3,e4];have x:(bL p m kd l).length=9+((enc (bc l).length).length+(((bc l).map pM).flatMap me).length+((enc l.length).length+(l.flatMap (lQ p (bc l))).length)):=by
  rw[bL,lJ,gp,u];simp only[S1,hh]
 rw[x];congr 2;omega
theorem BC(p:Prog)(m:Nat)(kd:UInt8)(l:List cK)(r:By)(h:kd=1∨kd=2):iX (bL p m kd l++r)=kd.toNat:=by
 have e:bL p m kd l++r=[80,68,71,49]++(kd::([UInt8.ofNat (m/16777216),UInt8.ofNat (m/65536),UInt8.ofNat (m/256),UInt8.ofNat m]++(lJ (bc l)++gp p (bc l) l)++r)):=by
  simp[bL,jq]
 rw[e];have d:([80,68,71,49]++(kd::([UInt8.ofNat (m/16777216),UInt8.ofNat (m/65536),UInt8.ofNat (m/256),UInt8.ofNat m]++(lJ (bc l)++gp p (bc l) l)++r)):By).getD 4 0=kd:=by simp
 unfold iX;rw[d,am ⟨by simp,by simp,h⟩]
theorem uk{p:Prog}(hc:RD p){m:Nat}{kd:UInt8}(u:kd=1∨kd=2){l:List cK}(x:l.length<=65536)(hf:bF p 0 l=is)(hu: ∀n∈l,A1 (kd.toNat==2) n):jM p (bL p m kd l) kd.toNat=dl l:=by
 have d:=BC p m kd l [] u;have j:=Ht hc (m:=m) (kd:=kd) x hf hu [];rw[TC]at d j;unfold jM;rw[am d,j];simp
end Go.Proofs.YtbhphmfbligliaaGreatDoor
namespace Go.Proofs.YtbhphmfbligliaaGreatDoor
open Go Go.Al Go.Proofs.Tryz Go.En
noncomputable abbrev wrT:Code:=HG.2.2.2.2.2.2.2
structure NOk (p:Prog) (x:cK):Prop where
 num: ∀a∈x.fact.args,a.kind=1-> -2147483647<=a.num∧a.num<=2147483647
 cW:0<=x.cW∧x.cW<=1000000000
 up: ∀u∈x.up,0<=u∧u<=1000000000
 plc:0<=cI .str (sT p) x.fact.rel 0∧cI .str (sT p) x.fact.rel 0<=1000000000
 args:x.fact.args.length<=1000000000
 RR:x.up.length<=1000000000
theorem uOf{v:Int}(h:0<=v∧v<=1000000000):PV.iv (.v (.int .u64 (IntKind.u64.wrap v)))=pU v.toNat:=by
 have d:=wrU v.toNat (by omega);have j:((v.toNat:Nat):Int)=v:=by omega
 rw[j]at d;show _=PV.iv (.v (.int .u64 ((v.toNat:Nat):Int)));rw[j,d]
theorem qX(l:By)(v:Int)(h:0<=v∧v<=1000000000)(hb:l.length<=70000000000000):bB prog 65 [.ptr 0 0,.iv (.v (.int .u64 (IntKind.u64.wrap v)))] (wO l) (.aZ []) (wH (l++enc v.toNat)) 3:=by
 rw[uOf h];exact P9 l v.toNat hb
abbrev wrS(p:Prog)(S:List ae)(l:List cK)(b:By):AS:=⟨[(6,.iv (dC l)),(7,.iv (jl p)),(9,.iv (kT S)),(14,.ptr 6 0)],[(6,dl (.cells [.ptr 5 0])),(5,dl (iD 16 b)),(16,dl (nX b))],17⟩
def kH(b:By):PV:=if b.length>4194304 then .aZ [.iv (.v (.slice io 0 0)),pI 2] else .aZ [.iv (bz 1 b bD),pI 0]
theorem Js(p:Prog)(S:List ae)(l:List cK)(b:By)(D:Nat)(hl:l.length<=65536)(hx: ∀x∈l,NOk p x)(hS: ∀s,0<=cI .str (jL S) s 0∧cI .str (jL S) s 0<=1000000000)
  (hT:(b++gp p S l).length<=50000000000000):GO prog ⟨187,o8 D⟩ [.code wrT] (pC mz f30.results.toList (kH (b++gp p S l))) (wrS p S l b):=by
 have t0:b.length+((enc l.length).length+(l.flatMap (lQ p S)).length)<=50000000000000:=by rw[gp,S1,S1]at hT;exact hT
 refine gA I (aE [5,16] (qX b l.length ⟨by omega,by omega⟩ (by omega)) I I I I I (by simp only[Tg,Tx,Tu,TD,bY,cO];rfl) I I ?_);refine gA I ?_;obtain⟨B,hB⟩: ∃B:Nat->By,∀i,B i=b++enc l.length++(l.take i).flatMap (lQ p S):=⟨_,fun _=>rfl⟩
 have e0:b++enc ((l.length:Int)).toNat=B 0:=by rw[hB,Vw,Wg,TC];rfl
 have g0:B l.length=b++gp p S l:=by rw[hB,TV,gp,Tb]
 have b0: ∀i,i<l.length->(B i).length+(lQ p S (l.getD i co)).length<=50000000000000:=fun i hi=>by
  have C:=congrArg Vg (bq (f:=lQ p S) hi);have d:((l.take (i+1)).flatMap (lQ p S)).length<=(l.flatMap (lQ p S)).length:=by
   conv=>rhs;rw[<-T9 (i+1) l,UI,S1]
   omega
  rw[S1]at C;rw[hB,S1,S1];omega
 rw[e0];refine aJ 0 l.length (Te _) (fun i=>⟨[(7,.iv (jl p)),(9,.iv (kT S)),(14,.ptr 6 0),(120,.iv (dC l)),(121,pI l.length),(122,pI i)],[(6,dl (.cells [.ptr 5 0])),(5,dl (iD 18 (B i))),(18,dl (nX (B i)))],19⟩) (fun _=>True) [17] ac
  (wk I I I (bi (bi (bi (bi (bi (bi trivial)))))) ⟨⟨_,rfl,.of_eq I⟩,SY I,rfl,⟨_,rfl,.of_eq I⟩,SY I,rfl,hR I (by first|rfl|exact bR _ _) I trivial⟩ I) fun i hi _=>?_
 refine gA I ?_;refine S3 (fun C=>?_) (fun C=>?_)
 .have C:i<l.length:=by simpa using C
  have y:=hx _ (uY C);have b0:=b0 i C;have w0:=y.args;have x0:=y.RR;have f0:B (i+1)=B i++lQ p S (l.getD i co):=by rw[hB,hB,bq C,Tb,Tb,Tb]
  refine gA I (ck ab [5,18] (qX (B i) (cI .str (sT p) (l.getD i co).fact.rel 0) y.plc (by omega)) I I I I I (by simp only[Tg,Tx,Tu,TD,bY,cO];rfl) I I I I I I (by(repeat' (first|exact ac|exact rfl|exact ak.refl _|exact ak.bk (by assumption)|apply S3))<;>first|omega|(simp only[S7];omega)|(simp;done)|(simp;omega)) I (by(repeat' (first|exact ac|exact rfl|exact ak.refl _|exact ak.bk (by assumption)|apply S3))<;>first|omega|(simp only[S7];omega)|(simp;done)|(simp;omega)) ?_);refine gA I ?_;have c0:lQ p S (l.getD i co)=enc (cI .str (sT p) (l.getD i co).fact.rel 0).toNat++((l.getD i co).fact.args.flatMap (j6 S)++(enc (l.getD i co).cW.toNat++(l.getD i co).up.flatMap sP)):=rfl;have n0:=congrArg Vg c0;rw[S1,S1,S1]at n0;obtain⟨A,Z⟩: ∃A:Nat->By,∀j,A j=B i++enc (cI .str (sT p) (l.getD i co).fact.rel 0).toNat++((l.getD i co).fact.args.take j).flatMap (j6 S):=⟨_,fun _=>rfl⟩
  have d0:B i++enc (cI .str (sT p) (l.getD i co).fact.rel 0).toNat=A 0:=by rw[Z,Vw,Wg,TC]
  have J: ∀j,(A j).length+(enc (l.getD i co).cW.toNat).length+((l.getD i co).up.flatMap sP).length<=50000000000000:=fun j=>by
   have d:(((l.getD i co).fact.args.take j).flatMap (j6 S)).length<=((l.getD i co).fact.args.flatMap (j6 S)).length:=by
    conv=>rhs;rw[<-T9 j (l.getD i co).fact.args,UI,S1]
    omega
   rw[Z,S1,S1];omega
  obtain⟨U,hU⟩: ∃U:Nat->By,∀j,U j=A (l.getD i co).fact.args.length++enc (l.getD i co).cW.toNat++((l.getD i co).up.take j).flatMap sP:=⟨_,fun _=>rfl⟩
  have i0:A (l.getD i co).fact.args.length++enc (l.getD i co).cW.toNat=U 0:=by rw[hU,Vw,Wg,TC]
  have l0:U (l.getD i co).up.length=B (i+1):=by rw[hU,Z,TV,TV,f0,c0];simp only[Tb]
  have k0: ∀j,(U j).length<=50000000000000:=fun j=>by
   have d:(((l.getD i co).up.take j).flatMap sP).length<=((l.getD i co).up.flatMap sP).length:=by
    conv=>rhs;rw[<-T9 j (l.getD i co).up,UI,S1]
    omega
   have u:=J (l.getD i co).fact.args.length;rw[hU,S1,S1];omega
  rw[d0];refine aJ 0 (l.getD i co).fact.args.length (Te _) (fun j=>⟨[(7,.iv (jl p)),(9,.iv (kT S)),(14,.ptr 6 0),(18,.ptr 19 0),(120,.iv (dC l)),(121,pI l.length),(122,pI i),(139,.iv (bz 3 (l.getD i co).fact.args eK.c)),(140,pI (l.getD i co).fact.args.length),(141,pI j)],[(6,dl (.cells [.ptr 5 0])),(5,dl (iD 21 (A j))),(19,dl (aD (l.getD i co).c)),(21,dl (nX (A j)))],22⟩) (fun _=>True) [20] ac
   (wk I I I (bi (bi (bi (bi (bi (bi (bi (bi (bi (bi trivial)))))))))) ⟨⟨_,rfl,.of_eq I⟩,SY I,rfl,⟨_,rfl,.of_eq I⟩,SY I,rfl,⟨_,rfl,.of_eq I⟩,SY I,rfl,hR I (by first|rfl|exact bR _ _) I trivial⟩ I) fun j hj _=>?_
  refine gA I ?_;refine S3 (fun d=>?_) (fun d=>?_)
  .have d:j<(l.getD i co).fact.args.length:=by simpa using d
   have p0:=uY d;have a0:A (j+1)=A j++j6 S ((l.getD i co).fact.args.getD j co):=by rw[Z,Z,bq d];simp only[Tb]
   have q0:=J j;refine gA I ?_;refine S3 (fun u=>?_) (fun u=>?_)
   .have u:((l.getD i co).fact.args.getD j co).kind=1:=of_decide_eq_true u;have F:=y.num _ p0 u;have G:A j++enc (zz ((l.getD i co).fact.args.getD j co).num)=A (j+1):=by rw[a0,j6,am u]
    refine gA I (aE [5,21] (R2 (A j) ((l.getD i co).fact.args.getD j co).num F.1 F.2 (by omega)) I I I I I (by simp only[Tg,Tx,Tu,TD,bY,cO];rfl) I I ?_);rw[G];refine gA I ⟨d,ac,[23],wk I I I (bi (bi (bi (bi (bi (bi (bi (bi (bi (bi ac)))))))))) ⟨⟨_,rfl,.of_eq I⟩,SY I,rfl,⟨_,rfl,.of_eq I⟩,SY I,rfl,⟨_,rfl,.of_eq I⟩,SY I,rfl,hR I (by first|rfl|exact bR _ _) I ac⟩ I⟩
   .have u: ¬((l.getD i co).fact.args.getD j co).kind=1:=of_decide_eq_false u;have F:=hS ((l.getD i co).fact.args.getD j co).sym;have G:A j++enc (cI .str (jL S) ((l.getD i co).fact.args.getD j co).sym 0).toNat=A (j+1):=by rw[a0,j6,be u]
    refine gA I (aG (Qx S ((l.getD i co).fact.args.getD j co).sym) I I I I I I ?_);refine gA I (aE [5,21] (qX (A j) (cI .str (jL S) ((l.getD i co).fact.args.getD j co).sym 0) F (by omega)) I I I I I (by simp only[Tg,Tx,Tu,TD,bY,cO];rfl) I I ?_);rw[G];refine gA I ⟨d,ac,[23],wk I I I (bi (bi (bi (bi (bi (bi (bi (bi (bi (bi ac)))))))))) ⟨⟨_,rfl,.of_eq I⟩,SY I,rfl,⟨_,rfl,.of_eq I⟩,SY I,rfl,⟨_,rfl,.of_eq I⟩,SY I,rfl,hR I (by first|rfl|exact bR _ _) I ac⟩ I⟩
  .have d:(l.getD i co).fact.args.length<=j:=by simpa using d
   have Y:j=(l.getD i co).fact.args.length:=by omega
   subst Y;have s0:=J (l.getD i co).fact.args.length;refine gA I (aE [5,21] (qX (A (l.getD i co).fact.args.length) (l.getD i co).cW y.cW (by omega)) I I I I I (by simp only[Tg,Tx,Tu,TD,bY,cO];rfl) I I ?_);rw[i0];refine gA I ?_;refine aJ 0 (l.getD i co).up.length (Te _) (fun j=>⟨[(7,.iv (jl p)),(9,.iv (kT S)),(14,.ptr 6 0),(120,.iv (dC l)),(121,pI l.length),(122,pI i),(170,.iv (bz 1 (l.getD i co).up eI)),(171,pI (l.getD i co).up.length),(172,pI j)],[(6,dl (.cells [.ptr 5 0])),(5,dl (iD 23 (U j))),(23,dl (nX (U j)))],24⟩) (fun _=>True) [22] ac
    (wk I I I (bi (bi (bi (bi (bi (bi (bi (bi (bi trivial))))))))) ⟨⟨_,rfl,.of_eq I⟩,SY I,rfl,⟨_,rfl,.of_eq I⟩,SY I,rfl,hR I (by first|rfl|exact bR _ _) I trivial⟩ I) fun j hj _=>?_
   refine gA I ?_;refine S3 (fun u=>?_) (fun u=>?_)
   .have u:j<(l.getD i co).up.length:=by simpa using u
    have o0:=y.up _ (uY u);have j0:U j++enc ((l.getD i co).up.getD j co).toNat=U (j+1):=by rw[hU,hU,bq u];simp only[Tb];rfl
    have v0:=k0 j;refine gA I (aE [5,23] (qX (U j) ((l.getD i co).up.getD j co) o0 (by omega)) I I I I I (by simp only[Tg,Tx,Tu,TD,bY,cO];rfl) I I ?_);rw[j0];refine gA I ⟨u,ac,[24],wk I I I (bi (bi (bi (bi (bi (bi (bi (bi (bi ac))))))))) ⟨⟨_,rfl,.of_eq I⟩,SY I,rfl,⟨_,rfl,.of_eq I⟩,SY I,rfl,hR I (by first|rfl|exact bR _ _) I ac⟩ I⟩
   .have u:(l.getD i co).up.length<=j:=by simpa using u
    have Y:j=(l.getD i co).up.length:=by omega
    subst Y;rw[l0];refine gA I ⟨C,ac,[23],wk I I I (bi (bi (bi (bi (bi (bi ac)))))) ⟨⟨_,rfl,.of_eq I⟩,SY I,rfl,⟨_,rfl,.of_eq I⟩,SY I,rfl,hR I (by first|rfl|exact bR _ _) I ac⟩ I⟩
 .have C:l.length<=i:=by simpa using C
  have m0:i=l.length:=by omega
  subst m0;rw[g0];refine gA I (aE [5,18] (P8 (b++gp p S l)) I I I I I (by simp only[Tg,Tx,Tu,TD,bY,cO];rfl) I I ?_);refine gA I ?_;refine S3 (fun d=>?_) (fun d=>?_)
  .have d:(b++gp p S l).length>4194304:=by have:=of_decide_eq_true d;omega
   refine gA I (aR (by first|exact .inr I|exact .inl I) I (.of_eq ?_));rw[kH,am d];rfl
  .have d: ¬(b++gp p S l).length>4194304:=by have:=of_decide_eq_false d;omega
   refine gA I (aE [5,18] (R1 (b++gp p S l) (by omega)) I I I I I (by simp only[Tg,Tx,bY];exact congrArg (fun z=> [_,dl z]) (bY _ _)) I I ?_);rw[kH,be d];refine gA I (iJ (r0:= .aZ [.sl 19 0 (b++gp p S l).length 1,pI 0]) (.inr I) I (fw.gC 19 (b++gp p S l) bD I (bR _ _) (by simp[PV.bg,bf]) (.done (.aZ ⟨.bW I (fun k _=>by rw[Tp]),.refl _,ac⟩))))
theorem oY(xs:By):(TX xs.length).map (fun k=>(bD (xs.getD k co)).map PV.iv)=eG xs:=by
 apply List.ext_getElem
 .simp
 .intro i d u;have j:i<xs.length:=by simpa using d
  simp[V0,S5 j]
theorem Ql(l xs:By)(hb:l.length+xs.length<=100000000000000):bB prog 111 [.ptr 0 0,.iv (bz 1 xs bD)] (wO l) (.aZ []) (wH (l++xs)) 3:=by
 refine an ab func111 I (by decide) ntmps111 I (by simp) ?_;refine ik I ?_ (aC [2] (by first|exact .inr I|exact .inl I) I (wk I I I (bi ac) ⟨⟨_,rfl,.of_eq ?_⟩,SY I,rfl,hR I ?_ I ac⟩ I))
 .refine⟨ac,by simp,ac,?_,by omega,by omega⟩;rw[show(List.map (fun k=>List.map PV.iv ((fun k=>bD (xs.getD k co)) k)) (TX xs.length))=eG xs from oY xs];exact fM (fun _=>rfl) xs
 .rw[<-S1];rfl
 .rw[Tc];exact congrArg _ (oY xs)
theorem Qi(l xs:By)(hb:l.length+xs.length<=80000000000000):bB prog 62 [.ptr 0 0,.iv (bz 1 xs bD)] (wO l) (.aZ []) (wH (l++xs)) 3:=by
 refine an ab func62 I (by decide) ntmps62 I (by simp) ?_;refine gA I ?_;refine S3 (fun zz=>?_) (fun zz=>?_)<;>(try(exact absurd zz (by decide)))
 refine gA I (aE [0,1] (Ql l xs (by omega)) I I I I I (by simp only[Tg,Tx,Tu,TD,bY,cO];rfl) I I ?_);refine gA I (aC [2] (by first|exact .inr I|exact .inl I) I (wk I I I (bi ac) ⟨⟨_,rfl,.of_eq I⟩,SY I,rfl,hR I (by first|rfl|exact bR _ _) I ac⟩ I))
abbrev Ml(j:Nat)(S:List ae):AO:= .cells [.mp 1,.sl j 0 S.length 1]
structure Dt (tid:TypeId) (v:IV) (kd:UInt8) (l:List cK):Prop where
 b3: ∀σ,v.pv.b3 σ=v.pv
 OA: ∃k,BZ prog tid "pedigree/cert.nodes" k∧Al.Pure prog k [v.pv,pI 65536] (.iv (dC l))
 kind:Al.Pure prog 64 [.iv (.oc tid v)] (pY (kd.toNat:Int))
def kj:PV:= .iv (.v (.slice io 0 0))
def dR(p:Prog)(kd:UInt8)(l:List cK):PV:=
 if l.length>65536 then .aZ [kj,pI 2] else if(ch p).1≠0 then .aZ [kj,pI 4] else if bF p 0 l=jp then .aZ [kj,pI 161] else kH (bL p (bu p).toNat kd l)
noncomputable abbrev MN(p:Prog)(l:List cK)(b:By):AS:=⟨[(14,.ptr 6 0),(109,.cJ (.func 113) [] [.ptr 14 0]),(6,.iv (dC l)),(7,.iv (jl p)),(9,.iv (kT (bc l)))],[(6,dl (.cells [.ptr 5 0])),(5,dl (iD 13 b)),(13,dl (nX b)),(14,dl (.cells [.iv (kT (bc l))]))],15⟩
theorem Gi(p:Prog):bu p=((bu p).toNat:Int):=by
 have h:0<=bu p:=Int.emod_nonneg _ (by decide);omega
theorem RX(m:Nat):(IntKind.u8.wrap (((m:Int)).fdiv (2 ^ min (Vf 24) IntKind.u32.bits))=((UInt8.ofNat (m/16777216)).toNat:Int)∧IntKind.u8.wrap (((m:Int)).fdiv (2 ^ min (Vf 16) IntKind.u32.bits))=((UInt8.ofNat (m/65536)).toNat:Int))∧IntKind.u8.wrap (((m:Int)).fdiv (2 ^ min (Vf 8) IntKind.u32.bits))=((UInt8.ofNat (m/256)).toNat:Int):=by
 have d:(2:Int) ^ min (Vf 24) IntKind.u32.bits=16777216:=by decide
 have j:(2:Int) ^ min (Vf 16) IntKind.u32.bits=65536:=by decide
 have u:(2:Int) ^ min (Vf 8) IntKind.u32.bits=256:=by decide
 rw[d,j,u,Uu _ (by decide),Uu _ (by decide),Uu _ (by decide)];exact⟨⟨Br (m/16777216),Br (m/65536)⟩,Br (m/256)⟩
abbrev R6(m:Int):List (List PV):=[[pY (IntKind.u8.wrap (m.fdiv (2 ^ min (Vf 24) IntKind.u32.bits)))],[pY (IntKind.u8.wrap (m.fdiv (2 ^ min (Vf 16) IntKind.u32.bits)))],[pY (IntKind.u8.wrap (m.fdiv (2 ^ min (Vf 8) IntKind.u32.bits)))],[pY (IntKind.u8.wrap m)]]
abbrev mkB(m:Nat):By:=[UInt8.ofNat (m/16777216),UInt8.ofNat (m/65536),UInt8.ofNat (m/256),UInt8.ofNat m]
theorem Gf(p:Prog):R6 (bu p)=eG (mkB (bu p).toNat):=by
 have h:=Gi p;generalize(bu p).toNat=m at*
 rw[h];obtain⟨⟨d,j⟩,u⟩:=RX m;unfold R6;rw[d,j,u,Br];rfl
theorem rJ(p:Prog): ∀(a b:List cK) (k:Nat),bF p k (a++b)=(bF p k a&&bF p (k+a.length) b)
 | [],b,k=>by simp[bF]
 |x::a,b,k=>by
  rw[Tu,bF,bF,rJ p a b (k+1),Bool.and_assoc,Tr,Ua,VL 1]
theorem xf{p:Prog}{l:List cK}{i:Nat}(h:i<l.length):bF p 0 (l.take (i+1))=(bF p 0 (l.take i)&&jX p (l.getD i co) i):=by
 have d:(l.take i).length=i:=by rw[TA];omega
 rw[bb h,rJ,d,Tp,bF,bF,Bool.and_true]
theorem GW{p:Prog}{l:List cK}{i:Nat}(h:i<l.length)(hn:jX p (l.getD i co) i=jp):bF p 0 l=jp:=by
 have d:=rJ p (l.take (i+1)) (l.drop (i+1)) 0;rw[T9,xf h,hn,U9,US]at d;exact d
theorem u1{α β:Type}[Inhabited α]{g:β->α->β}{z:β}{l:List α}{i:Nat}(h:i<l.length):(l.take (i+1)).foldl g z=g ((l.take i).foldl g z) (l.getD i co):=by
 rw[bb h,List.foldl_append];rfl
theorem Cn(hS:dA)(p:Prog)(hf:p.fit)(hs:p.size<=10000000)(ht:p.ts<=800000000){a0:TypeId}{v:IV}{kd:UInt8}{l:List cK}(hT:Dt a0 v kd l)(hN: ∀x∈l,x.fact.args.length<=1000000000∧x.up.length<=1000000000)(Q:AQ)
  (D:l.length<=65536->(ch p).1=0->bF p 0 l=is-> ∀t,(∃L0,Wk t.nx L0 t (MN p l (jq kd (bu p).toNat++enc (bc l).length)))->Q .normal t) (d: ∀t,pC mz f30.results.toList (dR p kd l) .ret t->Q .ret t):
  GO prog ⟨187,[]⟩ ((HG.1++ [HG.2.1]).map .code) Q ⟨kP 0 [ag p.c,.iv (.oc a0 v)],[],0⟩:=by
 obtain⟨k,hm,Z⟩:=hT.OA;unfold dR at d;refine gA I (bw I (Gv I I hm Z I (congrArg (fun z=> [z,pI 65536]) (hT.b3 _)) I) ?_);rintro t rfl;refine gA I ?_;refine S3 (fun g1=>?_) (fun g1=>?_)
 .have g1:l.length>65536:=by have:=of_decide_eq_true g1;omega
  rw[am g1]at d;exact gA I (d _ (aR (.inr I) I (.of_eq I)))
 have g1: ¬l.length>65536:=by have:=of_decide_eq_false g1;omega
 rw[be g1]at d;by_cases J:(ch p).1=0;rotate_left
 .rw[am J]at d;refine gA I (aG (zk hS p hf hs ht J) I I I I I I ?_);refine gA I ?_;refine S3 (fun zz=>?_) (fun zz=>?_)<;>(try(exact absurd zz (by decide)))
  exact gA I (d _ (aR (.inr I) I (.of_eq I)))
 rw[be fun h=>h J]at d;refine gA I (aG (Ct hS p hf hs ht J) I I I I I I ?_);refine gA I ?_;refine S3 (fun zz=>?_) (fun zz=>?_)<;>(try(exact absurd zz (by decide)))
 refine gA I (aE [] (Qs) I I I I I I I I ?_);refine gA I ?_;refine fb 2 1 1 I I ?_;refine aJ 0 l.length (Te _) (fun i=>⟨[(1,.iv (.oc a0 v)),(6,.iv (dC l)),(7,.iv (jl p)),(9,.ptr 2 0),(39,.iv (dC l)),(40,pI l.length),(41,pI i)],[(1,dl (cN (jL (bc (l.take i))))),(2,dl (Ml 4 (bc (l.take i)))),(4,dl (aY 1 (bc (l.take i)) cA))],5⟩) (fun i=>bF p 0 (l.take i)=is) [3] I
  (wk I I I (bi (bi (bi (bi (bi (bi (bi trivial))))))) (OJ I eE I ⟨⟨_,rfl,.of_eq I⟩,SY I,rfl,hR I I I trivial⟩) I) fun i hi hJ=>?_
 refine gA I ?_;refine S3 (fun u=>?_) (fun u=>?_)
 .have u:i<l.length:=by simpa using u
  have j0:(l.take i).length=i:=by rw[TA];omega
  have c0:=hN _ (uY u);have m0:=c0.1;have l0:=xf (p:=p) u;have e0:bc (l.take (i+1))=(l.getD i co).fact.args.foldl iK (bc (l.take i)):=u1 u;have b0:(bc (l.take i)).Nodup:=(pK (l.take i) T3).1;have i0:(bc (l.take i)).length<=8*i:=by
   have:=(kV (G:=fun _=>True) (l.take i) (S:=[]) (by simp) fun n Z=>⟨(fU _ _ hJ n Z).1,fun _ _ _=>trivial⟩).2;rw[j0]at this;simpa using this
  generalize bc (l.take i)=S at*
  refine gA I (aG (Qw p (l.getD i co) i (by omega) hs m0 c0.2) I I I I I I ?_);refine gA I ?_;refine S3 (fun g3=>?_) (fun g3=>?_)
  .have g3:jX p (l.getD i co) i=jp:=by simpa using g3
   rw[am (GW u g3)]at d;exact gA I (d _ (aR (.inr I) I (.of_eq I)))
  have g3:jX p (l.getD i co) i=is:=by simpa using g3
  have F:bF p 0 (l.take (i+1))=is:=by rw[l0,hJ,g3];rfl
  have o0:(l.getD i co).fact.args.length<=8:=(fU _ _ F (l.getD i co) (by rw[bb u];simp)).1;refine gA I ?_;refine aJ 0 (l.getD i co).fact.args.length (Te _) (fun j=>⟨[(1,.iv (.oc a0 v)),(6,.iv (dC l)),(7,.iv (jl p)),(9,.ptr 2 0),(39,.iv (dC l)),(40,pI l.length),(41,pI i),(53,.iv (bz 3 (l.getD i co).fact.args eK.c)),(54,pI (l.getD i co).fact.args.length),(55,pI j)],[(1,dl (cN (jL (((l.getD i co).fact.args.take j).foldl iK S)))),(2,dl (Ml 6 (((l.getD i co).fact.args.take j).foldl iK S))),(6,dl (aY 1 (((l.getD i co).fact.args.take j).foldl iK S) cA))],7⟩) (fun _=>True) [4] ac
   (wk I I I (bi (bi (bi (bi (bi (bi (bi (bi (bi (bi trivial)))))))))) (hM I I I ⟨⟨_,rfl,.of_eq I⟩,SY I,rfl,hR I I I trivial⟩) I) fun j hj _=>?_
  refine gA I ?_;refine S3 (fun B=>?_) (fun B=>?_)
  .have B:j<(l.getD i co).fact.args.length:=by simpa using B
   have Y:((l.getD i co).fact.args.take (j+1)).foldl iK S=iK (((l.getD i co).fact.args.take j).foldl iK S) ((l.getD i co).fact.args.getD j co):=u1 B;have k0:(((l.getD i co).fact.args.take j).foldl iK S).Nodup:=(xI ((l.getD i co).fact.args.take j) b0).1;have n0:(((l.getD i co).fact.args.take j).foldl iK S).length<=8*i+8:=by
    have:=(tT (G:=fun _=>True) ((l.getD i co).fact.args.take j) (S:=S) (fun _ _=>trivial) fun _ _ _=>trivial).2;have C:((l.getD i co).fact.args.take j).length<=j:=by rw[TA];omega
    omega
   generalize((l.getD i co).fact.args.take j).foldl iK S=A at*
   refine gA I ?_;refine S3 (fun C=>?_) (fun C=>?_)
   .have C:((l.getD i co).fact.args.getD j co).kind=2:=of_decide_eq_true C;have e:iK A ((l.getD i co).fact.args.getD j co)=pA A ((l.getD i co).fact.args.getD j co).sym:=am C;refine gA I (aE [2,1,6] (Qb A k0 ((l.getD i co).fact.args.getD j co).sym (by omega)) I I I I I (by show[_,_,_]=[_,_,dl (AO.b3 _ (aY 1 A cA))];rw[bK];rfl) I I ?_);rw[<-e,<-Y];refine gA I ⟨B,ac,[8],wk I I I (bi (bi (bi (bi (bi (bi (bi (bi (bi (bi ac)))))))))) (hM I I I ⟨⟨_,rfl,.of_eq I⟩,SY I,rfl,hR I (by first|rfl|exact pW _ _) I ac⟩) I⟩
   .have C: ¬((l.getD i co).fact.args.getD j co).kind=2:=of_decide_eq_false C;have e:iK A ((l.getD i co).fact.args.getD j co)=A:=be C;refine gA I ?_;rw[Y,e];exact⟨B,ac,[6],wk I I I (bi (bi (bi (bi (bi (bi (bi (bi (bi (bi ac)))))))))) (hM I I I ⟨⟨_,rfl,.of_eq I⟩,SY I,rfl,hR I I I ac⟩) I⟩
  .have B:(l.getD i co).fact.args.length<=j:=by simpa using B
   have g0:j=(l.getD i co).fact.args.length:=by omega
   subst g0;rw[TV,<-e0];refine gA I ⟨u,F,[6],wk I I I (bi (bi (bi (bi (bi (bi (bi ac))))))) (hM I I I ⟨⟨_,rfl,.of_eq I⟩,SY I,rfl,hR I I I ac⟩) I⟩
 .have u:l.length<=i:=by simpa using u
  have f0:i=l.length:=by omega
  subst f0;rw[TV] at*
  have b0:(bc l).Nodup:=(pK l T3).1;have i0:(bc l).length<=8*l.length:=by
   have:=(kV (G:=fun _=>True) l (S:=[]) (by simp) fun n Z=>⟨(fU _ _ hJ n Z).1,fun _ _ _=>trivial⟩).2;simpa using this
  have D:=D (by omega) J hJ;clear d;generalize d0:bc l=S at*
  refine ft 4 (fun k=>cA (S.getD k co)) I (dB I) (by repeat(first|exact ac|refine⟨ac,?_⟩)) ⟨ac,(by simp[AO.iR,bf,PV.bg]),db _ _ _ _ _ _,ac⟩ ?_;refine C8 1 I ?_;refine Kk 2 [wL (jL S),strs S] I (by simp only[PV.ej,qC,Tp];rfl) ?_;refine fa (L:=[]) (t:=⟨[(1,.iv (.oc a0 v)),(6,.iv (dC l)),(7,.iv (jl p)),(9,.iv (kT S))],[],5⟩) (wk I I I (bi (bi (bi (bi ac)))) ac I) ?_;refine gA I (aE [] (Qr) I I I I I I I I ?_);refine gM 3 I (fb 5 0 1 I I ?_);refine fa (L:=[]) (t:=⟨[(1,.iv (.oc a0 v)),(6,.iv (dC l)),(7,.iv (jl p)),(9,.iv (kT S)),(14,.ptr 6 0)],[(6,dl (.cells [.ptr 5 0])),(5,dl (iD 7 [])),(7,dl (nX []))],8⟩) (wk I I I (bi (bi (bi (bi (bi ac))))) ⟨⟨_,rfl,.of_eq I⟩,SY I,rfl,⟨_,rfl,.of_eq I⟩,SY I,rfl,hR I I I ac⟩ I) ?_;refine gA I (bw I (Kw (es:=[[pY 80],[pY 68],[pY 71],[pY 49]]) ab I I I I I (fun k=>bD (([80,68,71,49]:By).getD k co)) I I ?_ I (by decide) I) ?_)
  .intro k e y
   match k,y with
   |0,y=>cases y;rfl
   |1,y=>cases y;rfl
   |2,y=>cases y;rfl
   |3,y=>cases y;rfl
  rintro t rfl;refine gA I (aE [5,7] (bB.le (aa:=[.ptr 0 0,.iv (.bW 1 4 fun k=>(fun k=>bD (([80,68,71,49]:By).getD k co)) (0+k))]) (Qi [] [80,68,71,49] (by decide)) ⟨.refl _,.iv (.bW I (fun k _=>by rw[Tp])),ac⟩) I I I I I (by simp only[Tg,Tx,Tu,TD,bY,cO];rfl) I I ?_);refine gM 1 I (fa [] (t:=⟨[(1,.iv (.oc a0 v)),(6,.iv (dC l)),(7,.iv (jl p)),(9,.iv (kT S)),(14,.ptr 6 0)],[(6,dl (.cells [.ptr 5 0])),(5,dl (iD 9 ([80,68,71,49]:By))),(9,dl (nX ([80,68,71,49]:By)))],10⟩) (wk I I I (bi (bi (bi (bi (bi ac))))) ⟨⟨_,rfl,.of_eq I⟩,SY I,rfl,⟨_,rfl,.of_eq I⟩,SY I,rfl,hR I (bR _ _) I ac⟩ I) ?_);refine gA I (ck ab [] (Pure.BS (hT.kind)) I I I I I I I I I I I I (by(repeat' (first|exact ac|exact rfl|exact ak.refl _|exact ak.bk (by assumption)|apply S3))<;>first|omega|(simp only[S7];omega)|(simp;done)|(simp;omega)) I (by(repeat' (first|exact ac|exact rfl|exact ak.refl _|exact ak.bk (by assumption)|apply S3))<;>first|omega|(simp only[S7];omega)|(simp;done)|(simp;omega)) ?_);refine gA I (ck ab [5,9] (Qz [80,68,71,49] kd (by decide)) I I I I I (by simp only[Tg,Tx,Tu,TD,bY,cO];rfl) I I I I I I (by(repeat' (first|exact ac|exact rfl|exact ak.refl _|exact ak.bk (by assumption)|apply S3))<;>first|omega|(simp only[S7];omega)|(simp;done)|(simp;omega)) I (by(repeat' (first|exact ac|exact rfl|exact ak.refl _|exact ak.bk (by assumption)|apply S3))<;>first|omega|(simp only[S7];omega)|(simp;done)|(simp;omega)) ?_);refine gM 1 I (fa [] (t:=⟨[(1,.iv (.oc a0 v)),(6,.iv (dC l)),(7,.iv (jl p)),(9,.iv (kT S)),(14,.ptr 6 0)],[(6,dl (.cells [.ptr 5 0])),(5,dl (iD 10 ([80,68,71,49]++ [kd]:By))),(10,dl (nX ([80,68,71,49]++ [kd]:By)))],11⟩) (wk I I I (bi (bi (bi (bi (bi ac))))) ⟨⟨_,rfl,.of_eq I⟩,SY I,rfl,⟨_,rfl,.of_eq I⟩,SY I,rfl,hR I (bR _ _) I ac⟩ I) ?_);refine gA I (ck ab [5,10,11] (R0 ([80,68,71,49]++ [kd]:By) (mkB (bu p).toNat) (es:=R6 (bu p)) (Gf p) I (by show 5+4<=_;decide)) I I I I I (by simp only[Tg,Tx,Tu,TD,bY,cO];rfl) I I I I I I (by(repeat' (first|exact ac|exact rfl|exact ak.refl _|exact ak.bk (by assumption)|apply S3))<;>first|omega|(simp only[S7];omega)|(simp;done)|(simp;omega)) I (by(repeat' (first|exact ac|exact rfl|exact ak.refl _|exact ak.bk (by assumption)|apply S3))<;>first|omega|(simp only[S7];omega)|(simp;done)|(simp;omega)) ?_);refine gM 1 I (fa [] (t:=⟨[(1,.iv (.oc a0 v)),(6,.iv (dC l)),(7,.iv (jl p)),(9,.iv (kT S)),(14,.ptr 6 0)],[(6,dl (.cells [.ptr 5 0])),(5,dl (iD 12 (jq kd (bu p).toNat))),(12,dl (nX (jq kd (bu p).toNat)))],13⟩) (wk I I I (bi (bi (bi (bi (bi ac))))) ⟨⟨_,rfl,.of_eq I⟩,SY I,rfl,⟨_,rfl,.of_eq I⟩,SY I,rfl,hR I (bR _ _) I ac⟩ I) ?_);refine gA I (ck ab [] (Pure.BS (Qc S)) I I I I I I I I I I I I (by(repeat' (first|exact ac|exact rfl|exact ak.refl _|exact ak.bk (by assumption)|apply S3))<;>first|omega|(simp only[S7];omega)|(simp;done)|(simp;omega)) I (by(repeat' (first|exact ac|exact rfl|exact ak.refl _|exact ak.bk (by assumption)|apply S3))<;>first|omega|(simp only[S7];omega)|(simp;done)|(simp;omega)) ?_);refine gA I (ck ab [5,12] (qX (jq kd (bu p).toNat) S.length ⟨by omega,by omega⟩ (by show 9<=_;decide)) I I I I I (by simp only[Tg,Tx,Tu,TD,bY,cO];rfl) I I I I I I (by(repeat' (first|exact ac|exact rfl|exact ak.refl _|exact ak.bk (by assumption)|apply S3))<;>first|omega|(simp only[S7];omega)|(simp;done)|(simp;omega)) I (by(repeat' (first|exact ac|exact rfl|exact ak.refl _|exact ak.bk (by assumption)|apply S3))<;>first|omega|(simp only[S7];omega)|(simp;done)|(simp;omega)) ?_);refine gM 1 I (fa [] (t:=⟨[(1,.iv (.oc a0 v)),(6,.iv (dC l)),(7,.iv (jl p)),(9,.iv (kT S)),(14,.ptr 6 0)],[(6,dl (.cells [.ptr 5 0])),(5,dl (iD 13 (jq kd (bu p).toNat++enc S.length))),(13,dl (nX (jq kd (bu p).toNat++enc S.length)))],14⟩) (wk I I I (bi (bi (bi (bi (bi ac))))) ⟨⟨_,rfl,.of_eq I⟩,SY I,rfl,⟨_,rfl,.of_eq I⟩,SY I,rfl,hR I (bR _ _) I ac⟩ I) ?_);refine gA I (aE [] (R3 S) I I I I I I I I ?_);refine gA I (D _ ⟨[],?_⟩);unfold MN;rw[d0];exact wk I I I (bi (bi (bi (bi (bi ac))))) ⟨⟨_,rfl,.of_eq I⟩,SY I,rfl,⟨_,rfl,.of_eq I⟩,SY I,rfl,⟨⟨_,rfl,.of_eq (bY _ _).symm⟩,SY I,cP _,⟨_,rfl,.of_eq I⟩,SY I,rfl,ac⟩⟩ I
theorem CF(p:Prog)(s:ae): ∀n,0<=cI .str (x9 p n) s 0∧cI .str (x9 p n) s 0<=n
 |0=>⟨UL _,UL _⟩
 |n+1=>by
  have d:=CF p s n;rw[x9,eD];split
  .omega
  .omega
theorem Cf(s:ae): ∀r:List ae,0<=cI .str (pJ r) s 0∧cI .str (pJ r) s 0<=r.length
 | []=>⟨UL _,UL _⟩
 |x::r=>by
  have d:=Cf s r;rw[pJ,eD,Tr];split
  .omega
  .omega
theorem KZ{p:Prog}{l:List cK}{r0:PV}(S:List ae)(b:By)(G:AF)(C:EI 17 (sg 17 []) ((14,.ptr 6 0)::(109,.cJ (.func 113) [] [.ptr 14 0])::G) G)(j:List PV)(A:j.length<=187)(hlow:r0.low 0=is)(F:S.length<=1000000)(hs: ∀s∈S,s.size<=1000)(hb:b.length<=1000000)
  (x:GO prog ⟨187,[]⟩ ((HG.1++ [HG.2.1]).map .code) (fun e t=>(e= .normal∧ ∃B,Wk t.nx B t ⟨(14,.ptr 6 0)::(109,.cJ (.func 113) [] [.ptr 14 0])::G,[(6,dl (.cells [.ptr 5 0])),(5,dl (iD 13 b)),(13,dl (nX b)),(14,dl (.cells [.iv (kT S)]))],15⟩)∨(e= .ret∧pC mz f30.results.toList r0 e t)) ⟨kP 0 j,[],0⟩)
  (y: ∀D,GO prog ⟨187,o8 D⟩ [.code wrT] (pC mz f30.results.toList r0) ⟨(14,.ptr 6 0)::G,[(6,dl (.cells [.ptr 5 0])),(5,dl (iD 16 (b++S.flatMap xE))),(16,dl (nX (b++S.flatMap xE)))],17⟩):Al.Pure prog 30 j r0:=by
 refine FX ab func30 (cs:=HG.1) (show _=dl (OF HG) from rfl) (by decide) ntmps30 I A hlow _ x (asv:=fun u=> [MM u,.ptr 14 0]) [(14,.ptr 6 0)] [15,14,6,5,13] (fun d=>?_) (fun u=>QH u S b F hs hb) (fun u=>?_) I I (fun u=>?_) (fun u=>rfl) (fun u=>⟨_,rfl⟩) (fun u D=>?_)
 .by_cases h:d=14
  .subst h;exact .inr I
  .refine .inl ?_;rw[AF.ax,be (by omega)];rfl
 .rfl
 .simp only[Tg,Tx,bY];rfl
 .refine fa (L:=[]) (t:=⟨(14,.ptr 6 0)::G,[(6,dl (.cells [.ptr 5 0])),(5,dl (iD 16 (b++S.flatMap xE))),(16,dl (nX (b++S.flatMap xE)))],17⟩) (wk I I I ⟨.refl _,rfl,C⟩ ⟨⟨_,rfl,.of_eq I⟩,SY I,rfl,⟨_,rfl,.of_eq I⟩,SY I,rfl,hR I (bR _ _) I ac⟩ I) (y D)
theorem Ch{p:Prog}{l:List cK}(x:l.length<=65536)(hf:bF p 0 l=is):(bc l).length<=1000000∧ ∀s∈bc l,s.size<=1000:=by
 have:=kV (G:=fun s=>s.size<=1000) l (S:=[]) (by simp) fun n d=>⟨(fU _ _ hf n d).1,fun v u j=>TQ (y1 ((fU _ _ hf n d).2 v u) j) (by decide)⟩
 exact⟨by have:=this.2;simp at this;show(l.foldl xJ []).length<=_;omega,this.1⟩
theorem xg{p:Prog}: ∀(l:List cK) (a:Nat),bF p a l=is->a+l.length<=65536-> ∀n∈l,∃i,i<=65536∧jX p n i=is
 | [],_,_,_,_,hn=>nomatch hn
 |x::l,a,h,ha,n,hn=>by
  rw[bF,Tz]at h;rw[Tr]at ha;rcases Tt.1 hn with rfl|hn
  .exact⟨a,by omega,h.1⟩
  .exact xg l _ h.2 (by omega) n hn
theorem Ox{p:Prog}(hs:p.size<=10000000){l:List cK}(hl:l.length<=65536)(hf:bF p 0 l=is)(J: ∀x∈l,x.fact.args.length<=1000000000∧x.up.length<=10000000): ∀x∈l,NOk p x:=by
 intro x C;obtain⟨i,hi,y⟩:=xg l 0 hf (by omega) x C;have hv:=(fU l 0 hf x C).2;have a0:p.aw.length+(p.aw.map fun d=>d.types.length).sum+p.rules.length+(p.rules.map aq.size).sum<=10000000:=hs;have b0:(bU p).length=p.rules.length+1:=by simp[bU]
 have A:=CF p x.fact.rel p.aw.length;have B:=J x C;unfold jX at y;simp only[Tz,decide_eq_true_eq]at y;obtain⟨D,h2,h3,h4,F⟩:=y;refine⟨fun a Y Z=>?_,⟨D,by omega⟩,fun u hu=>?_,⟨A.1,Int.le_trans A.2 (by omega)⟩,B.1,by omega⟩
 .have j:=hv a Y;unfold b7 at j;rw[am Z]at j;split at j
  .rename_i G;exact G.2
  .cases j
 .have j:=TI.1 F u hu;unfold kQ at j;simp only[Tz,decide_eq_true_eq]at j;omega
theorem xQ(hS:dA)(p:Prog)(hf:p.fit)(hs:p.size<=10000000)(ht:p.ts<=800000000){a0:TypeId}{v:IV}{kd:UInt8}{l:List cK}(hT:Dt a0 v kd l)(Z: ∀x∈l,x.fact.args.length<=1000000000∧x.up.length<=10000000)
  (G:l.length<=65536->(ch p).1=0->bF p 0 l=is->(bL p (bu p).toNat kd l).length<=50000000000000):Al.Pure prog 30 [ag p.c,.iv (.oc a0 v)] (dR p kd l):=by
 have d:(dR p kd l).low 0=is:=by
  unfold dR kH
  repeat' split
  all_goals rfl
 have B: ∀x∈l,x.fact.args.length<=1000000000∧x.up.length<=1000000000:=fun x hx=>⟨(Z x hx).1,by have:=(Z x hx).2;omega⟩
 by_cases hg:l.length<=65536∧(ch p).1=0∧bF p 0 l=is
 .obtain⟨y,F,A⟩:=hg;have u:=Ch y A;have hW:dR p kd l=kH (bL p (bu p).toNat kd l):=by rw[dR,be (by omega),be (fun h=>h F),be (by rw[A];decide)]
  have he:bL p (bu p).toNat kd l=jq kd (bu p).toNat++enc (bc l).length++(bc l).flatMap xE++gp p (bc l) l:=by rw[bL,lJ];simp only[Tb];rfl
  have G:=G y F A;have j:=Cn hS p hf hs ht hT B (fun e t=>(e= .normal∧ ∃J,Wk t.nx J t (MN p l (jq kd (bu p).toNat++enc (bc l).length)))∨(e= .ret∧pC mz f30.results.toList (dR p kd l) e t)) (fun _ _ _ t h=> .inl ⟨rfl,h⟩) (fun t h=> .inr ⟨rfl,h⟩);have b0:=np 10 (bc l).length;refine KZ (l:=l) (p:=p) (bc l) (jq kd (bu p).toNat++enc (bc l).length) [(6,.iv (dC l)),(7,.iv (jl p)),(9,.iv (kT (bc l)))] (bi (bi (bi ac))) _ (by simp) d u.1 u.2 (by rw[S1];show 9+_<=_;unfold enc;omega) j fun D=>?_;rw[hW,he];rw[he]at G;refine fa (L:=[]) (t:=wrS p (bc l) l (jq kd (bu p).toNat++enc (bc l).length++(bc l).flatMap xE)) (wk I I I (bi (bi (bi (bi ac)))) ⟨⟨_,rfl,.of_eq I⟩,SY I,rfl,⟨_,rfl,.of_eq I⟩,SY I,rfl,hR I I I ac⟩ I) (Js p (bc l) l (jq kd (bu p).toNat++enc (bc l).length++(bc l).flatMap xE) D y (Ox hs y A Z) (fun s=>?_) G);have Y:=Cf s (bc l).reverse;rw[U3]at Y;exact⟨Y.1,Int.le_trans Y.2 (by have:=u.1;omega)⟩
 .have j:=Cn hS p hf hs ht hT B (fun e t=>(e= .normal∧ ∃J,Wk t.nx J t ⟨(14,.ptr 6 0)::(109,.cJ (.func 113) [] [.ptr 14 0])::[(0,.sl 0 5 0 1)],[(6,dl (.cells [.ptr 5 0])),(5,dl (iD 13 [])),(13,dl (nX [])),(14,dl (.cells [.iv (kT [])]))],15⟩)∨(e= .ret∧pC mz f30.results.toList (dR p kd l) e t)) (fun y F A _ _=>absurd ⟨y,F,A⟩ hg) (fun t h=> .inr ⟨rfl,h⟩);refine KZ (l:=l) (p:=p) [] [] [(0,.sl 0 5 0 1)] (bi ac) _ (by simp) d (by simp) (by simp) (by simp) j fun D=>?_;intro M N a w C;have h6:VR M N (· <17) (.sl 0 5 0 1) _:=C.2.1 0;generalize Array.getD _ _ _=z at h6
  cases h6 with
  |sl _ _ _ _ _ _ h0=>omega
theorem E5(t:Tree)(d:t.size<=1000000000):Dt 68 (.agg t.c) 1 (t.pre.take 65537) where
 b3:=fun σ=>rfl
 OA:=⟨366,⟨⟨_,rfl,_,rfl,rfl,rfl⟩,⟨_,rfl,fun e h=>by cases h⟩⟩,Jt t 65536 (by decide) d⟩
 kind:=N4 t.c
theorem Ce(L:List da)(d:L.length<=1000000000)(j: ∀x∈L,x.kids.length<=1000000000):Dt 79 (.agg [bz 4 L da.c]) 2 (cD (L.take 65537)) where
 b3:=fun σ=>rfl
 OA:=⟨367,⟨⟨_,rfl,_,rfl,rfl,rfl⟩,⟨_,rfl,fun e h=>by cases h⟩⟩,Jz L 65536 (by decide) d j⟩
 kind:=N5 _
theorem N7(a b:By):Al.Pure prog 80 [.iv (bz 1 a bD),.iv (bz 1 b bD)] (pB (kw ((⟨a.toArray⟩:ae)=⟨b.toArray⟩))):=by
 refine ai ab func80 I (by decide) ntmps80 I (by simp) I ?_;refine gA I (bw I (dS (j3 ab a I I I I I I I I I (fun j d=>rfl)) I) ?_);rintro t rfl;refine gA I (bw I (dS (j3 ab b I I I I I I I I I (fun j d=>rfl)) I) ?_);rintro t rfl;refine gA I (aR (by first|exact .inr I|exact .inl I) I (.of_eq ?_));rfl
theorem NO{p:Prog}{t:Tree}{r:PV}(hw:Al.Pure prog 30 [ag p.c,.iv (.oc 68 (.agg t.c))] r){a:PV}{e:Int}(hr:r= .aZ [a,pI e])(ha: ∃x,a= .iv x):Al.Pure prog 11 [ag p.c,ag t.c] r:=by
 subst hr;obtain⟨x,rfl⟩:=ha;refine ai ab func11 I (by decide) ntmps11 I (by simp) I ?_;refine gA I (bw I (dS (nO I I (by intro d h;cases h) (cs:=t.c) I) I) ?_);rintro s rfl;refine gA I (aG (hw) I I I I I I ?_);refine gA I (aR (by first|exact .inr I|exact .inl I) I (.of_eq ?_));rfl
theorem Jy{p:Prog}{L:List da}{r:PV}(hw:Al.Pure prog 30 [ag p.c,.iv (.oc 79 (.agg [bz 4 L da.c]))] r){a:PV}{e:Int}(hr:r= .aZ [a,pI e])(ha: ∃x,a= .iv x):Al.Pure prog 17 [ag p.c,.iv (bz 4 L da.c)] r:=by
 subst hr;obtain⟨x,rfl⟩:=ha;refine ai ab func17 I (by decide) ntmps17 I (by simp) I ?_;refine gA I (bw I (dS (nO I I (by intro d h;cases h) (cs:=[bz 4 L da.c]) I) I) ?_);rintro s rfl;refine gA I (aG (hw) I I I I I I ?_);refine gA I (aR (by first|exact .inr I|exact .inl I) I (.of_eq ?_));rfl
theorem Qn{p:Prog}{x:IV}(d: ∀σ,(PV.iv x).b3 σ= .iv x){w b:By}(hw:Al.Pure prog 30 [ag p.c,.iv x] (.aZ [.iv (bz 1 w bD),pI 0])):Al.Pure prog 33 [ag p.c,.iv x,.iv (bz 1 b bD)] (pB (kw ((⟨w.toArray⟩:ae)=⟨b.toArray⟩))):=by
 refine ai ab func33 I (by decide) ntmps33 I (by simp) I ?_;refine gA I (aG (hw) I I I I I I ?_);refine gA I ?_;refine S3 (fun zz=>?_) (fun zz=>?_)<;>(try(exact absurd zz (by decide)))
 refine gA I (aG (N7 w b) I I I I I I ?_);refine gA I (aR (by first|exact .inr I|exact .inl I) I (.of_eq ?_));rfl
theorem Mr{p:Prog}{x:IV}{e:Int}(he:e≠0){a:IV}{b:By}(hw:Al.Pure prog 30 [ag p.c,.iv x] (.aZ [.iv a,pI e])):Al.Pure prog 33 [ag p.c,.iv x,.iv (bz 1 b bD)] (pB jp):=by
 refine ai ab func33 I (by decide) ntmps33 I (by simp) I ?_;refine gA I (aG (hw) I I I I I I ?_);refine gA I ?_;refine S3 (fun zz=>?_) (fun zz=>?_)<;>(try(exact absurd (of_decide_eq_true zz) he))
 refine gA I (aR (by first|exact .inr I|exact .inl I) I (.of_eq ?_));rfl
theorem Fz(b:By)(hb:b.length<=1000000000):Al.Pure prog 15 [.iv (bz 1 b bD)] (pI (iX b)):=by
 refine ai ab func15 I (by decide) ntmps15 I (by simp) I ?_;refine gA I ?_;refine S3 (fun g1=>?_) (fun g1=>?_);rotate_left
 .have g1: ¬4<b.length:=by have:=of_decide_eq_false (g1.trans I);omega
  refine gA I (aR (by first|exact .inr I|exact .inl I) I (.of_eq ?_));rw[iX,be fun h=>g1 h.1];rfl
 have g1:4<b.length:=by have:=of_decide_eq_true g1;omega
 have x:(b.take 4).length=4:=by rw[TA];omega
 refine gA I (bw I (dS (u7 ab I I I I I I (m:=4) I (by omega)) I) ?_);rintro t rfl;refine gA I (bw I (dS (j3 ab (b.take 4) I I I I I I I I x.symm (fun j A=>?_)) I) ?_)
 .rw[x]at A;show bD (b.getD j co)=bD ((b.take 4).getD j 0);congr 1;simp[V0,TE,A];rfl
 rintro t rfl;have G:b.getD 4 co=b.getD 4 0:=rfl;have u:(b.getD 4 0).toNat<256:=(b.getD 4 0).toNat_lt;have B: ∀r,(b.getD 4 0=1∨b.getD 4 0=2)->b.take 4=[80,68,71,49]->r=((b.getD 4 0).toNat:Int)->r=(iX b:Int):=fun r C D F=>by rw[iX,am ⟨g1,D,C⟩];exact F
 have y: ∀k:UInt8,((b.getD 4 0).toNat:Int)=(k.toNat:Int)->b.getD 4 0=k:=fun k h=>UInt8.toNat_inj.1 (W0 h)
 have d:IntKind.i64.wrap ((b.getD 4 0).toNat:Int)=((b.getD 4 0).toNat:Int):=by
  generalize(b.getD 4 0).toNat=n at u;show(if(is&&kw ((n:Int) % 18446744073709551616>=9223372036854775808))=is then(n:Int) % 18446744073709551616-18446744073709551616 else(n:Int) % 18446744073709551616)=(n:Int)
  rw[be (by simp;omega)];omega
 refine gA I ?_;refine S3 (fun g2=>?_) (fun g2=>?_)
 .have g2:b.take 4=[80,68,71,49]:=by
   have h:=congrArg WZ (of_decide_eq_true g2);exact congrArg Array.toList h
  refine gA I ?_;refine S3 (fun g3=>?_) (fun g3=>?_)
  .have g3: ¬b.getD 4 0=1:=fun h=>absurd (of_decide_eq_false g3) (by rw[show b.getD (Vf 4) co=b.getD 4 0 from rfl,h];decide)
   refine gA I ?_;refine S3 (fun g4=>?_) (fun g4=>?_)
   .have g4:b.getD 4 0=2:=y 2 (of_decide_eq_true g4);refine gA I (aR (by first|exact .inr I|exact .inl I) I (.of_eq ?_));exact congrArg pI (B _ (.inr g4) g2 d)
   .have g4: ¬b.getD 4 0=2:=fun h=>absurd (of_decide_eq_false g4) (by rw[show b.getD (Vf 4) co=b.getD 4 0 from rfl,h];decide)
    refine gA I (aR (by first|exact .inr I|exact .inl I) I (.of_eq ?_));rw[iX,be fun h=>h.2.2.elim g3 g4];rfl
  .have g3:b.getD 4 0=1:=y 1 (of_decide_eq_true (g3.trans I));refine gA I (aR (by first|exact .inr I|exact .inl I) I (.of_eq ?_));exact congrArg pI (B _ (.inl g3) g2 d)
 .have g2: ¬b.take 4=[80,68,71,49]:=fun h=>absurd (of_decide_eq_false (g2.trans I)) (by rw[h];decide)
  refine gA I (aR (by first|exact .inr I|exact .inl I) I (.of_eq ?_));rw[iX,be fun h=>g2 h.2.1];rfl
abbrev n9(b:By)(s:RS):AO:= .cells [.iv (bz 1 b bD),pI s.p,pI s.f]
abbrev Cz(b:By)(s:RS):AH:=[(0,dl (n9 b s))]
def fZ(s:RS)(e:Int):RS:=if s.f=0 then⟨s.p,e⟩ else s
theorem pR(b:By)(s:RS)(e:Int):bB prog 116 [.ptr 0 0,pI e] [n9 b s] (.aZ []) (Cz b (fZ s e)) 1:=by
 refine an ab func116 I (by decide) ntmps116 I (by simp) ?_;refine gA I ?_;refine S3 (fun g1=>?_) (fun g1=>?_)
 .have g1:s.f=0:=of_decide_eq_true g1;rw[fZ,am g1];refine gA I (aC [] (by first|exact .inr I|exact .inl I) I (wk I I I (bi ac) ⟨⟨_,rfl,.of_eq I⟩,SY I,rfl,ac⟩ I))
 .have g1: ¬s.f=0:=of_decide_eq_false g1;rw[fZ,be g1];refine gA I (aC [] (by first|exact .inr I|exact .inl I) I (wk I I I (bi ac) ⟨⟨_,rfl,.of_eq I⟩,SY I,rfl,ac⟩ I))
theorem wq(b:By)(s:RS):bB prog 115 [.ptr 0 0] [n9 b s] (pB (kw (s.f=0))) (Cz b s) 1:=by
 refine an ab func115 I (by decide) ntmps115 I (by simp) ?_;refine gA I ?_;refine S3 (fun zz=>?_) (fun zz=>?_)<;>(try(exact absurd zz (by decide)))
 refine gA I (aC [] (by first|exact .inr I|exact .inl I) I (wk I I I (bi ac) ⟨⟨_,rfl,.of_eq I⟩,SY I,rfl,ac⟩ I))
theorem uc(b:By)(s:RS):bB prog 76 [.ptr 0 0] [n9 b s] (pI s.f) (Cz b s) 1:=by
 refine an ab func76 I (by decide) ntmps76 I (by simp) ?_;refine gA I ?_;refine S3 (fun zz=>?_) (fun zz=>?_)<;>(try(exact absurd zz (by decide)))
 refine gA I (aC [] (by first|exact .inr I|exact .inl I) I (wk I I I (bi ac) ⟨⟨_,rfl,.of_eq I⟩,SY I,rfl,ac⟩ I))
def AD(b:By)(s:RS):Int:=if s.f=0∧s.p<b.length then 13 else s.f
theorem Qk(b:By)(s:RS):bB prog 79 [.ptr 0 0] [n9 b s] (pI (AD b s)) (Cz b s) 1:=by
 refine an ab func79 I (by decide) ntmps79 I (by simp) ?_;refine gA I ?_;refine S3 (fun zz=>?_) (fun zz=>?_)<;>(try(exact absurd zz (by decide)))
 refine gA I ?_;refine S3 (fun g1=>?_) (fun g1=>?_)
 .have g1:s.f=0:=of_decide_eq_true g1;refine gA I ?_;refine S3 (fun g2=>?_) (fun g2=>?_)
  .have g2:s.p<b.length:=by have:=of_decide_eq_true g2;omega
   rw[AD,am ⟨g1,g2⟩];refine gA I (aC [] (by first|exact .inr I|exact .inl I) I (wk I I I (bi ac) ⟨⟨_,rfl,.of_eq I⟩,SY I,rfl,ac⟩ I))
  .have g2: ¬s.p<b.length:=by have:=of_decide_eq_false g2;omega
   rw[AD,be fun h=>g2 h.2];refine gA I (aC [] (by first|exact .inr I|exact .inl I) I (wk I I I (bi ac) ⟨⟨_,rfl,.of_eq I⟩,SY I,rfl,ac⟩ I))
 .have g1: ¬s.f=0:=of_decide_eq_false (g1.trans I);rw[AD,be fun h=>g1 h.1];refine gA I (aC [] (by first|exact .inr I|exact .inl I) I (wk I I I (bi ac) ⟨⟨_,rfl,.of_eq I⟩,SY I,rfl,ac⟩ I))
theorem O5: ∀c:Nat,c<256->(BitVec.ofInt IntKind.u8.bits (c:Int)&&&BitVec.ofInt IntKind.u8.bits 127).toNat=c % 128:=by
 intro c h;have d: ∀c:Fin 256,(BitVec.ofInt IntKind.u8.bits ((c.val:Nat):Int)&&&BitVec.ofInt IntKind.u8.bits 127).toNat=c.val % 128:=by decide+kernel
 exact d ⟨c,h⟩
theorem K2(n:Nat)(h:n<18446744073709551616):IntKind.u64.wrap (n:Int)=(n:Int):=by
 have e:IntKind.u64.wrap (n:Int)=(n:Int) % 18446744073709551616:=rfl;rw[e];omega
theorem w8(n:Nat)(h:n<256):IntKind.u8.wrap (n:Int)=(n:Int):=by
 have e:IntKind.u8.wrap (n:Int)=(n:Int) % 256:=rfl;rw[e];omega
theorem Ou(n:Nat)(h:n<18446744073709551616):(BitVec.ofInt 64 (n:Int)).toNat=n:=by
 rw[BitVec.toNat_ofInt];have:((n:Int) % ((2 ^ 64:Nat):Int))=(n:Int):=by
  show(n:Int) % 18446744073709551616=_;omega
 rw[this];rfl
theorem Pf(x c i:Nat)(hi:i<=9)(C:x<128 ^ i)(hc:c<256)(G:i=9->c<=1):
  IntKind.u64.wrap ((BitVec.ofInt IntKind.u64.bits (x:Int)|||BitVec.ofInt IntKind.u64.bits (IntKind.u64.wrap (IntKind.u64.wrap (IntKind.u8.wrap ((BitVec.ofInt IntKind.u8.bits (c:Int)&&&BitVec.ofInt IntKind.u8.bits 127).toNat:Int))*2 ^ min ((7*(i:Int))).toNat IntKind.u64.bits))).toNat:Int)=((x+c % 128*128 ^ i:Nat):Int):=by
 rw[O5 c hc,w8 _ (by omega),K2 (c % 128) (by omega)];have A:(128:Nat) ^ i=2 ^ (7*i):=by rw[show(128:Nat)=2 ^ 7 from rfl,<-Nat.pow_mul]
 have J:min ((7*(i:Int))).toNat IntKind.u64.bits=7*i:=by
  show min _ 64=_;omega
 have j:c % 128*2 ^ (7*i)<18446744073709551616∧x+c % 128*2 ^ (7*i)<18446744073709551616:=by
  rw[A]at C;by_cases h:i=9
  .subst h;have:=G I;have u:c % 128<=1:=by omega
   have D:c % 128*2 ^ (7*9)<=1*2 ^ (7*9):=Tq _ u;have F:(2:Nat) ^ (7*9)=9223372036854775808:=by decide
   omega
  .have u:2 ^ (7*i)<=2 ^ 56:=Nat.pow_le_pow_right (by decide) (by omega);have D:c % 128*2 ^ (7*i)<=127*2 ^ 56:=Nat.mul_le_mul (by omega) u;have F:(2:Nat) ^ 56=72057594037927936:=by decide
   omega
 rw[J];have d:(((c % 128:Nat):Int))*2 ^ (7*i)=((c % 128*2 ^ (7*i):Nat):Int):=by push_cast;rfl
 rw[d,K2 _ j.1];have B:x<2 ^ (7*i):=A▸C;have y:(BitVec.ofInt IntKind.u64.bits (x:Int)|||BitVec.ofInt IntKind.u64.bits ((c % 128*2 ^ (7*i):Nat):Int)).toNat=x+c % 128*2 ^ (7*i):=by
  show(BitVec.ofInt 64 (x:Int)|||BitVec.ofInt 64 ((c % 128*2 ^ (7*i):Nat):Int)).toNat=_;rw[BitVec.toNat_or,Ou x (by omega),Ou _ j.1,Nat.or_comm,Nat.mul_comm,<-Nat.two_pow_add_eq_or_of_lt B,VL]
 rw[y,K2 _ j.2,A]
def jO(b:By)(s:RS):Nat×Nat×RS:=match dec 0 0 (b.drop s.p) with
 | .ok n k=>(n,k,s)
 | .short=>(0,0,fZ s 10)
 | .form=>(0,0,fZ s 11)
structure NxJ (b:By) (s:RS) (i x:Nat):Prop where
 le:i<=9
 eq:dec 0 0 (b.drop s.p)=dec i x (b.drop (s.p+i))
 lt:x<128 ^ i
theorem Fu(b:By)(s:RS)(hb:b.length<=1000000000)(hp:s.p<=1000000000):bB prog 118 [.ptr 0 0] [n9 b s] (.aZ [pU (jO b s).1,pI (jO b s).2.1]) (Cz b (jO b s).2.2) 1:=by
 refine an ab func118 I (by decide) ntmps118 I (by simp) ?_;refine gA I ?_;refine l5 0 10 (by decide) (fun i x=>⟨[(0,.ptr 0 0),(4,pU x),(7,pI i)],[(0,dl (n9 b s))],1⟩) (NxJ b s) 0 [] ⟨by decide,rfl,by decide⟩
  (wk I I I (bi (bi (bi trivial))) ⟨⟨_,rfl,.of_eq I⟩,SY I,rfl,ac⟩ I) fun i x hi D=>?_
 have A:=D.le;refine gA I ?_;refine S3 (fun zz=>?_) (fun zz=>?_)<;>(try(have h9:=of_decide_eq_false zz;omega))
 refine gA I ?_;refine S3 (fun g1=>?_) (fun g1=>?_)
 .have g1:b.length<=s.p+i:=by have:=of_decide_eq_true g1;omega
  have e:jO b s=(0,0,fZ s 10):=by rw[jO,D.eq,Wn g1];cases i<;>rfl
  rw[e];refine gA I (aE [0] (pR b s 10) I I I I I I I I ?_);refine gA I (aC [] (by first|exact .inr I|exact .inl I) I (wk I I I (bi ac) ⟨⟨_,rfl,.of_eq I⟩,SY I,rfl,ac⟩ I))
 have g1:s.p+i<b.length:=by have:=of_decide_eq_false g1;omega
 obtain⟨c,F⟩: ∃c,c=(b.getD (s.p+i) co).toNat:=⟨_,rfl⟩
 have j:c<256:=by rw[F];exact(b.getD (s.p+i) co).toNat_lt
 have d:((s.p:Int)+(i:Int)).toNat=s.p+i:=by omega
 have a0:b.drop (s.p+i)=b.getD (s.p+i) co::b.drop (s.p+i+1):=by
  rw[Vc g1];simp[V0,S5 g1]
 have C:=D.eq;rw[a0,dec,<-F]at C;have y:(i=9∧1<c)∨(0<i∧c=0)->jO b s=(0,0,fZ s 11):=fun h=>by rw[jO,C,am h]
 have J:c<128-> ¬((i=9∧1<c)∨(0<i∧c=0))->jO b s=(x+c % 128*128 ^ i,i+1,s):=fun Z h2=>by rw[jO,C,be h2,am Z]
 have Y: ¬c<128-> ¬((i=9∧1<c)∨(0<i∧c=0))->NxJ b s (i+1) (x+c % 128*128 ^ i):=fun Z h2=>by
  rw[be h2,be Z]at C;refine⟨by omega,C,?_⟩;have h3:=D.lt;have h4:c % 128*128 ^ i<=127*128 ^ i:=Tq _ (by omega);rw[VO];omega
 refine gA I ?_;refine S3 (fun G=>?_) (fun G=>?_)
 .have G:i=9:=by have:=of_decide_eq_true G;omega
  refine gA I ?_;refine S3 (fun a2=>?_) (fun a2=>?_)
  .have a2: ¬c>1:=by have:=of_decide_eq_false a2;rw[d]at this;omega
   refine gA I ?_;refine S3 (fun a3=>?_) (fun a3=>?_)
   .refine gA I ?_;refine S3 (fun a4=>?_) (fun a4=>?_)
    .have a4:c=0:=by have:=of_decide_eq_true a4;rw[d]at this;omega
     have e:jO b s=(0,0,fZ s 11):=y (by omega);rw[e];refine gA I (aE [0] (pR b s 11) I I I I I I I I ?_);refine gA I (aC [] (by first|exact .inr I|exact .inl I) I (wk I I I (bi ac) ⟨⟨_,rfl,.of_eq I⟩,SY I,rfl,ac⟩ I))
    .have a4: ¬c=0:=by have:=of_decide_eq_false a4;rw[d]at this;omega
     have u: ¬((i=9∧1<c)∨(0<i∧c=0)):=by omega
     refine gA I ?_;refine S3 (fun g3=>?_) (fun g3=>?_)
     .have g3:c<128:=by have:=of_decide_eq_true g3;rw[d]at this;omega
      rw[J g3 u];refine gA I (aC [] (by first|exact .inr I|exact .inl I) I (wk I I I ⟨.of_eq (congrArg (fun z=>PV.aZ [PV.iv (.v (.int .u64 z)),pI ((i:Int)+1)]) (by rw[d,<-F];exact Pf x c i A D.lt j (by omega))),rfl,ac⟩ ⟨⟨_,rfl,.of_eq I⟩,SY I,rfl,ac⟩ I))
     .have g3: ¬c<128:=by have:=of_decide_eq_false g3;rw[d]at this;omega
      have B:=Y g3 u;refine gA I ⟨by omega,_,[],B,wk I I I (bi ⟨.of_eq (congrArg (fun z=>PV.iv (.v (.int .u64 z))) (by rw[d,<-F];exact Pf x c i A D.lt j (by omega))),rfl,bi ac⟩) ⟨⟨_,rfl,.of_eq I⟩,SY I,rfl,ac⟩ I⟩
   .exact absurd (of_decide_eq_false (a3.trans I)) (by omega)
  .have a2:c>1:=by have:=of_decide_eq_true (a2.trans I);rw[d]at this;omega
   have e:jO b s=(0,0,fZ s 11):=y (by omega);rw[e];refine gA I (aE [0] (pR b s 11) I I I I I I I I ?_);refine gA I (aC [] (by first|exact .inr I|exact .inl I) I (wk I I I (bi ac) ⟨⟨_,rfl,.of_eq I⟩,SY I,rfl,ac⟩ I))
 .have G: ¬i=9:=by have:=of_decide_eq_false (G.trans I);omega
  refine gA I ?_;refine S3 (fun a3=>?_) (fun a3=>?_)
  .have a3:0<i:=by have:=of_decide_eq_true a3;omega
   refine gA I ?_;refine S3 (fun a4=>?_) (fun a4=>?_)
   .have a4:c=0:=by have:=of_decide_eq_true a4;rw[d]at this;omega
    have e:jO b s=(0,0,fZ s 11):=y (by omega);rw[e];refine gA I (aE [0] (pR b s 11) I I I I I I I I ?_);refine gA I (aC [] (by first|exact .inr I|exact .inl I) I (wk I I I (bi ac) ⟨⟨_,rfl,.of_eq I⟩,SY I,rfl,ac⟩ I))
   .have a4: ¬c=0:=by have:=of_decide_eq_false a4;rw[d]at this;omega
    have u: ¬((i=9∧1<c)∨(0<i∧c=0)):=by omega
    refine gA I ?_;refine S3 (fun g3=>?_) (fun g3=>?_)
    .have g3:c<128:=by have:=of_decide_eq_true g3;rw[d]at this;omega
     rw[J g3 u];refine gA I (aC [] (by first|exact .inr I|exact .inl I) I (wk I I I ⟨.of_eq (congrArg (fun z=>PV.aZ [PV.iv (.v (.int .u64 z)),pI ((i:Int)+1)]) (by rw[d,<-F];exact Pf x c i A D.lt j (by omega))),rfl,ac⟩ ⟨⟨_,rfl,.of_eq I⟩,SY I,rfl,ac⟩ I))
    .have g3: ¬c<128:=by have:=of_decide_eq_false g3;rw[d]at this;omega
     have B:=Y g3 u;refine gA I ⟨by omega,_,[],B,wk I I I (bi ⟨.of_eq (congrArg (fun z=>PV.iv (.v (.int .u64 z))) (by rw[d,<-F];exact Pf x c i A D.lt j (by omega))),rfl,bi ac⟩) ⟨⟨_,rfl,.of_eq I⟩,SY I,rfl,ac⟩ I⟩
  .have a3: ¬0<i:=by have:=of_decide_eq_false (a3.trans I);omega
   have u: ¬((i=9∧1<c)∨(0<i∧c=0)):=by omega
   refine gA I ?_;refine S3 (fun g3=>?_) (fun g3=>?_)
   .have g3:c<128:=by have:=of_decide_eq_true g3;rw[d]at this;omega
    rw[J g3 u];refine gA I (aC [] (by first|exact .inr I|exact .inl I) I (wk I I I ⟨.of_eq (congrArg (fun z=>PV.aZ [PV.iv (.v (.int .u64 z)),pI ((i:Int)+1)]) (by rw[d,<-F];exact Pf x c i A D.lt j (by omega))),rfl,ac⟩ ⟨⟨_,rfl,.of_eq I⟩,SY I,rfl,ac⟩ I))
   .have g3: ¬c<128:=by have:=of_decide_eq_false g3;rw[d]at this;omega
    have B:=Y g3 u;refine gA I ⟨by omega,_,[],B,wk I I I (bi ⟨.of_eq (congrArg (fun z=>PV.iv (.v (.int .u64 z))) (by rw[d,<-F];exact Pf x c i A D.lt j (by omega))),rfl,bi ac⟩) ⟨⟨_,rfl,.of_eq I⟩,SY I,rfl,ac⟩ I⟩
theorem qI: ∀(l:By) (i a n k:Nat),dec i a l= .ok n k->i+1<=k∧k<=i+l.length
 | [],_,_,_,_,h=>by rw[dec]at h;cases h
 |c::r,i,a,n,k,h=>by
  rw[dec]at h;split at h
  .cases h
  .split at h
   .cases h;rw[Tr];omega
   .have:=qI r _ _ _ _ h;rw[Tr];omega
theorem mP(b:By)(s:RS)(hf:s.f=0)(hp:s.p<=b.length):(∃n k,dec 0 0 (b.drop s.p)= .ok n k∧jO b s=(n,k,s)∧1<=k∧s.p+k<=b.length)∨(∃e:Int,(e=10∨e=11)∧jO b s=(0,0,⟨s.p,e⟩)∧(∀n k,dec 0 0 (b.drop s.p)≠ .ok n k)∧(dec 0 0 (b.drop s.p)= .short->e=10)∧(dec 0 0 (b.drop s.p)= .form->e=11)):=by
 unfold jO;cases h:dec 0 0 (b.drop s.p) with
 |ok n k=>
  have:=qI _ _ _ _ _ h;rw[UP]at this;exact .inl ⟨n,k,rfl,rfl,by omega,by omega⟩
 |short=>exact .inr ⟨10,.inl I,(by show(0,0,fZ s 10)=_;rw[fZ,am hf]),(fun _ _ h=>nomatch h),(fun _=>rfl),(fun h=>nomatch h)⟩
 |form=>exact .inr ⟨11,.inr I,(by show(0,0,fZ s 11)=_;rw[fZ,am hf]),(fun _ _ h=>nomatch h),(fun h=>nomatch h),(fun _=>rfl)⟩
theorem qW(b:By)(s:RS)(most:Nat)(hb:b.length<=1000000000)(hp:s.p<=b.length):bB prog 75 [.ptr 0 0,pU most] [n9 b s] (pU (bm b most s).1) (Cz b (bm b most s).2) 1:=by
 have u:=Fu b s hb (by omega);refine an ab func75 I (by decide) ntmps75 I (by simp) ?_;refine gA I (aE [0] (wq b s) I I I I I I I I ?_);refine gA I ?_;refine S3 (fun g1=>?_) (fun g1=>?_)
 .have g1: ¬s.f=0:=by simpa using g1
  rw[bm,be g1];refine gA I (aC [] (by first|exact .inr I|exact .inl I) I (wk I I I (bi ac) ⟨⟨_,rfl,.of_eq I⟩,SY I,rfl,ac⟩ I))
 have g1:s.f=0:=by simpa using g1
 rcases mP b s g1 hp with⟨n,k,hd,y,A,B⟩|⟨e,C,y,hd,d,j⟩
 .rw[y]at u;refine gA I (aE [0] (u) I I I I I I I I ?_);refine gA I ?_;refine S3 (fun zz=>?_) (fun zz=>?_)<;>(try(simp at zz;omega))
  refine gA I ?_;refine S3 (fun g2=>?_) (fun g2=>?_)
  .have g2: ¬n<=most:=by have:=of_decide_eq_true g2;omega
   rw[bm,am g1,hd];simp only[be g2];refine gA I (aE [0] (pR b s 12) I I I I I I I I ?_);rw[show fZ s 12=⟨s.p,12⟩ from am g1];refine gA I ?_;refine S3 (fun zz=>?_) (fun zz=>?_)<;>(try(simp at zz;done))
   refine gA I (aC [] (by first|exact .inr I|exact .inl I) I (wk I I I (bi ac) ⟨⟨_,rfl,.of_eq I⟩,SY I,rfl,ac⟩ I))
  .have g2:n<=most:=by have:=of_decide_eq_false g2;omega
   rw[bm,am g1,hd];simp only[am g2];refine gA I ?_;refine S3 (fun zz=>?_) (fun zz=>?_)<;>(try(exact absurd g1 (by simpa using zz)))
   refine gA I (aC [] (by first|exact .inr I|exact .inl I) I (wk I I I (bi ac) ⟨⟨_,rfl,.of_eq (by simp only[g1];rfl)⟩,SY I,rfl,ac⟩ I))
 .rw[y]at u;refine gA I (aE [0] (u) I I I I I I I I ?_);have hu:bm b most s=(0,⟨s.p,e⟩):=by
   rw[bm,am g1];cases h:dec 0 0 (b.drop s.p) with
   |ok n k=>exact absurd h (hd n k)
   |short=>rw[d h]
   |form=>rw[j h]
  rw[hu];have x:e≠0:=by omega
  refine gA I ?_;refine S3 (fun zz=>?_) (fun zz=>?_)<;>(try(simp at zz;done))
  refine gA I ?_;refine S3 (fun zz=>?_) (fun zz=>?_)<;>(try(simp at zz;exact absurd zz x))
  refine gA I (aC [] (by first|exact .inr I|exact .inl I) I (wk I I I (bi ac) ⟨⟨_,rfl,.of_eq I⟩,SY I,rfl,ac⟩ I))
theorem RW{h:AH}(l:By):zc h 1 (.iv (bz 1 l bD))=dl (eG l):=by
 unfold zc;have e:Tw 1 1=is:=rfl;simp only[e];exact congrArg dl (oY l)
theorem DR(b:By)(hb:b.length<=1000000000):bB prog 73 [.iv (bz 1 b bD)] [] (.ptr 1 0) [(0,dl (nX b)),(1,dl (.cells [.sl 0 0 b.length 1,pI 0,pI 0]))] 2:=by
 refine an ab func73 I (by decide) ntmps73 I (by simp) ?_;refine gA I (bw I (tv (news:=eG b) (eu:=Pc) (sz:=1) ab I I I I I I I (by decide) (by exact RW b) (eT (fM (fun _=>rfl) b)) (by show(eG b).length*1<=_;simp;omega) (by simp;omega) I) ?_);rintro t rfl;have d:(eG b).length=b.length:=TB ..;rw[d];refine gA I (aC [1,2] (by first|exact .inr I|exact .inl I) I (wk I I I (bi ac) (hR I I I ⟨⟨_,rfl,.of_eq I⟩,SY I,rfl,ac⟩) I))
theorem Qy(b:By)(s:RS)(n:Nat)(hb:b.length<=1000000000)(hp:s.p<=b.length)(hn:n<=b.length-s.p):bB prog 117 [.ptr 0 0,pI n] [n9 b s] (.iv (.bW 1 n fun k=>bD (b.getD (s.p+k) co))) (Cz b ⟨s.p+n,s.f⟩) 1:=by
 refine an ab func117 I (by decide) ntmps117 I (by simp) ?_;refine gA I ?_;refine S3 (fun g1=>?_) (fun g1=>?_)
 .exact absurd (of_decide_eq_true g1) (by omega)
 have d:((s.p:Int)+(n:Int)).toNat=s.p+n:=by omega
 have j:((s.p:Int)+(n:Int)-(n:Int)).toNat=s.p:=by omega
 have e:s.p+n-s.p=n:=by omega
 refine gA I (aC [] (by first|exact .inr I|exact .inl I) I (wk I I I ⟨.of_eq (by show PV.iv (.bW 1 (((s.p:Int)+(n:Int)).toNat-((s.p:Int)+(n:Int)-(n:Int)).toNat) fun k=>bD (b.getD (((s.p:Int)+(n:Int)-(n:Int)).toNat+k) co))=_;rw[d,j,e];rfl),rfl,ac⟩ ⟨⟨_,rfl,.of_eq I⟩,SY I,rfl,ac⟩ I))
theorem Qg(b:By)(s:RS)(n:Nat)(hb:b.length<=1000000000)(hp:s.p<=b.length)(hf:s.f=0)(hn:n<=b.length-s.p):bB prog 74 [.ptr 0 0,pI n] [n9 b s] .any (Cz b ⟨s.p+n,s.f⟩) 1:=by
 refine an ab func74 I (by decide) ntmps74 I (by simp) ?_;refine gA I (aE [0] (wq b s) I I I I I I I I ?_);refine gA I ?_;refine S3 (fun zz=>?_) (fun zz=>?_)<;>(try(simp[hf]at zz;done))
 refine gA I ?_;refine S3 (fun zz=>?_) (fun zz=>?_)<;>(try(have d:=of_decide_eq_true zz;omega))
 refine gA I (aE [0] (Qy b s n hb hp hn) I I I I I I I I ?_);refine gA I (bw I (tv (news:=(TX n).map fun k=>(bD (b.getD (s.p+k) co)).map PV.iv) (eu:=Pc) (sz:=1) ab I I I I I I I (by decide) I (eT (fM (fun _=>rfl) _)) (by show((TX n).map _).length*1<=_;simp;omega) (by simp;omega) I) ?_);rintro t rfl;refine gA I (aC [] (by first|exact .inr I|exact .inl I) I (wk I I I ⟨(fun M N U x h=> .any _),rfl,ac⟩ ⟨⟨_,rfl,.of_eq I⟩,SY I,rfl,ac⟩ I))
theorem Qh(b:By)(s:RS)(n:Nat)(hf:s.f≠0):bB prog 74 [.ptr 0 0,pI n] [n9 b s] .any (Cz b s) 1:=by
 refine an ab func74 I (by decide) ntmps74 I (by simp) ?_;refine gA I (aE [0] (wq b s) I I I I I I I I ?_);refine gA I ?_;refine S3 (fun zz=>?_) (fun zz=>?_)<;>(try(simp[hf]at zz;done))
 refine gA I (aC [] (by first|exact .inr I|exact .inl I) I (wk I I I ⟨(fun M N U x h=> .any _),rfl,ac⟩ ⟨⟨_,rfl,.of_eq I⟩,SY I,rfl,ac⟩ I))
theorem Dv(n:Int)(h1: -9223372036854775808<=n)(d:n<9223372036854775808):IntKind.i64.wrap n=n:=by
 show(if(is&&kw (n % 18446744073709551616>=9223372036854775808))=is then n % 18446744073709551616-18446744073709551616 else n % 18446744073709551616)=n;by_cases h:n % 18446744073709551616>=9223372036854775808
 .rw[am (by simpa using h)];omega
 .rw[be (by simpa using h)];omega
theorem RP(n:Int)(h1:9223372036854775808<=n)(d:n<18446744073709551616):IntKind.i64.wrap n=n-18446744073709551616:=by
 show(if(is&&kw (n % 18446744073709551616>=9223372036854775808))=is then n % 18446744073709551616-18446744073709551616 else n % 18446744073709551616)=_;rw[am (by simp;omega)];omega
theorem QU(n:Nat)(h:n<18446744073709551616):IntKind.i64.wrap (IntKind.u64.wrap ((BitVec.ofInt IntKind.u64.bits (n:Int)&&&BitVec.ofInt IntKind.u64.bits 1).toNat:Int))=((n % 2:Nat):Int):=by
 have e:(BitVec.ofInt IntKind.u64.bits (n:Int)&&&BitVec.ofInt IntKind.u64.bits 1).toNat=n % 2:=by
  show(BitVec.ofInt 64 (n:Int)&&&BitVec.ofInt 64 1).toNat=_;rw[BitVec.toNat_and,Ou n h,show(BitVec.ofInt 64 1).toNat=1 from rfl,Nat.and_one_is_mod]
 rw[e,K2 _ (by omega),Dv _ (by omega) (by omega)]
theorem Q6(n:Nat):((n:Int).fdiv (2 ^ min (1:Int).toNat IntKind.u64.bits))=((n/2:Nat):Int):=by
 rw[show(2:Int) ^ min (1:Int).toNat IntKind.u64.bits=2 from by decide,Uu _ (by decide)];omega
theorem RO(n:Nat)(h:n<18446744073709551616):IntKind.i64.wrap ((BitVec.ofInt IntKind.i64.bits (IntKind.i64.wrap ((n:Int).fdiv (2 ^ min (1:Int).toNat IntKind.u64.bits))) ^^^ BitVec.ofInt IntKind.i64.bits (-((n % 2:Nat):Int))).toNat:Int)=yO n:=by
 rw[Q6,Dv ((n/2:Nat):Int) (by omega) (by omega)];show IntKind.i64.wrap ((BitVec.ofInt 64 ((n/2:Nat):Int) ^^^ BitVec.ofInt 64 (-((n % 2:Nat):Int))).toNat:Int)=yO n;unfold yO;by_cases d:n % 2=0
 .rw[am d,d,show(-((0:Nat):Int))=0 from rfl,B2 _ (by omega),Dv _ (by omega) (by omega)]
 .rw[be d,show n % 2=1 by omega,show BitVec.ofInt 64 (-((1:Nat):Int))=BitVec.ofInt 64 18446744073709551615 from by decide,B3 _ (by omega),RP _ (by omega) (by omega)];omega
theorem Qu(b:By)(s:RS)(lo hi:Int)(hb:b.length<=1000000000)(hp:s.p<=b.length):bB prog 119 [.ptr 0 0,pI lo,pI hi] [n9 b s] (pI (kN b lo hi s).1) (Cz b (kN b lo hi s).2) 1:=by
 have y:=Fu b s hb (by omega);refine an ab func119 I (by decide) ntmps119 I (by simp) ?_;refine gA I (aE [0] (wq b s) I I I I I I I I ?_);refine gA I ?_;refine S3 (fun g1=>?_) (fun g1=>?_)
 .have g1: ¬s.f=0:=by simpa using g1
  rw[kN,be g1];refine gA I (aC [] (by first|exact .inr I|exact .inl I) I (wk I I I (bi ac) ⟨⟨_,rfl,.of_eq I⟩,SY I,rfl,ac⟩ I))
 have g1:s.f=0:=by simpa using g1
 rcases mP b s g1 hp with⟨n,k,hd,B,C,D⟩|⟨e,F,B,hd,j,u⟩
 .rw[B]at y;have d:n<18446744073709551616:=(AI hd).1;refine gA I (aE [0] (y) I I I I I I I I ?_);refine gA I (GD 25 (p:=pI ((n % 2:Nat):Int)) (.of_eq (congrArg pI (QU n d))) (go_neg I I I (by omega) (by omega) I ?_));have x:=RO n d;refine gA I ?_;refine S3 (fun zz=>?_) (fun zz=>?_)<;>(try(simp at zz;omega))
  refine gA I ?_;refine S3 (fun g2=>?_) (fun g2=>?_)
  .have g2: ¬yO n<lo:=by have h:=of_decide_eq_false g2;rw[<-x];exact h
   refine gA I ?_;refine S3 (fun g3=>?_) (fun g3=>?_)
   .have g3:yO n>hi:=by have h:=of_decide_eq_true g3;rw[<-x];exact h
    rw[kN,am g1,hd];simp only[be (show¬(lo<=yO n∧yO n<=hi) by omega)];refine gA I (aE [0] (pR b s 12) I I I I I I I I ?_);rw[show fZ s 12=⟨s.p,12⟩ from am g1];refine gA I ?_;refine S3 (fun zz=>?_) (fun zz=>?_)<;>(try(simp at zz;done))
    refine gA I (aC [] (by first|exact .inr I|exact .inl I) I (wk I I I (bi ac) ⟨⟨_,rfl,.of_eq I⟩,SY I,rfl,ac⟩ I))
   .have g3: ¬yO n>hi:=by have h:=of_decide_eq_false g3;rw[<-x];exact h
    rw[kN,am g1,hd];simp only[am (show lo<=yO n∧yO n<=hi by omega)];refine gA I ?_;refine S3 (fun zz=>?_) (fun zz=>?_)<;>(try(exact absurd g1 (by simpa using zz)))
    refine gA I (aC [] (by first|exact .inr I|exact .inl I) I (wk I I I ⟨.of_eq (congrArg pI x),rfl,ac⟩ ⟨⟨_,rfl,.of_eq (by simp only[g1];rfl)⟩,SY I,rfl,ac⟩ I))
  .have g2:yO n<lo:=by have h:=of_decide_eq_true (g2.trans I);rw[<-x];exact h
   rw[kN,am g1,hd];simp only[be (show¬(lo<=yO n∧yO n<=hi) by omega)];refine gA I (aE [0] (pR b s 12) I I I I I I I I ?_);rw[show fZ s 12=⟨s.p,12⟩ from am g1];refine gA I ?_;refine S3 (fun zz=>?_) (fun zz=>?_)<;>(try(simp at zz;done))
   refine gA I (aC [] (by first|exact .inr I|exact .inl I) I (wk I I I (bi ac) ⟨⟨_,rfl,.of_eq I⟩,SY I,rfl,ac⟩ I))
 .rw[B]at y;refine gA I (aE [0] (y) I I I I I I I I ?_);refine gA I (GD 25 (p:=pI ((0 % 2:Nat):Int)) (.of_eq (congrArg pI (QU 0 (by decide)))) (go_neg I I I (by decide) (by decide) I ?_));have hu:kN b lo hi s=(0,⟨s.p,e⟩):=by
   rw[kN,am g1];cases h:dec 0 0 (b.drop s.p) with
   |ok n k=>exact absurd h (hd n k)
   |short=>rw[j h]
   |form=>rw[u h]
  rw[hu];have A:e≠0:=by omega
  refine gA I ?_;refine S3 (fun zz=>?_) (fun zz=>?_)<;>(try(simp at zz;done))
  refine gA I ?_;refine S3 (fun zz=>?_) (fun zz=>?_)<;>(try(simp at zz;exact absurd zz A))
  refine gA I (aC [] (by first|exact .inr I|exact .inl I) I (wk I I I (bi ac) ⟨⟨_,rfl,.of_eq I⟩,SY I,rfl,ac⟩ I))
theorem Mu(b:By)(s:RS)(n:Nat)(hb:b.length<=1000000000)(hp:s.p<=b.length)(hn:b.length-s.p<n):bB prog 117 [.ptr 0 0,pI n] [n9 b s] (.iv (bz 1 ([]:By) bD)) (Cz b (fZ s 10)) 1:=by
 refine an ab func117 I (by decide) ntmps117 I (by simp) ?_;refine gA I ?_;refine S3 (fun g1=>?_) (fun g1=>?_)
 .refine gA I (aE [0] (pR b s 10) I I I I I I I I ?_);refine gA I (aC [] (by first|exact .inr I|exact .inl I) I (wk I I I ⟨.nil _ _,rfl,ac⟩ ⟨⟨_,rfl,.of_eq I⟩,SY I,rfl,ac⟩ I))
 .exact absurd (of_decide_eq_false g1) (by omega)
theorem Qf(b:By)(s:RS)(n:Nat)(hb:b.length<=1000000000)(hp:s.p<=b.length)(hf:s.f=0)(hn:b.length-s.p<n):bB prog 74 [.ptr 0 0,pI n] [n9 b s] .any (Cz b (fZ s 10)) 1:=by
 refine an ab func74 I (by decide) ntmps74 I (by simp) ?_;refine gA I (aE [0] (wq b s) I I I I I I I I ?_);refine gA I ?_;refine S3 (fun zz=>?_) (fun zz=>?_)<;>(try(simp[hf]at zz;done))
 refine gA I ?_;refine S3 (fun zz=>?_) (fun zz=>?_)<;>(try(have d:=of_decide_eq_true zz;omega))
 refine gA I (aE [0] (Mu b s n hb hp hn) I I I I I I I I ?_);refine gA I (bw I (tv (news:=[]) (eu:=Pc) (sz:=1) ab I I I I I I I (by decide) I (by simp) (by decide) (by decide) I) ?_);rintro t rfl;refine gA I (aC [] (by first|exact .inr I|exact .inl I) I (wk I I I ⟨(fun M N U x h=> .any _),rfl,ac⟩ ⟨⟨_,rfl,.of_eq I⟩,SY I,rfl,ac⟩ I))
theorem Qj(b:By)(s:RS)(n:Nat)(hb:b.length<=1000000000)(hp:s.p<=b.length):bB prog 74 [.ptr 0 0,pI n] [n9 b s] .any (Cz b (vN b n s)) 1:=by
 unfold vN;split
 .rename_i d;split
  .rename_i j;have h:=Qg b s n hb hp d j;rw[d]at h;exact h
  .rename_i j;have h:=Qf b s n hb hp d (by omega);rw[fZ,am d]at h;exact h
 .rename_i d;exact Qh b s n d
theorem E8(b:By)(q n k:Nat)(h:k<n):b.getD (q+k) co=((b.drop q).take n).getD k 0:=by
 simp[V0,TE,h,Uc];rfl
theorem NP(b:By)(s:RS)(most:Nat)(hm:most<=1000000000)(hb:b.length<=1000000000)(hp:s.p<=b.length):bB prog 77 [.ptr 0 0,pI most] [n9 b s] (pS (y5 (fz b most s).1)) (Cz b (fz b most s).2) 1:=by
 have A:=Fu b s hb (by omega);refine an ab func77 I (by decide) ntmps77 I (by simp) ?_;refine gA I (aE [0] (wq b s) I I I I I I I I ?_);refine gA I ?_;refine S3 (fun g1=>?_) (fun g1=>?_)
 .have g1: ¬s.f=0:=by simpa using g1
  rw[fz,be g1];refine gA I (aC [] (by first|exact .inr I|exact .inl I) I (wk I I I (bi ac) ⟨⟨_,rfl,.of_eq I⟩,SY I,rfl,ac⟩ I))
 have g1:s.f=0:=by simpa using g1
 rcases mP b s g1 hp with⟨n,k,hd,C,G,J⟩|⟨e,Z,C,hd,d,u⟩
 .rw[C]at A;have x:=K2 most (by omega);refine gA I (aE [0] (A) I I I I I I I I ?_);refine gA I ?_;refine S3 (fun zz=>?_) (fun zz=>?_)<;>(try(simp at zz;omega))
  refine gA I ?_;refine S3 (fun zz=>?_) (fun zz=>?_)<;>(try(simp at zz;omega))
  refine gA I ?_;refine S3 (fun g2=>?_) (fun g2=>?_)
  .have g2:n<=most:=by have h:=of_decide_eq_false g2;rw[x]at h;omega
   refine gA I ?_;refine S3 (fun zz=>?_) (fun zz=>?_)<;>(try(have h:=of_decide_eq_true zz;omega))
   refine gA I ?_;refine S3 (fun zz=>?_) (fun zz=>?_)<;>(try(exact absurd g1 (by simpa using zz)))
   have y:=Dv n (by omega) (by omega);by_cases g3:n<=b.length-(s.p+k)
   .have D:fz b most s=((b.drop (s.p+k)).take n,⟨s.p+k+n,0⟩):=by
     rw[fz,am g1,hd];simp only[am g2,am g3]
    rw[D];refine gA I (aE [0] (bB.le (aa:=[.ptr 0 0,pI (IntKind.i64.wrap (n:Int))]) (Qy b ⟨s.p+k,s.f⟩ n hb (by show s.p+k<=_;omega) g3) ⟨.refl _,.of_eq (congrArg pI y),ac⟩) I I I I I I I I ?_);have Y:n=((b.drop (s.p+k)).take n).length:=by rw[TA,UP];omega
    refine gA I (bw I (dS (j3 ab ((b.drop (s.p+k)).take n) I I I I I I I I Y (fun j F=>?_)) I) ?_)
    .exact congrArg bD (E8 b (s.p+k) n j (by omega))
    rintro t rfl;refine gA I ?_;refine S3 (fun zz=>?_) (fun zz=>?_)<;>(try(exact absurd g1 (by simpa using zz)))
    refine gA I (aC [] (by first|exact .inr I|exact .inl I) I (wk I I I (bi ac) ⟨⟨_,rfl,.of_eq (by simp only[g1];rfl)⟩,SY I,rfl,ac⟩ I))
   .have D:fz b most s=([],⟨s.p,10⟩):=by
     rw[fz,am g1,hd];simp only[am g2,be g3]
    rw[D];refine gA I (aE [0] (bB.le (aa:=[.ptr 0 0,pI (IntKind.i64.wrap (n:Int))]) (Mu b ⟨s.p+k,s.f⟩ n hb (by show s.p+k<=_;omega) (by show b.length-(s.p+k)<_;omega)) ⟨.refl _,.of_eq (congrArg pI y),ac⟩) I I I I I I I I ?_);rw[show fZ ⟨s.p+k,s.f⟩ 10=⟨s.p+k,10⟩ from am g1];refine gA I (bw I (dS (j3 ab ([]:By) I I I I I I I I I (fun j F=>absurd F (by simp))) I) ?_);rintro t rfl;refine gA I ?_;refine S3 (fun zz=>?_) (fun zz=>?_)<;>(try(simp at zz;done))
    refine gA I (aC [] (by first|exact .inr I|exact .inl I) I (wk I I I (bi ac) ⟨⟨_,rfl,.of_eq I⟩,SY I,rfl,ac⟩ I))
  .have g2: ¬n<=most:=by have h:=of_decide_eq_true (g2.trans I);rw[x]at h;omega
   rw[fz,am g1,hd];simp only[be g2];refine gA I (aE [0] (pR b s 12) I I I I I I I I ?_);rw[show fZ s 12=⟨s.p,12⟩ from am g1];refine gA I ?_;refine S3 (fun zz=>?_) (fun zz=>?_)<;>(try(simp at zz;done))
   refine gA I (aC [] (by first|exact .inr I|exact .inl I) I (wk I I I (bi ac) ⟨⟨_,rfl,.of_eq I⟩,SY I,rfl,ac⟩ I))
 .rw[C]at A;refine gA I (aE [0] (A) I I I I I I I I ?_);have hu:fz b most s=([],⟨s.p,e⟩):=by
   rw[fz,am g1];cases h:dec 0 0 (b.drop s.p) with
   |ok n k=>exact absurd h (hd n k)
   |short=>rw[d h]
   |form=>rw[u h]
  rw[hu];have B:e≠0:=by omega
  refine gA I ?_;refine S3 (fun zz=>?_) (fun zz=>?_)<;>(try(simp at zz;done))
  refine gA I ?_;refine S3 (fun zz=>?_) (fun zz=>?_)<;>(try(simp at zz;exact absurd zz B))
  refine gA I (aC [] (by first|exact .inr I|exact .inl I) I (wk I I I (bi ac) ⟨⟨_,rfl,.of_eq I⟩,SY I,rfl,ac⟩ I))
end Go.Proofs.YtbhphmfbligliaaGreatDoor
namespace Go.Proofs.YtbhphmfbligliaaGreatDoor
open Go Go.Al Go.En
section
section
variable {b:By} {s:RS}
theorem ey{most:Nat}(h:s.p<=b.length):(bm b most s).2.p<=b.length:=by
 unfold bm;split
 .cases hd:dec 0 0 (b.drop s.p) with
  |ok n k=>
   have d:=qI _ _ _ _ _ hd;rw[UP]at d;dsimp only;split
   .show s.p+k<=_;omega
   .exact h
  |short=>exact h
  |form=>exact h
 .exact h
theorem fy{most:Nat}:(bm b most s).1<=most:=by
 unfold bm;split
 .cases hd:dec 0 0 (b.drop s.p) with
  |ok n k=>
   dsimp only;split
   .assumption
   .exact Te _
  |short=>exact Te _
  |form=>exact Te _
 .exact Te _
theorem CW{lo hi:Int}(h:s.p<=b.length):(kN b lo hi s).2.p<=b.length:=by
 unfold kN;split
 .cases hd:dec 0 0 (b.drop s.p) with
  |ok n k=>
   have d:=qI _ _ _ _ _ hd;rw[UP]at d;dsimp only;split
   .show s.p+k<=_;omega
   .exact h
  |short=>exact h
  |form=>exact h
 .exact h
theorem yY{most:Nat}(h:s.p<=b.length):(fz b most s).2.p<=b.length:=by
 unfold fz;split
 .cases hd:dec 0 0 (b.drop s.p) with
  |ok n k=>
   have d:=qI _ _ _ _ _ hd;rw[UP]at d;dsimp only;split
   .split
    .rename_i j;show s.p+k+n<=_;omega
    .exact h
   .exact h
  |short=>exact h
  |form=>exact h
 .exact h
theorem CB{n:Nat}(h:s.p<=b.length):(vN b n s).p<=b.length:=by
 unfold vN;split
 .split
  .show s.p+n<=_;omega
  .exact h
 .exact h
end
theorem wg{b:By}{most:Nat}: ∀(n:Nat) {s:RS},s.p<=b.length->(dD b most n s).2.p<=b.length∧(dD b most n s).1.length<=n
 |0,s,h=>⟨h,S9 _⟩
 |n+1,s,h=>by
  rw[dD];split
  .have:=wg (most:=most) n (yY (most:=most) h);exact⟨this.1,by simp only[Tr];omega⟩
  .exact⟨h,Te _⟩
theorem vn{b:By}{S:List ae}: ∀(ks:List Int) {s:RS},s.p<=b.length->(fe b S ks s).2.p<=b.length∧ ∀l,(fe b S ks s).1=dl l->l.length=ks.length
 | [],s,h=>⟨h,fun l d=>by cases d;rfl⟩
 |k::ks,s,h=>by
  rw[fe];split
  .have j:=vn (S:=S) ks (CW (lo:= -2147483647) (hi:=2147483647) h);cases hx:fe b S ks (kN b (-2147483647) 2147483647 s).2 with
   |mk o s2=>
    rw[hx]at j;cases o with
    |none=>exact⟨j.1,fun l d=>nomatch d⟩
    |some l0=>exact⟨j.1,fun l d=>by cases d;rw[Tr,Tr,j.2 l0 I]⟩
  .split
   .have j:=vn (S:=S) ks (ey (most:=4194304) h);cases hx:fe b S ks (bm b 4194304 s).2 with
    |mk o s2=>
     rw[hx]at j;cases o with
     |none=>exact⟨j.1,fun l d=>nomatch d⟩
     |some l0=>exact⟨j.1,fun l d=>by cases d;rw[Tr,Tr,j.2 l0 I]⟩
   .exact⟨ey h,fun l d=>nomatch d⟩
theorem Ca{b:By}: ∀(n:Nat) {s:RS},s.p<=b.length->(jJ b n s).2.p<=b.length∧(jJ b n s).1.length=n∧ ∀u∈(jJ b n s).1,0<=u∧u<=65536
 |0,s,h=>⟨h,rfl,fun u hu=>nomatch hu⟩
 |n+1,s,h=>by
  have d:=Ca n (ey (most:=65536) h);have j:=fy (b:=b) (s:=s) (most:=65536);rw[jJ];refine⟨d.1,by rw[Tr,d.2.1],fun u hu=>?_⟩;rcases Tt.1 hu with rfl|hu
  .omega
  .exact d.2.2 u hu
structure SV (p:Prog) (lines:Bool) (n:cK):Prop where
 args:n.fact.args.length<=(p.aw.map fun d=>d.types.length).sum
 kids:0<=n.kids
 want:n.kids=(bU p).getD n.cW.toNat 0
 up:A1 lines n
 RR: ∀u∈n.up,0<=u∧u<=65536
theorem wa{p:Prog}(i:Nat):0<=(bU p).getD i 0:=by
 unfold bU;cases i with
 |zero=>exact UL _
 |succ i=>
  rw[Um,S4,S6];cases p.rules[i]? with
  |none=>exact UL _
  |some r=>exact Int.natCast_nonneg _
theorem tE{p:Prog}(hs:p.size<=10000000)(i:Nat):((bU p).getD i 0).toNat<=10000000:=by
 unfold bU;cases i with
 |zero=>exact Te _
 |succ i=>
  rw[Um,S4,S6];cases h:p.rules[i]? with
  |none=>exact Te _
  |some r=>
   have x:r∈p.rules:=T7 h;have A:r.size<=(p.rules.map aq.size).sum:=by
    obtain⟨j,u,rfl⟩:=UQ.1 x;have:=kq aq.size p.rules j u;simpa[S4,u]using this
   have B:r.size=r.head.aj.length+Lit.au r.body:=rfl;have C:=Lit.aA r.body;have D:r.body.countP (fun l=>kw (l.kind=1))<=r.body.length:=List.countP_le_length;have y:p.aw.length+(p.aw.map fun d=>d.types.length).sum+p.rules.length+(p.rules.map aq.size).sum<=10000000:=hs;show((r.body.countP (fun l=>kw (l.kind=1)):Nat):Int).toNat<=_;omega
theorem CK{p:Prog}{b:By}{S:List ae}{lines:Bool}{s:RS}(h:s.p<=b.length):(qm p b S lines s).2.p<=b.length∧ ∀n,(qm p b S lines s).1=dl n->SV p lines n:=by
 have D:=ey (most:=64) h;unfold qm;dsimp only;split
 .rename_i J;have B:=vn (S:=S) (p.aw.getD (bm b 64 s).1 co).types D;cases hx:fe b S (p.aw.getD (bm b 64 s).1 co).types (bm b 64 s).2 with
  |mk o s2=>
   rw[hx]at B;cases o with
   |none=>exact⟨B.1,fun n j=>nomatch j⟩
   |some l=>
    have A:=ey (most:=256) B.1;dsimp only at A ⊢;split
    .have hu:=Ca ((bU p).getD (bm b 256 s2).1 0).toNat A;have Y:=wa (p:=p) (bm b 256 s2).1;have y:l.length<=(p.aw.map fun d=>d.types.length).sum:=by
      rw[B.2 l I];exact kq (fun d:Decl=>d.types.length) p.aw _ J.2
     have key: ∀x:List Int×RS,x=(if lines=is then jJ b ((bU p).getD (bm b 256 s2).1 0).toNat (bm b 256 s2).2 else([],(bm b 256 s2).2))->x.2.p<=b.length∧A1 lines ⟨⟨(p.aw.getD (bm b 64 s).1 co).name,l⟩,(bm b 256 s2).1,(bU p).getD (bm b 256 s2).1 0,x.1⟩∧ ∀u∈x.1,0<=u∧u<=65536:=by
      rintro x rfl;cases lines with
      |true=>exact⟨hu.1,hu.2.1,hu.2.2⟩
      |false=>exact⟨A,rfl,fun u hu=>nomatch hu⟩
     obtain⟨C,F,G⟩:=key _ I;generalize(if lines=is then jJ b ((bU p).getD (bm b 256 s2).1 0).toNat (bm b 256 s2).2 else([],(bm b 256 s2).2))=x at C F G ⊢;split
     .exact⟨C,fun n j=>by
       cases j
       exact⟨y,Y,rfl,F,G⟩⟩
     .exact⟨C,fun n j=>nomatch j⟩
    .exact⟨A,fun n j=>nomatch j⟩
 .exact⟨D,fun n j=>nomatch j⟩
theorem Ad{p:Prog}{b:By}{S:List ae}{lines:Bool}: ∀(n:Nat) {s:RS},s.p<=b.length->(fX p b S lines n s).2.p<=b.length∧ ∀l,(fX p b S lines n s).1=dl l->l.length<=n∧ ∀x∈l,SV p lines x
 |0,s,h=>⟨h,fun l d=>by cases d;exact⟨S9 _,fun x j=>nomatch j⟩⟩
 |n+1,s,h=>by
  rw[fX];split
  .have A:=CK (p:=p) (S:=S) (lines:=lines) h;cases j:qm p b S lines s with
   |mk o s1=>
    rw[j]at A;cases o with
    |none=>exact⟨A.1,fun l d=>nomatch d⟩
    |some x=>
     have u:=Ad (p:=p) (S:=S) (lines:=lines) n A.1;dsimp only at u ⊢;cases hy:fX p b S lines n s1 with
     |mk o2 s2=>
      rw[hy]at u;cases o2 with
      |none=>exact⟨u.1,fun l d=>nomatch d⟩
      |some l0=>
       refine⟨u.1,fun l d=>?_⟩;cases d;have:=u.2 l0 I;refine⟨by rw[Tr];omega,fun y hy=>?_⟩;rcases Tt.1 hy with rfl|hy
       .exact A.2 _ I
       .exact this.2 y hy
  .exact⟨h,fun l d=>by cases d;exact⟨Te _,fun x j=>nomatch j⟩⟩
theorem Fa(b:By):(ko b).2.p<=b.length:=by
 unfold ko;exact(wg _ (ey (CB (Te _)))).1
theorem p6{p:Prog}{b:By}{kd:Nat}{l:List cK}(h:jM p b kd=dl l):iX b=kd∧l.length<=65536∧ ∀x∈l,SV p (kd==2) x:=by
 unfold jM at h;split at h
 .rename_i j;have d:=Ad (p:=p) (b:=b) (S:=(ko b).1) (lines:=kd==2) (bm b 65536 (ko b).2).1 (ey (most:=65536) (Fa b));have u:=fy (b:=b) (s:=(ko b).2) (most:=65536);unfold BX at h;dsimp only at h;cases hx:fX p b (ko b).1 (kd==2) (bm b 65536 (ko b).2).1 (bm b 65536 (ko b).2).2 with
  |mk o s2=>
   rw[hx]at h d;cases o with
   |none=>cases h
   |some l0=>
    dsimp only at h;split at h
    .cases h;have:=d.2 l I;exact⟨j,by omega,this.2⟩
    .cases h
 .cases h
mutual
theorem Tree.CD: ∀(t u:Tree) {l r:List cK},t.pre++l=u.pre++r->t=u∧l=r
 | .mk f q ks,.mk f' q' ks',l,r,h=>by
  rw[Tree.pre,Tree.pre,Tu,Tu]at h;injection h with h1 h2
  injection h1 with e1 e2 e3 e4
  obtain⟨d,j⟩:=Tree.um ks ks' (W0 e3) h2;subst e1 e2 d;exact⟨rfl,j⟩
theorem Tree.um: ∀(ks d:List Tree) {l r:List cK},ks.length=d.length->Tree.fE ks++l=Tree.fE d++r->ks=d∧l=r
 | [],[],_,_,_,h=>⟨rfl,h⟩
 | [],_::_,_,_,h,_=>nomatch h
 |_::_,[],_,_,h,_=>nomatch h
 |t::ks,u::d,l,r,hl,h=>by
  rw[Tree.fE,Tree.fE,Tb,Tb]at h;obtain⟨j,y⟩:=Tree.CD t u h;obtain⟨x,A⟩:=Tree.um ks d (by simpa using hl) y;exact⟨by rw[j,x],A⟩
end
noncomputable def ia(l:List cK):Option (Tree×List cK):=
 open Classical in if h: ∃x:Tree×List cK,l=x.1.pre++x.2 then dl h.choose else io
theorem pg{l r:List cK}{t:Tree}(h:l=t.pre++r):ia l=dl (t,r):=by
 have d: ∃x:Tree×List cK,l=x.1.pre++x.2:=⟨(t,r),h⟩
 unfold ia;rw[dif_pos d];obtain⟨j,u⟩:=Tree.CD _ _ (d.choose_spec.symm.trans h);congr 1;exact Prod.ext j u
theorem uQ{l:List cK}(h: ∀t r,l≠Tree.pre t++r):ia l=io:=by
 unfold ia;rw[dif_neg];rintro⟨x,hx⟩;exact h _ _ hx
theorem uR{l r:List cK}{t:Tree}(h:ia l=dl (t,r)):l=t.pre++r:=by
 unfold ia at h;split at h
 .rename_i d;injection h with h
  have:=d.choose_spec;rw[h]at this;exact this
 .cases h
end
abbrev O0(p:Prog)(S:List ae)(ln:Bool):AO:= .cells [.ptr 1 0,.iv (jl p),.iv (strs S),.kb ln]
def R5(o:Option cK)(q:PV):Prop:=match o with
 |some n=>q= .aZ [ag n.c,pB is]
 |none=> ∃n:cK,q= .aZ [ag n.c,pB jp]
def cK.z:cK:=⟨⟨Ta,[]⟩,0,0,[]⟩
theorem nzr:ak (.agg [pS Ta,kj,pI 0,pI 0,kj]) (ag cK.z.c):= .agg ⟨.refl _,.nil _ _,.refl _,.refl _,.nil _ _,ac⟩
theorem Fk{α:Type}[Inhabited α](i sz:Nat)(f:α->List IV):ak (.sl i 0 0 sz) (.iv (bz sz ([]:List α) f)):=fun M N U x h=>by
 cases h with
 |sl _ _ _ _ _ _ h0=>omega
 |lH=>exact .iv _ _ (.fI _ _ _ _)
abbrev HK(p:Prog)(S:List ae)(ln:Bool)(b:By)(s:RS):AH:=[(0,dl (O0 p S ln)),(1,dl (n9 b s))]
def qK(A:List eK):Option (List eK)×RS->Option (List eK)×RS
 |(dl l,s)=>(dl (A++l),s)
 |(io,s)=>(io,s)
theorem u9(A:List eK)(v:eK)(x:Option (List eK)×RS):qK A (qK [v] x)=qK (A++ [v]) x:=by
 obtain⟨o,s⟩:=x;cases o with
 |none=>rfl
 |some l=>simp[qK]
theorem Ex(x:Option (List eK)×RS):qK [] x=x:=by
 obtain⟨o,s⟩:=x;cases o<;>rfl
theorem EF{b:By}{S:List ae}{k:Int}{ks:List Int}{s:RS}(h:k=1):fe b S (k::ks) s=qK [⟨k,(kN b (-2147483647) 2147483647 s).1,Ta⟩] (fe b S ks (kN b (-2147483647) 2147483647 s).2):=by
 rw[fe,am h];cases hx:fe b S ks (kN b (-2147483647) 2147483647 s).2 with
 |mk o s2=>cases o<;>rfl
theorem EE{b:By}{S:List ae}{k:Int}{ks:List Int}{s:RS}(h: ¬k=1)(d:(bm b 4194304 s).1<S.length):fe b S (k::ks) s=qK [⟨k,0,S.getD (bm b 4194304 s).1 co⟩] (fe b S ks (bm b 4194304 s).2):=by
 rw[fe,be h,am d];cases hx:fe b S ks (bm b 4194304 s).2 with
 |mk o s2=>cases o<;>rfl
theorem Hm{b:By}{S:List ae}{k:Int}{ks:List Int}{s:RS}(h: ¬k=1)(d: ¬(bm b 4194304 s).1<S.length):fe b S (k::ks) s=(io,(bm b 4194304 s).2):=by
 rw[fe,be h,be d]
theorem Ku{α:Type}[Inhabited α]{l:List α}{i:Nat}(h:i<l.length):l.drop i=l.getD i co::l.drop (i+1):=by
 rw[Vc h,S4,S5 h];rfl
structure SU (b:By) (S:List ae) (T:List Int) (s1:RS) (i:Nat) (x:List eK×RS):Prop where
 le:x.2.p<=b.length
 len:x.1.length=i
 eq:fe b S T s1=qK x.1 (fe b S (T.drop i) x.2)
structure RI (b:By) (ln:Bool) (K:Nat) (s3:RS) (i:Nat) (x:List Int×RS):Prop where
 le:x.2.p<=b.length
 len:x.1.length=i
 eq:jJ b K s3=(x.1++(jJ b (K-i) x.2).1,(jJ b (K-i) x.2).2)
 off:ln=jp->x=([],s3)
theorem RI.step{b:By}{K:Nat}{u s:RS}{i:Nat}{U:List Int}(h:RI b is K u i (U,s))(hi:i<K):RI b is K u (i+1) (U++ [((bm b 65536 s).1:Int)],(bm b 65536 s).2):=by
 have d:=h.eq;have j:=h.len;dsimp only at d j;refine⟨ey h.le,by simp[j],?_,fun h=>nomatch h⟩;rw[d,show K-i=(K-(i+1))+1 by omega,jJ];simp
set_option maxHeartbeats 1000000 in
theorem Qq(p:Prog)(S:List ae)(ln:Bool)(b:By)(s:RS)(hS:S.length<=1000000000)(hb:b.length<=1000000000)(hp:s.p<=b.length)(hs:p.size<=10000000):Al.Fn Tryz.prog 78 [.ptr 0 0] [O0 p S ln,n9 b s] (fun q h n=>R5 (qm p b S ln s).1 q∧h=HK p S ln b (qm p b S ln s).2∧n=2):=by
 have l1:p.aw.length+(p.aw.map fun d=>d.types.length).sum+p.rules.length+(p.rules.map aq.size).sum<=10000000:=hs;have n1:(bU p).length=p.rules.length+1:=by simp[bU]
 have hU:=qW b s 64 hb hp;have i0:=ey (most:=64) hp;have n0:=fy (b:=b) (s:=s) (most:=64);unfold qm;rcases hx:bm b 64 s with⟨a,s1⟩;rw[hx]at hU i0 n0;dsimp only at hU i0 n0 ⊢;have t0:=uc b s1;refine nh ab Tryz.func78 I (by decide) Tryz.ntmps78 I (by simp) ?_;refine gA I (aE [1] (hU) I I I I I I I I ?_);refine gA I (aE [1] (t0) I I I I I I I I ?_);refine gA I ?_;refine S3 (fun g1=>?_) (fun g1=>?_);rotate_left
 .have g1: ¬s1.f=0:=by simpa using(g1.trans I)
  rw[be fun h=>g1 h.1];refine gA I (kF (r:= .aZ [ag cK.z.c,pB jp]) (h:=HK p S ln b s1) (n:=2) [] (.inr I) I ⟨⟨cK.z,rfl⟩,rfl,rfl⟩ (wk I I I ⟨.aZ ⟨nzr,.refl _,ac⟩,rfl,ac⟩ ⟨⟨_,rfl,.of_eq I⟩,SY I,rfl,⟨_,rfl,.of_eq I⟩,SY I,rfl,ac⟩ I))
 have g1:s1.f=0:=by simpa using g1
 have s0:=K2 p.aw.length (by omega);refine gA I ?_;refine S3 (fun g2=>?_) (fun g2=>?_)
 .have g2: ¬a<p.aw.length:=by have h:=of_decide_eq_true g2;rw[s0]at h;omega
  rw[be fun h=>g2 h.2];refine gA I (kF (r:= .aZ [ag cK.z.c,pB jp]) (h:=HK p S ln b s1) (n:=2) [] (.inr I) I ⟨⟨cK.z,rfl⟩,rfl,rfl⟩ (wk I I I ⟨.aZ ⟨nzr,.refl _,ac⟩,rfl,ac⟩ ⟨⟨_,rfl,.of_eq I⟩,SY I,rfl,⟨_,rfl,.of_eq I⟩,SY I,rfl,ac⟩ I))
 have g2:a<p.aw.length:=by have h:=of_decide_eq_false g2;rw[s0]at h;omega
 rw[am ⟨g1,g2⟩];have f1:=kq (fun d:Decl=>d.types.length) p.aw a g2;refine gA I ?_;refine fa (L:=[]) (t:=⟨[(0,.ptr 0 0),(2,.ptr 2 0),(4,.ptr 3 0),(54,.iv (bz 1 (p.aw.getD a co).types eI)),(55,pI (p.aw.getD a co).types.length),(56,pI 0)],[(0,dl (O0 p S ln)),(1,dl (n9 b s1)),(2,dl (.cells [pS Ta,.iv (.v (.slice io 0 0)),pI 0,pI 0,.iv (.v (.slice io 0 0))])),(3,dl (.cells [pS (p.aw.getD a co).name,.iv (.v (.slice io 0 0)),pI 0,pI 0,.iv (.v (.slice io 0 0))]))],5⟩)
  (wk I I I (bi (bi (bi (bi (bi (bi trivial)))))) ⟨⟨_,rfl,.of_eq I⟩,SY I,rfl,⟨_,rfl,.of_eq I⟩,SY I,rfl,⟨_,rfl,.of_eq I⟩,SY I,rfl,⟨_,rfl,.of_eq I⟩,SY I,rfl,ac⟩ I) ?_
 refine fb 3 1 3 I I ?_;refine fb 3 4 1 I I ?_;refine l5 0 (p.aw.getD a co).types.length (Te _) (fun i x=>⟨[(0,.ptr 0 0),(2,.ptr 2 0),(4,.ptr 3 0),(54,.iv (bz 1 (p.aw.getD a co).types eI)),(55,pI (p.aw.getD a co).types.length),(56,pI i)],[(0,dl (O0 p S ln)),(1,dl (n9 b x.2)),(2,dl (.cells [pS Ta,.iv (.v (.slice io 0 0)),pI 0,pI 0,.iv (.v (.slice io 0 0))])),(3,dl (.cells [pS (p.aw.getD a co).name,.sl 7 0 i 3,pI 0,pI 0,.sl 6 0 0 1])),(6,dl (.row 1 [])),(7,dl (aY 3 x.1 eK.c))],8⟩) (SU b S (p.aw.getD a co).types s1) ([],s1) [5] ⟨i0,rfl,(Ex _).symm⟩
  (wk I I I (bi (bi (bi (bi (bi (bi trivial)))))) ⟨⟨_,rfl,.of_eq I⟩,SY I,rfl,⟨_,rfl,.of_eq I⟩,SY I,rfl,⟨_,rfl,.of_eq I⟩,SY I,rfl,⟨_,rfl,.of_eq I⟩,SY I,rfl,⟨_,rfl,.of_eq I⟩,SY I,(by intro k e he;simp at he),hR I I I trivial⟩ I) fun i x hi hJ=>?_
 obtain⟨A,Z⟩:=x;have C:=hJ.len;have J:=hJ.le;have B:=hJ.eq;dsimp only at C J B;refine gA I ?_;refine S3 (fun h1=>?_) (fun h1=>?_)
 .have h1:i<(p.aw.getD a co).types.length:=by simpa using h1
  rw[Ku h1]at B;obtain⟨kd,d0⟩: ∃kd,kd=(p.aw.getD a co).types.getD i co:=⟨_,rfl⟩
  rw[<-d0]at B;refine gA I ?_;refine S3 (fun k1=>?_) (fun k1=>?_)
  .have k1:kd=1:=d0.trans (of_decide_eq_true k1);rw[EF k1,u9]at B;have hI:=Qu b Z (-2147483647) 2147483647 hb J;have f0:SU b S (p.aw.getD a co).types s1 (i+1) (A++ [⟨kd,(kN b (-2147483647) 2147483647 Z).1,Ta⟩],(kN b (-2147483647) 2147483647 Z).2):=⟨CW J,by simp[C],B⟩
   generalize kN b (-2147483647) 2147483647 Z=y at*
   refine gA I (aE [1] (hI) I I I I I I I I ?_);refine gA I ⟨h1,_,[10],f0,wk I I I (bi (bi (bi (bi (bi (bi ac)))))) ⟨⟨_,rfl,.of_eq I⟩,SY I,rfl,⟨_,rfl,.of_eq I⟩,SY I,rfl,⟨_,rfl,.of_eq I⟩,SY I,rfl,⟨_,rfl,.of_eq I⟩,SY I,rfl,⟨_,rfl,.of_eq I⟩,SY I,(by intro k e he;simp at he),hR I (by rw[Tc,d0];rfl) I ac⟩ I⟩
  have k1: ¬kd=1:=fun h=>of_decide_eq_false k1 (d0.symm.trans h);have l0:=qW b Z 4194304 hb J;have m0:=ey (most:=4194304) J;have a1:=fy (b:=b) (s:=Z) (most:=4194304);have o0:=Hm (b:=b) (S:=S) (ks:=(p.aw.getD a co).types.drop (i+1)) (s:=Z) k1;have p0:=EE (b:=b) (S:=S) (ks:=(p.aw.getD a co).types.drop (i+1)) (s:=Z) k1;generalize bm b 4194304 Z=y at*
  obtain⟨u,su⟩:=y;dsimp only at l0 m0 a1 o0 p0;have r0:=K2 S.length (by omega);refine gA I (aE [1] (l0) I I I I I I I I ?_);refine gA I ?_;refine S3 (fun k2=>?_) (fun k2=>?_)
  .have k2: ¬u<S.length:=by have h:=of_decide_eq_true k2;rw[r0]at h;omega
   rw[o0 k2]at B;rw[B];refine fa (L:=[]) (t:=⟨[(0,.ptr 0 0),(2,.ptr 2 0),(4,.ptr 3 0)],[(0,dl (O0 p S ln)),(1,dl (n9 b su)),(2,dl (.cells [pS Ta,.iv (.v (.slice io 0 0)),pI 0,pI 0,.iv (.v (.slice io 0 0))])),(3,dl (.cells [pS (p.aw.getD a co).name,.sl 7 0 i 3,pI 0,pI 0,.sl 6 0 0 1])),(6,dl (.row 1 [])),(7,dl (aY 3 A eK.c))],9⟩) (wk I I I (bi (bi (bi ac))) ⟨⟨_,rfl,.of_eq I⟩,SY I,rfl,⟨⟨_,rfl,.of_eq I⟩,SY I,rfl,⟨⟨_,rfl,.of_eq I⟩,SY I,rfl,⟨⟨_,rfl,.of_eq I⟩,SY I,rfl,⟨_,rfl,.of_eq I⟩,SY I,(by intro k e he;simp at he),hR I I I ac⟩⟩⟩⟩ I) ?_;refine ft 7 (fun k=>eK.c (A.getD k co)) I (dB I) (by simp[AF.iR,PV.bg]) ⟨(by simp[AO.iR,bf,PV.bg]),(by simp[AO.iR,bf,PV.bg]),(by simp[AO.iR,bf,PV.bg]),(by simp[AO.iR,bf,PV.bg,C]),(by simp[AO.iR]),db _ _ _ _ _ _,ac⟩ ?_;refine gA I (kF (r:= .aZ [ag (⟨⟨(p.aw.getD a co).name,A⟩,0,0,[]⟩:cK).c,pB jp]) (h:=HK p S ln b su) (n:=2) [] (.inr I) I ⟨⟨_,rfl⟩,rfl,rfl⟩ ?_);refine wk I I I ⟨?_,rfl,ac⟩ ⟨⟨_,rfl,.of_eq I⟩,SY I,rfl,⟨_,rfl,.of_eq I⟩,SY I,rfl,ac⟩ I;refine ak.aZ ⟨ak.agg ⟨.refl _,.bW C.symm (fun k _=>by rw[Tp]),.refl _,.refl _,Fk _ _ _,ac⟩,.refl _,ac⟩
  have k2:u<S.length:=by have h:=of_decide_eq_false k2;rw[r0]at h;omega
  rw[p0 k2,u9]at B;have f0:SU b S (p.aw.getD a co).types s1 (i+1) (A++ [⟨kd,0,S.getD u co⟩],su):=⟨m0,by simp[C],B⟩
  refine gA I ⟨h1,_,[10],f0,wk I I I (bi (bi (bi (bi (bi (bi ac)))))) ⟨⟨_,rfl,.of_eq I⟩,SY I,rfl,⟨_,rfl,.of_eq I⟩,SY I,rfl,⟨_,rfl,.of_eq I⟩,SY I,rfl,⟨_,rfl,.of_eq I⟩,SY I,rfl,⟨_,rfl,.of_eq I⟩,SY I,(by intro k e he;simp at he),hR I (by rw[Tc,d0];rfl) I ac⟩ I⟩
 have h1:(p.aw.getD a co).types.length<=i:=by simpa using h1
 have i1:i=(p.aw.getD a co).types.length:=by omega
 rw[Wn h1,fe,qK,TC]at B;rw[B];dsimp only;have g0:=qW b Z 256 hb J;have a0:=ey (most:=256) J;have c0:=fy (b:=b) (s:=Z) (most:=256);rcases hy:bm b 256 Z with⟨F,G⟩;rw[hy]at g0 a0 c0;dsimp only at g0 a0 c0 ⊢;have v0:=uc b G;have k0:=Dv (F:Int) (by omega) (by omega);refine gA I (aE [1] (g0) I I I I I I I I ?_);refine gM 1 I (GD 106 (p:=pI F) (.of_eq (congrArg pI k0)) ?_);refine gA I (ck ab [1] (v0) I I I I I I I I I I I I (by(repeat' (first|exact ac|exact rfl|exact ak.refl _|exact ak.bk (by assumption)|apply S3))<;>first|omega|(simp only[S7];omega)|(simp;done)|(simp;omega)) I (by(repeat' (first|exact ac|exact rfl|exact ak.refl _|exact ak.bk (by assumption)|apply S3))<;>first|omega|(simp only[S7];omega)|(simp;done)|(simp;omega)) ?_);refine gA I ?_;refine S3 (fun g3=>?_) (fun g3=>?_)
 .have g3: ¬G.f=0:=by simpa using g3
  rw[be fun h=>g3 h.1];refine gA I ?_;refine⟨.inr I,_,rfl,?_⟩;refine fw.gC 7 A eK.c I I ?_ (.done ⟨.aZ [ag (⟨⟨(p.aw.getD a co).name,A⟩,F,0,[]⟩:cK).c,pB jp],HK p S ln b G,2,[],⟨⟨_,rfl⟩,rfl,rfl⟩,?_⟩)
  .simp[PV.bg,bf,C]
  refine wk I I I ⟨?_,rfl,ac⟩ ⟨⟨_,rfl,.of_eq I⟩,SY I,rfl,⟨_,rfl,.of_eq I⟩,SY I,rfl,ac⟩ I;refine ak.aZ ⟨ak.agg ⟨.refl _,.bW C.symm (fun k _=>by rw[Tp]),.refl _,.refl _,Fk _ _ _,ac⟩,.refl _,ac⟩
 have g3:G.f=0:=by simpa using g3
 refine gA I ?_;refine S3 (fun g4=>?_) (fun g4=>?_)
 .have g4: ¬F<(bU p).length:=by have h:=of_decide_eq_true g4;omega
  rw[be fun h=>g4 h.2];refine gA I ?_;refine⟨.inr I,_,rfl,?_⟩;refine fw.gC 7 A eK.c I I ?_ (.done ⟨.aZ [ag (⟨⟨(p.aw.getD a co).name,A⟩,F,0,[]⟩:cK).c,pB jp],HK p S ln b G,2,[],⟨⟨_,rfl⟩,rfl,rfl⟩,?_⟩)
  .simp[PV.bg,bf,C]
  refine wk I I I ⟨?_,rfl,ac⟩ ⟨⟨_,rfl,.of_eq I⟩,SY I,rfl,⟨_,rfl,.of_eq I⟩,SY I,rfl,ac⟩ I;refine ak.aZ ⟨ak.agg ⟨.refl _,.bW C.symm (fun k _=>by rw[Tp]),.refl _,.refl _,Fk _ _ _,ac⟩,.refl _,ac⟩
 have g4:F<(bU p).length:=by have h:=of_decide_eq_false g4;omega
 rw[am ⟨g3,g4⟩];obtain⟨K,hK⟩: ∃K,K=(bU p).getD F 0:=⟨_,rfl⟩
 have x0:=wa (p:=p) F;have w0:=tE hs F;have e1:(bU p).getD ((F:Int).toNat) co=(bU p).getD F 0:=rfl;rw[<-hK]at x0 w0 ⊢;refine gA I ?_;refine fa (L:=[]) (t:=⟨[(0,.ptr 0 0),(2,.ptr 2 0),(4,.ptr 3 0),(11,pI 0)],[(0,dl (O0 p S ln)),(1,dl (n9 b G)),(2,dl (.cells [pS Ta,.iv (.v (.slice io 0 0)),pI 0,pI 0,.iv (.v (.slice io 0 0))])),(3,dl (.cells [pS (p.aw.getD a co).name,.sl 7 0 i 3,pI F,pI K,.sl 6 0 0 1])),(6,dl (.row 1 [])),(7,dl (aY 3 A eK.c))],8⟩)
  (wk I I I (bi (bi (bi (bi trivial)))) ⟨⟨_,rfl,.of_eq I⟩,SY I,rfl,⟨⟨_,rfl,.of_eq I⟩,SY I,rfl,⟨⟨_,rfl,.of_eq I⟩,SY I,rfl,⟨⟨_,rfl,.of_eq (by rw[hK];rfl)⟩,SY I,rfl,⟨_,rfl,.of_eq I⟩,SY I,(by intro k e he;simp at he),hR I I I trivial⟩⟩⟩⟩ I) ?_
 refine ft 7 (fun k=>eK.c (A.getD k co)) I (dB I) (by simp[AF.iR,PV.bg]) ⟨(by simp[AO.iR,bf,PV.bg]),(by simp[AO.iR,bf,PV.bg]),(by simp[AO.iR,bf,PV.bg]),(by simp[AO.iR,bf,PV.bg,C]),(by simp[AO.iR]),db _ _ _ _ _ _,ac⟩ ?_;refine l5 0 K.toNat (Te _) (fun j x=>⟨[(0,.ptr 0 0),(2,.ptr 2 0),(4,.ptr 3 0),(11,pI j)],[(0,dl (O0 p S ln)),(1,dl (n9 b x.2)),(2,dl (.cells [pS Ta,.iv (.v (.slice io 0 0)),pI 0,pI 0,.iv (.v (.slice io 0 0))])),(3,dl (.cells [pS (p.aw.getD a co).name,.iv (bz 3 A eK.c),pI F,pI K,.sl 8 0 j 1])),(8,dl (aY 1 x.1 eI))],9⟩) (RI b ln K.toNat G) ([],G) [6] ⟨a0,rfl,by simp,fun _=>rfl⟩
  (wk I I I (bi (bi (bi (bi trivial)))) ⟨⟨_,rfl,.of_eq I⟩,SY I,rfl,⟨⟨_,rfl,.of_eq I⟩,SY I,rfl,⟨⟨_,rfl,.of_eq I⟩,SY I,rfl,⟨⟨_,rfl,.cells ⟨.refl _,.bW C.symm (fun k _=>by rw[Tp]),.refl _,.refl _,.refl _,ac⟩⟩,SY I,rfl,hR I I I trivial⟩⟩⟩⟩ I) fun j x hj b0=>?_
 obtain⟨U,Y⟩:=x;have D:=b0.len;have q0:=b0.le;have j0:=b0.eq;dsimp only at D q0 j0;have e0:=uc b Y;have j1: ∀c,(if ln=is then jJ b K.toNat G else([],G))=c->(if ln=is then jJ b K.toNat G else([],G))=c:=fun c h=>h
 cases ln with
 |false=>
  have hx:(U,Y)=([],G):=b0.off I;rw[show(if jp=is then jJ b K.toNat G else([],G))=(U,Y) from hx.symm];dsimp only;by_cases hf:Y.f=0
  .rw[am hf];refine gA I (ck ab [1] (e0) I I I I I I I I I I I I (by(repeat' (first|exact ac|exact rfl|exact ak.refl _|exact ak.bk (by assumption)|apply S3))<;>first|omega|(simp only[S7];omega)|(simp;done)|(simp;omega)) I (by(repeat' (first|exact ac|exact rfl|exact ak.refl _|exact ak.bk (by assumption)|apply S3))<;>first|omega|(simp only[S7];omega)|(simp;done)|(simp;omega)) ?_);refine gA I ?_;refine⟨.inr I,_,rfl,?_⟩;refine fw.gC 8 U eI I I ?_ (.done ⟨.aZ [ag (⟨⟨(p.aw.getD a co).name,A⟩,F,K,U⟩:cK).c,pB is],HK p S jp b Y,2,[],⟨rfl,rfl,rfl⟩,?_⟩)
   .simp[PV.bg,bf,D];exact ac
   refine wk I I I ⟨?_,rfl,ac⟩ ⟨⟨_,rfl,.of_eq I⟩,SY I,rfl,⟨_,rfl,.of_eq I⟩,SY I,rfl,ac⟩ I;refine ak.aZ ⟨ak.agg ⟨.refl _,.refl _,.refl _,.refl _,.bW D.symm (fun k _=>by rw[Tp]),ac⟩,.of_eq (congrArg pB (decide_eq_true hf)),ac⟩
  .rw[be hf];refine gA I (ck ab [1] (e0) I I I I I I I I I I I I (by(repeat' (first|exact ac|exact rfl|exact ak.refl _|exact ak.bk (by assumption)|apply S3))<;>first|omega|(simp only[S7];omega)|(simp;done)|(simp;omega)) I (by(repeat' (first|exact ac|exact rfl|exact ak.refl _|exact ak.bk (by assumption)|apply S3))<;>first|omega|(simp only[S7];omega)|(simp;done)|(simp;omega)) ?_);refine gA I ?_;refine⟨.inr I,_,rfl,?_⟩;refine fw.gC 8 U eI I I ?_ (.done ⟨.aZ [ag (⟨⟨(p.aw.getD a co).name,A⟩,F,K,U⟩:cK).c,pB jp],HK p S jp b Y,2,[],⟨⟨_,rfl⟩,rfl,rfl⟩,?_⟩)
   .simp[PV.bg,bf,D];exact ac
   refine wk I I I ⟨?_,rfl,ac⟩ ⟨⟨_,rfl,.of_eq I⟩,SY I,rfl,⟨_,rfl,.of_eq I⟩,SY I,rfl,ac⟩ I;refine ak.aZ ⟨ak.agg ⟨.refl _,.refl _,.refl _,.refl _,.bW D.symm (fun k _=>by rw[Tp]),ac⟩,.of_eq (congrArg pB (decide_eq_false hf)),ac⟩
 |true=>
  refine gA I ?_;refine S3 (fun m1=>?_) (fun m1=>?_)
  .have m1:j<K.toNat:=by have h:=of_decide_eq_true m1;omega
   have z0:=qW b Y 65536 hb q0;have b1:=fy (b:=b) (s:=Y) (most:=65536);have d1:=b0.step m1;generalize bm b 65536 Y=y at*
   have hw:=Dv (y.1:Int) (by omega) (by omega);refine gA I (ck ab [1] (z0) I I I I I I I I I I I I (by(repeat' (first|exact ac|exact rfl|exact ak.refl _|exact ak.bk (by assumption)|apply S3))<;>first|omega|(simp only[S7];omega)|(simp;done)|(simp;omega)) I (by(repeat' (first|exact ac|exact rfl|exact ak.refl _|exact ak.bk (by assumption)|apply S3))<;>first|omega|(simp only[S7];omega)|(simp;done)|(simp;omega)) ?_);refine gA I ⟨m1,_,[10],d1,wk I I I (bi (bi (bi (bi ac)))) ⟨⟨_,rfl,.of_eq I⟩,SY I,rfl,⟨⟨_,rfl,.of_eq I⟩,SY I,rfl,⟨⟨_,rfl,.of_eq I⟩,SY I,rfl,⟨⟨_,rfl,.of_eq I⟩,SY I,rfl,hR I (by rw[Tc];exact congrArg (fun z=>_++ [[pI z]]) hw) I ac⟩⟩⟩⟩ I⟩
  .have m1:j=K.toNat:=by have h:=of_decide_eq_false (m1.trans I);omega
   subst m1;rw[Nat.sub_self,jJ,TC]at j0;rw[show(if is=is then jJ b K.toNat G else([],G))=(U,Y) from(am I).trans j0];dsimp only;by_cases hf:Y.f=0
   .rw[am hf];refine gA I (ck ab [1] (e0) I I I I I I I I I I I I (by(repeat' (first|exact ac|exact rfl|exact ak.refl _|exact ak.bk (by assumption)|apply S3))<;>first|omega|(simp only[S7];omega)|(simp;done)|(simp;omega)) I (by(repeat' (first|exact ac|exact rfl|exact ak.refl _|exact ak.bk (by assumption)|apply S3))<;>first|omega|(simp only[S7];omega)|(simp;done)|(simp;omega)) ?_);refine gA I ?_;refine⟨.inr I,_,rfl,?_⟩;refine fw.gC 8 U eI I I ?_ (.done ⟨.aZ [ag (⟨⟨(p.aw.getD a co).name,A⟩,F,K,U⟩:cK).c,pB is],HK p S is b Y,2,[],⟨rfl,rfl,rfl⟩,?_⟩)
    .simp[PV.bg,bf,D];exact ac
    refine wk I I I ⟨?_,rfl,ac⟩ ⟨⟨_,rfl,.of_eq I⟩,SY I,rfl,⟨_,rfl,.of_eq I⟩,SY I,rfl,ac⟩ I;refine ak.aZ ⟨ak.agg ⟨.refl _,.refl _,.refl _,.refl _,.bW D.symm (fun k _=>by rw[Tp]),ac⟩,.of_eq (congrArg pB (decide_eq_true hf)),ac⟩
   .rw[be hf];refine gA I (ck ab [1] (e0) I I I I I I I I I I I I (by(repeat' (first|exact ac|exact rfl|exact ak.refl _|exact ak.bk (by assumption)|apply S3))<;>first|omega|(simp only[S7];omega)|(simp;done)|(simp;omega)) I (by(repeat' (first|exact ac|exact rfl|exact ak.refl _|exact ak.bk (by assumption)|apply S3))<;>first|omega|(simp only[S7];omega)|(simp;done)|(simp;omega)) ?_);refine gA I ?_;refine⟨.inr I,_,rfl,?_⟩;refine fw.gC 8 U eI I I ?_ (.done ⟨.aZ [ag (⟨⟨(p.aw.getD a co).name,A⟩,F,K,U⟩:cK).c,pB jp],HK p S is b Y,2,[],⟨⟨_,rfl⟩,rfl,rfl⟩,?_⟩)
    .simp[PV.bg,bf,D];exact ac
    refine wk I I I ⟨?_,rfl,ac⟩ ⟨⟨_,rfl,.of_eq I⟩,SY I,rfl,⟨_,rfl,.of_eq I⟩,SY I,rfl,ac⟩ I;refine ak.aZ ⟨ak.agg ⟨.refl _,.refl _,.refl _,.refl _,.bW D.symm (fun k _=>by rw[Tp]),ac⟩,.of_eq (congrArg pB (decide_eq_false hf)),ac⟩
section
def wA(p:Prog)(b:By)(kd:Nat):PV:=
 if 4194304<b.length then .aZ [kj,pI 2] else if(ch p).1≠0 then .aZ [kj,pI 4] else match jM p b kd with
  |some l=> .aZ [.iv (dC l),pI 0]
  |none=> .aZ [kj,pI 160]
structure KV (b:By) (N:Nat) (s0:RS) (x:List ae×RS×Nat):Prop where
 le:x.2.1.p<=b.length
 len:x.1.length+x.2.2<=N
 eq:((dD b 64 N s0).1.map y5,(dD b 64 N s0).2)=(x.1++(dD b 64 x.2.2 x.2.1).1.map y5,(dD b 64 x.2.2 x.2.1).2)
theorem KV.stop{b:By}{N:Nat}{s0 s:RS}{S:List ae}{n:Nat}(h:KV b N s0 (S,s,n))(hn:n=0∨s.f≠0):((dD b 64 N s0).1.map y5,(dD b 64 N s0).2)=(S,s):=by
 have e:dD b 64 n s=([],s):=by
  cases n with
  |zero=>rfl
  |succ n=>rw[dD,be (by omega)]
 have:=h.eq;dsimp only at this;rw[this,e];simp
theorem KV.step{b:By}{N:Nat}{s0 s:RS}{S:List ae}{n:Nat}(h:KV b N s0 (S,s,n+1))(hf:s.f=0):KV b N s0 (S++ [y5 (fz b 64 s).1],(fz b 64 s).2,n):=by
 have e:dD b 64 (n+1) s=((fz b 64 s).1::(dD b 64 n (fz b 64 s).2).1,(dD b 64 n (fz b 64 s).2).2):=by rw[dD,am hf]
 have d:=h.eq;have j:=h.len;dsimp only at d j;refine⟨yY h.le,by simp only[S1,TU];omega,?_⟩;rw[d,e];simp
def Dk(L:List cK):Option (List cK)×RS->Option (List cK)×RS
 |(dl l,s)=>(dl (L++l),s)
 |(io,s)=>(io,s)
structure HB (p:Prog) (b:By) (S:List ae) (ln:Bool) (N:Nat) (s0:RS) (x:List cK×RS×Nat):Prop where
 le:x.2.1.p<=b.length
 len:x.1.length+x.2.2<=N
 eq:fX p b S ln N s0=Dk x.1 (fX p b S ln x.2.2 x.2.1)
section
variable {p:Prog} {b:By} {S:List ae} {ln:Bool} {N:Nat} {s0 s:RS} {L:List cK} {n:Nat}
theorem HB.stop(h:HB p b S ln N s0 (L,s,n))(hn:n=0∨s.f≠0):fX p b S ln N s0=(dl L,s):=by
 have e:fX p b S ln n s=(dl [],s):=by
  cases n with
  |zero=>rfl
  |succ n=>rw[fX,be (by omega)]
 have:=h.eq;dsimp only at this;rw[this,e,Dk,TC]
theorem HB.step(h:HB p b S ln N s0 (L,s,n+1))(hf:s.f=0){x:cK}{s1:RS}(u:qm p b S ln s=(dl x,s1)):HB p b S ln N s0 (L++ [x],s1,n):=by
 have d:=h.eq;have y:=h.len;dsimp only at d y;have j:=(CK (p:=p) (S:=S) (lines:=ln) h.le).1;rw[show qm p b S ln (L,s,n+1).2.1=(dl x,s1) from u]at j;refine⟨j,by simp only[S1,TU];omega,?_⟩;rw[d,fX,am hf,u];dsimp only;cases hy:fX p b S ln n s1 with
 |mk o s2=>cases o<;>simp[Dk]
theorem HB.none(h:HB p b S ln N s0 (L,s,n+1))(hf:s.f=0){s1:RS}(j:qm p b S ln s=(io,s1)):fX p b S ln N s0=(io,s1):=by
 have d:=h.eq;dsimp only at d;rw[d,fX,am hf,j];rfl
end
theorem xi(b:By)(s:RS):AD b s=0↔s.f=0∧b.length<=s.p:=by
 unfold AD;by_cases h:s.f=0∧s.p<b.length
 .rw[am h];exact⟨fun h=>absurd h (by decide),fun d=>by omega⟩
 .rw[be h];exact⟨fun d=>⟨d,by omega⟩,fun d=>d.1⟩
abbrev Rq(p:Prog)(S:List ae)(ln:Bool):AO:= .cells [.ptr 2 0,.iv (jl p),.iv (strs S),.kb ln]
theorem P4(m:Nat)(h:m<18446744073709551616):IntKind.u64.wrap (((m+1:Nat):Int)-1)=(m:Int):=by
 rw[show(((m+1:Nat):Int)-1)=(m:Int) by omega];exact K2 m h
theorem DV(p:Prog)(b:By)(kd:Nat):(wA p b kd).low 0=is:=by
 unfold wA
 repeat' split
 all_goals rfl
theorem KV.start{b:By}{N:Nat}{s0:RS}(h:s0.p<=b.length):KV b N s0 ([],s0,N):=⟨h,by simp,by simp⟩
theorem HB.start{p:Prog}{b:By}{S:List ae}{ln:Bool}{N:Nat}{s0:RS}(h:s0.p<=b.length):HB p b S ln N s0 ([],s0,N):=⟨h,by simp,by
 show _=Dk [] (fX p b S ln N s0);cases hy:fX p b S ln N s0 with
 |mk o s2=>cases o<;>rfl⟩
set_option maxHeartbeats 1000000 in
theorem Fs(hS:dA)(p:Prog)(hf:p.fit)(hs:p.size<=10000000)(ht:p.ts<=800000000)(b:By)(kd:Nat)(hb:b.length<=1000000000)(hk:kd=1∨kd=2):Al.Pure Tryz.prog 31 [ag p.c,.iv (bz 1 b bD),pI kd] (wA p b kd):=by
 refine ai ab Tryz.func31 I (by decide) Tryz.ntmps31 I (by simp) (DV p b kd) ?_;unfold wA;refine gA I ?_;refine S3 (fun g1=>?_) (fun g1=>?_)
 .have g1:4194304<b.length:=by have:=of_decide_eq_true g1;omega
  rw[am g1];refine gA I (aR (by first|exact .inr I|exact .inl I) I (.of_eq ?_));rfl
 have g1: ¬4194304<b.length:=by have:=of_decide_eq_false g1;omega
 rw[be g1];by_cases hc:(ch p).1=0;rotate_left
 .rw[am hc];refine gA I (aG (zk hS p hf hs ht hc) I I I I I I ?_);refine gA I ?_;refine S3 (fun zz=>?_) (fun zz=>?_)<;>(try(exact absurd zz (by decide)))
  refine gA I (aR (by first|exact .inr I|exact .inl I) I (.of_eq ?_));rfl
 rw[be (fun h=>h hc)];refine gA I (aG (Ct hS p hf hs ht hc) I I I I I I ?_);refine gA I ?_;refine S3 (fun zz=>?_) (fun zz=>?_)<;>(try(exact absurd zz (by decide)))
 refine gA I (aG (Fz b hb) I I I I I I ?_);refine gA I ?_;refine S3 (fun g2=>?_) (fun g2=>?_)
 .have g2: ¬iX b=kd:=fun h=>by rw[h]at g2;simp at g2
  have e:jM p b kd=io:=by rw[jM,be g2]
  rw[e];refine gA I (aR (by first|exact .inr I|exact .inl I) I (.of_eq ?_));rfl
 have g2:iX b=kd:=by
  have h:(!kw ((iX b:Int)=(kd:Int)))=jp:=g2;simp only[Va,decide_eq_true_eq]at h;omega
 obtain⟨ln,f0⟩: ∃ln,ln=(kd==2):=⟨_,rfl⟩
 have k0:kw ((kd:Int)=2)=ln:=by rw[f0];rcases hk with rfl|rfl<;>rfl
 have p0:jM p b kd=match BX p b ln with
   |(dl l,s)=>if s.f=0∧b.length<=s.p then dl l else io
   |(io,_)=>io:=by rw[jM,am g2,f0];rfl
 rw[p0];refine gA I (aE [] (DR b hb) I I I I I I I I ?_);refine gM 7 I (fa [] (t:=⟨[(10,.ptr 3 0)],[(1,dl (nX b)),(2,dl (.cells [.sl 1 0 b.length 1,pI 0,pI 0])),(3,dl (.cells [.ptr 2 0,.iv (jl p),.iv (.v (.slice io 0 0)),.kb ln]))],4⟩) (wk I I I (bi ac) (hR I (bR _ _) I ⟨⟨_,rfl,.of_eq I⟩,SY I,rfl,⟨_,rfl,.cells ⟨.refl _,.refl _,.refl _,.bk k0,ac⟩⟩,SY I,rfl,ac⟩) I) ?_);refine ft 1 (fun k=>bD (b.getD k co)) I (dB I) (by simp[AF.iR,PV.bg]) ⟨db _ _ _ _ _ _,(by simp[AO.iR,bf,PV.bg]),(by simp[AO.iR,bf,PV.bg]),ac⟩ ?_;refine fa (L:=[]) (t:=⟨[(10,.ptr 3 0)],[(2,dl (n9 b ⟨0,0⟩)),(3,dl (.cells [.ptr 2 0,.iv (jl p),.iv (.v (.slice io 0 0)),.kb ln]))],4⟩) (wk I I I (bi ac) ⟨⟨_,rfl,.cells ⟨.bW I (fun k _=>by rw[Tp]),.refl _,.refl _,ac⟩⟩,SY I,rfl,⟨_,rfl,.of_eq I⟩,SY I,rfl,ac⟩ I) ?_;have d0:=CB (n:=9) (s:=⟨0,0⟩) (b:=b) (Te _);have j0:=Qj b ⟨0,0⟩ 9 hb (Te _);have Z:=qW b (vN b 9 ⟨0,0⟩) 4194304 hb d0;have B:=ey (most:=4194304) d0;have F:=fy (b:=b) (s:=vN b 9 ⟨0,0⟩) (most:=4194304);rcases hx1:bm b 4194304 (vN b 9 ⟨0,0⟩) with⟨n0,s0⟩;rw[hx1]at Z B F;dsimp only at Z B F;refine gA I (aE [2] (j0) I I I I I I I I ?_);refine gA I (aE [2] (Z) I I I I I I I I ?_);refine gA I ?_;refine fa (L:=[]) (t:=⟨[(10,.ptr 3 0),(11,pU n0)],[(2,dl (n9 b s0)),(3,dl (.cells [.ptr 2 0,.iv (jl p),.iv (.v (.slice io 0 0)),.kb ln]))],4⟩) (wk I I I (bi (bi ac)) ⟨⟨_,rfl,.of_eq I⟩,SY I,rfl,⟨_,rfl,.of_eq I⟩,SY I,rfl,ac⟩ I) ?_;refine fb 3 2 1 I I ?_
 refine ly (σ:={v:List ae×RS×Nat//KV b n0 s0 v}) (fun v=>⟨[(10,.ptr 3 0),(11,pU v.1.2.2)],[(2,dl (n9 b v.1.2.1)),(3,dl (.cells [.ptr 2 0,.iv (jl p),.sl 5 0 v.1.1.length 1,.kb ln])),(5,dl (aY 1 v.1.1 cA))],6⟩) (fun v=>v.1.2.2) ⟨([],s0,n0),KV.start B⟩ [4]
  (wk I I I (bi (bi trivial)) ⟨⟨_,rfl,.of_eq I⟩,SY I,rfl,⟨_,rfl,.of_eq I⟩,SY I,rfl,hR I I I trivial⟩ I) fun v=>?_
 obtain⟨⟨S,j,n⟩,hJ⟩:=v;have D:=hJ.le;have l0:=hJ.len;dsimp only at D l0 ⊢;have hF:=uc b j;refine gM 1 I (go_cut 1 (fun(_:Unit)=>⟨[(10,.ptr 3 0),(11,pU n),(57,pB (kw (0<n∧j.f=0)))],[(2,dl (n9 b j)),(3,dl (.cells [.ptr 2 0,.iv (jl p),.sl 5 0 S.length 1,.kb ln])),(5,dl (aY 1 S cA))],6⟩) I ?_ ?_)
 .refine gA I ?_;refine S3 (fun d=>?_) (fun d=>?_)
  .have d:0<n:=by have h:=of_decide_eq_true d;omega
   refine gA I (aE [2] (hF) I I I I I I I I ?_);refine gA I (nr () [] ?_);exact wk I I I (bi (bi ⟨.of_eq (congrArg pB (by simp[d])),rfl,ac⟩)) ⟨⟨_,rfl,.of_eq I⟩,SY I,rfl,⟨_,rfl,.of_eq I⟩,SY I,rfl,hR I I I ac⟩ I
  .have d: ¬0<n:=by have h:=of_decide_eq_false (d.trans I);omega
   refine gA I (nr () [] ?_);exact wk I I I (bi (bi ⟨.kb' (by simp[d]),rfl,ac⟩)) ⟨⟨_,rfl,.of_eq I⟩,SY I,rfl,⟨_,rfl,.of_eq I⟩,SY I,rfl,hR I I I ac⟩ I
 intro _;refine gA I ?_;refine S3 (fun g3=>?_) (fun g3=>?_)
 .have g3:0<n∧j.f=0:=of_decide_eq_true g3;obtain⟨m,rfl⟩: ∃m,n=m+1:=⟨n-1,by omega⟩
  have hT:=NP b j 64 (by decide) hb D;have c0:=hJ.step g3.2;generalize fz b 64 j=y at*
  refine gA I (ck ab [2] (hT) I I I I I I I I I I I I (by(repeat' (first|exact ac|exact rfl|exact ak.refl _|exact ak.bk (by assumption)|apply S3))<;>first|omega|(simp only[S7];omega)|(simp;done)|(simp;omega)) I (by(repeat' (first|exact ac|exact rfl|exact ak.refl _|exact ak.bk (by assumption)|apply S3))<;>first|omega|(simp only[S7];omega)|(simp;done)|(simp;omega)) ?_);refine gA I ⟨⟨_,c0⟩,[7],Ut m,wk I I I (bi ⟨.of_eq (congrArg (fun z:Int=>PV.iv (.v (.int .u64 z))) (P4 m (by omega))),rfl,ac⟩) ⟨⟨_,rfl,.of_eq I⟩,SY I,rfl,⟨_,rfl,.cells ⟨.refl _,.refl _,.row (by simp),.refl _,ac⟩⟩,SY I,rfl,hR I (by rw[Tc];rfl) I ac⟩ I⟩
 have g3:n=0∨j.f≠0:=by
  have h:=of_decide_eq_false g3;omega
 have q0:ko b=(S,j):=by
  unfold ko;rw[hx1];exact hJ.stop g3
 have b0:BX p b ln=fX p b S ln (bm b 65536 j).1 (bm b 65536 j).2:=by
  unfold BX;rw[q0]
 rw[b0];refine fa (L:=[]) (t:=⟨[(10,.ptr 3 0)],[(2,dl (n9 b j)),(3,dl (.cells [.ptr 2 0,.iv (jl p),.sl 5 0 S.length 1,.kb ln])),(5,dl (aY 1 S cA))],6⟩) (wk I I I (bi ac) ⟨⟨_,rfl,.of_eq I⟩,SY I,rfl,⟨_,rfl,.of_eq I⟩,SY I,rfl,hR I I I ac⟩ I) ?_;refine ft 5 (fun k=>cA (S.getD k co)) I (dB I) (by simp[AF.iR,PV.bg]) ⟨(by simp[AO.iR,bf,PV.bg]),(by simp[AO.iR,bf,PV.bg]),db _ _ _ _ _ _,ac⟩ ?_;refine fa (L:=[]) (t:=⟨[(10,.ptr 3 0)],[(2,dl (n9 b j)),(3,dl (Rq p S ln))],6⟩) (wk I I I (bi ac) ⟨⟨_,rfl,.of_eq I⟩,SY I,rfl,⟨_,rfl,.cells ⟨.refl _,.refl _,.bW I (fun k _=>by rw[Tp]),.refl _,ac⟩⟩,SY I,rfl,ac⟩ I) ?_;have a0:=qW b j 65536 hb D;have C:=ey (most:=65536) D;have G:=fy (b:=b) (s:=j) (most:=65536);rcases hx2:bm b 65536 j with⟨m0,t0⟩;rw[hx2]at a0 C G;dsimp only at a0 C G ⊢;refine gA I (aE [2] (a0) I I I I I I I I ?_);refine gA I ?_;refine fa (L:=[]) (t:=⟨[(10,.ptr 3 0),(12,.iv (.v (.slice io 0 0))),(13,pU m0)],[(2,dl (n9 b t0)),(3,dl (Rq p S ln))],6⟩) (wk I I I (bi (bi (bi ac))) ⟨⟨_,rfl,.of_eq I⟩,SY I,rfl,⟨_,rfl,.of_eq I⟩,SY I,rfl,ac⟩ I) ?_;refine kE 12 5 I ?_;have r0:S.length<=4194304:=by omega
 refine ly (σ:={v:List cK×RS×Nat//HB p b S ln m0 t0 v}) (fun v=>⟨[(10,.ptr 3 0),(12,.sl 7 0 v.1.1.length 5),(13,pU v.1.2.2)],[(2,dl (n9 b v.1.2.1)),(3,dl (Rq p S ln)),(7,dl (aY 5 v.1.1 cK.c))],8⟩) (fun v=>v.1.2.2) ⟨([],t0,m0),HB.start C⟩ [6]
  (wk I I I (bi (bi (bi trivial))) ⟨⟨_,rfl,.of_eq I⟩,SY I,rfl,⟨_,rfl,.of_eq I⟩,SY I,rfl,hR I I I trivial⟩ I) fun v=>?_
 obtain⟨⟨L,u,J⟩,A⟩:=v;have e0:=A.le;have o0:=A.len;dsimp only at e0 o0 ⊢;have i0:=uc b u;refine gM 1 I (go_cut 1 (fun(_:Unit)=>⟨[(10,.ptr 3 0),(12,.sl 7 0 L.length 5),(13,pU J),(88,pB (kw (0<J∧u.f=0)))],[(2,dl (n9 b u)),(3,dl (Rq p S ln)),(7,dl (aY 5 L cK.c))],8⟩) I ?_ ?_)
 .refine gA I ?_;refine S3 (fun d=>?_) (fun d=>?_)
  .have d:0<J:=by have h:=of_decide_eq_true d;omega
   refine gA I (aE [2] (i0) I I I I I I I I ?_);refine gA I (nr () [] ?_);exact wk I I I (bi (bi (bi ⟨.of_eq (congrArg pB (by simp[d])),rfl,ac⟩))) ⟨⟨_,rfl,.of_eq I⟩,SY I,rfl,⟨_,rfl,.of_eq I⟩,SY I,rfl,hR I I I ac⟩ I
  .have d: ¬0<J:=by have h:=of_decide_eq_false (d.trans I);omega
   refine gA I (nr () [] ?_);exact wk I I I (bi (bi (bi ⟨.kb' (by simp[d]),rfl,ac⟩))) ⟨⟨_,rfl,.of_eq I⟩,SY I,rfl,⟨_,rfl,.of_eq I⟩,SY I,rfl,hR I I I ac⟩ I
 intro _;refine gA I ?_;refine S3 (fun g4=>?_) (fun g4=>?_)
 .have g4:0<J∧u.f=0:=of_decide_eq_true g4;obtain⟨m,rfl⟩: ∃m,J=m+1:=⟨J-1,by omega⟩
  have hN:=Qq p S ln b u (by omega) hb e0 hs;rcases hx3:qm p b S ln u with⟨o,s3⟩;rw[hx3]at hN;refine gA I (qx [3,2] hN I I I I I I I ?_)
  rintro q h' n' ⟨hq,rfl,rfl⟩;cases o with
  |none=>
   obtain⟨x,rfl⟩:=hq;refine⟨_,rfl,?_⟩;rw[A.none g4.2 hx3];refine gA I ?_;refine S3 (fun zz=>?_) (fun zz=>?_)<;>(try(exact absurd zz (by decide)))
   refine gA I (aR (by first|exact .inr I|exact .inl I) I (.of_eq ?_));rfl
  |some x=>
   have hq:q= .aZ [ag x.c,pB is]:=hq;subst hq;have c0:=A.step g4.2 hx3;refine⟨_,rfl,?_⟩;refine gA I ?_;refine S3 (fun zz=>?_) (fun zz=>?_)<;>(try(exact absurd zz (by decide)))
   refine gA I ⟨⟨_,c0⟩,[10],Ut m,wk I I I (bi ⟨.row (by simp),rfl,.of_eq (congrArg (fun z:Int=>PV.iv (.v (.int .u64 z))) (P4 m (by omega))),rfl,ac⟩) ⟨⟨_,rfl,.of_eq I⟩,SY I,rfl,⟨_,rfl,.of_eq I⟩,SY I,rfl,hR I (by rw[Tc];rfl) I ac⟩ I⟩
 have g4:J=0∨u.f≠0:=by
  have h:=of_decide_eq_false g4;omega
 rw[A.stop g4];dsimp only;refine fa (L:=[]) (t:=⟨[(10,.ptr 3 0),(12,.sl 7 0 L.length 5)],[(2,dl (n9 b u)),(3,dl (Rq p S ln)),(7,dl (aY 5 L cK.c))],8⟩) (wk I I I (bi (bi ac)) ⟨⟨_,rfl,.of_eq I⟩,SY I,rfl,⟨_,rfl,.of_eq I⟩,SY I,rfl,hR I I I ac⟩ I) ?_;refine ft 7 (fun k=>cK.c (L.getD k co)) I (dB I) (by simp[AF.iR,PV.bg]) ⟨(by simp[AO.iR,bf,PV.bg]),(by simp[AO.iR,bf,PV.bg]),db _ _ _ _ _ _,ac⟩ ?_;have g0:=Qk b u;refine gA I (aE [2] (g0) I I I I I I I I ?_);refine gA I ?_;refine S3 (fun Y=>?_) (fun Y=>?_)
 .have Y: ¬AD b u=0:=by simpa using Y
  rw[be fun h=>Y ((xi b u).2 h)];refine gA I (aR (by first|exact .inr I|exact .inl I) I (.of_eq ?_));rfl
 .have Y:AD b u=0:=by simpa using Y
  rw[am ((xi b u).1 Y)];refine gA I (aR (by first|exact .inr I|exact .inl I) I ?_);exact .aZ ⟨.bW I (fun k _=>by rw[Tp]),.refl _,ac⟩
end
end Go.Proofs.YtbhphmfbligliaaGreatDoor
namespace Go.Proofs.YtbhphmfbligliaaGreatDoor
open Go Go.Al Go.Proofs.Tryz Go.En
def Gx(o:Option (Tree×List cK))(q:PV):Prop:=match o with
 |some (t,r)=>q= .aZ [ag t.c,.iv (dC r),pB is]
 |none=> ∃t:Tree,q= .aZ [ag t.c,kj,pB jp]
def Tree.z:Tree:= .mk ⟨Ta,[]⟩ 0 []
theorem MW:ak (.agg [pS Ta,kj,pI 0,kj]) (ag Tree.z.c):= .agg ⟨.refl _,.nil _ _,.refl _,.nil _ _,ac⟩
structure RB (l:List cK) (i:Nat) (x:List Tree×List cK):Prop where
 eq:l=Tree.fE x.1++x.2
 len:x.1.length=i
theorem Tree.D0(ks:List Tree)(i:Nat)(h:i<ks.length):Tree.fE ks=Tree.fE (ks.take i)++((ks.getD i co).pre++Tree.fE (ks.drop (i+1))):=by
 have e:ks=ks.take i++(ks.getD i co::ks.drop (i+1)):=by
  have d:ks.drop i=ks.getD i co::ks.drop (i+1):=by
   rw[Vc h,S4,S5 h];rfl
  rw[<-d,T9]
 conv=>lhs;rw[e]
 rw[Tree.mL];rfl
theorem El{n:cK}{l r:List cK}{T:List Tree}{i:Nat}(y:RB l i (T,r))(hi:(i:Int)<n.kids)(h:ia r=io):ia (n::l)=io:=by
 refine uQ fun t q A=>?_;obtain⟨f,C,j⟩:=t;rw[Tree.pre,Tu]at A;injection A with h1 h2
 have B:n.kids=j.length:=by rw[h1]
 have u:i<j.length:=by omega
 have d:=y.eq;dsimp only at d;rw[h2,Tree.D0 j i u,Tb]at d;obtain⟨_,x⟩:=Tree.um (j.take i) T (by rw[TA,show T.length=i from y.len];omega) d;rw[Tb]at x;rw[pg x.symm]at h;cases h
theorem Em{n:cK}{l r:List cK}{T:List Tree}{i:Nat}(d:RB l i (T,r))(hi:n.kids=i)(hu:n.up=[]):ia (n::l)=dl (.mk n.fact n.cW T,r):=by
 refine pg ?_;rw[Tree.pre,Tu];have j:n=⟨n.fact,n.cW,(T.length:Int),[]⟩:=by
  have:T.length=i:=d.len;cases n
  simp_all
 have u:l=Tree.fE T++r:=d.eq;rw[<-j,<-u]
theorem grow_step{l r q:List cK}{T:List Tree}{t:Tree}{i:Nat}(d:RB l i (T,r))(h:ia r=dl (t,q)):RB l (i+1) (T++ [t],q):=by
 refine⟨?_,by rw[S1,show T.length=i from d.len];rfl⟩;have j:l=Tree.fE T++r:=d.eq;show l=Tree.fE (T++ [t])++q;rw[Tree.mL,Tree.fE,Tree.fE,TC,j,uR h,Tb]
theorem Qv(N:Nat): ∀l:List cK,l.length<=N->l.length<=1000000000->(∀n∈l,n.up=[]∧0<=n.kids)->Al.Fn prog 32 [.iv (dC l)] [] (fun q h n=>Gx (ia l) q∧h=[]∧n=0):=by
 have C:ia []=io:=uQ fun t q B=>by
  have d:=congrArg Vg B;have Z:=t.size_pos;rw[S1,Tree.jy]at d;simp only[Ur]at d;omega
 have J:Al.Fn prog 32 [.iv (dC [])] [] (fun q h n=>Gx (ia []) q∧h=[]∧n=0):=by
  rw[C];refine nh ab func32 I (by decide) ntmps32 I (by simp) ?_;refine gA I ?_;refine S3 (fun zz=>?_) (fun zz=>?_)<;>(try(exact absurd zz (by decide)))
  refine gA I (kF (r:= .aZ [ag Tree.z.c,kj,pB jp]) (h:=[]) (n:=0) [] (.inr I) I ⟨⟨_,rfl⟩,rfl,rfl⟩ (wk I I I ⟨.aZ ⟨MW,.refl _,.refl _,ac⟩,rfl,ac⟩ ac I))
 induction N with
 |zero=>
  intro l Y u F;obtain rfl:l=[]:=Uh.1 (by omega);exact J
 |succ N ih=>
  intro l Y u F;cases l with
  |nil=>exact J
  |cons n l=>
   have G: ∀r:List cK,(∃T,l=Tree.fE T++r)->Al.Fn prog 32 [.iv (dC r)] [] (fun q h n=>Gx (ia r) q∧h=[]∧n=0):=fun r ⟨T,hr⟩=>by
    have b0:r.length<=l.length:=by rw[hr,S1];omega
    rw[Tr]at Y u;exact ih r (by omega) (by omega) fun x hx=>F x (Tl _ (by rw[hr];exact Uy _ hx))
   obtain⟨hu,hk⟩:=F n (Tm ..);rw[Tr]at u;refine nh ab func32 I (by decide) ntmps32 I (by simp) ?_;refine gA I ?_;refine S3 (fun zz=>?_) (fun zz=>?_)<;>(try(simp at zz;omega))
   refine gA I ?_;refine fb 1 3 4 I I ?_;refine l5 0 n.kids.toNat (Te _) (fun i x=>⟨[(2,.ptr 0 0),(5,.ptr 1 0),(6,.iv (dC x.2)),(28,pI n.kids),(29,pI i)],[(0,dl (.cells [pS Ta,.iv (.v (.slice io 0 0)),pI 0,.iv (.v (.slice io 0 0))])),(1,dl (.cells [pS n.fact.rel,.iv (bz 3 n.fact.args eK.c),pI n.cW,.sl 3 0 i 4])),(3,dl (aY 4 x.1 Tree.c))],4⟩) (RB l) ([],l) [2] ⟨rfl,rfl⟩
    (wk I I I (bi (bi ⟨.bW (by simp) (fun k hk=>by rw[VL];rfl),rfl,bi (bi trivial)⟩)) ⟨⟨_,rfl,.of_eq I⟩,SY I,rfl,⟨_,rfl,.of_eq I⟩,SY I,rfl,hR I I I trivial⟩ I) fun i x hi A=>?_
   obtain⟨T,r⟩:=x;have j:T.length=i:=A.len;have a0:i<=l.length:=by
    have d:=congrArg Vg A.eq;have Z:=Tree.aA T;rw[S1,Tree.p9]at d;dsimp only at d;omega
   refine gA I ?_;refine S3 (fun d=>?_) (fun d=>?_)
   .have d:(i:Int)<n.kids:=of_decide_eq_true d;have hc:=G r ⟨T,A.eq⟩;refine gA I (qx [] hc I I I I I I I ?_);rintro q' h' n' ⟨B,rfl,rfl⟩;cases hg:ia r with
    |none=>
     rw[hg]at B;obtain⟨t,rfl⟩:=B;rw[El A d hg];refine⟨_,rfl,?_⟩;refine gA I ?_;refine S3 (fun zz=>?_) (fun zz=>?_)<;>(try(exact absurd zz (by decide)))
     refine fa (L:=[]) (t:=⟨[(2,.ptr 0 0),(5,.ptr 1 0)],[(0,dl (.cells [pS Ta,.iv (.v (.slice io 0 0)),pI 0,.iv (.v (.slice io 0 0))])),(1,dl (.cells [pS n.fact.rel,.iv (bz 3 n.fact.args eK.c),pI n.cW,.sl 3 0 i 4])),(3,dl (aY 4 T Tree.c))],5⟩) (wk I I I (bi (bi ac)) ⟨⟨_,rfl,.of_eq I⟩,SY I,rfl,⟨_,rfl,.of_eq I⟩,SY I,rfl,hR I I I ac⟩ I) ?_;refine ft 3 (fun k=>Tree.c (T.getD k co)) I (dB I) (by simp[AF.iR,PV.bg]) ⟨(by simp[AO.iR,bf,PV.bg]),(by simp[AO.iR,bf,PV.bg,j]),db _ _ _ _ _ _,ac⟩ ?_;subst j;refine gA I (kF (r:= .aZ [ag (Tree.mk n.fact n.cW T).c,kj,pB jp]) (h:=[]) (n:=0) [] (.inr I) I ⟨⟨_,rfl⟩,rfl,rfl⟩ (wk I I I ⟨.aZ ⟨.trans (.of_eq ?_) (Tree.BA (.mk n.fact n.cW T)),.refl _,.refl _,ac⟩,rfl,ac⟩ ac I));simp only[Tp];rfl
    |some y=>
     obtain⟨t,q⟩:=y;rw[hg]at B;have D:=grow_step A hg;subst B;refine⟨_,rfl,?_⟩;refine gA I ?_;refine S3 (fun zz=>?_) (fun zz=>?_)<;>(try(exact absurd zz (by decide)))
     refine gA I ⟨by omega,(T++ [t],q),[6],D,wk I I I (bi (bi (bi (bi (bi ac))))) ⟨⟨_,rfl,.of_eq I⟩,SY I,rfl,⟨_,rfl,.of_eq I⟩,SY I,rfl,hR I (by rw[Tc];rfl) I ac⟩ I⟩
   .have d: ¬(i:Int)<n.kids:=of_decide_eq_false d;rw[Em A (by omega) hu];refine ft 3 (fun k=>Tree.c (T.getD k co)) I (dB I) (by repeat(first|exact ac|refine⟨ac,?_⟩)) ⟨(by simp[AO.iR,bf,PV.bg]),(by simp[AO.iR,bf,PV.bg,j]),db _ _ _ _ _ _,ac⟩ ?_;subst j;refine gA I (kF (r:= .aZ [ag (Tree.mk n.fact n.cW T).c,.iv (dC r),pB is]) (h:=[]) (n:=0) [] (.inr I) I ⟨rfl,rfl,rfl⟩ (wk I I I ⟨.aZ ⟨.trans (.of_eq ?_) (Tree.BA (.mk n.fact n.cW T)),.refl _,.refl _,ac⟩,rfl,ac⟩ ac I));simp only[Tp];rfl
end Go.Proofs.YtbhphmfbligliaaGreatDoor
namespace Go.Proofs.YtbhphmfbligliaaGreatDoor
open Go Go.Al Go.En
theorem dd{α:Type}{f:α->By}{c:Nat}: ∀l:List α,(∀x∈l,(f x).length<=c)->(l.flatMap f).length<=l.length*c
 | [],_=>by simp
 |x::l,h=>by
  have j:=h x (Tm ..);have u:=dd l fun y d=>h y (Tl _ d);rw[TJ,S1,Tr,TP];omega
theorem po(n:Nat):(enc n).length<=11:=(np 10 n).2
theorem nW{p:Prog}{l:List cK}(j:l.length<=65536)(hf:bF p 0 l=is)(hu: ∀x∈l,x.up.length<=10000000)(m:Nat)(kd:UInt8):(bL p m kd l).length<=50000000000000:=by
 have d:=Ch j hf;have G:((bc l).flatMap fun s=>me (pM s)).length<=(bc l).length*1011:=dd _ fun s D=>by
  have A:=d.2 s D;have B:=po (pM s).length;have C:(pM s).length=s.size:=by simp[pM]
  rw[me,S1];omega
 have A:(l.flatMap (lQ p (bc l))).length<=l.length*110000200:=dd _ fun x y=>by
  have ha:=(fU l 0 hf x y).1;have F:=hu x y;have g1:(x.fact.args.flatMap (j6 (bc l))).length<=x.fact.args.length*11:=dd _ fun v _=>by
   unfold j6;split<;>exact po _
  have g2:(x.up.flatMap sP).length<=x.up.length*11:=dd _ fun u _=>po _;have g3:=po (cI .str (sT p) x.fact.rel 0).toNat;have g4:=po x.cW.toNat;rw[lQ,S1,S1,S1];omega
 have B:=po (bc l).length;have C:=po l.length;have J:(jq kd m).length=9:=rfl;have Y:(bc l).length*1011<=1000000*1011:=Tq _ d.1;have Z:l.length*110000200<=65536*110000200:=Tq _ j;rw[bL,lJ,gp,S1,S1,S1,S1];omega
theorem tA(p:Prog)(kd:UInt8)(l:List cK): ∃x e,dR p kd l= .aZ [.iv x,pI e]:=by
 unfold dR kH
 repeat' split
 all_goals exact⟨_,_,rfl⟩
mutual
theorem Tree.xX: ∀t:Tree,∀x∈t.pre,x.up=[]
 | .mk f r ks,x,hx=>by
  rw[Tree.pre]at hx;rcases Tt.1 hx with rfl|hx
  .rfl
  .exact Tree.CC ks x hx
theorem Tree.CC: ∀l:List Tree,∀x∈Tree.fE l,x.up=[]
 | [],_,hx=>nomatch hx
 |e::r,x,hx=>by
  rw[Tree.fE]at hx;rcases Ts.1 hx with hx|hx
  .exact Tree.xX e x hx
  .exact Tree.CC r x hx
end
theorem Mp(y:dA)(p:Prog)(hf:p.fit)(hs:p.size<=10000000)(B:p.ts<=800000000)(t:Tree)(C:t.size<=1000000000)(ha: ∀x∈t.pre,x.fact.args.length<=1000000000):Al.Pure Tryz.prog 11 [ag p.c,ag t.c] (dR p 1 (t.pre.take 65537)):=by
 obtain⟨x,e,A⟩:=tA p 1 (t.pre.take 65537);have hu: ∀x∈t.pre.take 65537,x.up.length<=10000000:=fun x d=>by rw[Tree.xX t x (Us d)];simp
 exact NO (xQ y p hf hs B (E5 t C) (fun x d=>⟨ha x (Us d),hu x d⟩) (fun j _ u=>nW j u hu _ _)) A ⟨x,rfl⟩
theorem Fy(D:dA)(p:Prog)(hf:p.fit)(hs:p.size<=10000000)(G:p.ts<=800000000)(L:List da)(C:L.length<=1000000000)(ha: ∀x∈L,x.fact.args.length<=1000000000∧x.kids.length<=10000000):Al.Pure Tryz.prog 17 [ag p.c,.iv (bz 4 L da.c)] (dR p 2 (cD (L.take 65537))):=by
 obtain⟨x,e,F⟩:=tA p 2 (cD (L.take 65537));have u: ∀x∈cD (L.take 65537),x.fact.args.length<=1000000000∧x.up.length<=10000000:=fun x d=>by
  obtain⟨⟨y,i⟩,J,rfl⟩:=Uf.1 d;have A:y∈L:=Us (Vb J);have j:=ha y A;exact⟨j.1,by simpa[da.vQ]using j.2⟩
 exact Jy (xQ D p hf hs G (Ce L C fun x d=>by have:=(ha x d).2;omega) u (fun j _ B=>nW j B (fun x d=>(u x d).2) _ _)) F ⟨x,rfl⟩
end Go.Proofs.YtbhphmfbligliaaGreatDoor
namespace Go.Proofs.YtbhphmfbligliaaGreatDoor
open Go Go.Al Go.Proofs.Tryz Go.En
theorem str_inj{a b:By}(h:(⟨a.toArray⟩:ae)=⟨b.toArray⟩):a=b:=by
 have d:=congrArg WZ h;exact congrArg Array.toList d
theorem Qo{p:Prog}(hc:(ch p).1=0){x:IV}(y: ∀σ,(PV.iv x).b3 σ= .iv x){kd:UInt8}{l:List cK}(A:l.length<=65536)(hw:Al.Pure prog 30 [ag p.c,.iv x] (dR p kd l))(b:By)(hb:b.length<=4194304):
  Al.Pure prog 33 [ag p.c,.iv x,.iv (bz 1 b bD)] (pB (kw (bF p 0 l=is∧bL p (bu p).toNat kd l=b))):=by
 unfold dR at hw;rw[be (by omega),be (fun h=>h hc)]at hw;by_cases d:bF p 0 l=jp
 .rw[am d]at hw;rw[decide_eq_false (fun h=>by rw[d]at h;cases h.1)];exact Mr (e:=161) (by decide) hw
 .rw[be d]at hw;have d:bF p 0 l=is:=by simpa using d
  unfold kH at hw;by_cases j:(bL p (bu p).toNat kd l).length>4194304
  .rw[am j]at hw;rw[decide_eq_false (fun h=>by rw[h.2]at j;omega)];exact Mr (e:=2) (by decide) hw
  .rw[be j]at hw;have u:=Qn y (b:=b) hw;rw[show kw (bF p 0 l=is∧bL p (bu p).toNat kd l=b)=kw ((⟨(bL p (bu p).toNat kd l).toArray⟩:ae)=⟨b.toArray⟩) from decide_eq_decide.2 ⟨fun h=>by rw[h.2],fun h=>⟨d,str_inj h⟩⟩];exact u
theorem Pm(y:dA)(p:Prog)(hf:p.fit)(hs:p.size<=10000000)(B:p.ts<=800000000)(t:Tree)(C:t.size<=65536)(ha: ∀x∈t.pre,x.fact.args.length<=1000000000):Al.Pure prog 30 [ag p.c,.iv (.oc 68 (.agg t.c))] (dR p 1 t.pre):=by
 have A:t.pre.take 65537=t.pre:=Tf (by rw[t.jy];omega);have hu: ∀x∈t.pre.take 65537,x.up.length<=10000000:=fun x d=>by rw[Tree.xX t x (Us d)];simp
 have h:=xQ y p hf hs B (E5 t (by omega)) (fun x d=>⟨ha x (Us d),hu x d⟩) (fun j _ u=>nW j u hu _ _);rw[A]at h;exact h
theorem MR(C:dA)(p:Prog)(hf:p.fit)(hs:p.size<=10000000)(F:p.ts<=800000000)(L:List da)(J:L.length<=65536)(ha: ∀x∈L,x.fact.args.length<=1000000000∧x.kids.length<=10000000):Al.Pure prog 30 [ag p.c,.iv (.oc 79 (.agg [bz 4 L da.c]))] (dR p 2 (cD L)):=by
 have D:L.take 65537=L:=Tf (by omega);have u: ∀x∈cD (L.take 65537),x.fact.args.length<=1000000000∧x.up.length<=10000000:=fun x d=>by
  obtain⟨⟨y,i⟩,G,rfl⟩:=Uf.1 d;have A:y∈L:=Us (Vb G);have j:=ha y A;exact⟨j.1,by simpa[da.vQ]using j.2⟩
 have h:=xQ C p hf hs F (Ce L (by omega) fun x d=>by have:=(ha x d).2;omega) u (fun j _ B=>nW j B (fun x d=>(u x d).2) _ _);rw[D]at h;exact h
theorem JE{p:Prog}{r:aq}{n:Int}(h:(rZ p r n).1=0):n<=256:=by
 unfold rZ at h;split at h
 .cases h
 .split at h
  .cases h
  .split at h
   .cases h
   .omega
theorem Hc{p:Prog}(h:(ch p).1=0):RD p:=by
 have u:(dX p).1=0:=by
  unfold ch at h;split at h
  .exact h
  .rename_i x;exact Vk.1 x
 have d:=yB u;refine⟨d.nodup,d.len,?_⟩;have d:=(vc p).1 u;unfold jA at d;obtain⟨_,j⟩:=Vr.1 d;have j:=(ud p _).1 j;refine UG fun y=>?_;have A:=JE (j 256 y);omega
theorem QQ{P:Prop}[Decidable P](h:(!decide P)=is): ¬P:=by simpa using h
theorem isd{P:Prop}[Decidable P](h:(!decide P)=jp):P:=by simpa using h
noncomputable def yP(p:Prog)(b:By):Option Tree:=match jM p b 1 with
 |none=>io
 |some l=>match ia l with
  |some (t,[])=>if bF p 0 t.pre=is∧bL p (bu p).toNat 1 t.pre=b then dl t else io
  |_=>io
noncomputable def oW(p:Prog)(b:By):PV:=
 if 4194304<b.length then .aZ [ag Tree.z.c,pI 2] else if(ch p).1≠0 then .aZ [ag Tree.z.c,pI 4] else match yP p b with
  |some t=> .aZ [ag t.c,pI 0]
  |none=> .aZ [ag Tree.z.c,pI 160]
theorem wt(Z:dA)(p:Prog)(hf:p.fit)(hs:p.size<=10000000)(ht:p.ts<=800000000)(b:By)(hb:b.length<=1000000000):Al.Pure prog 13 [ag p.c,.iv (bz 1 b bD)] (oW p b):=by
 have a0:p.aw.length+(p.aw.map fun d=>d.types.length).sum+p.rules.length+(p.rules.map aq.size).sum<=10000000:=hs;have hR:=Fs Z p hf hs ht b 1 hb (.inl I);unfold wA at hR;unfold oW;by_cases Y:4194304<b.length
 .rw[am Y]at hR ⊢;refine ai ab func13 I (by decide) ntmps13 I (by simp) I ?_;refine gA I (aG (hR) I I I I I I ?_);refine gA I ?_;refine S3 (fun zz=>?_) (fun zz=>?_)<;>(try(exact absurd zz (by decide)))
  refine gA I (aR (by first|exact .inr I|exact .inl I) I ?_);exact .aZ ⟨MW,.refl _,ac⟩
 rw[be Y]at hR ⊢;by_cases D:(ch p).1≠0
 .rw[am D]at hR ⊢;refine ai ab func13 I (by decide) ntmps13 I (by simp) I ?_;refine gA I (aG (hR) I I I I I I ?_);refine gA I ?_;refine S3 (fun zz=>?_) (fun zz=>?_)<;>(try(exact absurd zz (by decide)))
  refine gA I (aR (by first|exact .inr I|exact .inl I) I ?_);exact .aZ ⟨MW,.refl _,ac⟩
 rw[be D]at hR ⊢;have hc:(ch p).1=0:=Vk.1 D;cases hr:jM p b 1 with
 |none=>
  have e:yP p b=io:=by rw[yP,hr]
  rw[hr]at hR;rw[e];refine ai ab func13 I (by decide) ntmps13 I (by simp) I ?_;refine gA I (aG (hR) I I I I I I ?_);refine gA I ?_;refine S3 (fun zz=>?_) (fun zz=>?_)<;>(try(exact absurd zz (by decide)))
  refine gA I (aR (by first|exact .inr I|exact .inl I) I ?_);exact .aZ ⟨MW,.refl _,ac⟩
 |some l=>
  obtain⟨hk,hl,F⟩:=p6 hr;rw[hr]at hR;have A:=Qv l.length l (S9 _) (by omega) fun n C=>⟨Uh.1 (F n C).up,(F n C).kids⟩
  cases hg:ia l with
  |none=>
   have e:yP p b=io:=by simp only[yP,hr,hg]
   rw[hg]at A;rw[e];refine ai ab func13 I (by decide) ntmps13 I (by simp) I ?_;refine gA I (aG (hR) I I I I I I ?_);refine gA I ?_;refine S3 (fun zz=>?_) (fun zz=>?_)<;>(try(exact absurd zz (by decide)))
   refine gA I (qx [] A I I I I I I I ?_);rintro q J n' ⟨⟨t,rfl⟩,rfl,rfl⟩;refine⟨_,rfl,?_⟩;refine gA I ?_;refine S3 (fun zz=>?_) (fun zz=>?_)<;>(try(exact absurd zz (by decide)))
   refine gA I (aR (by first|exact .inr I|exact .inl I) I ?_);exact .aZ ⟨MW,.refl _,ac⟩
  |some x=>
   obtain⟨t,q⟩:=x;have j:=uR hg;rw[hg]at A;cases q with
   |cons y q=>
    have e:yP p b=io:=by simp only[yP,hr,hg]
    rw[e];refine ai ab func13 I (by decide) ntmps13 I (by simp) I ?_;refine gA I (aG (hR) I I I I I I ?_);refine gA I ?_;refine S3 (fun zz=>?_) (fun zz=>?_)<;>(try(exact absurd zz (by decide)))
    refine gA I (qx [] A I I I I I I I ?_);rintro G J n' ⟨u,rfl,rfl⟩;have u:G= .aZ [ag t.c,.iv (dC (y::q)),pB is]:=u;subst u;refine⟨_,rfl,?_⟩;refine gA I ?_;refine S3 (fun zz=>?_) (fun zz=>?_)<;>(try(exact absurd zz (by decide)))
    refine gA I ?_;refine S3 (fun zz=>?_) (fun zz=>?_)<;>(try(simp at zz;done))
    refine gA I (aR (by first|exact .inr I|exact .inl I) I ?_);exact .aZ ⟨MW,.refl _,ac⟩
   |nil=>
    rw[TC]at j;have B:t.size<=65536:=by rw[<-t.jy,<-j];exact hl
    have hO:=Qo hc (x:= .oc 68 (.agg t.c)) (fun σ=>rfl) (kd:=1) (l:=t.pre) (by rw[t.jy];exact B) (Pm Z p hf hs ht t B fun x C=>by have:=(F x (j▸C)).args;omega) b (by omega);have e1: ∀h: ¬(bF p 0 t.pre=is∧bL p (bu p).toNat 1 t.pre=b),yP p b=io:=fun h=>by simp only[yP,hr,hg,be h]
    have e2: ∀h:bF p 0 t.pre=is∧bL p (bu p).toNat 1 t.pre=b,yP p b=dl t:=fun h=>by simp only[yP,hr,hg];exact am h
    generalize yP p b=R at*
    refine ai ab func13 I (by decide) ntmps13 I (by simp) (by cases R<;>rfl) ?_;refine gA I (aG (hR) I I I I I I ?_);refine gA I ?_;refine S3 (fun zz=>?_) (fun zz=>?_)<;>(try(exact absurd zz (by decide)))
    refine gA I (qx [] A I I I I I I I ?_);rintro G J n' ⟨u,rfl,rfl⟩;have u:G= .aZ [ag t.c,.iv (dC []),pB is]:=u;subst u;refine⟨_,rfl,?_⟩;refine gA I ?_;refine S3 (fun zz=>?_) (fun zz=>?_)<;>(try(exact absurd zz (by decide)))
    refine gA I ?_;refine S3 (fun zz=>?_) (fun zz=>?_)<;>(try(exact absurd zz (by decide)))
    refine gA I (bw I (dS (nO I I (by intro ms h;cases h) (cs:=t.c) I) I) ?_);rintro s rfl;refine gA I (aG (hO) I I I I I I ?_);refine gA I ?_;refine S3 (fun g=>?_) (fun g=>?_)
    .have g: ¬(bF p 0 t.pre=is∧bL p (bu p).toNat 1 t.pre=b):=QQ g;rw[e1 g];refine gA I (aR (by first|exact .inr I|exact .inl I) I ?_);exact .aZ ⟨MW,.refl _,ac⟩
    .have g:bF p 0 t.pre=is∧bL p (bu p).toNat 1 t.pre=b:=isd g;rw[e2 g];refine gA I (aR (by first|exact .inr I|exact .inl I) I (.of_eq ?_));rfl
def D8(i:Nat)(n:cK):da:=⟨n.fact,n.cW,n.up.map fun u=>(i:Int)-u⟩
def ct(l:List cK):List da:=l.zipIdx.map fun x=>D8 x.2 x.1
theorem lW(l:List cK):(ct l).length=l.length:=by simp[ct]
theorem Ah{l:List cK}{i:Nat}(h:i<l.length):ct (l.take (i+1))=ct (l.take i)++ [D8 i (l.getD i co)]:=by
 have d:(l.take i).length=i:=by rw[TA];omega
 rw[bb h,ct,List.zipIdx_append,Tc,d,Tp];rfl
def Cw(p:Prog)(b:By):Option (List da):=match jM p b 2 with
 |none=>io
 |some l=>if bF p 0 (cD (ct l))=is∧bL p (bu p).toNat 2 (cD (ct l))=b then dl (ct l) else io
def oX(p:Prog)(b:By):PV:=
 if 4194304<b.length then .aZ [kj,pI 2] else if(ch p).1≠0 then .aZ [kj,pI 4] else match Cw p b with
  |some L=> .aZ [.iv (bz 4 L da.c),pI 0]
  |none=> .aZ [kj,pI 160]
theorem ub(hS:dA)(p:Prog)(hf:p.fit)(hs:p.size<=10000000)(ht:p.ts<=800000000)(b:By)(hb:b.length<=1000000000):Al.Pure prog 18 [ag p.c,.iv (bz 1 b bD)] (oX p b):=by
 have i0:p.aw.length+(p.aw.map fun d=>d.types.length).sum+p.rules.length+(p.rules.map aq.size).sum<=10000000:=hs;have A:=Fs hS p hf hs ht b 2 hb (.inr I);unfold wA at A;unfold oX;by_cases h1:4194304<b.length
 .rw[am h1]at A ⊢;refine ai ab func18 I (by decide) ntmps18 I (by simp) I ?_;refine gA I (aG (A) I I I I I I ?_);refine gA I ?_;refine S3 (fun zz=>?_) (fun zz=>?_)<;>(try(exact absurd zz (by decide)))
  refine gA I (aR (by first|exact .inr I|exact .inl I) I (.of_eq ?_));rfl
 rw[be h1]at A ⊢;by_cases h2:(ch p).1≠0
 .rw[am h2]at A ⊢;refine ai ab func18 I (by decide) ntmps18 I (by simp) I ?_;refine gA I (aG (A) I I I I I I ?_);refine gA I ?_;refine S3 (fun zz=>?_) (fun zz=>?_)<;>(try(exact absurd zz (by decide)))
  refine gA I (aR (by first|exact .inr I|exact .inl I) I (.of_eq ?_));rfl
 rw[be h2]at A ⊢;have hc:(ch p).1=0:=Vk.1 h2;cases hr:jM p b 2 with
 |none=>
  have e:Cw p b=io:=by rw[Cw,hr]
  rw[hr]at A;rw[e];refine ai ab func18 I (by decide) ntmps18 I (by simp) I ?_;refine gA I (aG (A) I I I I I I ?_);refine gA I ?_;refine S3 (fun zz=>?_) (fun zz=>?_)<;>(try(exact absurd zz (by decide)))
  refine gA I (aR (by first|exact .inr I|exact .inl I) I (.of_eq ?_));rfl
 |some l=>
  obtain⟨hk,hl,hn⟩:=p6 hr;rw[hr]at A;have F: ∀i,i<l.length->l.getD i co∈l:=fun i hi=>uY hi
  have G: ∀n∈l,n.up.length<=10000000:=fun n Y=>by
   have B:=hn n Y;have C:n.up.length=n.kids.toNat:=B.up;have h5:=B.want;rw[C,h5];exact tE hs _
  have e1: ∀h: ¬(bF p 0 (cD (ct l))=is∧bL p (bu p).toNat 2 (cD (ct l))=b),Cw p b=io:=fun h=>by simp only[Cw,hr,be h]
  have e2: ∀h:bF p 0 (cD (ct l))=is∧bL p (bu p).toNat 2 (cD (ct l))=b,Cw p b=dl (ct l):=fun h=>by simp only[Cw,hr];exact am h
  generalize Cw p b=RL at*
  refine ai ab func18 I (by decide) ntmps18 I (by simp) (by cases RL<;>rfl) ?_;refine gA I (aG (A) I I I I I I ?_);refine gA I ?_;refine S3 (fun zz=>?_) (fun zz=>?_)<;>(try(exact absurd zz (by decide)))
  refine gA I ?_;refine kE 8 4 I ?_;refine aJ 0 l.length (Te _) (fun i=>⟨[(1,.iv (bz 1 b bD)),(2,.ptr 0 0),(8,.sl 2 0 i 4),(23,.iv (dC l)),(24,pI l.length),(25,pI i)],[(0,dl (aD p.c)),(2,dl (aY 4 (ct (l.take i)) da.c))],3⟩) (fun _=>True) [1] ac
   (wk I I I (bi (bi (bi (bi (bi (bi trivial)))))) ⟨⟨_,rfl,.of_eq I⟩,SY I,rfl,hR I I I trivial⟩ I) fun i hi _=>?_
  refine gA I ?_;refine S3 (fun B=>?_) (fun B=>?_)
  .have B:i<l.length:=by simpa using B
   have c0:(l.take i).length=i:=by rw[TA];omega
   have g0:(ct (l.take i)).length=i:=by rw[lW,c0]
   have d0:=Ah B;have Y:=hn _ (F i B);have k0:=G _ (F i B);refine gA I ?_;refine fb 4 3 1 I I ?_;refine aJ 0 (l.getD i co).up.length (Te _) (fun j=>⟨[(1,.iv (bz 1 b bD)),(2,.ptr 0 0),(8,.sl 2 0 i 4),(9,pI i),(11,.ptr 4 0),(23,.iv (dC l)),(24,pI l.length),(25,pI i),(36,.iv (bz 1 (l.getD i co).up eI)),(37,pI (l.getD i co).up.length),(38,pI j)],[(0,dl (aD p.c)),(2,dl (aY 4 (ct (l.take i)) da.c)),(4,dl (.cells [pS (l.getD i co).fact.rel,.iv (bz 3 (l.getD i co).fact.args eK.c),pI (l.getD i co).cW,.sl 6 0 j 1])),(6,dl (aY 1 (((l.getD i co).up.take j).map fun u=>(i:Int)-u) eI))],7⟩) (fun _=>True) [5] ac
    (wk I I I (bi (bi (bi (bi (bi (bi (bi (bi (bi (bi (bi trivial))))))))))) ⟨⟨_,rfl,.of_eq I⟩,SY I,rfl,hR I I I ⟨⟨_,rfl,.of_eq I⟩,SY I,rfl,hR I I I trivial⟩⟩ I) fun j hj _=>?_
   refine gA I ?_;refine S3 (fun C=>?_) (fun C=>?_)
   .have C:j<(l.getD i co).up.length:=by simpa using C
    have f0:(((l.getD i co).up.take j).map fun u=>(i:Int)-u).length=j:=by rw[TB,TA];omega
    have j0:=Y.RR _ (uY C);have e0:(((l.getD i co).up.take (j+1)).map fun u=>(i:Int)-u)=(((l.getD i co).up.take j).map fun u=>(i:Int)-u)++ [(i:Int)-(l.getD i co).up.getD j co]:=by rw[bb C,Tc];rfl
    generalize(((l.getD i co).up.take j).map fun u=>(i:Int)-u)=R at*
    refine gA I ⟨C,ac,[8],wk I I I (bi (bi (bi (bi (bi (bi (bi (bi (bi (bi (bi ac))))))))))) ⟨⟨_,rfl,.of_eq I⟩,SY I,rfl,hR I I I ⟨⟨_,rfl,.of_eq I⟩,SY I,rfl,hR I (by rw[e0,Tc];rfl) I ac⟩⟩ I⟩
   .have C:(l.getD i co).up.length<=j:=by simpa using C
    have b0:j=(l.getD i co).up.length:=by omega
    subst b0;rw[TV];refine ft 6 (fun k=>eI (((l.getD i co).up.map fun u=>(i:Int)-u).getD k co)) I (dB I) (by repeat(first|exact ac|refine⟨ac,?_⟩)) ⟨(by simp[AO.iR,aD,Prog.c,bf,PV.bg]),db _ _ _ _ _ _,(by simp[AO.iR,bf,PV.bg]),db _ _ _ _ _ _,ac⟩ ?_;refine gA I ⟨B,ac,[8],wk I I I (bi (bi (bi (bi (bi (bi ac)))))) ⟨⟨_,rfl,.of_eq I⟩,SY I,rfl,hR I (by rw[d0,Tc];refine congrArg _ ?_;simp only[List.drop,List.take,Tp,Tg,Tx,da.c,D8,bz,TB]) I ac⟩ I⟩
  .have B:l.length<=i:=by simpa using B
   have a0:i=l.length:=by omega
   subst a0;rw[TV];have D:(ct l).length<=65536:=by rw[lW];exact hl
   have hO:=Qo hc (x:= .oc 79 (.agg [bz 4 (ct l) da.c])) (fun σ=>rfl) (kd:=2) (l:=cD (ct l)) (by rw[lr];exact D) (MR hS p hf hs ht (ct l) D fun y hy=>by
    obtain⟨⟨x,j⟩,Y,rfl⟩:=Uf.1 hy;have Z:=Vb Y
    exact⟨by have:=(hn x Z).args;show x.fact.args.length<=_;omega,by simpa[D8]using G x Z⟩) b (by omega)
   have J:=lW l;refine fa (L:=[]) (t:=⟨[(1,.iv (bz 1 b bD)),(2,.ptr 0 0),(8,.sl 2 0 l.length 4)],[(0,dl (aD p.c)),(2,dl (aY 4 (ct l) da.c))],3⟩) (wk I I I (bi (bi (bi ac))) ⟨⟨_,rfl,.of_eq I⟩,SY I,rfl,hR I I I ac⟩ I) ?_;refine ft 2 (fun k=>da.c ((ct l).getD k co)) I (dB I) (by simp[AF.iR,PV.bg,J]) ⟨(by simp[AO.iR,aD,bf,PV.bg,Prog.c]),db _ _ _ _ _ _,ac⟩ ?_;refine fa (L:=[]) (t:=⟨[(1,.iv (bz 1 b bD)),(2,.ptr 0 0),(8,.iv (bz 4 (ct l) da.c))],[(0,dl (aD p.c))],3⟩) (wk I I I (bi (bi ⟨.bW J.symm (fun k _=>by rw[Tp]),rfl,ac⟩)) ⟨⟨_,rfl,.of_eq I⟩,SY I,rfl,ac⟩ I) ?_;refine gA I (bw I (dS (nO I I (by intro ms h;cases h) (cs:=[bz 4 (ct l) da.c]) I) I) ?_);rintro s rfl;refine gA I (aG (hO) I I I I I I ?_);refine gA I ?_;refine S3 (fun g=>?_) (fun g=>?_)
   .have g: ¬(bF p 0 (cD (ct l))=is∧bL p (bu p).toNat 2 (cD (ct l))=b):=QQ g;rw[e1 g];refine gA I (aR (by first|exact .inr I|exact .inl I) I (.of_eq ?_));rfl
   .have g:bF p 0 (cD (ct l))=is∧bL p (bu p).toNat 2 (cD (ct l))=b:=isd g;rw[e2 g];refine gA I (aR (by first|exact .inr I|exact .inl I) I (.of_eq ?_));rfl
theorem Db{p:Prog}: ∀{l:List cK} {a i:Nat} {n:cK},bF p a l=is->l[i]? =dl n->jX p n (a+i)=is
 | [],a,i,n,_,h=>by simp at h
 |x::l,a,0,n,hf,h=>by
  rw[bF,Tz]at hf;simp at h;subst h;exact hf.1
 |x::l,a,i+1,n,hf,h=>by
  rw[bF,Tz]at hf;have:=Db hf.2 (by simpa using h);rw[show a+1+i=a+(i+1) by omega]at this;exact this
theorem Eg{p:Prog}{y:da}{i:Nat}(h:jX p (y.vQ i) i=is):D8 i (y.vQ i)=y:=by
 unfold jX at h;simp only[Tz,decide_eq_true_eq]at h;have x:=TI.1 h.2.2.2.2;obtain⟨f,r,j⟩:=y;show(⟨f,r,(j.map (qS i)).map fun u=>(i:Int)-u⟩:da)=⟨f,r,j⟩
 congr 1;rw[UN]
 conv=>rhs;rw[<-List.map_id j]
 refine Ux fun k B=>?_;have d:=x (qS i k) (Uf.2 ⟨k,B,rfl⟩);unfold kQ at d;simp only[Tz,decide_eq_true_eq]at d;show(i:Int)-qS i k=k;unfold qS at d ⊢;split at d
 .rename_i A;rw[am A];omega
 .omega
theorem uH{p:Prog}{L:List da}(h:bF p 0 (cD L)=is):ct (cD L)=L:=by
 refine Vj fun i=>?_
 have e:(ct (cD L))[i]? =L[i]?.map fun y=>D8 i (y.vQ i):=by
  simp only[ct,cD,S6,Ww,V2];cases L[i]? with
  |none=>rfl
  |some y=>simp
 rw[e];cases hy:L[i]? with
 |none=>rfl
 |some y=>
  have j:(cD L)[i]? =dl (y.vQ i):=by
   simp only[cD,S6,Ww,hy];simp
  have d:=Db h j;rw[Tp]at d;rw[T4,Eg d]
theorem FD{p:Prog}(hc:(ch p).1=0){t:Tree}(j:t.size<=65536)(hf:bF p 0 t.pre=is):yP p (bL p (bu p).toNat 1 t.pre)=dl t:=by
 have h:=uk (Hc hc) (m:=(bu p).toNat) (kd:=1) (.inl I) (l:=t.pre) (by rw[t.jy];exact j) hf (fun n u=>by
  show n.up.length=0
  rw[Tree.xX t n u];rfl)
 have d:ia t.pre=dl (t,[]):=pg (by rw[TC]);unfold yP;rw[show(1:UInt8).toNat=1 from rfl]at h;rw[h];simp only[d];exact am ⟨hf,ac⟩
theorem FJ{p:Prog}(hc:(ch p).1=0){L:List da}(d:L.length<=65536)(hf:bF p 0 (cD L)=is):Cw p (bL p (bu p).toNat 2 (cD L))=dl L:=by
 have h:=uk (Hc hc) (m:=(bu p).toNat) (kd:=2) (.inr I) (l:=cD L) (by rw[lr];exact d) hf (fun n j=>by
  obtain⟨⟨y,i⟩,u,rfl⟩:=Uf.1 j;show(y.kids.map (qS i)).length=((y.kids.length:Nat):Int).toNat
  simp)
 unfold Cw;rw[show(2:UInt8).toNat=2 from rfl]at h;rw[h];simp only;rw[am (by rw[uH hf];exact⟨hf,rfl⟩),uH hf]
def J1:ae:=⟨#[97]⟩
def pX:Prog:=⟨[⟨J1,[1],⟨0,0⟩⟩],[]⟩
def OE:eK:=⟨1,3,Ta⟩
def QW:Fact:=⟨J1,[OE]⟩
def wU:Tree:= .mk QW 0 []
def EO:da:=⟨QW,0,[]⟩
theorem ur:pX.fit:=⟨by decide,by decide,fun r h=>nomatch h⟩
theorem k9:(ch pX).1=0:=by decide+kernel
theorem qi:pX.size<=10000000:=by decide
theorem zZ:pX.ts<=800000000:=by decide
theorem uI:cD [EO]=wU.pre:=rfl
theorem rI:bF pX 0 wU.pre=is:=by decide+kernel
def aB(k:UInt8)(m:Nat):By:=[80,68,71,49,k,UInt8.ofNat (m/16777216),UInt8.ofNat (m/65536),UInt8.ofNat (m/256),UInt8.ofNat m,0,1,0,6,0]
theorem DA:lJ (bc wU.pre)++gp pX (bc wU.pre) wU.pre=[0,1,0,6,0]:=by decide+kernel
theorem Hz(k:UInt8)(m:Nat):bL pX m k wU.pre=aB k m:=by
 unfold bL;rw[DA];rfl
theorem mo(k:UInt8)(m:Nat):(aB k m).length=14:=rfl
theorem aW(k:UInt8):dR pX k wU.pre= .aZ [.iv (bz 1 (aB k (bu pX).toNat) bD),pI 0]:=by
 rw[dR,be (by decide),be (fun h=>h k9),be (by rw[rI];decide),kH,Hz,be (by rw[mo];decide)]
theorem aT:oW pX (aB 1 (bu pX).toNat)= .aZ [ag wU.c,pI 0]:=by
 rw[oW,be (by rw[mo];decide),be (fun h=>h k9),<-Hz,FD k9 (by decide) rI]
theorem aL:oX pX (aB 2 (bu pX).toNat)= .aZ [.iv (bz 4 [EO] da.c),pI 0]:=by
 rw[oX,be (by rw[mo];decide),be (fun h=>h k9),<-Hz,<-uI,FJ (L:=[EO]) k9 (by decide) (show bF pX 0 (cD [EO])=is from rI)]
theorem aM:ov pX=(bu pX,0):=by rw[ov,am k9]
theorem aK(m:Nat):iX (aB 1 m)=1:=by
 rw[iX,am ⟨by rw[mo];decide,rfl,.inl I⟩];rfl
theorem NQ:Al.Pure prog 26 [] (ag pX.c):=by
 refine ai ab func26 I (by decide) ntmps26 I (by simp) I ?_;refine gM 12 I (fa [] (t:=⟨[(0,.ptr 0 0)],[(0,dl (.cells [.sl 2 0 1 4,.iv (.v (.slice io 0 0))])),(1,dl (aY 1 [(1:Int)] eI)),(2,dl (.row 4 [[pS J1,.sl 1 0 1 1,pI 0,pI 0]]))],3⟩) (wk I I I (bi ac) ⟨⟨_,rfl,.of_eq I⟩,SY I,rfl,(hR I I I ⟨⟨_,rfl,.of_eq I⟩,SY I,JF I,ac⟩)⟩ I) ?_);refine GH 1 (fun k=>eI ([(1:Int)].getD k co)) I (dB I) (by simp[AF.iR,PV.bg]) (ql I) ?_
 refine fa (L:=[]) (t:=⟨[(0,.ptr 0 0)],[(0,dl (.cells [.sl 2 0 1 4,.iv (.v (.slice io 0 0))])),(2,dl (aY 4 pX.aw Decl.c))],3⟩) (wk I I I (bi ac) ⟨⟨_,rfl,.of_eq I⟩,SY I,rfl,(hR I (by
  show[[pS J1,.iv (.bW 1 1 fun k=>eI ([(1:Int)].getD (0+k) co)),pI 0,pI 0]]=_
  simp only[Tp];rfl) I ac)⟩ I) ?_
 refine gA I (iJ (.inr I) I (fw.gC 2 pX.aw Decl.c I I ?_ (.done ?_)))
 .simp[PV.bg,bf,pX]
 .exact .agg ⟨.bW I (fun k _=>by rw[Tp]),.nil _ _,ac⟩
theorem Ms:Al.Pure prog 27 [] (ag wU.c):=by
 refine ai ab func27 I (by decide) ntmps27 I (by simp) I ?_;refine gA I (iJ (.inr I) I (fw.gC 1 [OE] eK.c I I (by simp[PV.bg,bf]) (.done ?_)));exact .agg ⟨.refl _,.bW I (fun k _=>by rw[Tp];rfl),.refl _,.nil _ _,ac⟩
set_option maxHeartbeats 1000000 in
theorem N9(u:dA):Al.Pure prog 9 [] (pB is):=by
 have hT:=Mp u pX ur qi zZ wU (by decide) (fun x y=>by
  have y:x∈ [wU.vQ]:=y
  rw[Tk.1 y];decide)
 rw[show wU.pre.take 65537=wU.pre from rfl,aW]at hT;have d:=wt u pX ur qi zZ (aB 1 (bu pX).toNat) (by rw[mo];decide);rw[aT]at d;have B:=Fy u pX ur qi zZ [EO] (by decide) (fun x y=>by rw[Tk.1 y];decide);rw[show[EO].take 65537=[EO] from rfl,uI,aW]at B;have j:=ub u pX ur qi zZ (aB 2 (bu pX).toNat) (by rw[mo];decide);rw[aL]at j;have hM:=Fw u pX ur qi zZ;rw[aM]at hM;have A:=Fz (aB 1 (bu pX).toNat) (by rw[mo];decide);rw[aK]at A;generalize(bu pX).toNat=m at*
 have C:(aB 1 m).length=14:=mo 1 m;refine ai ab func9 I (by decide) ntmps9 I (by simp) I ?_;refine gA I (aG (NQ) I I I I I I ?_);refine gA I (ck ab [] (Pure.BS (Ms)) I I I I I I I I I I I I (by(repeat' (first|exact ac|exact rfl|exact ak.refl _|exact ak.bk (by assumption)|apply S3))<;>first|omega|(simp only[S7];omega)|(simp;done)|(simp;omega)) I (by(repeat' (first|exact ac|exact rfl|exact ak.refl _|exact ak.bk (by assumption)|apply S3))<;>first|omega|(simp only[S7];omega)|(simp;done)|(simp;omega)) ?_);refine gA I (ck ab [] (Pure.BS (hT)) I I I I I I I I I I I I (by(repeat' (first|exact ac|exact rfl|exact ak.refl _|exact ak.bk (by assumption)|apply S3))<;>first|omega|(simp only[S7];omega)|(simp;done)|(simp;omega)) I (by(repeat' (first|exact ac|exact rfl|exact ak.refl _|exact ak.bk (by assumption)|apply S3))<;>first|omega|(simp only[S7];omega)|(simp;done)|(simp;omega)) ?_);refine gA I ?_;refine S3 (fun zz=>?_) (fun zz=>?_)<;>(try(exact absurd zz (by decide)))
 refine gA I ?_;refine S3 (fun zz=>?_) (fun zz=>?_)<;>(try(simp[mo]at zz;done))
 refine gA I ?_;refine S3 (fun zz=>?_) (fun zz=>?_)<;>(try(simp[aB]at zz;done))
 refine gA I (aG (A) I I I I I I ?_);refine gA I ?_;refine S3 (fun zz=>?_) (fun zz=>?_)<;>(try(exact absurd zz (by decide)))
 refine gA I (aG (d) I I I I I I ?_);refine gA I (ck ab [] (Pure.BS (Ms)) I I I I I I I I I I I I (by(repeat' (first|exact ac|exact rfl|exact ak.refl _|exact ak.bk (by assumption)|apply S3))<;>first|omega|(simp only[S7];omega)|(simp;done)|(simp;omega)) I (by(repeat' (first|exact ac|exact rfl|exact ak.refl _|exact ak.bk (by assumption)|apply S3))<;>first|omega|(simp only[S7];omega)|(simp;done)|(simp;omega)) ?_)
 refine gA I (l9 ab I I I I I (by(repeat' (first|exact ac|exact rfl|exact ak.refl _|exact ak.bk (by assumption)|apply S3))<;>first|omega|(simp only[S7];omega)|(simp;done)|(simp;omega)) (PY (t0:=⟨[(1,.ptr 0 0),(4,.ptr 1 0),(5,pI 0),(44,ag pX.c),(45,ag wU.c),(46,ag QW.c),(47,.agg [pS J1,.iv (bz 3 [OE] eK.c),pI 0,kj]),(48,.iv (bz 4 [EO] da.c))],[(0,dl (aD pX.c)),(1,dl (aD wU.c))],3⟩) (((To.wk (L:=[]) (t:=⟨[(1,.ptr 0 0),(4,.ptr 1 0),(5,pI 0),(44,ag pX.c),(45,ag wU.c),(46,ag QW.c),(47,.agg [pS J1,.iv (bz 3 [OE] eK.c),pI 0,kj]),(48,.sl 2 0 1 4)],[(0,dl (aD pX.c)),(1,dl (aD wU.c)),(2,dl (aY 4 [EO] da.c))],3⟩)
   (wk I I I (bi (bi (bi (bi (bi (bi (bi (bi ac)))))))) ⟨⟨_,rfl,.of_eq I⟩,SY I,rfl,⟨⟨_,rfl,.of_eq I⟩,SY I,rfl,hRl I (show jm [[pS J1,.iv (bz 3 [OE] eK.c),pI 0,kj]] [[pS J1,.iv (bz 3 [OE] eK.c),pI 0,.iv (bz 1 ([]:List Int) eI)]] from⟨⟨.refl _,.refl _,.refl _,.nil _ _,ac⟩,ac⟩) I ac⟩⟩ I)).trans
   (To.row (s:=⟨[(1,.ptr 0 0),(4,.ptr 1 0),(5,pI 0),(44,ag pX.c),(45,ag wU.c),(46,ag QW.c),(47,.agg [pS J1,.iv (bz 3 [OE] eK.c),pI 0,kj]),(48,.sl 2 0 1 4)],[(0,dl (aD pX.c)),(1,dl (aD wU.c)),(2,dl (aY 4 [EO] da.c))],3⟩) 2 (fun k=>da.c ([EO].getD k co)) I (dB I) (by simp[AF.iR,PV.bg,bf,Prog.c,Tree.c,Fact.c,kj]) (ql I))).trans
   (To.wk (L:=[]) (wk I I I (bi (bi (bi (bi (bi (bi (bi ⟨.bW I (fun k _=>by rw[Tp]),rfl,ac⟩))))))) ⟨⟨_,rfl,.of_eq I⟩,SY I,rfl,⟨_,rfl,.of_eq I⟩,SY I,rfl,ac⟩ I)))
  (yD [] (Pure.BS B) I I I I I I I)) I (by(repeat' (first|exact ac|exact rfl|exact ak.refl _|exact ak.bk (by assumption)|apply S3))<;>first|omega|(simp only[S7];omega)|(simp;done)|(simp;omega)) ?_)
 have D:wU.fact.args.length=1:=rfl;have F:EO.fact.args.length=1:=rfl;refine gA I (aG (j) I I I I I I ?_);refine gA I (aG (hM) I I I I I I ?_);refine gA I ?_;refine S3 (fun zz=>?_) (fun zz=>?_)<;>(try(exact absurd zz (by decide)))
 refine gA I ?_;refine S3 (fun zz=>?_) (fun zz=>?_)<;>(try(exact absurd zz (by decide)))
 refine gA I ?_;refine S3 (fun zz=>?_) (fun zz=>?_)<;>(try(exact absurd zz (by decide)))
 refine gA I ?_;refine S3 (fun zz=>?_) (fun zz=>?_)<;>(try(exact absurd zz (by decide)))
 refine gA I ?_;refine S3 (fun zz=>?_) (fun zz=>?_)<;>(try(exact absurd zz (by decide)))
 refine gA I ?_;refine S3 (fun zz=>?_) (fun zz=>?_)<;>(try(exact absurd zz (by decide)))
 refine gA I ?_;refine S3 (fun zz=>?_) (fun zz=>?_)<;>(try(exact absurd zz (by decide)))
 refine gA I (aR (by first|exact .inr I|exact .inl I) I (.of_eq ?_));rfl
theorem NR(a b:By):Al.Pure prog 12 [.iv (bz 1 a bD),.iv (bz 1 b bD)] (pB (kw ((⟨a.toArray⟩:ae)=⟨b.toArray⟩))):=by
 refine ai ab func12 I (by decide) ntmps12 I (by simp) I ?_;refine gA I (bw I (dS (j3 ab a I I I I I I I I I (fun j d=>rfl)) I) ?_);rintro t rfl;refine gA I (bw I (dS (j3 ab b I I I I I I I I I (fun j d=>rfl)) I) ?_);rintro t rfl;refine gA I (aR (by first|exact .inr I|exact .inl I) I (.of_eq ?_));rfl
theorem xW(p:Prog)(b:By):(∃e:Int,e≠0∧(e=2∨e=4∨e=160)∧oW p b= .aZ [ag Tree.z.c,pI e])∨(∃t,oW p b= .aZ [ag t.c,pI 0]∧(ch p).1=0∧b.length<=4194304∧yP p b=dl t):=by
 unfold oW;split
 .exact .inl ⟨2,by decide,.inl I,rfl⟩
 .split
  .exact .inl ⟨4,by decide,.inr (.inl I),rfl⟩
  .rename_i j d;cases h:yP p b with
   |none=>exact .inl ⟨160,by decide,.inr (.inr I),rfl⟩
   |some t=>exact .inr ⟨t,rfl,Vk.1 d,by omega,rfl⟩
theorem p5(p:Prog)(b:By):(∃e:Int,e≠0∧oX p b= .aZ [kj,pI e])∨(∃L,oX p b= .aZ [.iv (bz 4 L da.c),pI 0]∧(ch p).1=0∧b.length<=4194304∧Cw p b=dl L):=by
 unfold oX;split
 .exact .inl ⟨2,by decide,rfl⟩
 .split
  .exact .inl ⟨4,by decide,rfl⟩
  .rename_i j d;cases h:Cw p b with
   |none=>exact .inl ⟨160,by decide,rfl⟩
   |some L=>exact .inr ⟨L,rfl,Vk.1 d,by omega,rfl⟩
structure SR (p:Prog) (b:By) (t:Tree):Prop where
 kind:iX b=1
 len:t.size<=65536
 args: ∀x∈t.pre,x.fact.args.length<=(p.aw.map fun d=>d.types.length).sum
 fits:bF p 0 t.pre=is
 eq:bL p (bu p).toNat 1 t.pre=b
theorem Ob{p:Prog}{b:By}{t:Tree}(h:yP p b=dl t):SR p b t:=by
 unfold yP at h;cases hr:jM p b 1 with
 |none=>rw[hr]at h;cases h
 |some l=>
  rw[hr]at h;obtain⟨A,B,C⟩:=p6 hr;cases hg:ia l with
  |none=>simp only[hg]at h;cases h
  |some x=>
   obtain⟨u,q⟩:=x;have d:=uR hg;cases q with
   |cons y q=>simp only[hg]at h;cases h
   |nil=>
    simp only[hg]at h;split at h
    .rename_i j;cases h;rw[TC]at d;subst d;exact⟨A,by rw[<-t.jy];exact B,fun x D=>(C x D).args,j.1,j.2⟩
    .cases h
structure SS (p:Prog) (b:By) (L:List da):Prop where
 kind:iX b=2
 len:L.length<=65536
 args: ∀x∈L,x.fact.args.length<=(p.aw.map fun d=>d.types.length).sum∧ ∃i,x.kids.length<=((bU p).getD i 0).toNat
 fits:bF p 0 (cD L)=is
 eq:bL p (bu p).toNat 2 (cD L)=b
theorem FL{p:Prog}{b:By}{L:List da}(h:Cw p b=dl L):SS p b L:=by
 unfold Cw at h;cases hr:jM p b 2 with
 |none=>rw[hr]at h;cases h
 |some l=>
  rw[hr]at h;obtain⟨C,D,F⟩:=p6 hr;simp only at h;split at h
  .rename_i A;cases h;refine⟨C,by rw[lW];exact D,fun y J=>?_,A.1,A.2⟩;obtain⟨⟨x,j⟩,G,rfl⟩:=Uf.1 J;have d:=F x (Vb G);refine⟨d.args,x.cW.toNat,?_⟩;have B:x.up.length=x.kids.toNat:=d.up;show(x.up.map fun u=>(j:Int)-u).length<=_;rw[TB,B,d.want];exact S9 _
  .cases h
theorem vZ{p:Prog}(hc:(ch p).1=0){kd:UInt8}{l:List cK}{b:By}(d:l.length<=65536)(hf:bF p 0 l=is)(he:bL p (bu p).toNat kd l=b)(hb:b.length<=4194304):dR p kd l= .aZ [.iv (bz 1 b bD),pI 0]:=by
 rw[dR,be (by omega),be (fun h=>h hc),be (by rw[hf];decide),kH,he,be (by omega)]
theorem Ft(D:dA)(p:Prog)(b:By)(hf:p.fit)(hs:p.size<=10000000)(Y:p.ts<=800000000)(hb:b.length<=1000000000):Al.Pure prog 7 [ag p.c,.iv (bz 1 b bD)] (pB is):=by
 have b0:p.aw.length+(p.aw.map fun d=>d.types.length).sum+p.rules.length+(p.rules.map aq.size).sum<=10000000:=hs;have hA:=N9 D;have hT:=wt D p hf hs Y b hb;have C:=ub D p hf hs Y b hb;have G:=Fz b hb;have u:=NR b b;rw[decide_eq_true I]at u;rcases xW p b with⟨e,J,_,Z⟩|⟨t,Z,hc,y,hr⟩
 .rw[Z]at hT;rcases p5 p b with⟨e2,A,B⟩|⟨L,B,hc,y,hr⟩
  .rw[B]at C;refine ai ab func7 I (by decide) ntmps7 I (by simp) I ?_;refine gA I (aG (hA) I I I I I I ?_);refine gA I (aG (hT) I I I I I I ?_);refine gA I (aG (C) I I I I I I ?_);refine gA I ?_;refine S3 (fun zz=>?_) (fun zz=>?_)<;>(try(exact absurd zz (by decide)))
   refine gA I ?_;refine S3 (fun zz=>?_) (fun zz=>?_)<;>(try(exact absurd (of_decide_eq_true zz) J))
   refine gA I ?_;refine S3 (fun zz=>?_) (fun zz=>?_)<;>(try(exact absurd (of_decide_eq_true zz) J))
   refine gA I ?_;refine S3 (fun zz=>?_) (fun zz=>?_)<;>(try(exact absurd (of_decide_eq_true zz) A))
   refine gA I (aR (by first|exact .inr I|exact .inl I) I (.of_eq ?_));rfl
  .rw[B]at C;have j:=FL hr;rw[j.kind]at G
   have F:=Fy D p hf hs Y L (by have:=j.len;omega) (fun x hx=>by
    obtain⟨h3,i,h4⟩:=j.args x hx;have:=tE hs i
    exact⟨by omega,by omega⟩)
   rw[Tf (by have:=j.len;omega),vZ hc (by rw[lr];exact j.len) j.fits j.eq y]at F;refine ai ab func7 I (by decide) ntmps7 I (by simp) I ?_;refine gA I (aG (hA) I I I I I I ?_);refine gA I (aG (hT) I I I I I I ?_);refine gA I (aG (C) I I I I I I ?_);refine gA I ?_;refine S3 (fun zz=>?_) (fun zz=>?_)<;>(try(exact absurd zz (by decide)))
   refine gA I ?_;refine S3 (fun zz=>?_) (fun zz=>?_)<;>(try(exact absurd (of_decide_eq_true zz) J))
   refine gA I ?_;refine S3 (fun zz=>?_) (fun zz=>?_)<;>(try(exact absurd (of_decide_eq_true zz) J))
   refine gA I ?_;refine S3 (fun zz=>?_) (fun zz=>?_)<;>(try(exact absurd zz (by decide)))
   refine gA I (aG (F) I I I I I I ?_);refine gA I (aG (u) I I I I I I ?_);refine gA I ?_;refine S3 (fun zz=>?_) (fun zz=>?_)<;>(try(exact absurd zz (by decide)))
   refine gA I ?_;refine S3 (fun zz=>?_) (fun zz=>?_)<;>(try(exact absurd zz (by decide)))
   refine gA I (aG (G) I I I I I I ?_);refine gA I (aR (by first|exact .inr I|exact .inl I) I (.of_eq ?_));rfl
 .rw[Z]at hT;have j:=Ob hr;rcases p5 p b with⟨e2,A,B⟩|⟨L,B,_,_,a0⟩
  .rw[B]at C;rw[j.kind]at G;have F:=Mp D p hf hs Y t (by have:=j.len;omega) (fun x hx=>by have:=j.args x hx;omega);rw[Tf (by rw[t.jy];have:=j.len;omega),vZ hc (by rw[t.jy];exact j.len) j.fits j.eq y]at F;refine ai ab func7 I (by decide) ntmps7 I (by simp) I ?_;refine gA I (aG (hA) I I I I I I ?_);refine gA I (aG (hT) I I I I I I ?_);refine gA I (aG (C) I I I I I I ?_);refine gA I ?_;refine S3 (fun zz=>?_) (fun zz=>?_)<;>(try(exact absurd zz (by decide)))
   refine gA I ?_;refine S3 (fun zz=>?_) (fun zz=>?_)<;>(try(exact absurd zz (by decide)))
   refine gA I ?_;refine S3 (fun zz=>?_) (fun zz=>?_)<;>(try(exact absurd (of_decide_eq_true zz) A))
   refine gA I ?_;refine S3 (fun zz=>?_) (fun zz=>?_)<;>(try(exact absurd zz (by decide)))
   refine gA I (aG (F) I I I I I I ?_);refine gA I (aG (u) I I I I I I ?_);refine gA I ?_;refine S3 (fun zz=>?_) (fun zz=>?_)<;>(try(exact absurd zz (by decide)))
   refine gA I ?_;refine S3 (fun zz=>?_) (fun zz=>?_)<;>(try(exact absurd zz (by decide)))
   refine gA I (aG (G) I I I I I I ?_);refine gA I (aR (by first|exact .inr I|exact .inl I) I (.of_eq ?_));rfl
  .have h3:=(FL a0).kind;rw[j.kind]at h3;cases h3
end Go.Proofs.YtbhphmfbligliaaGreatDoor
