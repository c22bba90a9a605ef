/-
  What the proofs of the claims need: part 5 of 6.
-/
import Derived.Test.YtlmhfgbkchnfbaaGreatDoorPart4
open And renaming intro→W0
open Bool renaming and_eq_true→XR,and_false→Zv,eq_iff_iff→Yu,false_and→YW,false_eq_true→YQ,not_eq_false'→YR,true_and→ZD
open ByteArray renaming empty→Xb
open Classical renaming byContradiction→Yx
open Int renaming fdiv_eq_ediv_of_nonneg→Yp,le_refl→Zp,toNat→Zt,toNat_natCast→W6,toNat_of_nonneg→Zk
open List.Pairwise renaming nil→Zf
open List renaming all_eq_true→XO,any_eq_true→Yr,append_assoc→Xf,append_nil→XM,cons_append→Xp,drop_eq_getElem_cons→YO,drop_left'→ZW,drop_of_length_le→Yy,drop_zero→ZP,ext_getElem→Zy,flatMap_cons→X5,flatMap_nil→aaa,getD→Z8,getD_eq_getElem?_getD→W2,getElem?_append_left→Xn,getElem?_append_right→Xl,getElem?_drop→XW,getElem?_eq_getElem→W5,getElem?_eq_some_iff→W4,getElem?_map→W9,getElem?_of_mem→XU,getElem?_set→YP,getElem?_take→XK,getElem_map→YN,getElem_mem→XS,length→Ze,length_append→W1,length_cons→Xy,length_drop→X7,length_eq_zero_iff→Yv,length_filter_le→Ys,length_map→Xw,length_nil→Yg,length_singleton→Xu,length_take→XA,map_append→Xg,map_congr_left→Yj,map_cons→W7,map_map→Yb,map_nil→Xj,mem_append→Xr,mem_append_right→YB,mem_cons→Xm,mem_cons_of_mem→Xi,mem_cons_self→Xk,mem_filter→XG,mem_map→XH,mem_of_getElem?→XE,mem_of_mem_drop→aao,mem_of_mem_take→YK,mem_singleton→Xd,mem_singleton_self→Y6,nil_append→Xq,nodup_cons→XN,nodup_nil→XY,pairwise_append→YU,pairwise_iff_getElem→Yl,pairwise_singleton→Zo,perm_ext_iff_of_nodup→YJ,range→XC,replicate→X3,singleton_append→ZQ,size_toArray→Zg,sum_cons→Ym,take_append→aaC,take_append_of_le_length→Y3,take_left'→ZF,take_length→Yk,take_of_length_le→Xh,take_succ_cons→Yq,take_zero→Zm
open Nat renaming add_assoc→Yf,add_mul→XT,beq→Xv,ble→Y4,ble_eq_true_of_le→X0,blt→Xx,div_lt_iff_lt_mul→aaj,le_of_ble_eq_true→WY,le_of_not_lt→YA,le_refl→W8,le_succ→Yw,le_trans→X6,lt_of_lt_of_le→YH,lt_or_ge→XZ,lt_succ_iff_lt_or_eq→Y1,lt_trichotomy→Zd,min_eq_left→Y9,mod_eq_of_lt→Zl,mul_assoc→aas,mul_comm→ZM,mul_le_mul_right→Xt,not_lt_zero→YY,pow_le_pow_right→aan,pow_succ→ZO,sub_self→Zw,zero_add→Xo,zero_le→Xc
open Option.some renaming inj→X4
set_option maxRecDepth 100000
open Bool renaming false→kw,true→jp
open Decidable renaming decide→lc
open Inhabited renaming default→co
open Option renaming none→is,some→io
open Array renaming getD_eq_getD_getElem?→WZ
open Option.some renaming injEq→W3
open Array renaming range→Z3
open Array renaming getElem?_map→ZG
open Option renaming map_some→Ya
open Option renaming getD_some→X9
open Array renaming getElem?_eq_getElem→XJ
open Array renaming append_assoc→ZH
open Array renaming getElem?_append_left→XF
open Nat renaming sub_mul→aal
open Array renaming getElem?_append_right→YV
open Array renaming getElem?_toList→Xz
open List renaming getElem?_toArray→XP
namespace Go.Proofs.YtlmhfgbkchnfbaaGreatDoor
open Go Go.Al Go.Proofs.Tryz Go.Tj
abbrev Tv(a:aq):List PV:=[pS a,.ptr 0 0,.ptr 1 0,.ptr 2 0,.ptr 3 0,.ptr 4 0,.ptr 5 0]
abbrev vF(a:aq):AF:=[(0,pS a),(1,.ptr 0 0),(2,.ptr 1 0),(3,.ptr 2 0),(4,.ptr 3 0),(5,.ptr 4 0),(6,.ptr 5 0)]
def S7(p:Prog)(f:Nat):Prop:= ∀(path:List aq) (a:aq) (w:TW),w.Ok (ns p)->Inv (bw p) path w.st->w.st.low a=0->a∈ns p->(∀g∈path,om (bw p) g a)->kE (ns p) w.st<=f->
 Go.Al.Fn prog 99 (Tv a) (tO (yA (cA p (c5 p))) w) fun r h n=> ∃j:TW,j.Ok (ns p)∧j.st=(eN (bw p) f a w.st).2∧r=pI (eN (bw p) f a w.st).1∧h=tH (yA (cA p (c5 p))) j 10∧n=11
theorem Jr(p:Prog)(hs:List (aq×aq×Nat)){a:aq}(h:a∈p.aG.map Decl.name):(GG (eh .str (cA p hs) a is)).pv= .iv (BW (km hs a)):=by rw[Js p hs h];rfl
theorem Rz(G:IV)(w:TW){n:Nat}:[io (AO.cells [PV.mp 6]),io (.cells [.mp 7]),io (.cells [qD w.uy 11 w.stack]),io (.cells [.iv G]),io (.cells [AV]),io (.cells [.mp 8]),io (cZ w.low),io (cZ w.on),io (cZ w.ring),io (qE w.uy w.stack)]=
  (tO G w).map fun o=>io (o.b5 (sig [0,1,2,3,4,5,6,7,8,11] n)):=by
 have h1:=mb (sig [0,1,2,3,4,5,6,7,8,11] n) w.uy 9 w.stack;have j:=me (sig [0,1,2,3,4,5,6,7,8,11] n) w.uy w.stack;show _=[io (AO.cells [PV.mp 6]),io (.cells [.mp 7]),io (.cells [(qD w.uy 9 w.stack).b5 (sig [0,1,2,3,4,5,6,7,8,11] n)]),io (.cells [.iv G]),io (.cells [AV]),io (.cells [.mp 8]),io (cZ w.low),io (cZ w.on),io (cZ w.ring),io ((qE w.uy w.stack).b5 (sig [0,1,2,3,4,5,6,7,8,11] n))]
 rw[h1,j];rfl
theorem HZ(u:List aq)(b:aq):((u++ [b]).map fun x=>(dm x).map PV.iv)[0+((((u.length+1:Nat):Int)-1).toNat)]? =io [pS b]:=by
 rw[Xo,show(((u.length+1:Nat):Int)-1).toNat=u.length by omega];simp[dm]
theorem H0(i:Nat)(u:List aq)(b:aq):(u.length=0∧qD (io b) i u= .sl i 1 0 1)∨(0<u.length∧qD (io b) i u= .sl i 0 u.length 1):=by
 cases u with
 |nil=>exact .inl ⟨rfl,rfl⟩
 |cons x r=>exact .inr ⟨by simp,rfl⟩
theorem A9(u:List aq)(b:aq):fc (aS 1 (u++ [b]) dm) (qE (io b) u):=by
 cases u with
 |nil=>exact .of_eq Z
 |cons x r=>
  have e:qE (io b) (x::r)= .row 1 (((x::r++ [b]).map fun y=>(dm y).map PV.iv).take (x::r).length):=by
   rw[<-List.map_take,List.take_left];rfl
  rw[e];exact .take
theorem uE{p:Prog}: ∀a∈ns p,∀b∈bw p a,b∈ns p:=fun _ _ _ h=>(XG.1 h).1
theorem IY{p:Prog}(hf:ef p):(ns p).length<=64:=by
 have:=hf.len;rw[ns,kA,Xw];exact this
theorem HE(hS:fJ){p:Prog}(hf:ef p)(hl:(c5 p).length<=100000000)(f:Nat)(ih:S7 p f):S7 p (f+1):=by
 intro path a w hok hI h0 c0 hp hw;have j0:=IY hf;have f1:=lr hI.n4 c0 h0;have n1:=TW.len hok;have q1:=TW.xO hok hI;have r0:a∈p.aG.map Decl.name:=by rw[ns,mw]at c0;exact c0
 have G:=TW.Na hok h0;have v0:=TW.Nb hok h0 c0;have p1:=Ys (eg p a) (ns p);refine lW ab func99 Z (by decide) ntmps99 Z (by simp) ?_;refine go_cut 6 (fun _:Unit=>⟨(9,pI ((w.low.length:Int)+1))::(10,pI ((w.low.length:Int)+1))::vF a,tH (yA (cA p (c5 p))) (w.push a) 10,11⟩) Z ?_ ?_
 .have p0:eh .str (cS .str w.low a ((w.low.length:Int)+1)) a 0=(w.low.length:Int)+1:=by rw[mB,am Z]
  by_cases hu:w.uy=is∨w.stack≠ []
  .rw[show tO (yA (cA p (c5 p))) w=[.cells [.mp 6],.cells [.mp 7],.cells [.sl 9 0 w.stack.length 1],.cells [.iv (yA (cA p (c5 p)))],.cells [AV],.cells [.mp 8],cZ w.low,cZ w.on,cZ w.ring,aS 1 w.stack dm] by
    unfold tO;rw[A6 hu,A8 hu]]
   refine gA Z (lZ () [11] ?_);exact wk Z Z Z ⟨.of_eq (congrArg pI p0),rfl,.of_eq (congrArg pI p0),rfl,bi (bi (bi (bi (bi (bi (bi ac))))))⟩
    (u5 (w:=w.push a) Z Z (fun i hi=>gG (by show i<10;omega)) Z Z Z Z Z Z Z Z Z Z (by show _=PV.sl 11 0 (w.stack++ [a]).length 1;rw[W1];rfl) Z Z Z (.of_eq (by show _=aS 1 (w.stack++ [a]) dm;rw[aS,Xg];rfl))) Z
  .obtain⟨y,hy,w0⟩: ∃y,w.uy=io y∧w.stack=[]:=by
    cases hg:w.uy with
    |none=>exact absurd (.inl hg) hu
    |some y=>exact⟨y,rfl,Yx fun h=>hu (.inr h)⟩
   rw[show tO (yA (cA p (c5 p))) w=[.cells [.mp 6],.cells [.mp 7],.cells [.sl 9 1 0 1],.cells [.iv (yA (cA p (c5 p)))],.cells [AV],.cells [.mp 8],cZ w.low,cZ w.on,cZ w.ring,.row 1 [[pS y]]] by
    unfold tO;rw[hy,w0];rfl]
   refine gA Z (sd ab Z Z Z Z Z Z Z Z Z (by simp) (by simp) (eD Z) Z ?_);refine gA Z (lZ () [11] ?_);exact wk Z Z Z ⟨.of_eq (congrArg pI p0),rfl,.of_eq (congrArg pI p0),rfl,bi (bi (bi (bi (bi (bi (bi ac))))))⟩
    (u5 (w:=w.push a) Z Z (fun i hi=>gG (by show i<10;omega)) Z Z Z Z Z Z Z Z Z Z (by show _=PV.sl 11 0 (w.stack++ [a]).length 1;rw[w0];rfl) Z Z Z (.of_eq (by show _=aS 1 (w.stack++ [a]) dm;rw[w0];rfl))) Z
 intro _;have hi:=BE hI h0 hp;rw[<-G]at f1 hi;have hm:((w.push a).low.length:Int)=(w.low.length:Int)+1:=by
  have:=tN (v:=(w.low.length:Int)+1) (TW.key hok h0);show(((cS .str w.low a _).length:Nat):Int)=_;rw[this];omega
 have la:(w.push a).st.low a=(w.st.n:Int)+1:=by rw[G];exact kH _ _ _
 have oa:(w.push a).st.on a=1:=by rw[G];exact kH _ _ _
 have i1:fQ (bw p) path a w.st [] ((w.st.n:Int)+1,Go.Tj.push w.st a) []:=
  ⟨G▸hi,.refl _,rfl,fun y hy=>(nomatch hy),Zp _,fun y hy=>(nomatch hy),fun z hz=>(nomatch hz),fun z hz=>(nomatch hz),⟨a,G▸oa,G▸la,.refl _⟩⟩
 have m0:=fun pa b s=>qu (succ:=bw p) uE f pa b s
 let J:Nat->Int×St aq:=fun i=>((bw p a).take i).foldl (Go.Tj.tF (eN (bw p) f)) ((w.st.n:Int)+1,Go.Tj.push w.st a)
 have i0: ∀i,∃t,fQ (bw p) path a w.st ((bw p a).take i) (J i) t:=fun i=>by
  have:=td uE m0 hI h0 c0 (by rw[<-G];omega) ((bw p a).take i) [] _ [] i1 fun b hb=>YK hb;rwa[Xq]at this
 refine gM 5 Z (NH ab (.iv (BW (km (c5 p) a))) Z Z Z Z (Jr p _ r0) Z ?_);refine gA Z (zp (Uu hS hf hl a) ?_);refine gA Z ?_;refine iZ 0 (bw p a).length (Xc _) (fun i B=>⟨(9,pI ((w.low.length:Int)+1))::(10,pI (J i).1)::(32,.iv (strs (bw p a)))::(33,pI (bw p a).length)::(34,pI i)::vF a,tH (yA (cA p (c5 p))) B 11,12⟩)
  (fun i B=>B.Ok (ns p)∧B.st=(J i).2) (w.push a) [10] ⟨v0,G⟩
  (wk Z Z Z (bi (bi (bi (bi (bi (bi (bi (bi (bi (bi (bi (bi trivial))))))))))))
   (u5 Z Z (fun i hi=>gG (by show i<11;omega)) Z Z Z Z Z Z Z Z Z Z Z Z Z Z (.refl _)) Z) fun i B t1 hJ=>?_
 obtain⟨D,A⟩:=hJ;obtain⟨t2,x⟩:=i0 i;have o1:(bw p a).length<=64:=X6 p1 j0;refine zJ Z Z (fun h1=>?_) fun h1=>?_
 .have h1:i<(bw p a).length:=by simpa using h1
  have e0:J (i+1)=Go.Tj.tF (eN (bw p) f) (J i) ((bw p a).getD i co):=iG h1;have hb:((bw p a).getD i co)∈bw p a:=mH h1;have j:Go.Tj.tF (eN (bw p) f) (J i) ((bw p a).getD i co)=if B.st.low ((bw p a).getD i co)=0 then(min (J i).1 (eN (bw p) f ((bw p a).getD i co) B.st).1,(eN (bw p) f ((bw p a).getD i co) B.st).2)
    else if B.st.on ((bw p a).getD i co)=1 then(min (J i).1 (B.st.low ((bw p a).getD i co)),B.st) else(J i):=by rw[A];rfl
  refine zJ Z Z (fun h2=>?_) fun h2=>?_
  .have h2:B.st.low ((bw p a).getD i co)=0:=zT h2;rw[am h2]at j;have b0: ∀g∈path++ [a],om (bw p) g ((bw p a).getD i co):=by
    intro g hg;have I:(J i).2.on a=1:=(x.inv.xO a).2 (by rw[x.stack];simp);refine .step (x.inv.dn g hg a I ?_) hb;rcases Xr.1 hg with e|e
    .have:=x.pa hI h0 g e;omega
    .rw[Xd]at e;rw[e];exact Zp _
   have s1:kE (ns p) B.st<=f:=by
    have:=xG (V:=ns p) x.le;rw[A];rw[G]at f1;omega
   refine gA Z (mF [0,1,2,3,4,5,6,7,8,11] (ih (path++ [a]) ((bw p a).getD i co) B D (A▸x.inv) h2 (uE a c0 ((bw p a).getD i co) hb) b0 s1) Z Z Z Z Z (Rz _ _) Z ?_);rintro r h' n' ⟨w3,hok3,hst3,rfl,rfl,rfl⟩;refine⟨_,rfl,?_⟩;refine gA Z ⟨h1,w3,[12],⟨hok3,by rw[e0,j];exact hst3⟩,zM (bi ⟨.of_eq (by rw[e0,j];rfl),rfl,bi (bi (bi (bi (bi (bi (bi (bi (bi (bi ac)))))))))⟩) (u5 Z Z (fun i hi=>gG (by show i<11;omega)) Z Z Z Z Z Z Z Z Z Z (mb _ _ _ _) Z Z Z (.of_eq (me _ _ _)))⟩
  .have h2: ¬B.st.low ((bw p a).getD i co)=0:=zF h2;rw[be h2]at j;refine zJ Z Z (fun h3=>?_) fun h3=>?_
   .have h3:B.st.on ((bw p a).getD i co)=1:=zT h3;rw[am h3]at j;refine gA Z ⟨h1,B,[11],⟨D,by rw[e0,j]⟩,zM (bi ⟨.of_eq (by rw[e0,j];rfl),rfl,bi (bi (bi (bi (bi (bi (bi (bi (bi (bi ac)))))))))⟩) (u5 Z Z (fun i hi=>gG (by show i<11;omega)) Z Z Z Z Z Z Z Z Z Z Z Z Z Z (.refl _))⟩
   .have h3: ¬B.st.on ((bw p a).getD i co)=1:=zF h3;rw[be h3]at j;refine gA Z ⟨h1,B,[11],⟨D,by rw[e0,j];exact A⟩,zM (bi ⟨.of_eq (by rw[e0,j];rfl),rfl,bi (bi (bi (bi (bi (bi (bi (bi (bi (bi ac)))))))))⟩) (u5 Z Z (fun i hi=>gG (by show i<11;omega)) Z Z Z Z Z Z Z Z Z Z Z Z Z Z (.refl _))⟩
 .have h1:(bw p a).length<=i:=by simpa using h1
  have k1:i=(bw p a).length:=by omega
  subst k1;have o0:eN (bw p) (f+1) a w.st=uD a ((w.st.n:Int)+1) (J (bw p a).length):=by
   show uD a _ ((bw p a).foldl _ _)=uD a _ (((bw p a).take (bw p a).length).foldl _ _);rw[Yk]
  have a0: ∀(w':TW) (k:Nat) (u:AS) (e:Exit),e= .normal∨e= .ret->10<=k->k<u.nx->jh qw u f99.results.toList=io (pI (J (bw p a).length).1)->w'.Ok (ns p)->w'.st=(uD a ((w.st.n:Int)+1) (J (bw p a).length)).2->
    pc 11 (sg 10 [k]) u.h (tH (yA (cA p (c5 p))) w' 10)->OK qw f99.results.toList 10 (fun r h n=> ∃w':TW,w'.Ok (ns p)∧w'.st=(eN (bw p) (f+1) a w.st).2∧r=pI (eN (bw p) (f+1) a w.st).1∧h=tH (yA (cA p (c5 p))) w' 10∧n=11) e u:=by
   intro w' k u e he hk m1 hr t0 x0 hh;refine dC [k] he hr ⟨w',t0,by rw[o0];exact x0,rfl,rfl,rfl⟩ ⟨rfl,by show 10<=u.nx;omega,by simpa using m1,⟨.of_eq ?_,rfl,ac⟩,hh,?_⟩
   .show pI (J (bw p a).length).1=pI (eN (bw p) (f+1) a w.st).1;rw[o0];unfold uD;split<;>rfl
   .show[0,1,2,3,4,5,6,7,8,k].Nodup;simp;omega
  generalize J (bw p a).length=q at*
  refine zE Z Z (fun h4=>?_) fun h4=>?_
  .have h4: ¬q.1=(w.st.n:Int)+1:=zF h4;refine gA Z (a0 B 11 _ _ (.inr Z) (by omega) (by show 11<12;omega) Z D (by rw[uD,be h4];exact A) ?_);exact u5 Z Z (fun i hi=>gG (by omega)) Z Z Z Z Z Z Z Z Z Z Z Z Z Z (.refl _)
  have h4:q.1=(w.st.n:Int)+1:=zT h4;have hE:(uD a ((w.st.n:Int)+1) q).2=gh a ((w.st.n:Int)+1) q.2.stack.length q.2:=by rw[uD,am h4]
  have I:q.2.on a=1:=(x.inv.xO a).2 (by rw[x.stack];simp);have hF:gh a ((w.st.n:Int)+1) (t2.length+1) q.2=(uD a ((w.st.n:Int)+1) q).2:=by
   rw[hE,s4 (by omega) x.stack x.at_ I,s4 (by rw[x.stack];simp;omega) x.stack x.at_ I]
  generalize(uD a ((w.st.n:Int)+1) q).2=F at hF a0;refine gA Z ?_;refine iF (σ:={v:TW//v.Ok (ns p)∧((∃t,v.stack=w.stack++a::t∧a∉t∧v.stack.length<=64∧v.st.on a=1∧gh a ((w.st.n:Int)+1) (t.length+1) v.st=F)∨(v.st.on a≠1∧v.st=F))})
   (fun v=>⟨(9,pI ((w.low.length:Int)+1))::(10,pI q.1)::vF a,tH (yA (cA p (c5 p))) v.1 12,13⟩) (fun v=>v.1.stack.length) ⟨B,D,.inl ⟨t2,by rw[show B.stack=B.st.stack from rfl,A];exact x.stack,x.at_,X6 (TW.xO D (A▸x.inv)) j0,by rw[A];exact I,by rw[A];exact hF⟩⟩ [11]
   (zW (u5 Z Z (fun i hi=>gG (by show i<12;omega)) Z Z Z Z Z Z Z Z Z Z Z Z Z Z (.refl _))) fun v=>?_
  obtain⟨v,k0,hJ⟩:=v;rcases hJ with⟨t,hs,b1,n0,d0,Y⟩|⟨d0,g1⟩
  rotate_left
  .refine zJ Z Z (fun h5=>?_) fun h5=>?_
   .exact absurd (zT h5) d0
   refine gA Z (a0 v 12 _ _ (.inr Z) (by omega) (by show 12<13;omega) Z k0 g1 ?_);exact u5 Z Z (fun i hi=>gG (by omega)) Z Z Z Z Z Z Z Z Z Z Z Z Z Z (.refl _)
  have key: ∃u b,v.stack=u++ [b]∧((b=a∧zH ((w.st.n:Int)+1) v.st=F)∨ ∃t',u=w.stack++a::t'∧a∉t'∧b≠a∧gh a ((w.st.n:Int)+1) (t'.length+1) (zH ((w.st.n:Int)+1) v.st)=F):=by
   rcases t.eq_nil_or_concat with e|⟨t',b,e⟩
   .subst e;refine⟨w.stack,a,hs,.inl ⟨rfl,?_⟩⟩;rw[Yg,gh,am d0]at Y;exact Y
   .rw[List.concat_eq_append]at e;subst e;refine⟨w.stack++a::t',b,by rw[hs];simp,.inr ⟨t',rfl,fun h=>b1 (by simp[h]),fun h=>b1 (by simp[h]),?_⟩⟩;rw[gh,am d0,W1]at Y;exact Y
  obtain⟨u,b,f0,g0⟩:=key;have v1:u.length+1<=64:=by rw[f0,W1]at n0;exact n0
  have e1:v.stack≠ []:=by rw[f0];simp
  have z0:v.stack.length=u.length+1:=by rw[f0,W1];rfl
  have r1:tH (yA (cA p (c5 p))) v 12=[(0,io (.cells [.mp 6])),(1,io (.cells [.mp 7])),(2,io (.cells [.sl 12 0 (u.length+1) 1])),(3,io (.cells [.iv (yA (cA p (c5 p)))])),(4,io (.cells [AV])),(5,io (.cells [.mp 8])),
    (6,io (cZ v.low)),(7,io (cZ v.on)),(8,io (cZ v.ring)),(12,io (aS 1 (u++ [b]) dm))]:=by
   unfold tH;rw[A6 (.inr e1),A8 (.inr e1),z0,f0]
  show GO prog _ _ _ ⟨_,tH (yA (cA p (c5 p))) v 12,_⟩;rw[r1];refine zE Z Z (fun h5=>?_) fun h5=>?_
  .exact absurd d0 (zF h5)
  refine gM 9 Z (kS ab Z Z Z Z Z (HZ u b) Z Z ?_);have a1:(v.pop u b ((w.st.n:Int)+1)).Ok (ns p)∧((∃t,(v.pop u b ((w.st.n:Int)+1)).stack=w.stack++a::t∧a∉t∧(v.pop u b ((w.st.n:Int)+1)).stack.length<=64∧(v.pop u b ((w.st.n:Int)+1)).st.on a=1∧gh a ((w.st.n:Int)+1) (t.length+1) (v.pop u b ((w.st.n:Int)+1)).st=F)∨((v.pop u b ((w.st.n:Int)+1)).st.on a≠1∧(v.pop u b ((w.st.n:Int)+1)).st=F)):=by
   refine⟨TW.Sh k0 u b _,?_⟩;rcases g0 with⟨rfl,q0⟩|⟨t',hu,s0,j1,q0⟩
   .refine .inr ⟨?_,by rw[TW.IK f0];exact q0⟩;show eh .str (cS .str v.on b 2) b 0≠1;rw[mB,am Z];decide
   .refine .inl ⟨t',hu,s0,by show u.length<=64;omega,?_,by rw[TW.IK f0];exact q0⟩;show eh .str (cS .str v.on b 2) a 0=1;rw[mB,be j1];exact d0
  have d1:(v.pop u b ((w.st.n:Int)+1)).stack.length<v.stack.length:=by show u.length<v.stack.length;omega
  rcases H0 12 u b with hc|hc
  .refine gA Z (sb ab u.length Z Z Z Z Z Z Z (by omega) (by omega) (by omega) (.inl ⟨hc.1,rfl⟩) Z ?_);refine gA Z ⟨⟨v.pop u b ((w.st.n:Int)+1),a1⟩,[12],d1,zW (u5 Z Z (fun i hi=>gG (by show i<12;omega)) Z Z Z Z Z Z Z Z Z Z hc.2.symm Z Z Z (A9 u b))⟩
  .refine gA Z (sb ab u.length Z Z Z Z Z Z Z (by omega) (by omega) (by omega) (.inr ⟨hc.1,rfl⟩) Z ?_);refine gA Z ⟨⟨v.pop u b ((w.st.n:Int)+1),a1⟩,[12],d1,zW (u5 Z Z (fun i hi=>gG (by show i<12;omega)) Z Z Z Z Z Z Z Z Z Z hc.2.symm Z Z Z (A9 u b))⟩
theorem Tu(hS:fJ){p:Prog}(hf:ef p)(hl:(c5 p).length<=100000000): ∀f,S7 p f
 |0=>fun path a w hok hI u j x y=>by
  have:=lr hI.n4 j u;omega
 |f+1=>HE hS hf hl f (Tu hS hf hl f)
theorem Gi(hS:fJ){p:Prog}(hf:ef p)(hs:List (aq×aq×Nat)):Pure prog 101 [.iv (yA (cA p hs))] (.iv (strs (ns p))):=by
 have h:=Ie hS (cA p hs) (by have:=hf.len;simp[cA];omega);rw[show(cA p hs).map (·.1)=p.aG.map Decl.name from DX p hs]at h;exact h
abbrev M7:PV:= .cB (.func 99) [] [.ptr 4 0,.ptr 5 0,.ptr 7 0,.ptr 0 0,.ptr 8 0,.ptr 6 0]
abbrev rH(G:IV)(w:TW)(k:Nat):AH:=[(0,io (.cells [.iv G])),(1,io (cZ w.low)),(2,io (cZ w.on)),(3,io (cZ w.ring)),(4,io (.cells [.mp 1])),(5,io (.cells [.mp 2])),(6,io (.cells [.mp 3])),(7,io (.cells [qD w.uy k w.stack])),(8,io (.cells [M7])),(k,io (qE w.uy w.stack))]
theorem QJ{n k:Nat}{σ:Nat->Nat}{h:AH}{G:IV}{w:TW}{B:PV}{x y A o:AO}(b:Y4 9 n=jp)(bk:Xx k n=jp)(hs: ∀i,i<9->σ i=i)
  (g0:h.get 0=io (.cells [.iv G])) (g1:h.get 1=io x) (g2:h.get 2=io y) (g3:h.get 3=io A)
  (g4:h.get 4=io (.cells [.mp 1])) (g5:h.get 5=io (.cells [.mp 2])) (g6:h.get 6=io (.cells [.mp 3])) (g7:h.get 7=io (.cells [B])) (g8:h.get 8=io (.cells [M7])) (g9:h.get (σ k)=io o)
  (D:fc x (cZ w.low)) (I:fc y (cZ w.on)) (J:fc A (cZ w.ring)) (Y:B=qD w.uy (σ k) w.stack) (e9:fc o (qE w.uy w.stack)):pc n σ h (rH G w k):=by
 have b9:=WY b;have bk:=WY bk;have hb: ∀i,i<9->Xx i n=jp:=fun i hi=>X0 (by omega);subst Y;have r: ∀i,i<9->PV.mp (σ i)=PV.mp i:=fun i hi=>by rw[hs i hi]
 have j: ∀i,i<9->PV.ptr (σ i) 0=PV.ptr i 0:=fun i hi=>by rw[hs i hi]
 have u: ∀i,i<9->bu n [PV.mp i]=jp:=fun i hi=>by simp only[bu,PV.low,hb i hi]
 refine⟨⟨_,by rw[hs 0 (by omega)];exact g0,.of_eq Z⟩,by omega,rfl,
  ⟨_,by rw[hs 1 (by omega)];exact g1,D⟩,by omega,ac,
  ⟨_,by rw[hs 2 (by omega)];exact g2,I⟩,by omega,ac,
  ⟨_,by rw[hs 3 (by omega)];exact g3,J⟩,by omega,ac,
  ⟨_,by rw[hs 4 (by omega)];exact g4,.of_eq (by simp only[AO.b5,dh,PV.b5,r 1 (by omega)])⟩,by omega,u 1 (by omega),
  ⟨_,by rw[hs 5 (by omega)];exact g5,.of_eq (by simp only[AO.b5,dh,PV.b5,r 2 (by omega)])⟩,by omega,u 2 (by omega),
  ⟨_,by rw[hs 6 (by omega)];exact g6,.of_eq (by simp only[AO.b5,dh,PV.b5,r 3 (by omega)])⟩,by omega,u 3 (by omega),
  ⟨_,by rw[hs 7 (by omega)];exact g7,.of_eq (by simp only[AO.b5,dh,mb])⟩,by omega,by simp only[AO.low,bu,A7 (X0 bk)],
  ⟨_,by rw[hs 8 (by omega)];exact g8,.of_eq (by simp only[AO.b5,dh,PV.b5,j 0 (by omega),j 4 (by omega),j 5 (by omega),j 6 (by omega),j 7 (by omega),j 8 (by omega)])⟩,by omega,by simp only[AO.low,bu,PV.low,hb 0 (by omega),hb 4 (by omega),hb 5 (by omega),hb 6 (by omega),hb 7 (by omega),hb 8 (by omega)],
  ⟨_,g9,by rw[me];exact e9⟩,bk,Ba _ _ _,ac⟩
theorem vY{V:Type}{kc:KC}{ev:V->IV}{z:V}{u:Value}{x:PV->V}(A: ∀M,IR M (ev z) u):fc .fE (.map kc ev z u x []):=
 ⟨id,fun M N U w j y=>⟨#[],0,y,⟨rfl,by simp,by simp,by simp,by simp⟩,A M⟩⟩
def TW.o:TW:=⟨[],[],[],[],is⟩
theorem Sd(G:IV)(w:TW){n:Nat}:[io (AO.cells [PV.mp 1]),io (.cells [.mp 2]),io (.cells [qD w.uy 10 w.stack]),io (.cells [.iv G]),io (.cells [M7]),io (.cells [.mp 3]),io (cZ w.low),io (cZ w.on),io (cZ w.ring),io (qE w.uy w.stack)]=
  (tO G w).map fun o=>io (o.b5 (sig [4,5,7,0,8,6,1,2,3,10] n)):=by
 have h1:=mb (sig [4,5,7,0,8,6,1,2,3,10] n) w.uy 9 w.stack;have j:=me (sig [4,5,7,0,8,6,1,2,3,10] n) w.uy w.stack;show _=[io (AO.cells [PV.mp 1]),io (.cells [.mp 2]),io (.cells [(qD w.uy 9 w.stack).b5 (sig [4,5,7,0,8,6,1,2,3,10] n)]),io (.cells [.iv G]),io (.cells [M7]),io (.cells [.mp 3]),io (cZ w.low),io (cZ w.on),io (cZ w.ring),io ((qE w.uy w.stack).b5 (sig [4,5,7,0,8,6,1,2,3,10] n))]
 rw[h1,j];rfl
theorem RQ(hS:fJ){p:Prog}(hf:ef p)(hl:(c5 p).length<=100000000):Go.Al.Fn prog 67 [.iv (yA (cA p (c5 p)))] [] fun r h n=> ∃m:NM,Go.Rg.xf (ns p) (eg p) (fun a=>eh .str m a 0)∧r= .iv (BW m)∧h=[]∧n=0:=by
 have B:=IY hf;refine lW ab func67 Z (by decide) ntmps67 Z (by simp) ?_;refine gA Z (zp (Gi hS hf (c5 p)) ?_);refine gA Z ?_;refine kR 7 0 1 Z Z ?_
 let y:Nat->St aq:=fun i=>im (bw p) (ns p).length ((ns p).take i) St.o
 have A: ∀i,Inv (bw p) [] (y i):=fun i=>(sV uE (W8 _) ((ns p).take i) St.o (fun a h=>YK h) (Qg _)).1
 refine iZ 0 (ns p).length (Xc _) (fun i w=>⟨[(3,.ptr 4 0),(4,.ptr 5 0),(5,.ptr 6 0),(6,.ptr 7 0),(7,.ptr 8 0),(15,.iv (strs (ns p))),(16,pI (ns p).length),(17,pI i)],rH (yA (cA p (c5 p))) w 10,11⟩)
  (fun i w=>w.Ok (ns p)∧w.st=y i) TW.o [9] ⟨⟨fun a h=>(nomatch h),XY,fun a h=>(nomatch h)⟩,rfl⟩
  (wk Z Z Z (bi (bi (bi (bi (bi (bi (bi (bi trivial))))))))
   (QJ Z Z (fun i hi=>gG (by show i<10;omega)) Z Z Z Z Z Z Z Z Z Z (vY gp) (vY gp) (vY gp) Z (.of_eq Z)) Z) fun i w hi I=>?_
 obtain⟨hok,x⟩:=I;refine zJ Z Z (fun h1=>?_) fun h1=>?_
 .have h1:i<(ns p).length:=by simpa using h1
  have u:y (i+1)=if(y i).low ((ns p).getD i co)=0 then(eN (bw p) (ns p).length ((ns p).getD i co) (y i)).2 else y i:=iG h1;refine zJ Z Z (fun j=>?_) fun j=>?_
  .have j:w.st.low ((ns p).getD i co)=0:=zT j;rw[<-x,am j]at u;refine gA Z (mF [4,5,7,0,8,6,1,2,3,10] (Tu hS hf hl (ns p).length [] ((ns p).getD i co) w hok (x▸A i) j (mH h1) (fun g J=>nomatch J) (Ys _ _)) Z Z Z Z Z (Sd _ _) Z ?_);rintro r Y n' ⟨w3,hok3,hst3,rfl,rfl,rfl⟩;refine⟨_,rfl,?_⟩;refine gA Z ?_
   exact⟨h1,w3,[11],⟨hok3,by rw[u];exact hst3⟩,wk Z Z Z (bi (bi (bi (bi (bi (bi (bi (bi ac))))))))
    (QJ Z Z (fun i hi=>gG (by show i<10;omega)) Z Z Z Z Z Z Z Z Z Z (.refl _) (.refl _) (.refl _) (mb _ _ _ _) (.of_eq (me _ _ _))) Z⟩
  .have j: ¬w.st.low ((ns p).getD i co)=0:=zF j;rw[<-x,be j]at u;refine gA Z ?_
   exact⟨h1,w,[10],⟨hok,u.symm⟩,wk Z Z Z (bi (bi (bi (bi (bi (bi (bi (bi ac))))))))
    (QJ Z Z (fun i hi=>gG (by show i<10;omega)) Z Z Z Z Z Z Z Z Z Z (.refl _) (.refl _) (.refl _) Z (.refl _)) Z⟩
 .have h1:(ns p).length<=i:=by simpa using h1
  have hr:Go.Rg.xf (ns p) (eg p) (fun a=>eh .str w.ring a 0):=by
   have j:=IA hf.nodup (W8 (ns p).length);have D:y i=im (bw p) (ns p).length (ns p) St.o:=by show im _ _ ((ns p).take i) _=_;rw[Xh h1]
   have G:(fun a=>eh .str w.ring a 0)=(im (bw p) (ns p).length (ns p) St.o).ring:=by rw[<-D,<-x];rfl
   rw[G];exact j
  refine gA Z ⟨.inr Z,_,rfl,fy.map 3 Z (.done ⟨.iv (BW w.ring),[],0,[],⟨w.ring,hr,rfl,rfl,rfl⟩,?_⟩)⟩;exact⟨rfl,Xc _,by simp,⟨.of_eq Z,rfl,ac⟩,ac,XY⟩
end Go.Proofs.YtlmhfgbkchnfbaaGreatDoor
namespace Go.Proofs.YtlmhfgbkchnfbaaGreatDoor
open Go Go.Al Go.Proofs.Tryz
theorem RY(l:List aq)(s:aq):Pure prog 134 [.iv (strs l),pS s] (pI (q8 (fun x:aq=>lc (s=x)) l)):=by
 refine IJ (bg func134 Z (by decide)) ⟨_,_,Xk⟩ fun u=>?_;simp only[maxLen]at u;refine ah ab func134 Z (by decide) ntmps134 Z (by simp) Z ?_;refine gA Z ?_
 refine aN 0 l.length (Xc _) (fun i=>⟨[(0,.iv (strs l)),(1,pS s),(7,pI l.length),(8,pI i)],[],0⟩) (fun i=>(l.take i).any (fun x:aq=>lc (s=x))=kw) [] (by simp)
  (wk0 Z Z (bi (bi (bi (bi trivial)))) Z) fun i hi y=>?_
 refine zJ Z Z (fun h1=>?_) fun h1=>?_
 .have h1:i<l.length:=by simpa using h1
  refine zJ Z Z (fun j=>?_) fun j=>?_
  .have j:(fun x:aq=>lc (s=x)) (l.getD i co)=jp:=j;rw[iV y h1 j];exact zU Z
  .have j:(fun x:aq=>lc (s=x)) (l.getD i co)=kw:=j;refine gA Z ⟨h1,(c7 y h1).2 j,[],wk0 Z Z (bi (bi (bi (bi ac)))) Z⟩
 .have h1:l.length<=i:=by simpa using h1
  rw[gC (any_none y h1)];exact zU Z
theorem OF(l:List aq)(s:aq):(l.any fun x=>lc (s=x))=ei l s:=by
 rw[Yu,bN,Yr];constructor
 .rintro⟨x,hx,h⟩;exact(zT h)▸hx
 .exact fun h=>⟨s,h,decide_eq_true Z⟩
theorem Gn(l:List aq)(s:aq):Pure prog 103 [.iv (strs l),pS s] (pB (ei l s)):=by
 refine ah ab func103 Z (by decide) ntmps103 Z (by simp) Z ?_;refine gA Z (zp (RY l s) ?_);refine gA Z (zL (.of_eq ?_));exact oF (by rw[<-OF];exact iW _ l)
def pR(m:NM)(r:aw)(l:Lit):Bool:=lc (l.kind=1)&&lc (eh .str m l.atom.rel 0=eh .str m r.head.rel 0)
abbrev R9(m:NM)(r:aw):List AO:=[.cells [.iv (BW m)],ax r.c]
abbrev MQ(m:NM)(r:aw):AH:=[(0,io (.cells [.iv (BW m)])),(1,io (ax r.c))]
theorem MA(m:NM)(r:aw)(l:Lit):bh prog 136 [ag l.c,.ptr 0 0,.ptr 1 0] (R9 m r) (pB (pR m r l)) (MQ m r) 2:=by
 refine ak ab func136 Z (by decide) ntmps136 Z (by simp) ?_;refine zJ Z Z (fun h1=>?_) fun h1=>?_
 .have h1:l.kind=1:=zT h1;refine gA Z (zD [] Z (zM ⟨.of_eq (oF (by rw[pR,decide_eq_true h1,ZD])),rfl,ac⟩ ((zO (zK ac)))))
 .have h1: ¬l.kind=1:=zF h1;refine gA Z (zD [] Z (zM ⟨.of_eq (oF (by rw[pR,decide_eq_false h1,YW])),rfl,ac⟩ ((zO (zK ac)))))
abbrev Iy:PV:= .cB (.func 136) [] [.ptr 0 0,.ptr 1 0]
theorem My(m:NM)(r:aw)(l:List Lit):bh prog 194 [.iv (aT 30 l Lit.c),Iy] (R9 m r) (pI (q8 (pR m r) l)) (MQ m r) 2:=by
 refine rb (bg func194 Z (by decide)) ⟨_,_,Xk⟩ fun u=>?_;simp only[maxLen]at u;refine ak ab func194 Z (by decide) ntmps194 Z (by simp) ?_;refine gA Z ?_
 refine aN 0 l.length (Xc _) (fun i=>⟨[(0,.iv (aT 30 l Lit.c)),(1,Iy),(7,pI l.length),(8,pI i)],MQ m r,2⟩) (fun i=>(l.take i).any (pR m r)=kw) [] (by simp)
  (zW ((zO (zK trivial)))) fun i hi x=>?_
 refine zJ Z Z (fun h1=>?_) fun h1=>?_
 .have h1:i<l.length:=by simpa using h1
  refine gA Z (zq [0,1] (MA m r (l.getD i co)) ?_);refine zJ Z Z (fun j=>?_) fun j=>?_
  .have j:pR m r (l.getD i co)=jp:=j;rw[iV x h1 j];refine gA Z (zD [] Z (zW ((zO (zK ac)))))
  .have j:pR m r (l.getD i co)=kw:=j;refine gA Z ⟨h1,(c7 x h1).2 j,[],zW ((zO (zK ac)))⟩
 .have h1:l.length<=i:=by simpa using h1
  rw[gC (any_none x h1)];refine gA Z (zD [] Z (zW ((zO (zK ac)))))
theorem Mz(m:NM)(r:aw)(l:List Lit):bh prog 135 [.iv (aT 30 l Lit.c),Iy] (R9 m r) (pB (l.any (pR m r))) (MQ m r) 2:=by
 refine ak ab func135 Z (by decide) ntmps135 Z (by simp) ?_;refine gA Z (zq [0,1] (My m r l) ?_);refine gA Z (zD [] Z (zM ⟨.of_eq (oF (iW _ l)),rfl,ac⟩ ((zO (zK ac)))))
theorem RP(m:NM)(r:aw):Pure prog 104 [ag r.c,.iv (BW m)] (pB (r.body.any (pR m r))):=by
 refine ah ab func104 Z (by decide) ntmps104 Z (by simp) Z ?_;refine gA Z (zq [1,0] (Mz m r r.body) ?_);exact zU Z
def xo(m:NM)(r:aw)(l:Lit):Bool:=lc (l.kind≠1)&&(named l).any fun t=>lc (eh .str m t 0=eh .str m r.head.rel 0)
def xA(m:NM)(r:aw)(t:Term):Bool:=lc (t.kind=1)&&!ei (lS r) t.var&&r.body.any (pR m r)
def jY(m:NM)(r:aw):gF:=match r.body.find? (xo m r) with
 |some l=>(70,l.at)
 |none=>if r.head.an.any (xA m r)=jp then(71,r.at_) else gF.z
theorem RK(m:NM)(r:aw)(hb:r.size<=10000000):Pure prog 68 [ag r.c,.iv (BW m)] (ag (jY m r).c):=by
 have D:r.body.length<=10000000:=by have:=Lit.aJ r.body;unfold aw.size at hb;omega
 have J:r.head.an.length<=10000000:=by unfold aw.size at hb;omega
 refine ah ab func68 Z (by decide) ntmps68 Z (by simp) Z ?_;refine gA Z ?_;refine aN 0 r.body.length (Xc _) (fun i=>⟨[(1,.iv (BW m)),(2,.ptr 0 0),(4,.ptr 1 0),(13,.iv (lits r.body)),(14,pI r.body.length),(15,pI i)],[(0,io (ax r.c)),(1,io (ax gF.z.c))],2⟩) (fun i=>(r.body.take i).any (xo m r)=kw) [] (by simp)
  (zW (zK (zK trivial))) fun i hi A=>?_
 refine zJ Z Z (fun h1=>?_) fun h1=>?_
 .have h1:i<r.body.length:=by simpa using h1
  have I:(r.body.getD i co).size<=10000000:=by have:=Lit.bU r.body i h1;unfold aw.size at hb;omega
  have G:=mv (r.body.getD i co);refine gA Z (zp (EJ (r.body.getD i co) (by omega)) ?_);refine gA Z ?_;refine aN 0 (named (r.body.getD i co)).length (Xc _) (fun k=>⟨[(1,.iv (BW m)),(2,.ptr 0 0),(4,.ptr 1 0),(6,.ptr 2 0),(13,.iv (lits r.body)),(14,pI r.body.length),(15,pI i),(20,.iv (strs (named (r.body.getD i co)))),(21,pI (named (r.body.getD i co)).length),(22,pI k)],[(0,io (ax r.c)),(1,io (ax gF.z.c)),(2,io (ax (r.body.getD i co).c))],3⟩)
   (fun k=>lc ((r.body.getD i co).kind≠1)=kw∨((named (r.body.getD i co)).take k).any (fun t=>lc (eh .str m t 0=eh .str m r.head.rel 0))=kw) [] (.inr (by simp))
   (zW (zK (zK (zK trivial)))) fun k hk hK=>?_
  refine zJ Z Z (fun j=>?_) fun j=>?_
  .have j:k<(named (r.body.getD i co)).length:=by simpa using j
   refine zJ Z Z (fun u=>?_) fun u=>?_
   .have u: ¬(r.body.getD i co).kind=1:=by simpa using u
    have hK:=hK.resolve_left (by simpa using u);refine zJ Z Z (fun x=>?_) fun x=>?_
    .have x:eh .str m ((named (r.body.getD i co)).getD k co) 0=eh .str m r.head.rel 0:=zT x;have hs:xo m r (r.body.getD i co)=jp:=by
      rw[xo,decide_eq_true u,ZD];exact FV j (decide_eq_true x)
     rw[jY,oU A h1 hs];exact zU Z
    .have x: ¬eh .str m ((named (r.body.getD i co)).getD k co) 0=eh .str m r.head.rel 0:=zF x;refine gA Z ⟨j,.inr ((c7 hK j).2 (decide_eq_false x)),[],zW (zK (zK (zK ac)))⟩
   .have u:(r.body.getD i co).kind=1:=by simpa using u
    refine gA Z ⟨j,.inl (decide_eq_false fun h=>h u),[],zW (zK (zK (zK ac)))⟩
  .have j:(named (r.body.getD i co)).length<=k:=by simpa using j
   have hs:xo m r (r.body.getD i co)=kw:=by
    rcases hK with hK|hK
    .rw[xo,hK,YW]
    .rw[xo,any_none hK j,Zv]
   refine gA Z ⟨h1,(c7 A h1).2 hs,[],zW (zK (zK ac))⟩
 have h1:r.body.length<=i:=by simpa using h1
 have B:r.body.find? (xo m r)=is:=mJ (any_none A h1);rw[jY,B];refine gA Z (zp (Wv r hb) ?_);refine gA Z ?_;refine aN 0 r.head.an.length (Xc _) (fun k=>⟨[(1,.iv (BW m)),(2,.ptr 0 0),(4,.ptr 1 0),(9,.iv (strs (lS r))),(49,.iv (aT 5 r.head.an Term.c)),(50,pI r.head.an.length),(51,pI k)],[(0,io (ax r.c)),(1,io (ax gF.z.c))],2⟩) (fun k=>(r.head.an.take k).any (xA m r)=kw) [] (by simp)
  (zW (zK (zK trivial))) fun k hk hK=>?_
 refine zJ Z Z (fun j=>?_) fun j=>?_
 .have j:k<r.head.an.length:=by simpa using j
  have no:xA m r (r.head.an.getD k co)=kw->(r.head.an.take (k+1)).any (xA m r)=kw:=(c7 hK j).2;refine zJ Z Z (fun u=>?_) fun u=>?_
  .have u:(r.head.an.getD k co).kind=1:=zT u;refine gA Z (zp (Gn (lS r) (r.head.an.getD k co).var) ?_);refine zJ Z Z (fun x=>?_) fun x=>?_
   .have x:(!ei (lS r) (r.head.an.getD k co).var)=jp:=x;refine gA Z (zp (RP m r) ?_);refine zJ Z Z (fun y=>?_) fun y=>?_
    .have y:r.body.any (pR m r)=jp:=y;rw[am (FV j (by rw[xA,decide_eq_true u,x,y];rfl))];exact zU Z
    .have y:r.body.any (pR m r)=kw:=y;refine gA Z ⟨j,no (by rw[xA,y,Zv]),[],zW (zK (zK ac))⟩
   .have x:(!ei (lS r) (r.head.an.getD k co).var)=kw:=x;refine gA Z ⟨j,no (by rw[xA,x,Zv,YW]),[],zW (zK (zK ac))⟩
  .have u: ¬(r.head.an.getD k co).kind=1:=zF u;refine gA Z ⟨j,no (by rw[xA,decide_eq_false u,YW,YW]),[],zW (zK (zK ac))⟩
 .have j:r.head.an.length<=k:=by simpa using j
  rw[be (by rw[any_none hK j];decide)];exact zU Z
theorem find_congr{α:Type}{f g:α->Bool}: ∀{l:List α},(∀x∈l,f x=g x)->l.find? f=l.find? g
 | [],_=>rfl
 |x::l,h=>by
  rw[List.find?_cons,List.find?_cons,h x Xk,find_congr fun y j=>h y (Xi _ j)]
theorem w6{α:Type}{f g:α->Bool}{l:List α}(h: ∀x∈l,f x=g x):l.any f=l.any g:=by
 rw[Yu,Yr,Yr];exact⟨fun⟨x,hx,h1⟩=>⟨x,hx,by rw[<-h x hx];exact h1⟩,fun⟨x,hx,h1⟩=>⟨x,hx,by rw[h x hx];exact h1⟩⟩
theorem zZ{p:Prog}{a:aq}(h:a∈p.aG.map Decl.name):a∈ns p:=by rw[ns,mw];exact h
theorem R8{p:Prog}(hf:ef p){m:NM}(hR:Go.Rg.xf (ns p) (eg p) (fun a=>eh .str m a 0)){r:aw}(hr:r∈p.rules):r.body.any (pR m r)=Dt p r:=by
 refine w6 fun l hl=>?_;rw[pR];by_cases hk:l.kind=1
 .have j:l.atom.rel∈named l:=by rw[rR,am (.inl hk)];exact Y6 _
  rw[tJ hR (zZ (hf.lits r hr l hl _ j)) (zZ (hf.Fl r hr))]
 .rw[decide_eq_false hk];rfl
theorem HA{p:Prog}(hf:ef p){m:NM}(hR:Go.Rg.xf (ns p) (eg p) (fun a=>eh .str m a 0)){r:aw}(hr:r∈p.rules):jY m r=y4 p r:=by
 have h1:r.body.find? (xo m r)=ze p r:=find_congr fun l hl=>by
  rw[xo];congr 1;exact w6 fun t ht=>(tJ hR (zZ (hf.lits r hr l hl t ht)) (zZ (hf.Fl r hr))).symm
 have j:r.head.an.any (xA m r)=(tw r&&Dt p r):=by
  rw[<-R8 hf hR hr,tw];have:xA m r=fun t=>(lc (t.kind=1)&&!ei (lS r) t.var)&&r.body.any (pR m r):=rfl;rw[this];generalize r.body.any (pR m r)=c;cases c<;>simp
 rw[jY,y4,h1];cases ze p r with
 |some l=>rfl
 |none=>
  simp only[j,XR]
theorem RT(hS:fJ){p:Prog}(hb:p.fit)(h: ¬(fb p).1=0):Pure prog 65 [ag p.c] (.a7 [.iv (.v (.map is)),pB kw]):=by
 have:=Qa hS p hb;rwa[wi,be h,decide_eq_false h]at this
theorem RR(hS:fJ){p:Prog}(hb:p.fit)(h:(fb p).1=0):Pure prog 65 [ag p.c] (.a7 [.iv (yA (cA p (c5 p))),pB jp]):=by
 have:=Qa hS p hb;rwa[wi,am h,decide_eq_true h]at this
theorem vi{α β:Type}(f:α->List β)(g:α->Nat)(h: ∀a,(f a).length<=g a): ∀l:List α,(l.flatMap f).length<=(l.map g).sum
 | []=>W8 _
 |a::l=>by
  have h1:=vi f g h l;have j:=h a;rw[X5,W1,W7,Ym];omega
theorem gx: ∀l:List Lit,Lit.aE l=(l.map Lit.size).sum
 | []=>rfl
 |x::l=>by rw[Lit.aE,gx l,W7,Ym]
theorem G8{p:Prog}(hs:p.size<=10000000):(c5 p).length<=100000000:=by
 have h1:=vi (fun r:aw=>r.body.flatMap fun l=>(named l).map fun t=>(r.head.rel,t,nJ l)) aw.size (fun r=>by
  have:=vi (fun l=>(named l).map fun t=>(r.head.rel,t,nJ l)) Lit.size (fun l=>by rw[Xw];exact mv l) r.body;rw[<-gx]at this
  unfold aw.size;omega) p.rules
 unfold Prog.size at hs;show(p.rules.flatMap _).length<=_;omega
theorem It(hS:fJ)(p:Prog)(hb:p.fit)(hs:p.size<=10000000):Pure prog 37 [ag p.c] (ag (gP p).c):=by
 by_cases A:(fb p).1=0;rotate_left
 .rw[gP,am A];refine ah ab func37 Z (by decide) ntmps37 Z (by simp) Z ?_;refine gA Z (zp (RT hS hb A) ?_);refine zE Z Z (fun B=>?_) fun B=>?_
  .cases B
  refine gA Z (zp (c24 p hb) ?_);exact zU Z
 have hf:=Fv A;have J:p.rules.length<=1000000000:=hb.2.1;rw[gP,be (by simpa using A)];refine ah ab func37 Z (by decide) ntmps37 Z (by simp) Z ?_;refine gA Z (zp (RR hS hb A) ?_);refine zJ Z Z (fun B=>?_) fun B=>?_
 .cases B
 refine gA Z (mF [] (RQ hS hf (G8 hs)) Z Z Z Z Z Z Z ?_);rintro r Y n' ⟨m,hR,rfl,rfl,rfl⟩;refine⟨_,rfl,?_⟩;have I:p.rules.map (jY m)=p.rules.map (y4 p):=Yj fun r hr=>HA hf hR hr;rw[<-I]
 have y: ∀i,i<p.rules.length->(p.rules.map (jY m)).getD i co=jY m (p.rules.getD i co):=fun i hi=>by
  rw[W2,W9,W5 hi,W2,W5 hi];rfl
 have j:(p.rules.map (jY m)).length=p.rules.length:=Xw _;refine gA Z ?_;refine aN 0 p.rules.length (Xc _) (fun i=>⟨[(1,.ptr 0 0),(2,.ptr 1 0),(5,.iv (BW m)),(21,.iv (aT 5 p.rules aw.c)),(22,pI p.rules.length),(23,pI i)],[(0,io (ax p.c)),(1,io (ax gF.z.c))],2⟩) (fun i=>((p.rules.map (jY m)).take i).any (fun d=>lc (d.1≠0))=kw) [] (by simp)
  (zW (zK (zK trivial))) fun i hi D=>?_
 refine zJ Z Z (fun h1=>?_) fun h1=>?_
 .have h1:i<p.rules.length:=by simpa using h1
  have x:=hb.2.2 _ (mH h1);have G:=y i h1;refine gA Z (zp (RK m (p.rules.getD i co) x.1) ?_);refine zJ Z Z (fun u=>?_) fun u=>?_
  .have u: ¬(jY m (p.rules.getD i co)).1=0:=by simpa using u
   rw[oU D (by rw[j];exact h1) (by rw[G];exact decide_eq_true u),G];exact zU Z
  .have u:(jY m (p.rules.getD i co)).1=0:=by simpa using u
   refine gA Z ⟨h1,(c7 D (by rw[j];exact h1)).2 (by rw[G];simpa using u),[],zW (zK (zK ac))⟩
 .have h1:p.rules.length<=i:=by simpa using h1
  rw[mJ (any_none D (by rw[j];exact h1))];exact zU Z
end Go.Proofs.YtlmhfgbkchnfbaaGreatDoor
namespace Go.Proofs.YtlmhfgbkchnfbaaGreatDoor
open Go Go.Al Go.Proofs.Tryz Go.Bo
section
theorem V2(hS:fJ)(p:Prog)(hb:p.fit)(hs:p.size<=10000000)(h0:(gP p).1=0):bh prog 18 [ag p.c] [] (.a7 [.ptr 1 0,pI 0]) (bH p 0 []) 2:=by
 refine ak ab func18 Z (by decide) ntmps18 Z (by simp) ?_;refine gA Z (aF (It hS p hb hs) Z Z Z Z Z Z ?_);refine gA Z ?_;refine W0 (fun j=>?_) (fun j=>?_)
 .exact absurd h0 (by simpa using j)
 refine gA Z (aF (Ih p (by omega)) Z Z Z Z Z Z ?_);refine gA Z (ar [1,2] (by first|exact .inr Z|exact .inl Z) Z (wk Z Z Z ⟨.of_eq Z,rfl,ac⟩ (SC Z JT Z ⟨⟨_,rfl,.of_eq Z⟩,WY Z,rfl,ac⟩) Z))
abbrev DG(p:Prog)(S:List Fact)(l:List (b3 Fact)):PV:= .a7 [.iv (aT 3 (if ir aU (okF p) S l=0 then dM aU S l else[]) fN),pI (ir aU (okF p) S l)]
theorem Gt{p:Prog}{S:List Fact}{l:List (b3 Fact)}(h:ir aU (okF p) S l=0):(((mapOf (ct S l)).map (·.2)).Perm (dM aU S l))∧xe aU (dM aU S l)∧(∀x∈dM aU S l,x.2.args.length<=1000000000)∧(dM aU S l).length<=100000000:=by
 have j:=kC.1 h;refine⟨?_,po pg S l,fun x u=>?_,by have:=HQ (c:=aU) S l;omega⟩
 .rw[Yb];have:(Prod.snd ∘ fun x:b3 Fact=>(cE x.2,x))=id:=rfl;rw[this,List.map_id];exact nE pg S l
 .have:x.2.args.length<=8:=iT (j.2.1 _ (iD ((jK pg (a:=x.1) (f:=x.2)).1 u).1));omega
section
variable (p:Prog) (n:Nat) {m:FM} {S:List Fact} (l:List (b3 Fact)) (hb:p.aG.length<=1000000000) (hk:b4 cE m S) (hS:Go.Bo.ef aU (okF p) S) (hF: ∀x∈l,x.2.args.length<=1000000000)
include hb hk hS hF
end
theorem R0(p:Prog)(n:Nat)(m:FM):bh prog 23 [.ptr 1 0] (bO p n m) (.ptr 3 0) [(0,io (bt m)),(1,io (b8 p n 0)),(2,io (bt m)),(3,io (b8 p n 2))] 4:=by
 refine ak ab func23 Z (by decide) ntmps23 Z (by simp) ?_;refine gA Z ?_;refine W0 (fun j=>?_) (fun j=>?_)
 .exact absurd j (by decide)
 refine gA Z (bf ab [0] (Kj (o:=bt m) SV (bg func44 Z (by decide)) Z) Z Z Z Z Z Z Z Z Z Z Z Z (by(repeat' (first|exact ac|exact rfl|exact ae.refl _|exact ae.bk (by assumption)|apply W0))<;>first|omega|(simp only[W6];omega)|(simp;done)|(simp;omega)) Z (by(repeat' (first|exact ac|exact rfl|exact ae.refl _|exact ae.bk (by assumption)|apply W0))<;>first|omega|(simp only[W6];omega)|(simp;done)|(simp;omega)) ?_);refine gA Z (ar [2,3] (by first|exact .inr Z|exact .inl Z) Z (wk Z Z Z ⟨.of_eq Z,rfl,ac⟩ (hM Z Z Z ⟨⟨_,rfl,.of_eq Z⟩,WY Z,rfl,hM Z Z Z ⟨⟨_,rfl,.of_eq Z⟩,WY Z,rfl,ac⟩⟩) Z))
end
section
def Bb(m:FM)(x:b3 Fact):FM:=if x.1=jp then cS kF m (cE x.2) x.2 else lq kF m (cE x.2)
def H4(S:List Fact)(x:b3 Fact):List Fact:=if x.1=jp then x.2::S else S.erase x.2
def nX(m:FM)(M:CM):List Nat->FM
 | []=>m
 |j::vs=>Bb (nX m M vs) (mN M j)
def l4(S:List Fact)(M:CM):List Nat->List Fact
 | []=>S
 |j::vs=>H4 (l4 S M vs) (mN M j)
section
variable {S:List Fact} {T:List (b3 Fact)}
theorem D7{j:Nat}(hj:j<T.length): ∃x,T[j]? =io x∧mN (mapOf T) j=x:=by
 refine⟨T[j],W5 hj,?_⟩;unfold mN mapOf;rw[W2,W9,W5 hj];rfl
structure VE (S:List Fact) (T:List (b3 Fact)):Prop where
 nd:(T.map (·.2)).Nodup
 VJ: ∀x∈T,lc (x.2∈S)≠x.1
 s8: ∀f∈S,f.args.length<=8
 t8: ∀x∈T,x.2.args.length<=8
theorem VE.one(h:VE S T){i j:Nat}{x y:b3 Fact}(hi:T[i]? =io x)(hj:T[j]? =io y)(e:x.2=y.2):i=j:=by
 have G:=Yl.1 h.nd;obtain⟨A,u⟩:=W4.1 hi;obtain⟨D,B⟩:=W4.1 hj;rcases Zd i j with g|g|g
 .exact absurd (by rw[YN,YN,u,B];exact e) (G i j (by simpa using A) (by simpa using D) g)
 .exact g
 .exact absurd (by rw[YN,YN,u,B];exact e.symm) (G j i (by simpa using D) (by simpa using A) g)
theorem rn(h:VE S T)(hS:S.Nodup): ∀{vs:List Nat},vs.Nodup->(∀j∈vs,j<T.length)->(l4 S (mapOf T) vs).Nodup∧ ∀f,f∈l4 S (mapOf T) vs↔(∃j∈vs,T[j]? =io (jp,f))∨(f∈S∧ ¬ ∃j∈vs,T[j]? =io (kw,f))
 | [],_,_=>⟨hS,fun f=>by simp[l4]⟩
 |j::vs,hn,hv=>by
  rw[XN]at hn;obtain⟨i1,i2⟩:=rn h hS hn.2 fun i hi=>hv i (Xi _ hi);obtain⟨x,y,G⟩:=D7 (hv j (Xk ..));have D:=h.VJ x (XE y);have u: ∀i∈vs,∀b,T[i]? ≠io (b,x.2):=fun i hi b e=>hn.1 ((h.one e y Z)▸hi);simp only[l4,G,H4];obtain⟨b,g⟩:=x
  cases b with
  |true=>
   simp only[if_true];have A:g∉S:=fun m=>D (decide_eq_true m)
   have B:g∉l4 S (mapOf T) vs:=fun m=>by
    rcases(i2 g).1 m with⟨i,hi,e⟩|⟨m2,_⟩
    .exact u i hi jp e
    .exact A m2
   refine⟨XN.2 ⟨B,i1⟩,fun f=>?_⟩;rw[Xm,i2];constructor
   .rintro(rfl|⟨i,hi,e⟩|⟨m,k⟩)
    .exact .inl ⟨j,Xk ..,y⟩
    .exact .inl ⟨i,Xi _ hi,e⟩
    .refine .inr ⟨m,?_⟩;rintro⟨i,hi,e⟩;rcases Xm.1 hi with rfl|hi
     .rw[y]at e;cases e
     .exact k ⟨i,hi,e⟩
   .rintro(⟨i,hi,e⟩|⟨m,k⟩)
    .rcases Xm.1 hi with rfl|hi
     .rw[y]at e;cases e;exact .inl Z
     .exact .inr (.inl ⟨i,hi,e⟩)
    .exact .inr (.inr ⟨m,fun⟨i,hi,e⟩=>k ⟨i,Xi _ hi,e⟩⟩)
  |false=>
   simp only[YQ,if_false];refine⟨i1.erase g,fun f=>?_⟩;rw[i1.mem_erase_iff,i2];constructor
   .rintro⟨hne,⟨i,hi,e⟩|⟨m,k⟩⟩
    .exact .inl ⟨i,Xi _ hi,e⟩
    .refine .inr ⟨m,?_⟩;rintro⟨i,hi,e⟩;rcases Xm.1 hi with rfl|hi
     .rw[y]at e;cases e;exact hne Z
     .exact k ⟨i,hi,e⟩
   .rintro(⟨i,hi,e⟩|⟨m,k⟩)
    .rcases Xm.1 hi with rfl|hi
     .rw[y]at e;cases e
     .refine⟨?_,.inl ⟨i,hi,e⟩⟩;rintro rfl;exact u i hi jp e
    .refine⟨?_,.inr ⟨m,fun⟨i,hi,e⟩=>k ⟨i,Xi _ hi,e⟩⟩⟩;rintro rfl;exact k ⟨j,Xk ..,y⟩
theorem uo{m:FM}(hk:b4 cE m S)(h:VE S T)(hS:S.Nodup): ∀{vs:List Nat},vs.Nodup->(∀j∈vs,j<T.length)->b4 cE (nX m (mapOf T) vs) (l4 S (mapOf T) vs)∧ ∀f∈l4 S (mapOf T) vs,f.args.length<=8
 | [],_,_=>⟨hk,h.s8⟩
 |j::vs,hn,hv=>by
  have A:=XN.1 hn;obtain⟨J,G⟩:=uo hk h hS A.2 fun i hi=>hv i (Xi _ hi);have hm:=(rn h hS A.2 fun i hi=>hv i (Xi _ hi)).2;obtain⟨x,I,Y⟩:=D7 (hv j (Xk ..));have B:=XE I;have D:=h.VJ x B;have y: ∀u∈l4 S (mapOf T) vs,cE u=cE x.2->u=x.2:=fun u hu e=>rZ (G u hu) e;simp only[nX,l4,Y,Bb,H4];by_cases hb:x.1=jp
  .rw[am hb,am hb];refine⟨J.put y fun m2=>?_,fun f hf=>?_⟩
   .rcases(hm x.2).1 m2 with⟨i,hi,e⟩|⟨m3,_⟩
    .exact A.1 (h.one e I Z▸hi)
    .exact D (by rw[hb];exact decide_eq_true m3)
   .rcases Xm.1 hf with rfl|hf
    .exact h.t8 x B
    .exact G f hf
  .rw[be hb,be hb];exact⟨J.del y,fun f hf=>G f (List.mem_of_mem_erase hf)⟩
end
theorem JZ{p:Prog}{S:List Fact}{l:List (b3 Fact)}(hS:Go.Bo.ef aU (okF p) S)(h:ir aU (okF p) S l=0):VE S (ct S l):=by
 have y:(ct S l).Perm (dM aU S l):=nE pg S l;have A:=kC.1 h;have u: ∀x∈ct S l,dT l x.2=io x.1∧lc (x.2∈S)≠x.1:=fun x j=>(jK pg (a:=x.1) (f:=x.2)).1 (y.mem_iff.1 j);exact⟨((y.map (·.2)).nodup_iff).2 ((xe.facts (po pg S l)).nodup pg),fun x j=>(u x j).2,fun f hf=>iT (hS.ok f hf),fun x j=>iT (A.2.1 _ (iD (u x j).1))⟩
theorem Hq{p:Prog}{m:FM}{S:List Fact}{l:List (b3 Fact)}(hk:b4 cE m S)(hS:Go.Bo.ef aU (okF p) S)(h:ir aU (okF p) S l=0){vs:List Nat}(A:vs.Nodup)(v2: ∀j∈vs,j<(ct S l).length)(v3: ∀j,j<(ct S l).length->j∈vs):
  b4 cE (nX m (mapOf (ct S l)) vs) (ff aU S l):=by
 have x:=JZ hS h;have u:=hS.zg.nodup pg;have B:(ct S l).Perm (dM aU S l):=nE pg S l;obtain⟨D,_⟩:=uo hk x u A v2;obtain⟨I,J⟩:=rn x u A v2;refine D.perm ((YJ I ((rB pg S l).nodup pg)).2 fun f=>?_);have hT: ∀b:Bool,(∃j∈vs,(ct S l)[j]? =io (b,f))↔dT l f=io b∧lc (f∈S)≠b:=fun b=>by
  rw[<-jK pg,<-B.mem_iff];constructor
  .rintro⟨j,_,e⟩;exact XE e
  .intro G;obtain⟨j,y⟩:=XU G;exact⟨j,v3 j (W4.1 y).1,y⟩
 rw[J,rU pg,hT,hT];cases e:dT l f with
 |none=>simp
 |some b=>cases b<;>by_cases g:f∈S<;>simp[g]
theorem Dp(p:Prog)(n:Nat){m:FM}{S:List Fact}(l:List (b3 Fact))(hb:p.aG.length<=1000000000)(hk:b4 cE m S)(hS:Go.Bo.ef aU (okF p) S)(hF: ∀x∈l,x.2.args.length<=1000000000)(hn:n<=1000000000000):
  Al.Fn prog 25 [.ptr 1 0,.iv (aT 3 l fN)] (bO p n m) fun r h k=> ∃m',b4 cE m' (ke aU (okF p) (S,n) l).1∧r=DG p S l∧h=bH p (ke aU (okF p) (S,n) l).2 m'∧k=2:=by
 have h1:=V3 p n l hb hk hS hF;by_cases u:ir aU (okF p) S l=0;rotate_left
 .rw[uL Z u]at h1;have e:DG p S l= .a7 [.iv (aT 3 [] fN),pI (ir aU (okF p) S l)]:=by unfold DG;rw[be u]
  have e2:ke aU (okF p) (S,n) l=(S,n):=by unfold ke;rw[be u]
  rw[e,e2];refine lW ab func25 Z (by decide) ntmps25 Z (by simp) ?_;refine gA Z (ai [0,1] (h1) Z Z Z Z Z Z Z Z ?_);refine gA Z ?_;refine W0 (fun Y=>?_) (fun Y=>?_);rotate_left
  .exact absurd (by simpa using Y) u
  refine gA Z (dC [] (.inr Z) Z ⟨m,hk,rfl,rfl,rfl⟩ (wk Z Z Z ⟨.a7 ⟨.nil _ _,.refl _,ac⟩,rfl,ac⟩ (hM Z Z Z ⟨⟨_,rfl,.of_eq Z⟩,WY Z,rfl,ac⟩) Z))
 obtain⟨q1,q2,q3,q4⟩:=Gt u;have d0:=q1.length_eq;rw[Xw,Xw]at d0;rw[E4 u]at h1;have e:DG p S l= .a7 [.iv (aT 3 (dM aU S l) fN),pI 0]:=by unfold DG;rw[am u,u]
 have e2:ke aU (okF p) (S,n) l=(ff aU S l,n+1):=by unfold ke;rw[am u]
 rw[e,e2];have b0: ∀x∈ct S l,x.2.args.length<=8:=(JZ hS u).t8;refine lW ab func25 Z (by decide) ntmps25 Z (by simp) ?_;refine gA Z (ai [0,1] (h1) Z Z Z Z Z Z Z Z ?_);refine gA Z ?_;refine W0 (fun Y=>?_) (fun Y=>?_)
 .exact absurd Y (by decide)
 refine gA Z ?_;refine gk (mapOf (ct S l)) (fun vs=>⟨[(0,.ptr 1 0),(6,.iv (CH (mapOf (ct S l)))),(20,.ptr 2 0)],[(0,io (bt (nX m (mapOf (ct S l)) vs))),(1,io (b8 p n 0)),(2,io (.bY kF CI (mapOf (ct S l)) vs is))],3⟩) (fun vs=>vs.Nodup∧ ∀j∈vs,j<(mapOf (ct S l)).length) [] ⟨XY,by simp⟩
  (wk Z Z Z (bi (bi (bi trivial))) (hM Z Z Z ⟨⟨_,rfl,.of_eq Z⟩,WY Z,rfl,hI Z Z (.inl Z) Z trivial⟩) Z) fun vs hJ=>?_
 obtain⟨v1,v2⟩:=hJ;refine gl Z ac (dX Z Z Z Z Z (by decide) (fun G=>?_) fun j x B D=>?_)
 .have c0:=Hq hk hS u v1 (fun j D=>by have:=v2 j D;rwa[Xw]at this) (fun j D=>G j (by rwa[Xw]));refine gA Z (aF (Uq q1 q2 q3 q4) Z Z Z Z Z Z ?_);refine gA Z (dC [] (.inr Z) Z ⟨_,c0,rfl,rfl,rfl⟩ (wk Z Z Z (bi ac) (hM Z Z Z ⟨⟨_,rfl,.of_eq Z⟩,WY Z,rfl,ac⟩) Z))
 .have g0:x.2=mN (mapOf (ct S l)) j:=by rw[mN,W2,B];rfl
  have a0: ∀A,A=j::vs->A.Nodup∧ ∀i∈A,i<(mapOf (ct S l)).length:=fun A e=>e▸⟨XN.2 ⟨D,v1⟩,fun i hi=>(Xm.1 hi).elim (fun h=>h▸(W4.1 B).1) (v2 i)⟩;have I:=(W4.1 B).1;rw[Xw]at I;obtain⟨y,hy,f0⟩:=D7 I
  have e0:x=(cE y.2,y):=by
   have:(mapOf (ct S l))[j]? =io (cE y.2,y):=by unfold mapOf;rw[W9,hy];rfl
   rw[this]at B;exact(X4 B).symm
  subst e0;have i0:=b0 y (XE hy);have J:nX m (mapOf (ct S l)) (j::vs)=Bb (nX m (mapOf (ct S l)) vs) y:=by rw[nX,f0]
  refine gA Z ?_;refine W0 (fun g1=>?_) (fun g1=>?_)
  .have g1:y.1=jp:=g1;refine gA Z (bf ab [] (Pure.nS (nf y.2 (by omega))) Z Z Z Z Z Z Z Z Z Z Z Z (by(repeat' (first|exact ac|exact rfl|exact ae.refl _|exact ae.bk (by assumption)|apply W0))<;>first|omega|(simp only[W6];omega)|(simp;done)|(simp;omega)) Z (by(repeat' (first|exact ac|exact rfl|exact ae.refl _|exact ae.bk (by assumption)|apply W0))<;>first|omega|(simp only[W6];omega)|(simp;done)|(simp;omega)) ?_);refine gl Z ?_ ?_
   .repeat' (first|exact ac|exact rfl|exact JV _|exact ae.refl _|apply W0)
   exact⟨j,_,B,D,a0 _ Z,[],wk Z Z Z (bi (bi (bi ac))) (hM Z (by rw[J,Bb,am g1];exact congrArg (cS kF (nX m (mapOf (ct S l)) vs) (cE y.2)) (J0 y.2)) Z ⟨⟨_,rfl,.of_eq Z⟩,WY Z,rfl,hI Z Z (.inr Z) Z ac⟩) Z⟩
  .have g1:y.1=kw:=g1;refine gA Z ⟨j,_,B,D,a0 _ Z,[],wk Z Z Z (bi (bi (bi ac))) (hM Z (by rw[J,Bb,be (by rw[g1];decide)];rfl) Z ⟨⟨_,rfl,.of_eq Z⟩,WY Z,rfl,hI Z Z (.inr Z) Z ac⟩) Z⟩
end
section
abbrev Ki:AO:= .cells [kZ]
theorem V6(x y:Fact)(j:x.args.length<=1000000000)(u:y.args.length<=1000000000):bh prog 167 [ag x.c,ag y.c,.ptr 0 0] [Ki] (pB (lc (aU x y=0))) [(0,io Ki)] 1:=by
 refine ak ab func167 Z (by decide) ntmps167 Z (by simp) ?_;refine gA Z (aF (p7 x y j u) Z Z Z Z Z Z ?_);refine gA Z (ar [] (by first|exact .inr Z|exact .inl Z) Z (wk Z Z Z (bi ac) ⟨⟨_,rfl,.of_eq Z⟩,WY Z,rfl,ac⟩ Z))
section
variable {L:List Fact} (hs:rq aU L) (hF:xE L) (hl:L.length<=1000000000)
include hs hF hl
theorem Ir:bh prog 166 [pW L,.cB (.func 167) [] [.ptr 0 0]] [Ki] (pW L) [(0,io Ki)] 1:=by
 refine ak ab func166 Z (by decide) ntmps166 Z (by simp) ?_;refine gA Z ?_;refine W0 (fun y=>?_) (fun y=>?_)
 .refine gA Z (ar [] (by first|exact .inr Z|exact .inl Z) Z (wk Z Z Z (bi ac) ⟨⟨_,rfl,.of_eq Z⟩,WY Z,rfl,ac⟩ Z))
 refine gA Z ?_;refine aN 1 (max 1 L.length) (Nat.le_max_left _ _) (fun i=>⟨[(0,pW L),(1,.cB (.func 167) [] [.ptr 0 0]),(5,pI i)],[(0,io Ki)],1⟩) (fun i=>1<=i) [] (W8 _)
  (wk Z Z Z (bi (bi (bi trivial))) ⟨⟨_,rfl,.of_eq Z⟩,WY Z,rfl,ac⟩ Z) fun i hi A=>?_
 refine gA Z ?_;refine W0 (fun h1=>?_) (fun h1=>?_)
 .have h1:i<L.length:=by simpa using h1
  have e:((i:Int)-1).toNat=i-1:=by omega
  refine gA Z (bf ab [0] (V6 (L.getD i co) (L.getD ((i:Int)-1).toNat co) (hF.at (by omega)) (hF.at (by omega))) Z Z Z Z Z Z Z Z Z Z Z Z (by(repeat' (first|exact ac|exact rfl|exact ae.refl _|exact ae.bk (by assumption)|apply W0))<;>first|omega|(simp only[W6];omega)|(simp;done)|(simp;omega)) Z (by(repeat' (first|exact ac|exact rfl|exact ae.refl _|exact ae.bk (by assumption)|apply W0))<;>first|omega|(simp only[W6];omega)|(simp;done)|(simp;omega)) ?_);refine gA Z ?_;refine W0 (fun j=>?_) (fun j=>?_)
  .have j:aU (L.getD i co) (L.getD ((i:Int)-1).toNat co)=0:=of_decide_eq_true j;rw[e]at j;have x:=(Yl.1 hs) (i-1) i (by omega) h1 (by omega);have u:=(pg.eq _ _).1 j;rw[W2,W2,W5 h1,W5 (by omega:i-1<L.length)]at u;have u:L[i]=L[i-1]:=u;rw[u]at x;exact absurd x (pg.Sz _)
  .refine gA Z ?_;exact⟨by omega,by omega,[],wk Z Z Z (bi (bi (bi ac))) ⟨⟨_,rfl,.of_eq Z⟩,WY Z,rfl,ac⟩ Z⟩
 .refine gA Z (ar [] (by first|exact .inr Z|exact .inl Z) Z (wk Z Z Z (bi ac) ⟨⟨_,rfl,.of_eq Z⟩,WY Z,rfl,ac⟩ Z))
omit hs hF in
theorem UP:Pure prog 165 [pW L] (pW L):=by
 refine ah ab func165 Z (by decide) ntmps165 Z (by simp) Z ?_;refine gA Z (aM (by first|exact .inr Z|exact .inl Z) Z ?_);exact .bI (by simp) (fun k _=>rfl)
theorem EG:Pure prog 118 [pW L,kZ] (pW L):=by
 refine ah ab func118 Z (by decide) ntmps118 Z (by simp) Z ?_;refine gA Z (aF (MJ L (by omega)) Z Z Z Z Z Z ?_);refine gA Z (aF (Ib (Tw hs) hF (by omega)) Z Z Z Z Z Z ?_);refine gA Z (ai [0] (Ir hs hF hl) Z Z Z Z Z Z Z Z ?_);refine gA Z (aF (UP hl) Z Z Z Z Z Z ?_);refine gA Z (aM (by first|exact .inr Z|exact .inl Z) Z (.of_eq ?_));rfl
end
def SM:List Fact->List Fact->Int
 | [],_=>1
 |_::_,[]=> -1
 |x::_,y::_=>aU x y
theorem Dk: ∀(A B:List Fact) (D:xE A) (G:xE B),Pure prog 119 [pW A,pW B] (pI (SM A B))
 | [],B,_,_=>by
  refine ah ab func119 Z (by decide) ntmps119 Z (by simp) Z ?_;refine gA Z ?_;refine W0 (fun j=>?_) (fun j=>?_)
  .refine gA Z (aM (by first|exact .inr Z|exact .inl Z) Z (.of_eq ?_));rfl
  .exact absurd j (by simp)
 |x::A,[],_,_=>by
  refine ah ab func119 Z (by decide) ntmps119 Z (by simp) Z ?_;refine gA Z ?_;refine W0 (fun j=>?_) (fun j=>?_)
  .exact absurd j (by simp;omega)
  refine gA Z ?_;refine W0 (fun u=>?_) (fun u=>?_)
  .refine gA Z (aM (by first|exact .inr Z|exact .inl Z) Z (.of_eq ?_));rfl
  .exact absurd u (by simp)
 |x::A,y::B,D,G=>by
  refine ah ab func119 Z (by decide) ntmps119 Z (by simp) Z ?_;refine gA Z ?_;refine W0 (fun j=>?_) (fun j=>?_)
  .exact absurd j (by simp;omega)
  refine gA Z ?_;refine W0 (fun u=>?_) (fun u=>?_)
  .exact absurd u (by simp;omega)
  refine gA Z (bf ab [] (Pure.nS (p7 x y (D x (Xk ..)) (G y (Xk ..)))) Z Z Z Z Z Z Z Z Z Z Z Z (by(repeat' (first|exact ac|exact rfl|exact ae.refl _|exact ae.bk (by assumption)|apply W0))<;>first|omega|(simp only[W6];omega)|(simp;done)|(simp;omega)) Z (by(repeat' (first|exact ac|exact rfl|exact ae.refl _|exact ae.bk (by assumption)|apply W0))<;>first|omega|(simp only[W6];omega)|(simp;done)|(simp;omega)) ?_);refine gA Z (aM (by first|exact .inr Z|exact .inl Z) Z (.of_eq ?_));rfl
end
theorem mL{x:Fact}{A:List Fact}(h:xE (x::A)):xE A:=fun f hf=>h f (Xi _ hf)
theorem ti(x:Fact)(A:List Fact):ae (.iv (.bI 2 ((x::A).length-(1:Int).toNat) fun k=>(fun k=>Fact.c ((x::A).getD k co)) ((1:Int).toNat+k))) (pW A):=
 .bI (by simp) fun k _=>by
  show Fact.c ((x::A).getD (1+k) co)=_;rw[Nat.add_comm];rfl
abbrev btS(A B:List Fact)(out:List (b3 Fact)):AS:=⟨[(5,pW A),(6,pW B),(7,.sl 1 0 out.length 3)],[(1,io (aS 3 out fN))],2⟩
theorem Iu(A B:List Fact)(hA:rq aU A)(hB:rq aU B)(fA:xE A)(fB:xE B)(lA:A.length<=1000000)(lB:B.length<=1000000):Pure prog 90 [pW A,pW B] (.iv (aT 3 (ep aU A B) fN)):=by
 obtain⟨R,b0⟩: ∃R,R=ep aU A B:=⟨_,rfl⟩
 rw[<-b0];refine ah ab func90 Z (by decide) ntmps90 Z (by simp) Z ?_;refine gA Z (aF (EG hA fA (by omega)) Z Z Z Z Z Z ?_);refine gA Z (aF (EG hB fB (by omega)) Z Z Z Z Z Z ?_);refine gM 6 Z (jz 7 3 Z ?_)
 refine gA Z (iF (σ:={s:List Fact×List Fact×List (b3 Fact)//xE s.1∧xE s.2.1∧R=s.2.2++ep aU s.1 s.2.1∧s.1.length+s.2.1.length+s.2.2.length<=2000000}) (fun s=>btS s.1.1 s.1.2.1 s.1.2.2) (fun s=>s.1.1.length+s.1.2.1.length) ⟨(A,B,[]),fA,fB,b0,by simp;omega⟩ [0]
  (wk Z Z Z (bi (bi (bi ac))) (hR Z Z Z ac) Z) fun s=>?_)
 obtain⟨⟨G,I,a0⟩,j,u,J,D⟩:=s;have j:xE G:=j;have u:xE I:=u;have J:R=a0++ep aU G I:=J;have D:G.length+I.length+a0.length<=2000000:=D;show GO _ _ _ _ (btS G I a0)
 match G,I,j,u,J,D with
 | [],[],j,u,J,D=>
  refine gA Z ?_;refine W0 (fun g1=>?_) (fun g1=>?_);rotate_left
  .exact absurd g1 (by simp)
  refine gA Z ?_;refine W0 (fun g2=>?_) (fun g2=>?_)
  .exact absurd g2 (by simp)
  rw[nq,Xj,XM]at J;subst J;refine gA Z (dD (by first|exact .inr Z|exact .inl Z) Z Z (rfl) (rfl))
 | [],y::I,j,u,J,D=>
  have hy:=u y (Xk ..);have Y:R=(a0++ [(jp,y)])++ep aU [] I:=by rw[J,nq,nq,W7,Xf];rfl
  simp only[Xy,Yg]at D;refine gA Z ?_;refine W0 (fun g1=>?_) (fun g1=>?_);rotate_left
  .exact absurd g1 (by simp)
  refine gA Z ?_;refine W0 (fun g2=>?_) (fun g2=>?_);rotate_left
  .exact absurd g2 (by simp)
  refine gA Z (aF (Dk [] (y::I) j u) Z Z Z Z Z Z ?_);refine gA Z ?_;refine W0 (fun g3=>?_) (fun g3=>?_)
  .exact absurd (of_decide_eq_true g3) (by show¬(1:Int)<0;decide)
  refine gA Z ?_;refine W0 (fun g4=>?_) (fun g4=>?_);rotate_left
  .exact absurd (show(1:Int)>0 by decide) (of_decide_eq_false g4)
  refine gA Z (aF (nf y (by omega)) Z Z Z Z Z Z ?_);refine gA Z ?_;exact⟨⟨([],I,a0++ [(jp,y)]),j,mL u,Y,by simp;omega⟩,[3],by show _<_;simp,wk Z Z Z (bi ⟨ti y I,rfl,.row (by simp),rfl,ac⟩) (Tl Z (by rw[Xg];exact(dG.refl _).app ⟨⟨.kb _,.refl _,.refl _,ac⟩,ac⟩) Z ac) Z⟩
 |x::G,[],j,u,J,D=>
  have hx:=j x (Xk ..);have Y:R=(a0++ [(kw,x)])++ep aU G []:=by rw[J,tU,tU,W7,Xf];rfl
  simp only[Xy,Yg]at D;refine gA Z ?_;refine W0 (fun g1=>?_) (fun g1=>?_)
  .exact absurd g1 (by simp)
  refine gA Z (aF (Dk (x::G) [] j u) Z Z Z Z Z Z ?_);refine gA Z ?_;refine W0 (fun g3=>?_) (fun g3=>?_);rotate_left
  .exact absurd (show(-1:Int)<0 by decide) (of_decide_eq_false g3)
  refine gA Z (aF (nf x (by omega)) Z Z Z Z Z Z ?_);refine gA Z ?_;exact⟨⟨(G,[],a0++ [(kw,x)]),mL j,u,Y,by simp;omega⟩,[3],by show _<_;simp,wk Z Z Z ⟨ti x G,rfl,bi ⟨.row (by simp),rfl,ac⟩⟩ (Tl Z (by rw[Xg];exact(dG.refl _).app ⟨⟨.refl _,.refl _,.refl _,ac⟩,ac⟩) Z ac) Z⟩
 |x::G,y::I,j,u,J,D=>
  have hx:=j x (Xk ..);have hy:=u y (Xk ..);simp only[Xy]at D;rw[BZ]at J;refine gA Z ?_;refine W0 (fun g1=>?_) (fun g1=>?_)
  .exact absurd g1 (by simp)
  refine gA Z (aF (Dk (x::G) (y::I) j u) Z Z Z Z Z Z ?_);refine gA Z ?_;refine W0 (fun g3=>?_) (fun g3=>?_)
  .have g3:aU x y<0:=of_decide_eq_true g3;rw[am g3]at J;have Y:R=(a0++ [(kw,x)])++ep aU G (y::I):=by rw[J,Xf];rfl
   refine gA Z (aF (nf x (by omega)) Z Z Z Z Z Z ?_);refine gA Z ⟨⟨(G,y::I,a0++ [(kw,x)]),mL j,u,Y,by simp;omega⟩,[3],by show _<_;simp,wk Z Z Z ⟨ti x G,rfl,bi ⟨.row (by simp),rfl,ac⟩⟩ (Tl Z (by rw[Xg];exact(dG.refl _).app ⟨⟨.refl _,.refl _,.refl _,ac⟩,ac⟩) Z ac) Z⟩
  have g3: ¬aU x y<0:=of_decide_eq_false g3;rw[be g3]at J;refine gA Z ?_;refine W0 (fun g4=>?_) (fun g4=>?_)
  .have g4:0<aU x y:=of_decide_eq_true g4;rw[am g4]at J;have Y:R=(a0++ [(jp,y)])++ep aU (x::G) I:=by rw[J,Xf];rfl
   refine gA Z (aF (nf y (by omega)) Z Z Z Z Z Z ?_);refine gA Z ⟨⟨(x::G,I,a0++ [(jp,y)]),j,mL u,Y,by simp;omega⟩,[3],by show _<_;simp,wk Z Z Z (bi ⟨ti y I,rfl,.row (by simp),rfl,ac⟩) (Tl Z (by rw[Xg];exact(dG.refl _).app ⟨⟨.kb _,.refl _,.refl _,ac⟩,ac⟩) Z ac) Z⟩
  .have g4: ¬0<aU x y:=of_decide_eq_false g4;rw[be g4]at J;refine gA Z ⟨⟨(G,I,a0),mL j,mL u,J,by simp;omega⟩,[1],by show _<_;simp;omega,wk Z Z Z ⟨ti x G,rfl,ti y I,rfl,bi ac⟩ (hR Z Z Z ac) Z⟩
theorem A0{α:Type}[Inhabited α]{a b:List α}(hl:a.length=b.length)(h: ∀j,j<a.length->a.getD j co=b.getD j co):a=b:=by
 refine Zy hl fun i h1 u=>?_;have:=h i h1;rwa[W2,W2,W5 h1,W5 u]at this
theorem BU{α:Type}[Inhabited α]{a b:List α}{i:Nat}(h: ¬a.getD i co=b.getD i co):a≠b:=fun e=>h (by rw[e])
theorem Dg(a b:List cW)(ha:a.length<=1000000000):Pure prog 60 [.iv (aT 3 a cW.c),.iv (aT 3 b cW.c)] (pB (lc (a=b))):=by
 refine ah ab func60 Z (by decide) ntmps60 Z (by simp) Z ?_;refine gA Z ?_;refine W0 (fun u=>?_) (fun u=>?_)
 .have u: ¬a.length=b.length:=by
   intro e;have g:(!lc ((a.length:Int)=(b.length:Int)))=jp:=u;rw[e]at g;simp at g
  rw[decide_eq_false fun e=>u (by rw[e])];refine gA Z (aM (by first|exact .inr Z|exact .inl Z) Z (.of_eq ?_));rfl
 have u:a.length=b.length:=by
  have g:(!lc ((a.length:Int)=(b.length:Int)))=kw:=u;rw[YR,decide_eq_true_eq]at g;exact Int.ofNat_inj.1 g
 refine gA Z ?_;refine aN 0 a.length (Xc _) (fun i=>⟨[(0,.iv (aT 3 a cW.c)),(1,.iv (aT 3 b cW.c)),(5,pI i)],[],0⟩) (fun i=> ∀j,j<i->a.getD j co=b.getD j co) [] (fun j A=>absurd A (YY j))
  (wk Z Z Z (bi (bi (bi trivial))) trivial Z) fun i hi D=>?_
 refine gA Z ?_;refine W0 (fun h1=>?_) (fun h1=>?_)
 .have h1:i<a.length:=by simpa using h1
  have G:(lc ((a.getD i co).kind=(b.getD i co).kind)&&(lc ((a.getD i co).num=(b.getD i co).num)&&(lc ((a.getD i co).sym=(b.getD i co).sym)&&jp)))=lc (a.getD i co=b.getD i co):=by
   generalize a.getD i co=x;generalize b.getD i co=y;cases x;cases y;simp[cW.mk.injEq]
  refine gA Z ?_;refine W0 (fun B=>?_) (fun B=>?_)
  .have g:(!(lc ((a.getD i co).kind=(b.getD i co).kind)&&(lc ((a.getD i co).num=(b.getD i co).num)&&(lc ((a.getD i co).sym=(b.getD i co).sym)&&jp))))=jp:=B;rw[G]at g;have g: ¬a.getD i co=b.getD i co:=by simpa using g
   rw[decide_eq_false (BU g)];refine gA Z (aM (by first|exact .inr Z|exact .inl Z) Z (.of_eq ?_));rfl
  .have g:(!(lc ((a.getD i co).kind=(b.getD i co).kind)&&(lc ((a.getD i co).num=(b.getD i co).num)&&(lc ((a.getD i co).sym=(b.getD i co).sym)&&jp))))=kw:=B;rw[G]at g;have g:a.getD i co=b.getD i co:=by simpa using g
   refine gA Z ⟨h1,fun j A=>by rcases Y1.1 A with h|h;exact D j h;exact h▸g,[],wk Z Z Z (bi (bi (bi ac))) ac Z⟩
 .have h1:a.length<=i:=by simpa using h1
  rw[decide_eq_true (A0 u fun j A=>D j (by omega))];refine gA Z (aM (by first|exact .inr Z|exact .inl Z) Z (.of_eq ?_));rfl
theorem Gj(a b:Fact)(ha:a.args.length<=1000000000):Pure prog 29 [ag a.c,ag b.c] (pB (lc (a=b))):=by
 have u:lc (a=b)=(lc (a.rel=b.rel)&&lc (a.args=b.args)):=by
  cases a;cases b;simp[Fact.mk.injEq]
 rw[u];refine ah ab func29 Z (by decide) ntmps29 Z (by simp) Z ?_;refine gA Z ?_;refine W0 (fun j=>?_) (fun j=>?_)
 .have j:a.rel=b.rel:=of_decide_eq_true j;refine gA Z (aF (Dg a.args b.args ha) Z Z Z Z Z Z ?_);refine gA Z (aM (by first|exact .inr Z|exact .inl Z) Z (.of_eq ?_));rw[decide_eq_true j,ZD];rfl
 .have j: ¬a.rel=b.rel:=of_decide_eq_false j;refine gA Z (aM (by first|exact .inr Z|exact .inl Z) Z ?_);rw[decide_eq_false j,YW];exact .of_eq Z
theorem vt(a b:List Fact)(hl:a.length<=1000000000)(ha: ∀f∈a,f.args.length<=1000000000):Pure prog 15 [.iv (aT 2 a Fact.c),.iv (aT 2 b Fact.c)] (pB (lc (a=b))):=by
 refine ah ab func15 Z (by decide) ntmps15 Z (by simp) Z ?_;refine gA Z ?_;refine W0 (fun u=>?_) (fun u=>?_)
 .have u: ¬a.length=b.length:=by
   intro e;have g:(!lc ((a.length:Int)=(b.length:Int)))=jp:=u;rw[e]at g;simp at g
  rw[decide_eq_false fun e=>u (by rw[e])];refine gA Z (aM (by first|exact .inr Z|exact .inl Z) Z (.of_eq ?_));rfl
 have u:a.length=b.length:=by
  have g:(!lc ((a.length:Int)=(b.length:Int)))=kw:=u;rw[YR,decide_eq_true_eq]at g;exact Int.ofNat_inj.1 g
 refine gA Z ?_;refine aN 0 a.length (Xc _) (fun i=>⟨[(0,.iv (aT 2 a Fact.c)),(1,.iv (aT 2 b Fact.c)),(5,pI i)],[],0⟩) (fun i=> ∀j,j<i->a.getD j co=b.getD j co) [] (fun j x=>absurd x (YY j))
  (wk Z Z Z (bi (bi (bi trivial))) trivial Z) fun i hi B=>?_
 refine gA Z ?_;refine W0 (fun h1=>?_) (fun h1=>?_)
 .have h1:i<a.length:=by simpa using h1
  have A:(a.getD i co).args.length<=1000000000:=ha _ (by rw[W2,W5 h1];exact XS h1);refine gA Z (bf ab [] (Pure.nS (Gj (a.getD i co) (b.getD i co) A)) Z Z Z Z Z Z Z Z Z Z Z Z (by(repeat' (first|exact ac|exact rfl|exact ae.refl _|exact ae.bk (by assumption)|apply W0))<;>first|omega|(simp only[W6];omega)|(simp;done)|(simp;omega)) Z (by(repeat' (first|exact ac|exact rfl|exact ae.refl _|exact ae.bk (by assumption)|apply W0))<;>first|omega|(simp only[W6];omega)|(simp;done)|(simp;omega)) ?_);refine gA Z ?_;refine W0 (fun y=>?_) (fun y=>?_)
  .have g: ¬a.getD i co=b.getD i co:=by
    have g:(!lc (a.getD i co=b.getD i co))=jp:=y;simpa using g
   rw[decide_eq_false (BU g)];refine gA Z (aM (by first|exact .inr Z|exact .inl Z) Z (.of_eq ?_));rfl
  .have g:a.getD i co=b.getD i co:=by
    have g:(!lc (a.getD i co=b.getD i co))=kw:=y;simpa using g
   refine gA Z ⟨h1,fun j x=>by rcases Y1.1 x with h|h;exact B j h;exact h▸g,[],wk Z Z Z (bi (bi (bi ac))) ac Z⟩
 .have h1:a.length<=i:=by simpa using h1
  rw[decide_eq_true (A0 u fun j x=>B j (by omega))];refine gA Z (aM (by first|exact .inr Z|exact .inl Z) Z (.of_eq ?_));rfl
end Go.Proofs.YtlmhfgbkchnfbaaGreatDoor
namespace Go.Proofs.YtlmhfgbkchnfbaaGreatDoor
open Go Go.Al Go.Bo
section
def nmP:aq:=⟨#[112]⟩
def Vj(n:Int):Fact:=⟨nmP,[⟨1,n,Xb⟩]⟩
section
variable {ok:Fact->Bool} (hok: ∀n:Int, -1<=n->n<=65536->ok (Vj n)=jp)
include hok
end
def more:List (b3 Fact):=[(jp,Vj 65536),(jp,Vj (-1)),(kw,Vj 0),(kw,Vj 1)]
end
abbrev wV(l:List (b3 Fact)):List IV:=[aT 3 l fN]
theorem wy{p:Prog}{S:List Fact}(h:Go.Bo.ef aU (okF p) S):xE S:=fun f hf=>by have:=iT (h.ok f hf);omega
end Go.Proofs.YtlmhfgbkchnfbaaGreatDoor
namespace Go.Proofs.YtlmhfgbkchnfbaaGreatDoor
open Go Go.Al Go.Proofs.Tryz Go.Bo Go.ChangeShapes Go.WideShapes Go.RowKit
section
theorem SZ:prog.cellsOf 4=1:=by kernel_rfl
theorem Od:prog.cellsOf 43=1:=by kernel_rfl
theorem FH:prog.cellsOf 64=3:=by kernel_rfl
section
variable {H:Type} {enc:TypeId×Value->H} {W:World} {hT:lN W} {sp:Nat->Bool} {held:Bool}
def QC(x:b3 Fact)(d:DataW H):Prop:=x.2.args.length<=bk d
theorem M4(n:Nat):Rd enc prog W hT sp held 4 (fun b=> [.v (.bool b)]) (fun _ _=>True) n:=by
 intro m _ j y h;obtain⟨b,rfl,rfl⟩:=DataW.trod_bool underlying4 h;exact⟨b,.one (.v _),ac⟩
theorem Sa(n:Nat):Rd enc prog W hT sp held 64 fN QC n:=by
 intro m _ D y h;obtain⟨B,k,rfl,rfl,hl,x,hf⟩:=DataW.trod_struct underlying64 h
 match B,x with
 | [x0,x1],_=>
  obtain⟨a,j,_⟩:=M4 (hT:=hT) k k (W8 _) _ _ (mI hf 0 Z Z Z SZ Z);obtain⟨b,u,A⟩:=MX (hT:=hT) k k (W8 _) _ _ (mI hf 1 Z Z Z FI Z);refine⟨(a,b),j.eO (o':=1) Z (u.eO (o':=3) Z (.end_ (hl.trans FH))),?_⟩;simp only[QF,bk]at A;simp only[QC,bk,W7,Xj,Rows.uptoBulk,Rows.uptoBulkAll];omega
theorem MZ(n:Nat):Rd enc prog W hT sp held 43 wV (QL QC) n:=
 (gW (hT:=hT) underlying43 FH (by decide) (fun _=>rfl) (Sa n)).mono (Yw n)
theorem Dz(n:Nat):Rd enc prog W hT sp held 26 (fun l:List (List (b3 Fact))=> [aT 1 l wV]) (QL (QL QC)) n:=
 (gW (hT:=hT) underlying26 Od (by decide) (fun _=>rfl) (MZ n)).mono (Yw n)
end
theorem N8{H:Type}{x:List (b3 Fact)}{d:DataW H}(h:QL QC x d)(hb:bk d<=1048576): ∀y∈x,y.2.args.length<=1000000000:=fun y j=>by
 obtain⟨e,h1,u⟩:=h.all y j;simp only[QC]at h1;omega
theorem Ou{H:Type}{x:List (List (b3 Fact))}{d:DataW H}(h:QL (QL QC) x d)(hb:bk d<=1048576): ∀l∈x,∀y∈l,y.2.args.length<=1000000000:=fun l hl=>by
 obtain⟨e,h1,j⟩:=h.all l hl;exact N8 h1 (by omega)
theorem CV{H:Type}{enc:TypeId×Value->H}{W:World}(hT:lN W){v:Value}{d:DataW H}{p:List MemPlace}(j: ∃base,Value.okWide prog W .any base 26 v)(h:DataW.Trod enc prog W 0 (fun _=>jp) jp 26 v d p):
  ∃x:List (List (b3 Fact)),QL (QL QC) x d∧VR (Mem.qS W hT) Tg (· <0) (.iv (aT 1 x wV)) v:=by
 obtain⟨base,j⟩:=j;obtain⟨a,len,a0,rfl⟩:=okWide_slice underlying26 j;obtain⟨n,y⟩:=h;obtain⟨r,h1,u⟩:=Dz (hT:=hT) n n (W8 _) _ _ y;exact⟨r,u,QM h1⟩
end
end Go.Proofs.YtlmhfgbkchnfbaaGreatDoor
namespace Go.Proofs.YtlmhfgbkchnfbaaGreatDoor
open Go Go.Al Go.Proofs.Tryz
theorem Ip: ∀(n:Nat) (e:Expr),e.size<=n->e.size<=1000000000->Pure prog 126 [ag e.c] (ag e.c)
 |0,e,h,_=>absurd e.size_pos (by omega)
 |n+1,e,h,hb=>by
  have B:=e.size_eq;have A:=Expr.aJ e.args;refine Al.Pure.le (aa:=[ag e.c]) (args:=[ag e.c1]) ?_ ⟨e.DP,ac⟩;by_cases u:e.args=[]
  .refine ah ab func126 Z (by decide) ntmps126 Z (by simp) Z ?_;refine gA Z (aF (EP e.args (by omega)) Z Z Z Z Z Z ?_);refine gA Z (nL (n:=0) ?_);refine gA Z ?_;refine W0 (fun y=>?_) (fun y=>?_)
   .exact absurd y (by simp[u])
   refine gA Z (aM (by first|exact .inr Z|exact .inl Z) Z ?_);exact e.G1
  refine ah ab func126 Z (by decide) ntmps126 Z (by simp) Z ?_;refine gA Z (ai [] (Bk e.args (by omega) u) Z Z Z Z Z Z Z Z ?_);refine gA Z ?_;refine aN 0 e.args.length (Xc _) (fun i=>⟨[(1,.ptr 0 0),(2,.ptr 1 0),(10,pI e.args.length),(11,pI i)],[(0,io (.cells [.iv (iI e.kind),.iv (iS e.var),.iv (iI e.val.kind),.iv (iI e.val.num),.iv (iS e.val.sym),.iv (iI e.op),.sl 2 0 e.args.length 7])),(1,io (.cells [pI 0,pS Xb,pI 0,pI 0,pS Xb,pI 0,.iv (.v (.slice is 0 0))])),(2,io (aS 7 e.args Expr.c))],3⟩) (fun _=>True) [] ac
   (wk Z Z Z (bi (bi (bi (bi trivial)))) ⟨⟨_,rfl,.of_eq Z⟩,WY Z,rfl,⟨⟨_,rfl,.of_eq Z⟩,WY Z,rfl,hR Z (by rw[Yb];exact Yj fun x _=>jx _ _) Z trivial⟩⟩ Z) fun i hi _=>?_
  refine gA Z ?_;refine W0 (fun h1=>?_) (fun h1=>?_)
  .have h1:i<e.args.length:=by simpa using h1
   have D:=Expr.bU e.args i h1;have j:=Ds (g:=fun x=>(Expr.c x).map PV.iv) h1;refine gM 16 Z (kT (p:=ag (e.args.getD i co).c) 7 Z Z Z Z Z Z (dr ab Z Z Z Z j Z) ?_);refine gA Z (bf ab [] (Pure.nS (Ip n (e.args.getD i co) (by omega) (by omega))) Z Z Z Z Z Z Z Z Z Z Z Z (by(repeat' (first|exact ac|exact rfl|exact ae.refl _|exact ae.bk (by assumption)|apply W0))<;>first|omega|(simp only[W6];omega)|(simp;done)|(simp;omega)) Z (by(repeat' (first|exact ac|exact rfl|exact ae.refl _|exact ae.bk (by assumption)|apply W0))<;>first|omega|(simp only[W6];omega)|(simp;done)|(simp;omega)) ?_);refine gA Z (ja ab Z Z Z Z Z (by first|trivial|(repeat' apply W0)<;>trivial) (vk ab Z Z (i:=2) (sz:=7) (q:=0+i) Z Z Z Z (by simp;omega) Z Z Z) Z (by first|trivial|(repeat' apply W0)<;>trivial) ?_);refine gA Z ⟨h1,ac,[],wk Z Z Z (bi (bi (bi (bi ac)))) ⟨⟨_,rfl,.of_eq Z⟩,WY Z,rfl,⟨⟨_,rfl,.of_eq Z⟩,WY Z,rfl,hR Z (Bn (g:=fun x=>(Expr.c x).map PV.iv) h1) Z ac⟩⟩ Z⟩
  .have h1:e.args.length<=i:=by simpa using h1
   refine gA Z (fp (.inr Z) Z (fy.fR 2 e.args Expr.c Z Z (by simp[PV.aZ,aY]) (.done ?_)));have:ae (ag e.c1) (ag e.c):=e.G1;simp only[PV.dK,oh,Xo];exact this
theorem zo(e:Expr)(hb:e.size<=1000000000):Pure prog 126 [ag e.c] (ag e.c):=Ip e.size e (W8 _) hb
mutual
def Lit.bare:Lit->Lit
 | .mk k a op l r f v o b _=> .mk k a op l r f v o (Lit.je b) ⟨0,0⟩
def Lit.je:List Lit->List Lit
 | []=> []
 |x::r=>x.bare::Lit.je r
end
def Lit.WQ(l:Lit):Lit:= .mk l.kind l.atom l.op l.left l.right l.dZ l.bJ l.ky l.az ⟨0,0⟩
theorem Lit.Ox(l:Lit):l.bare= .mk l.kind l.atom l.op l.left l.right l.dZ l.bJ l.ky (Lit.je l.az) ⟨0,0⟩:=by cases l;rw[Lit.bare];rfl
theorem Lit.pM: ∀l:List Lit,Lit.je l=l.map Lit.bare
 | []=>rfl
 |x::r=>by rw[Lit.je,Lit.pM r];rfl
def aw.bare(r:aw):aw:=⟨r.head,Lit.je r.body,⟨0,0⟩⟩
def Decl.bare(d:Decl):Decl:=⟨d.name,d.types,⟨0,0⟩⟩
def Prog.bare(p:Prog):Prog:=⟨p.aG.map Decl.bare,p.rules.map aw.bare⟩
def fR(l:List Lit)(i:Nat):List Lit:=(l.take i).map Lit.bare++l.drop i
abbrev cL(x:Lit):List PV:=(Lit.c x).map PV.iv
theorem R6(l:List Lit):fR l 0=l:=by simp[fR]
theorem Iw{l:List Lit}{i:Nat}(h:l.length<=i):fR l i=Lit.je l:=by
 rw[fR,Xh h,List.drop_eq_nil_of_le h,XM,Lit.pM]
theorem MN{l:List Lit}{i:Nat}(h:i<l.length):((fR l i).map cL)[0+i]? =io (cL (l.getD i co)):=by
 rw[Xo,W9,fR,Xl (by simp;omega)];simp only[Xw,XA,XW];rw[show i+(i-min i l.length)=i by omega,W5 h,W2,W5 h];rfl
theorem RI{es:List (List PV)}{i:Nat}{r r2:List PV}(h:es[0+i]? =io r):(es.set (0+i) r2)[0+i]? =io r2:=by
 rw[YP,am Z,am (W4.1 h).1]
theorem Gr{l:List Lit}{i:Nat}(h:i<l.length)(r:List PV):(((fR l i).map cL).set (0+i) r).set (0+i) (cL (l.getD i co).bare)=(fR l (i+1)).map cL:=by
 rw[List.set_set,Xo];have j:fR l i=(l.take i).map Lit.bare++(l.getD i co::l.drop (i+1)):=by
  rw[fR,W2,W5 h];show _++l.drop i=_++(l[i]::_)
  rw[YO h]
 have u:fR l (i+1)=(l.take i).map Lit.bare++((l.getD i co).bare::l.drop (i+1)):=by
  rw[fR,bT h,Xg,Xf];rfl
 rw[j,u,Xg,Xg,List.set_append_right _ _ (by simp;omega)];simp only[Xw,XA,W7];rw[show i-min i l.length=0 by omega];rfl
theorem EK{y:IV}(A:jW (lits []) y):Pure prog 95 [.iv (lits [])] (.iv y):=by
 refine ah ab func95 Z (by decide) ntmps95 Z (by simp) Z ?_;refine gA Z (aF (EN [] (by simp)) Z Z Z Z Z Z ?_);refine gA Z (nL (n:=0) ?_);refine gA Z ?_;refine W0 (fun j=>?_) (fun j=>?_)
 .exact absurd j (by simp)
 refine gA Z (aM (by first|exact .inr Z|exact .inl Z) Z ?_);exact .iv (fun M x u=>A M x u)
set_option maxHeartbeats 2000000 in
theorem RV: ∀(n:Nat) (l:List Lit) (y:IV),Lit.aE l<=n->Lit.aE l<=1000000000->jW (lits (Lit.je l)) y->Pure prog 95 [.iv (lits l)] (.iv y):=by
 intro n
 induction n with
 |zero=>
  intro l y h hb G;have hl:=Lit.aJ l;have D:l=[]:=Yv.1 (by omega);subst D;exact EK G
 |succ n ih=>
  intro l y h hb G;have hl:=Lit.aJ l;by_cases I:l=[]
  .subst I;exact EK G
  refine ah ab func95 Z (by decide) ntmps95 Z (by simp) Z ?_;refine gA Z (ai [] (Bj l (by omega) I) Z Z Z Z Z Z Z Z ?_);refine gA Z ?_;refine aN 0 l.length (Xc _) (fun i=>⟨[(0,.iv (lits l)),(3,.sl 0 0 l.length 30),(9,pI l.length),(10,pI i)],[(0,io (.row 30 ((fR l i).map cL)))],1⟩) (fun _=>True) [] ac
   (wk Z Z Z (bi (bi (bi (bi trivial)))) (hR (l:=fR l 0) Z (by rw[R6,Yb];exact Yj fun x _=>jx _ _) Z trivial) Z) fun i hi _=>?_
  refine gA Z ?_;refine W0 (fun h1=>?_) (fun h1=>?_)
  .have h1:i<l.length:=by simpa using h1
   have Y:=Lit.bU l i h1;have J:=(l.getD i co).size_eq;have j:=MN h1;have u:=Gr h1 (cL (l.getD i co).WQ);generalize(fR l i).map cL=es at j u ⊢;generalize B:(fR l (i+1)).map cL=es2 at u;generalize A:es.set (0+i) (cL (l.getD i co).WQ)=es1 at u;refine gA Z (wj ab es1 Z Z Z Z Z Z j Z Z (by decide) Z A ?_);have j:=RI (r2:=cL (l.getD i co).WQ) j;rw[A]at j;refine gM 8 Z (kS ab Z Z Z Z Z (j) Z Z ?_);refine gA Z (aF (uG (l.getD i co).atom.an (by omega)) Z Z Z Z Z Z ?_);refine gA Z (nM ab Z Z Z Z (i:=0) (q:=0+i) (off:=2) Z Z j Z Z (by decide) Z Z ?_);refine gM 9 Z (kT (p:=ag (l.getD i co).left.c) 6 Z Z Z Z Z Z (dr ab Z Z Z Z j Z) ?_);refine gM 3 Z (kT (p:=ag (l.getD i co).right.c) 11 Z Z Z Z Z Z (dr ab Z Z Z Z j Z) ?_);refine gM 4 Z (kT (p:=ag (l.getD i co).ky.c) 17 Z Z Z Z Z Z (dr ab Z Z Z Z j Z) ?_);refine gA Z (sa ab [11,17] [] (Pure.nS (zo (l.getD i co).left (by omega))) Z Z Z Z Z Z Z Z Z Z Z Z (by(repeat' (first|exact ac|exact rfl|exact ae.refl _|exact ae.bk (by assumption)|apply W0))<;>first|omega|(simp only[W6];omega)|(simp;done)|(simp;omega)) Z (by(repeat' (first|exact ac|exact rfl|exact ae.refl _|exact ae.bk (by assumption)|apply W0))<;>first|omega|(simp only[W6];omega)|(simp;done)|(simp;omega)) ⟨mU ab Z Z Z Z Z Z Z j Z (.refl _),⟨mU ab Z Z Z Z Z Z Z j Z (.refl _),ac⟩⟩ ?_);refine gA Z (sa ab [17] [] (Pure.nS (zo (l.getD i co).right (by omega))) Z Z Z Z Z Z Z Z Z Z Z Z (by(repeat' (first|exact ac|exact rfl|exact ae.refl _|exact ae.bk (by assumption)|apply W0))<;>first|omega|(simp only[W6];omega)|(simp;done)|(simp;omega)) Z (by(repeat' (first|exact ac|exact rfl|exact ae.refl _|exact ae.bk (by assumption)|apply W0))<;>first|omega|(simp only[W6];omega)|(simp;done)|(simp;omega)) ⟨mU ab Z Z Z Z Z Z Z j Z (.refl _),ac⟩ ?_);refine gA Z (bf ab [] (Pure.nS (zo (l.getD i co).ky (by omega))) Z Z Z Z Z Z Z Z Z Z Z Z (by(repeat' (first|exact ac|exact rfl|exact ae.refl _|exact ae.bk (by assumption)|apply W0))<;>first|omega|(simp only[W6];omega)|(simp;done)|(simp;omega)) Z (by(repeat' (first|exact ac|exact rfl|exact ae.refl _|exact ae.bk (by assumption)|apply W0))<;>first|omega|(simp only[W6];omega)|(simp;done)|(simp;omega)) ?_);refine gA Z (ja ab Z Z Z Z Z (by(repeat' (first|exact ac|exact rfl|exact ae.refl _|exact ae.bk (by assumption)|apply W0))<;>first|omega|(simp only[W6];omega)|(simp;done)|(simp;omega)) (gv ab Z Z Z (i:=0) (q:=0+i) (off:=4) Z Z j Z Z (by decide) Z Z) Z (by(repeat' (first|exact ac|exact rfl|exact ae.refl _|exact ae.bk (by assumption)|apply W0))<;>first|omega|(simp only[W6];omega)|(simp;done)|(simp;omega)) ?_);refine gA Z (ja ab Z Z Z Z Z (by(repeat' (first|exact ac|exact rfl|exact ae.refl _|exact ae.bk (by assumption)|apply W0))<;>first|omega|(simp only[W6];omega)|(simp;done)|(simp;omega)) (gv ab Z Z Z (i:=0) (q:=0+i) (off:=11) Z Z j Z Z (by decide) Z Z) Z (by(repeat' (first|exact ac|exact rfl|exact ae.refl _|exact ae.bk (by assumption)|apply W0))<;>first|omega|(simp only[W6];omega)|(simp;done)|(simp;omega)) ?_);refine gA Z (ja ab Z Z Z Z Z (by(repeat' (first|exact ac|exact rfl|exact ae.refl _|exact ae.bk (by assumption)|apply W0))<;>first|omega|(simp only[W6];omega)|(simp;done)|(simp;omega)) (gv ab Z Z Z (i:=0) (q:=0+i) (off:=20) Z Z j Z Z (by decide) Z Z) Z (by(repeat' (first|exact ac|exact rfl|exact ae.refl _|exact ae.bk (by assumption)|apply W0))<;>first|omega|(simp only[W6];omega)|(simp;done)|(simp;omega)) ?_);refine gM 7 Z (kS ab Z Z Z Z Z (j) Z Z ?_);refine gA Z (aF (Al.Pure.le (aa:=[.iv (sD (l.getD i co).az)]) (ih (l.getD i co).az (sD (Lit.je (l.getD i co).az)) (by omega) (by omega) (Ab _)) ⟨.iv (nB _),ac⟩) Z Z Z Z Z Z ?_);refine gA Z (wj ab es2 Z Z Z Z Z Z j Z Z (by decide) Z (by rw[<-u,Lit.Ox];rfl) ?_);refine gA Z ?_;subst B;exact⟨h1,ac,[],wk Z Z Z (bi (bi (bi (bi ac)))) (hR (l:=fR l (i+1)) Z Z Z ac) Z⟩
  .have h1:l.length<=i:=by simpa using h1
   rw[Iw h1];refine gA Z (fp (r0:= .sl 0 0 l.length 30) (.inr Z) Z (fy.fR 0 (Lit.je l) Lit.c Z Z (by simp[PV.aZ,aY,Lit.pM]) (.done ?_)));have e:(Lit.je l).length=l.length:=by rw[Lit.pM,Xw]
   have:ae (.iv (.bI 30 l.length fun k=>Lit.c ((Lit.je l).getD k co))) (.iv y):=by rw[<-e];exact .iv G
   simp only[PV.dK,oh,Xo];exact this
theorem ME(l:List Lit)(hb:Lit.aE l<=1000000000):Pure prog 95 [.iv (lits l)] (.iv (lits (Lit.je l))):=RV _ l _ (W8 _) hb (fun _ _ h=>h)
end Go.Proofs.YtlmhfgbkchnfbaaGreatDoor
namespace Go.Proofs.YtlmhfgbkchnfbaaGreatDoor
open Go Go.Al
theorem UQ(p:Prog)(hb:p.size<=1000000000):Pure Tryz.prog 62 [ag p.c] (ag p.bare.c):=by
 unfold Prog.size at hb;refine ah ab Tryz.func62 Z (by decide) Tryz.ntmps62 Z (by simp) Z ?_;refine gM 9 Z ?_;refine kR 2 0 4 Z Z ?_;refine kR 2 1 5 Z Z ?_;refine gA Z ?_;refine aN 0 p.aG.length (Xc _) (fun i=>⟨[(1,.ptr 0 0),(2,.ptr 1 0),(3,.ptr 2 0),(9,.iv (aT 4 p.aG Decl.c)),(10,pI p.aG.length),(11,pI i)],[(0,io (ax p.c)),(1,io (.cells [.iv (.v (.slice is 0 0)),.iv (.v (.slice is 0 0))])),(2,io (.cells [.sl 5 0 i 4,.sl 4 0 0 5])),(4,io (aS 5 ([]:List aw) aw.c)),(5,io (aS 4 ((p.aG.take i).map Decl.bare) Decl.c))],6⟩) (fun _=>True) [3] ac
  (wk Z Z Z (bi (bi (bi (bi (bi (bi trivial)))))) (hC Z Z Z ⟨⟨_,rfl,.of_eq Z⟩,WY Z,rfl,⟨_,rfl,.of_eq Z⟩,WY Z,rfl,hR Z Z Z (hR Z Z Z trivial)⟩) Z) fun i hi _=>?_
 refine gA Z ?_;refine W0 (fun h1=>?_) (fun h1=>?_)
 .have h1:i<p.aG.length:=by simpa using h1
  have y:((p.aG.take i).map Decl.bare).length=i:=by rw[Xw,XA];omega
  have x:=bT (l:=p.aG) h1;have A:=pn (fun d:Decl=>d.types.length) p.aG i h1;refine gA Z (bf ab [] (Pure.nS (EO (p.aG.getD i co).types (by omega))) Z Z Z Z Z Z Z Z Z Z Z Z (by(repeat' (first|exact ac|exact rfl|exact ae.refl _|exact ae.bk (by assumption)|apply W0))<;>first|omega|(simp only[W6];omega)|(simp;done)|(simp;omega)) Z (by(repeat' (first|exact ac|exact rfl|exact ae.refl _|exact ae.bk (by assumption)|apply W0))<;>first|omega|(simp only[W6];omega)|(simp;done)|(simp;omega)) ?_);refine gA Z ⟨h1,ac,[8],wk Z Z Z (bi (bi (bi (bi (bi (bi ac)))))) (hC Z Z Z ⟨⟨_,rfl,.of_eq Z⟩,WY Z,rfl,⟨⟨_,rfl,.of_eq Z⟩,WY Z,rfl,hR Z Z Z (hR Z (by rw[x,Xg,Xg];rfl) Z ac)⟩⟩) Z⟩
 .have h1:p.aG.length<=i:=by simpa using h1
  have u:i=p.aG.length:=by omega
  subst u;rw[Xh (W8 _)];refine gA Z ?_;refine aN 0 p.rules.length (Xc _) (fun i=>⟨[(1,.ptr 0 0),(2,.ptr 1 0),(3,.ptr 2 0),(28,.iv (aT 5 p.rules aw.c)),(29,pI p.rules.length),(30,pI i)],[(0,io (ax p.c)),(1,io (.cells [.iv (.v (.slice is 0 0)),.iv (.v (.slice is 0 0))])),(2,io (.cells [.sl 5 0 p.aG.length 4,.sl 6 0 i 5])),(5,io (aS 4 (p.aG.map Decl.bare) Decl.c)),(6,io (aS 5 ((p.rules.take i).map aw.bare) aw.c))],7⟩) (fun _=>True) [4] ac
   (wk Z Z Z (bi (bi (bi (bi (bi (bi trivial)))))) (hC Z Z Z ⟨⟨_,rfl,.of_eq Z⟩,WY Z,rfl,⟨⟨_,rfl,.of_eq Z⟩,WY Z,rfl,hR Z Z Z (hR Z Z Z trivial)⟩⟩) Z) fun i hi _=>?_
  refine gA Z ?_;refine W0 (fun j=>?_) (fun j=>?_)
  .have j:i<p.rules.length:=by simpa using j
   have y:((p.rules.take i).map aw.bare).length=i:=by rw[Xw,XA];omega
   have x:=bT (l:=p.rules) j;have A:=pn aw.size p.rules i j;have B:(p.rules.getD i co).size=(p.rules.getD i co).head.an.length+Lit.aE (p.rules.getD i co).body:=rfl;refine gA Z (bf ab [] (Pure.nS (uG (p.rules.getD i co).head.an (by omega))) Z Z Z Z Z Z Z Z Z Z Z Z (by(repeat' (first|exact ac|exact rfl|exact ae.refl _|exact ae.bk (by assumption)|apply W0))<;>first|omega|(simp only[W6];omega)|(simp;done)|(simp;omega)) Z (by(repeat' (first|exact ac|exact rfl|exact ae.refl _|exact ae.bk (by assumption)|apply W0))<;>first|omega|(simp only[W6];omega)|(simp;done)|(simp;omega)) ?_);refine gA Z (bf ab [] (Pure.nS (ME (p.rules.getD i co).body (by omega))) Z Z Z Z Z Z Z Z Z Z Z Z (by(repeat' (first|exact ac|exact rfl|exact ae.refl _|exact ae.bk (by assumption)|apply W0))<;>first|omega|(simp only[W6];omega)|(simp;done)|(simp;omega)) Z (by(repeat' (first|exact ac|exact rfl|exact ae.refl _|exact ae.bk (by assumption)|apply W0))<;>first|omega|(simp only[W6];omega)|(simp;done)|(simp;omega)) ?_);refine gA Z ⟨j,ac,[9],wk Z Z Z (bi (bi (bi (bi (bi (bi ac)))))) (hC Z Z Z ⟨⟨_,rfl,.of_eq Z⟩,WY Z,rfl,⟨⟨_,rfl,.of_eq Z⟩,WY Z,rfl,hR Z Z Z (hR Z (by rw[x,Xg,Xg];rfl) Z ac)⟩⟩) Z⟩
  .have j:p.rules.length<=i:=by simpa using j
   have u:i=p.rules.length:=by omega
   subst u;rw[Xh (W8 _)];refine gA Z (fp (r0:= .agg [.sl 5 0 p.aG.length 4,.sl 6 0 p.rules.length 5]) (.inr Z) Z (fy.fR 5 (p.aG.map Decl.bare) Decl.c Z Z (by simp[PV.aZ,aY]) (fy.fR 6 (p.rules.map aw.bare) aw.c Z Z (by simp[PV.aZ,aY,PV.dK,oh,show Xv 6 5=kw from rfl]) (.done (.of_eq (by simp only[PV.dK,oh,Xo,show Xv 6 5=kw from rfl,show Xv 5 5=jp from rfl,show Xv 6 6=jp from rfl,cond_true,cond_false];show _=PV.agg [PV.iv (.bI 4 (p.aG.map Decl.bare).length fun k=>((List.map Decl.bare p.aG).getD k co).c),PV.iv (.bI 5 (p.rules.map aw.bare).length fun k=>((List.map aw.bare p.rules).getD k co).c)];rw[Xw,Xw]))))))
end Go.Proofs.YtlmhfgbkchnfbaaGreatDoor
namespace Go.En
def iy:Nat->Nat->List UInt8
 |0,n=> [UInt8.ofNat n]
 |f+1,n=>if n<128 then[UInt8.ofNat n] else UInt8.ofNat (n % 128+128)::iy f (n/128)
def enc(n:Nat):List UInt8:=iy 10 n
inductive Res where
 |ok (n k:Nat)
 |short
 |form
def dec:Nat->Nat->List UInt8->Res
 |_,_,[]=> .short
 |i,a,c::r=>if(i=9∧1<c.toNat)∨(0<i∧c.toNat=0) then .form else if c.toNat<128 then .ok (a+c.toNat % 128*128 ^ i) (i+1) else dec (i+1) (a+c.toNat % 128*128 ^ i) r
theorem ve{n:Nat}(h:n<256):(UInt8.ofNat n).toNat=n:=by simp;omega
theorem wG: ∀f n,1<=(iy f n).length∧(iy f n).length<=f+1
 |0,_=>by simp[iy]
 |f+1,n=>by
  unfold iy;split
  .simp
  .have:=wG f (n/128);simp;omega
theorem CE: ∀(f i n a:Nat) (r:List UInt8),i+f=9->(0<i->0<n)->n<2*128 ^ f->dec i a (iy f n++r)= .ok (a+n*128 ^ i) (i+(iy f n).length)
 |0,i,n,a,r,hi,h0,hn=>by
  have x:n<2:=by simpa using hn
  have ht:=ve (n:=n) (by omega);have h1: ¬((i=9∧1<n)∨(0<i∧n=0)):=by
   rintro(⟨_,h⟩|⟨h,u⟩)
   .omega
   .have:=h0 h;omega
  simp only[iy,Xp,Xq,dec,ht,be h1,am (show n<128 by omega),Zl (show n<128 by omega),Xy,Yg]
 |f+1,i,n,a,r,hi,h0,hn=>by
  unfold iy;split
  .rename_i h;have ht:=ve (n:=n) (by omega);have h1: ¬((i=9∧1<n)∨(0<i∧n=0)):=by
    rintro(⟨h3,_⟩|⟨h,u⟩)
    .omega
    .have:=h0 h;omega
   simp only[Xp,Xq,dec,ht,be h1,am h,Zl h,Xy,Yg]
  .rename_i h;have y:=Nat.mod_lt n (show 0<128 by decide);have ht:=ve (n:=n % 128+128) (by omega);have h1: ¬((i=9∧1<n % 128+128)∨(0<i∧n % 128+128=0)):=by rintro(⟨h3,_⟩|⟨_,u⟩)<;>omega
   have j:n/128<2*128 ^ f:=by
    rw[aaj (by decide)]
    calc n<2*128 ^ (f+1):=hn
     _=2*128 ^ f*128:=by rw[ZO,aas]
   simp only[Xp,dec,ht,be h1,be (show¬n % 128+128<128 by omega),Xy];rw[CE f (i+1) (n/128) _ r (by omega) (fun _=>by omega) j];have e:(n % 128+128) % 128=n % 128:=by omega
   rw[e];congr 1
   .have u:n=n % 128+n/128*128:=by omega
    rw[ZO]
    calc a+n % 128*128 ^ i+n/128*(128 ^ i*128)=a+(n % 128+n/128*128)*128 ^ i:=by rw[XT,aas (n/128) 128,ZM (128 ^ i) 128,Yf]
     _=a+n*128 ^ i:=by rw[<-u]
   .omega
theorem Aq{n:Nat}(h:n<2 ^ 64)(r:List UInt8):dec 0 0 (iy 9 n++r)= .ok n (iy 9 n).length:=by
 have:=CE 9 0 n 0 r Z (fun h=>absurd h (by decide)) (by rw[show 2*128 ^ 9=2 ^ 64 by decide];exact h);simpa using this
theorem yK: ∀(f n:Nat),n<128 ^ (f+1)->iy (f+1) n=iy f n
 |0,n,h=>by
  have:n<128:=by simpa using h
  simp[iy,this]
 |f+1,n,h=>by
  rw[iy]
  conv=>rhs;rw[iy]
  split
  .rfl
  .rw[yK f];rw[aaj (by decide)];rwa[ZO]at h
theorem wE{n:Nat}(h:n<2 ^ 64):enc n=iy 9 n:=yK 9 n (YH h (by decide))
theorem CC: ∀(l:List UInt8) {i a n k:Nat},i<=9->dec i a l= .ok n k-> ∃m,n=a+m*128 ^ i∧l.take (k-i)=iy (9-i) m∧k-i<=l.length∧i<k∧m<2*128 ^ (9-i)∧(0<i->0<m)
 | [],_,_,_,_,_,h=>by cases h
 |c::l,i,a,n,k,hi,h=>by
  unfold dec at h;split at h
  .cases h
  .rename_i h1;have I:=c.toNat_lt;split at h
   .rename_i j;cases h;rw[Zl j];refine⟨c.toNat,rfl,?_,by simp,by omega,?_,fun u=>?_⟩
    .rw[show i+1-i=1 by omega,Yq,Zm];cases hf:9-i with
     |zero=>simp[iy]
     |succ f=>rw[iy,am j];simp
    .rcases XZ i 9 with g|g
     .calc c.toNat<128:=j
       _<=2*128 ^ (9-i):=by
        have:128 ^ 1<=128 ^ (9-i):=aan (by decide) (by omega);omega
     .have:i=9:=by omega
      subst this;have: ¬1<c.toNat:=fun h=>h1 (.inl ⟨rfl,h⟩);simp;omega
    .rcases Nat.eq_zero_or_pos c.toNat with e|e
     .exact absurd (.inr ⟨u,e⟩) h1
     .exact e
   .rename_i j;have y:i<9:=by
     rcases XZ i 9 with g|g
     .exact g
     .exact absurd (Or.inl ⟨by omega,by omega⟩) h1
    obtain⟨m,B,D,J,Y,q5,G⟩:=CC l (by omega) h;have A:=G (by omega);have x:c.toNat % 128=c.toNat-128:=by omega
    refine⟨c.toNat % 128+m*128,?_,?_,by simp;omega,by omega,?_,fun _=>by omega⟩
    .rw[B,ZO,XT,aas m 128,ZM 128 (128 ^ i),Yf]
    .rw[show k-i=(k-(i+1))+1 by omega,Yq,D,show 9-i=(9-(i+1))+1 by omega,iy,be (by omega)];congr 1
     .rw[show(c.toNat % 128+m*128) % 128+128=c.toNat by omega];simp
     .rw[show(c.toNat % 128+m*128)/128=m by omega]
    .rw[show 9-i=(9-(i+1))+1 by omega,ZO];omega
theorem CD{l:List UInt8}{n k:Nat}(h:dec 0 0 l= .ok n k):n<2 ^ 64∧l.take k=iy 9 n∧k<=l.length∧0<k:=by
 obtain⟨m,j,u,x,y,A,_⟩:=CC l (Xc _) h;have e:n=m:=by simpa using j
 subst e;refine⟨by rw[<-show 2*128 ^ 9=2 ^ 64 by decide];exact A,by simpa using u,by simpa using x,y⟩
abbrev By:=List UInt8
structure RS where
 p:Nat
 f:Int
def zz(n:Int):Nat:=if n<0 then(-2*n-1).toNat else(2*n).toNat
def AI(u:Nat):Int:=if u % 2=0 then((u/2:Nat):Int) else-((u/2:Nat):Int)-1
theorem QO(n:Int):AI (zz n)=n:=by
 unfold zz AI;split<;>split<;>omega
def cP(b:By)(most:Nat)(s:RS):Nat×RS:=
 if s.f=0 then match dec 0 0 (b.drop s.p) with
  | .ok n k=>if n<=most then(n,⟨s.p+k,0⟩) else(0,⟨s.p,12⟩)
  | .short=>(0,⟨s.p,10⟩)
  | .form=>(0,⟨s.p,11⟩)
 else(0,s)
def nI(b:By)(j hi:Int)(s:RS):Int×RS:=
 if s.f=0 then match dec 0 0 (b.drop s.p) with
  | .ok n k=>if j<=AI n∧AI n<=hi then(AI n,⟨s.p+k,0⟩) else(0,⟨s.p,12⟩)
  | .short=>(0,⟨s.p,10⟩)
  | .form=>(0,⟨s.p,11⟩)
 else(0,s)
def dN(b:By)(most:Nat)(s:RS):By×RS:=
 if s.f=0 then match dec 0 0 (b.drop s.p) with
  | .ok n k=>if n<=most then(if n<=b.length-(s.p+k) then((b.drop (s.p+k)).take n,⟨s.p+k+n,0⟩) else([],⟨s.p,10⟩)) else([],⟨s.p,12⟩)
  | .short=>([],⟨s.p,10⟩)
  | .form=>([],⟨s.p,11⟩)
 else([],s)
structure At (b:By) (s:RS) (r:By):Prop where
 f:s.f=0
 le:s.p<=b.length
 r:b.drop s.p=r
theorem At.go{b:By}{s:RS}{x r:By}(h:At b s (x++r)):At b ⟨s.p+x.length,0⟩ r:=by
 have h1:=congrArg Ze h.r;have j:=h.le;rw[X7,W1]at h1;refine⟨rfl,by show s.p+x.length<=_;omega,?_⟩;show b.drop (s.p+x.length)=r;rw[<-List.drop_drop,h.r];simp
theorem At.start(b:By):At b ⟨0,0⟩ b:=⟨rfl,Xc _,rfl⟩
theorem pe{b:By}{s:RS}{r:By}{n most:Nat}(h:At b s (enc n++r))(hm:n<=most)(hn:n<2 ^ 64):cP b most s=(n,⟨s.p+(enc n).length,0⟩):=by
 have h1:=Aq hn r;rw[<-wE hn]at h1;simp[cP,h.f,h.r,h1,hm]
theorem Jl{b:By}{s:RS}{r:By}{n j hi:Int}(h:At b s (enc (zz n)++r))(hl:j<=n)(hh:n<=hi)(hn:zz n<2 ^ 64):nI b j hi s=(n,⟨s.p+(enc (zz n)).length,0⟩):=by
 have h1:=Aq hn r;rw[<-wE hn]at h1;simp[nI,h.f,h.r,h1,QO,hl,hh]
def hQ(t:By):By:=enc t.length++t
theorem ph{b:By}{s:RS}{t r:By}{most:Nat}(h:At b s (hQ t++r))(hm:t.length<=most)(hn:t.length<2 ^ 64):dN b most s=(t,⟨s.p+(hQ t).length,0⟩):=by
 unfold hQ at h;rw[Xf]at h;have h1:=Aq hn (t++r);rw[<-wE hn]at h1;have j:=h.go;have u:=congrArg Ze j.r;rw[X7,W1]at u;have x:t.length<=b.length-(s.p+(enc t.length).length):=by
  have:b.length-(s.p+(enc t.length).length)=t.length+r.length:=u;omega
 have y:b.drop (s.p+(enc t.length).length)=t++r:=j.r;simp[dN,h.f,h.r,h1,hm,x,y,hQ,Yf]
end Go.En
namespace Go.Proofs.YtlmhfgbkchnfbaaGreatDoor
open Go Go.Al Go.Proofs.Tryz Go.En
abbrev hZ(l:By):AO:=aS 1 l aH
abbrev o7(i:Nat)(l:By):AO:= .cells [.sl i 0 l.length 1]
abbrev wO(l:By):List AO:=[o7 1 l,hZ l]
abbrev wH(l:By):AH:=[(0,io (o7 2 l)),(2,io (hZ l))]
abbrev pU(n:Nat):PV:= .iv (.v (.int .u64 (n:Int)))
abbrev pY(n:Int):PV:= .iv (.v (.int .u8 n))
theorem aD(σ:Nat->Nat)(l:By):(hZ l).b5 σ=hZ l:=b7 σ
theorem bb(σ:Nat->Nat)(l:By):(AO.row 1 (dd l)).b5 σ= .row 1 (dd l):=b7 σ
theorem aB(σ:Nat->Nat)(l:By):(l.map fun x=>(aH x).map PV.iv).map (dh σ)=l.map fun x=>(aH x).map PV.iv:=by
 rw[Yb];exact Yj fun x _=>jx _ _
theorem V1(l xs:By){es:List (List PV)}{n:Nat}(he:es=dd xs)(hn:n=xs.length)(hb:l.length+xs.length<=100000000000000):bh prog 63 [.ptr 0 0,.sl 2 0 n 1] (wO l++ [.row 1 es]) (.a7 []) [(0,io (o7 3 (l++xs))),(3,io (hZ (l++xs)))] 4:=by
 subst he;subst hn;refine ak ab func63 Z (by decide) ntmps63 Z (by simp) ?_;refine gl Z ⟨ac,by simp,by simp,?_,by omega,by omega⟩ (ar [3] (by first|exact .inr Z|exact .inl Z) Z (wk Z Z Z (bi ac) ⟨⟨_,rfl,.of_eq ?_⟩,WY Z,rfl,hR Z ?_ Z ac⟩ Z))
 .rw[ZP,Xh (by simp)];exact fi (fun _=>rfl) xs
 .simp[AO.b5,dh,PV.b5,sg]
 .rw[ZP,Xh (by simp),Xg]
theorem EI(l:By)(x:UInt8){v:Int}(j:v=(x.toNat:Int))(hb:l.length<=90000000000000):bh prog 63 [.ptr 0 0,.sl 2 0 1 1] (wO l++ [.row 1 [[pY v]]]) (.a7 []) [(0,io (o7 3 (l++ [x]))),(3,io (hZ (l++ [x])))] 4:=
 V1 l [x] (by rw[j];rfl) Z (by simp;omega)
theorem B3(m:Nat):IntKind.u8.wrap (m:Int)=((UInt8.ofNat m).toNat:Int):=by
 have e:IntKind.u8.wrap (m:Int)=(m:Int) % 256:=rfl;rw[e];simp
theorem orB(m:Nat):IntKind.u8.wrap ((BitVec.ofInt IntKind.u8.bits (IntKind.u8.wrap (m:Int))|||BitVec.ofInt IntKind.u8.bits 128).toNat:Int)=((UInt8.ofNat (m % 128+128)).toNat:Int):=by
 have j:IntKind.u8.wrap (m:Int)=((m % 256:Nat):Int):=by
  have e:IntKind.u8.wrap (m:Int)=(m:Int) % 256:=rfl;rw[e];omega
 have u: ∀k:Fin 256,(BitVec.ofInt 8 ((k.val:Nat):Int)|||BitVec.ofInt 8 128).toNat=k.val % 128+128:=by decide+kernel
 have x:=u ⟨m % 256,by omega⟩;rw[j];have y:(BitVec.ofInt IntKind.u8.bits ((m % 256:Nat):Int)|||BitVec.ofInt IntKind.u8.bits 128).toNat=m % 256 % 128+128:=x;have A:m % 256 % 128+128=m % 128+128:=by omega
 rw[y,A];exact B3 _
theorem V0(m:Nat):((m:Int)).fdiv (2 ^ min ((7:Int)).toNat IntKind.u64.bits)=((m/128:Nat):Int):=by
 have e:(2:Int) ^ min ((7:Int)).toNat IntKind.u64.bits=128:=by decide
 rw[e,Yp _ (by decide)];rfl
theorem JY{f m:Nat}(h: ¬m<128):iy (f+1) m=UInt8.ofNat (m % 128+128)::iy f (m/128):=by rw[iy,be h]
theorem Df(l:By)(n:Nat)(hb:l.length<=80000000000000):bh prog 74 [.ptr 0 0,pU n] (wO l) (.a7 []) (wH (l++enc n)) 3:=by
 refine ak ab func74 Z (by decide) ntmps74 Z (by simp) ?_;refine gA Z ?_;refine iZ 0 10 (Xc _) (fun i (x:Nat×By)=>⟨[(0,.ptr 0 0),(1,pU x.1),(4,pI i)],[(0,io (o7 2 x.2)),(2,io (hZ x.2))],3⟩) (fun i x=>x.2.length=l.length+i∧x.2++iy (10-i) x.1=l++enc n) (n,l) [1] ⟨rfl,rfl⟩
  (wk Z Z Z (bi (bi (bi trivial))) ⟨⟨_,rfl,.of_eq Z⟩,WY Z,rfl,hR Z Z Z trivial⟩ Z) fun i x hi G=>?_
 obtain⟨m,y⟩:=x;obtain⟨B,A⟩:=G;have j: ∀(g:m<128∨i=10),y++ [UInt8.ofNat m]=l++enc n:=fun g=>by
  rw[<-A];congr 1;cases hf:10-i with
  |zero=>rw[iy]
  |succ f=>
   rw[iy,am];rcases g with g|g
   .exact g
   .omega
 have D:y.length=l.length+i:=B;refine gA Z ?_;refine W0 (fun h1=>?_) (fun h1=>?_)
 .have h1:i<10:=by have:(i:Int)<10:=of_decide_eq_true h1;omega
  refine gA Z ?_;refine W0 (fun u=>?_) (fun u=>?_)
  .have u:m<128:=by have:(m:Int)<128:=of_decide_eq_true u;omega
   refine gA Z (ai [0,2,3] (EI y (UInt8.ofNat m) (B3 m) (by omega)) Z Z Z Z Z (by simp only[W7,Xj,Xp,Xq,aD,bb];rfl) Z Z ?_);rw[j (.inl u)];refine gA Z (ar [4] (by first|exact .inr Z|exact .inl Z) Z (wk Z Z Z (bi ac) ⟨⟨_,rfl,.of_eq Z⟩,WY Z,rfl,hR Z (by first|rfl|exact aB _ _) Z ac⟩ Z))
  .have u: ¬m<128:=by have: ¬(m:Int)<128:=of_decide_eq_false u;omega
   refine gA Z (ai [0,2,3] (EI y (UInt8.ofNat (m % 128+128)) (orB m) (by omega)) Z Z Z Z Z (by simp only[W7,Xj,Xp,Xq,aD,bb];rfl) Z Z ?_);refine gA Z ?_;refine⟨h1,(m/128,y++ [UInt8.ofNat (m % 128+128)]),[4],⟨by simp;omega,?_⟩,wk Z Z Z (bi ⟨.of_eq ?_,rfl,bi ac⟩) ⟨⟨_,rfl,.of_eq Z⟩,WY Z,rfl,hR Z (by first|rfl|exact aB _ _) Z ac⟩ Z⟩
   .show(y++ [UInt8.ofNat (m % 128+128)])++iy (10-(i+1)) (m/128)=l++enc n;rw[<-A,Xf];have e:10-i=(10-(i+1))+1:=by omega
    show _=y++iy (10-i) m;rw[e,JY u];rfl
   .show PV.iv (.v (.int .u64 _))=_;rw[V0];rfl
 .have h1:10<=i:=by have: ¬(i:Int)<10:=of_decide_eq_false h1;omega
  refine gA Z (ai [0,2,3] (EI y (UInt8.ofNat m) (B3 m) (by omega)) Z Z Z Z Z (by simp only[W7,Xj,Xp,Xq,aD,bb];rfl) Z Z ?_);rw[j (.inr (by omega))];refine gA Z (ar [4] (by first|exact .inr Z|exact .inl Z) Z (wk Z Z Z (bi ac) ⟨⟨_,rfl,.of_eq Z⟩,WY Z,rfl,hR Z (by first|rfl|exact aB _ _) Z ac⟩ Z))
theorem xS(l:By)(x:UInt8)(hb:l.length<=80000000000000):bh prog 36 [.ptr 0 0,pY (x.toNat:Int)] (wO l) (.a7 []) (wH (l++ [x])) 3:=by
 refine ak ab func36 Z (by decide) ntmps36 Z (by simp) ?_;refine gA Z ?_;refine W0 (fun zz=>?_) (fun zz=>?_)<;>(try(exact absurd zz (by decide)))
 refine gA Z (ai [0,1,2] (EI l x Z (by omega)) Z Z Z Z Z (by simp only[W7,Xj,Xp,Xq,aD,bb];rfl) Z Z ?_);refine gA Z (ar [3] (by first|exact .inr Z|exact .inl Z) Z (wk Z Z Z (bi ac) ⟨⟨_,rfl,.of_eq Z⟩,WY Z,rfl,hR Z (by first|rfl|exact aB _ _) Z ac⟩ Z))
theorem Uo(l:By)(n:Nat)(hb:l.length<=70000000000000):bh prog 41 [.ptr 0 0,pU n] (wO l) (.a7 []) (wH (l++enc n)) 3:=by
 refine ak ab func41 Z (by decide) ntmps41 Z (by simp) ?_;refine gA Z ?_;refine W0 (fun zz=>?_) (fun zz=>?_)<;>(try(exact absurd zz (by decide)))
 refine gA Z (ai [0,1] (Df l n (by omega)) Z Z Z Z Z (by simp only[W7,Xj,Xp,Xq,aD,bb];rfl) Z Z ?_);refine gA Z (ar [2] (by first|exact .inr Z|exact .inl Z) Z (wk Z Z Z (bi ac) ⟨⟨_,rfl,.of_eq Z⟩,WY Z,rfl,hR Z (by first|rfl|exact aB _ _) Z ac⟩ Z))
theorem Qw{a b:By}{i n:Nat}{σ:Nat->Nat}{j:Nat}(h:b=a)(hn:n=a.length)(hi:σ i=j):fc (.cells [.sl j 0 n 1]) ((o7 i b).b5 σ):=by
 subst h;subst hn;subst hi;exact .of_eq Z
theorem VU(m:Nat)(h:m<9223372036854775808):IntKind.u64.wrap (m:Int)=(m:Int):=by
 have e:IntKind.u64.wrap (m:Int)=(m:Int) % 18446744073709551616:=rfl;rw[e];omega
theorem EE(l:By)(s:aq)(hs:s.size<=10000000000)(hb:l.length<=60000000000000):bh prog 42 [.ptr 0 0,pS s] (wO l) (.a7 []) (wH (l++hQ s.data.toList)) 3:=by
 have j:s.data.toList.length=s.size:=by simp
 have x:=wG 10 s.size;have u:l++hQ s.data.toList=l++enc s.size++s.data.toList:=by rw[hQ,j,Xf]
 refine ak ab func42 Z (by decide) ntmps42 Z (by simp) ?_;refine gA Z ?_;refine W0 (fun zz=>?_) (fun zz=>?_)<;>(try(exact absurd zz (by decide)))
 refine gA Z (ai [0,1] (bh.le (aa:=[.ptr 0 0,.iv (.v (.int .u64 (IntKind.u64.wrap (s.size:Int))))]) (Df l s.size (by omega)) ⟨.refl _,.of_eq (congrArg (fun z:Int=>PV.iv (.v (.int .u64 z))) (VU s.size (by omega))),ac⟩) Z Z Z Z Z (by simp only[W7,Xj,Xp,Xq,aD,bb];rfl) Z Z ?_);refine gM 9 Z (bB Z (Mw (l:=l++enc s.size) ab Z Z Z Z Z Z Z (by exact congrArg io (aD _ _)) Z Z Z Z Z (by simp only[W1,enc];omega) Z) ?_);rintro t rfl;refine gA Z (ar [3] (by first|exact .inr Z|exact .inl Z) Z (wk Z Z Z (bi ac) ⟨⟨_,rfl,Qw u (by simp[Yf]) Z⟩,WY Z,rfl,hR Z (by rw[u,Xg]) Z ac⟩ Z))
theorem El(x:Nat)(h:x<18446744073709551616):(BitVec.ofInt 64 ((x:Nat):Int) ^^^ BitVec.ofInt 64 18446744073709551615).toNat=18446744073709551615-x:=by
 have j:BitVec.ofInt 64 18446744073709551615=BitVec.allOnes 64:=by decide
 have u:BitVec.ofInt 64 ((x:Nat):Int)=BitVec.ofNat 64 x:=by simp[BitVec.ofInt_natCast]
 rw[j,u,BitVec.xor_allOnes,BitVec.toNat_not,BitVec.toNat_ofNat];omega
theorem Ek(x:Nat)(h:x<18446744073709551616):(BitVec.ofInt 64 ((x:Nat):Int) ^^^ BitVec.ofInt 64 0).toNat=x:=by
 have j:BitVec.ofInt 64 0=0#64:=by decide
 have u:BitVec.ofInt 64 ((x:Nat):Int)=BitVec.ofNat 64 x:=by simp[BitVec.ofInt_natCast]
 rw[j,u,BitVec.xor_zero,BitVec.toNat_ofNat];omega
theorem zzB{n:Int}(h1: -2147483647<=n)(A:n<=2147483647):IntKind.u64.wrap ((BitVec.ofInt IntKind.u64.bits (IntKind.u64.wrap (IntKind.u64.wrap n*2 ^ min (1:Int).toNat IntKind.u64.bits)) ^^^ BitVec.ofInt IntKind.u64.bits (IntKind.u64.wrap (n.fdiv (2 ^ min (63:Int).toNat IntKind.i64.bits)))).toNat:Int)=(zz n:Int):=by
 have w: ∀z:Int,IntKind.u64.wrap z=z % 18446744073709551616:=fun _=>rfl;have x:(2:Int) ^ min (1:Int).toNat IntKind.u64.bits=2:=by decide
 have y:(2:Int) ^ min (63:Int).toNat IntKind.i64.bits=9223372036854775808:=by decide
 rw[x,y,Yp _ (by decide),w,w n,w (n/9223372036854775808),w ((n % 18446744073709551616)*2)];show(((BitVec.ofInt 64 _ ^^^ BitVec.ofInt 64 _).toNat:Nat):Int) % _=_;unfold zz;by_cases h:n<0
 .rw[am h];have j:n/9223372036854775808 % 18446744073709551616=18446744073709551615:=by omega
  have u:n % 18446744073709551616*2 % 18446744073709551616=(((2*n+18446744073709551616).toNat:Nat):Int):=by omega
  rw[j,u,El _ (by omega)];omega
 .rw[be h];have j:n/9223372036854775808 % 18446744073709551616=0:=by omega
  have u:n % 18446744073709551616*2 % 18446744073709551616=(((2*n).toNat:Nat):Int):=by omega
  rw[j,u,Ek _ (by omega)];omega
theorem V4(l:By)(n:Int)(h1: -2147483647<=n)(j:n<=2147483647)(hb:l.length<=60000000000000):bh prog 113 [.ptr 0 0,pI n] (wO l) (.a7 []) (wH (l++enc (zz n))) 3:=by
 refine ak ab func113 Z (by decide) ntmps113 Z (by simp) ?_;refine gA Z (W0 (fun g=>?_) (fun g=>absurd g (by decide)));refine gA Z (ai [0,1] (bh.le (aa:=[.ptr 0 0,.iv (.v (.int .u64 (IntKind.u64.wrap ((BitVec.ofInt IntKind.u64.bits (IntKind.u64.wrap (IntKind.u64.wrap n*2 ^ min (1:Int).toNat IntKind.u64.bits)) ^^^ BitVec.ofInt IntKind.u64.bits (IntKind.u64.wrap (n.fdiv (2 ^ min (63:Int).toNat IntKind.i64.bits)))).toNat:Int))))]) (Df l (zz n) (by omega)) ⟨.refl _,.of_eq (congrArg (fun z:Int=>PV.iv (.v (.int .u64 z))) (zzB h1 j)),ac⟩) Z Z Z Z Z (by simp only[W7,Xj,Xp,Xq,aD,bb];rfl) Z Z ?_);refine gA Z (ar [2] (by first|exact .inr Z|exact .inl Z) Z (wk Z Z Z (bi ac) ⟨⟨_,rfl,.of_eq Z⟩,WY Z,rfl,hR Z (by first|rfl|exact aB _ _) Z ac⟩ Z))
theorem Uk{h:AH}(l:By){j n:Nat}(hj:h.get j=io (hZ l))(hn:n=l.length):xp h 1 (.sl j 0 n 1)=io (dd l):=by
 subst hn;have e:Xv 1 1=jp:=rfl;unfold xp;simp only[e,hj,hZ,aS,Xo,Xw,Nat.ble_eq,W8,ZP];rw[show Y4 l.length l.length=jp from X0 (W8 _)];show io _=_;rw[Xh (by simp)]
theorem UR(l:By)(hb:l.length<=60000000000000):bh prog 64 [.ptr 0 0] (wO l) (.sl 2 0 l.length 1) [(0,io (o7 1 l)),(1,io (hZ l)),(2,io (hZ l))] 3:=by
 refine ak ab func64 Z (by decide) ntmps64 Z (by simp) ?_;refine gA Z (bB Z (u1 (news:=dd l) (eu:=Ru) (sz:=1) ab Z Z Z Z Z Z Z (by decide) (by exact Uk l Z Z) (eD (fi (fun _=>rfl) l)) (by show(dd l).length*1<=_;simp;omega) (by simp;omega) Z) ?_);rintro t rfl;refine gA Z (ar [3] (by first|exact .inr Z|exact .inl Z) Z (wk Z Z Z ⟨.row (by simp),rfl,ac⟩ ⟨⟨_,rfl,.of_eq Z⟩,WY Z,rfl,hR Z (by first|rfl|exact aB _ _) Z (hR Z (by first|rfl|exact aB _ _) Z ac)⟩ Z))
abbrev pV(n:Int):PV:= .iv (.v (.int .u32 n))
def S5(s:Int):Int:=IntKind.u32.wrap ((BitVec.ofInt IntKind.u32.bits s&&&BitVec.ofInt IntKind.u32.bits 1).toNat:Int)
def Un(s:Int):Int:=s.fdiv (2 ^ min (1:Int).toNat IntKind.u32.bits)
def FY(a b:Int):Int:=IntKind.u32.wrap ((BitVec.ofInt IntKind.u32.bits a ^^^ BitVec.ofInt IntKind.u32.bits b).toNat:Int)
def Ot(s:Int):Int:=if S5 s=1 then FY (Un s) 2197175160 else Un s
def yV(s:Int):Nat->Int
 |0=>s
 |k+1=>Ot (yV s k)
def FN(s:Int)(c:UInt8):Int:=yV (FY s (IntKind.u32.wrap (c.toNat:Int))) 8
def qA(l:By):Int:=IntKind.u32.wrap ((BitVec.ofInt IntKind.u32.bits (if IntKind.u32.signed then-1 else IntKind.u32.max) ^^^ BitVec.ofInt IntKind.u32.bits (l.foldl FN 4294967295)).toNat:Int)
theorem RN(l:By)(hb:l.length<=1000000000):Pure prog 34 [.iv (aT 1 l aH)] (pV (qA l)):=by
 refine ah ab func34 Z (by decide) ntmps34 Z (by simp) Z ?_;refine gA Z ?_;refine aN 0 l.length (Xc _) (fun i=>⟨[(3,pV ((l.take i).foldl FN 4294967295)),(7,.iv (aT 1 l aH)),(8,pI l.length),(9,pI i)],[],0⟩) (fun _=>True) [] ac
  (wk Z Z Z (bi (bi (bi (bi trivial)))) trivial Z) fun i hi _=>?_
 refine gA Z ?_;refine W0 (fun h1=>?_) (fun h1=>?_)
 .have h1:i<l.length:=by simpa using h1
  have y:=iG (g:=FN) (b:=4294967295) h1;generalize(l.take i).foldl FN 4294967295=s at*
  refine gA Z ?_;refine aN 0 8 (Xc _) (fun k=>⟨[(3,pV (yV (FY s (IntKind.u32.wrap ((l.getD i co).toNat:Int))) k)),(7,.iv (aT 1 l aH)),(8,pI l.length),(9,pI i),(17,pI k)],[],0⟩) (fun _=>True) [] ac
   (wk Z Z Z (bi (bi (bi (bi (bi trivial))))) trivial Z) fun k hk _=>?_
  have j:yV (FY s (IntKind.u32.wrap ((l.getD i co).toNat:Int))) (k+1)=Ot (yV (FY s (IntKind.u32.wrap ((l.getD i co).toNat:Int))) k):=rfl;refine gA Z ?_;refine W0 (fun u=>?_) (fun u=>?_)
  .have u:k<8:=by have:(k:Int)<8:=of_decide_eq_true u;omega
   generalize yV (FY s (IntKind.u32.wrap ((l.getD i co).toNat:Int))) k=z at*
   refine gA Z ?_;refine W0 (fun x=>?_) (fun x=>?_)
   .have x:S5 z=1:=of_decide_eq_true x;rw[Ot,am x]at j;refine gA Z ⟨u,ac,[],wk Z Z Z ⟨.of_eq (by rw[j];rfl),rfl,bi (bi (bi (bi ac)))⟩ ac Z⟩
   .have x: ¬S5 z=1:=of_decide_eq_false x;rw[Ot,be x]at j;refine gA Z ⟨u,ac,[],wk Z Z Z ⟨.of_eq (by rw[j];rfl),rfl,bi (bi (bi (bi ac)))⟩ ac Z⟩
  .have u:k=8:=by have: ¬(k:Int)<8:=of_decide_eq_false u;omega
   subst u;refine gA Z ⟨h1,ac,[],wk Z Z Z ⟨.of_eq (by rw[y];rfl),rfl,bi (bi (bi ac))⟩ ac Z⟩
 .have h1:l.length<=i:=by simpa using h1
  rw[Xh h1];refine gA Z (bB Z (kG (N6 Z Z) Z) ?_);rintro t rfl;refine gA Z (aM (by first|exact .inr Z|exact .inl Z) Z (.of_eq ?_));rfl
def vW(p:Prog):aq:=if(rJ p.bare).bad=jp then⟨#[]⟩ else⟨(rJ p.bare).l.toArray⟩
def vX(p:Prog):Int:=qA (vW p).data.toList
def yk(p:Prog):Int×Int:=if(gP p).1=0 then(vX p,0) else(0,4)
theorem Gz(p:Prog):(rJ p).l.length<=p.ts:=by
 have h1:=re p.aG WS.o p.aG.length (W8 _);have j:=qI p.rules (gq p.aG WS.o p.aG.length) p.rules.length (W8 _);have u:WS.o.l.length=0:=rfl;rw[Yk]at h1 j;rw[rJ,Prog.ts];omega
mutual
theorem Lit.uZ: ∀l:Lit,l.bare.ts=l.ts
 | .mk k a op l r f v o b x=>by rw[Lit.bare,Lit.ts,Lit.ts,Lit.wW b]
theorem Lit.wW: ∀l:List Lit,Lit.lk (Lit.je l)=Lit.lk l
 | []=>rfl
 |x::r=>by rw[Lit.je,Lit.lk,Lit.lk,Lit.uZ x,Lit.wW r]
end
mutual
theorem Lit.tB: ∀l:Lit,l.bare.size=l.size
 | .mk k a op l r f v o b x=>by rw[Lit.bare,Lit.size,Lit.size,Lit.rm b]
theorem Lit.rm: ∀l:List Lit,Lit.aE (Lit.je l)=Lit.aE l
 | []=>rfl
 |x::r=>by rw[Lit.je,Lit.aE,Lit.aE,Lit.tB x,Lit.rm r]
end
theorem Prog.uZ(p:Prog):p.bare.ts=p.ts:=by
 unfold Prog.ts;show((p.aG.map Decl.bare).map Decl.ts).sum+((p.rules.map aw.bare).map aw.ts).sum=_;rw[Yb,Yb];congr 2
 .refine Yj fun r _=>?_
  show r.head.ts+Lit.lk (Lit.je r.body)+30=_;rw[Lit.wW];rfl
theorem Prog.tB(p:Prog):p.bare.size=p.size:=by
 unfold Prog.size;show(p.aG.map Decl.bare).length+((p.aG.map Decl.bare).map fun d=>d.types.length).sum+(p.rules.map aw.bare).length+((p.rules.map aw.bare).map aw.size).sum=_;rw[Yb,Yb,Xw,Xw];congr 2;refine Yj fun r _=>?_;show r.head.an.length+Lit.aE (Lit.je r.body)=_;rw[Lit.rm];rfl
theorem Qd(hS:fJ)(p:Prog)(hf:p.fit)(hs:p.size<=10000000)(ht:p.ts<=800000000):Pure prog 30 [ag p.c] (.a7 [pV (yk p).1,pI (yk p).2]):=by
 have hl:=Gz p.bare;rw[p.uZ]at hl;refine ah ab func30 Z (by decide) ntmps30 Z (by simp) Z ?_;refine gA Z (aF (It hS p hf hs) Z Z Z Z Z Z ?_);refine gA Z ?_;refine W0 (fun g=>?_) (fun g=>?_)
 .have g: ¬(gP p).1=0:=by
   intro h;have g:(!lc ((gP p).1=0))=jp:=g;rw[h]at g;simp at g
  rw[yk,be g];refine gA Z (aM (by first|exact .inr Z|exact .inl Z) Z (.of_eq ?_));rfl
 .have g:(gP p).1=0:=by
   have g:(!lc ((gP p).1=0))=kw:=g;simpa using g
  rw[yk,am g];refine gA Z (aF (UQ p (by omega)) Z Z Z Z Z Z ?_);refine gA Z (aF (RU p.bare (by rw[p.tB];omega) (by rw[p.uZ];exact ht)) Z Z Z Z Z Z ?_)
  refine gA Z (pC (b:=vW p) ab Z Z Z Z Z Z Z Z Z Z Z (by
   show(vW p).size<=_;unfold vW;split
   .decide
   .show(rJ p.bare).l.toArray.size<=_
    rw[Zg];omega) ?_)
  have hT:(vW p).data.toList.length<=1000000000:=by
   unfold vW;split
   .decide
   .simp;omega
  refine gA Z (aF (RN (vW p).data.toList hT) Z Z Z Z Z Z ?_);refine gA Z (aM (by first|exact .inr Z|exact .inl Z) Z (.of_eq ?_));rfl
end Go.Proofs.YtlmhfgbkchnfbaaGreatDoor
namespace Go.Proofs.YtlmhfgbkchnfbaaGreatDoor
open Go Go.Al
inductive Tree where
 |mk (fact:Fact) (Gq:Int) (kids:List Tree)
instance:Inhabited Tree:=⟨.mk co 0 []⟩
def Tree.fact:Tree->Fact| .mk f _ _=>f
def Tree.Gq:Tree->Int| .mk _ r _=>r
def Tree.kids:Tree->List Tree| .mk _ _ k=>k
structure VC where
 fact:Fact
 Gq:Int
 kids:List Int
 deriving Inhabited
structure Nod where
 fact:Fact
 Gq:Int
 kids:Int
 up:List Int
 deriving Inhabited
mutual
def Tree.cr:Tree->List IV
 | .mk f r ks=> [iS f.rel,aT 3 f.args cW.c,iI r,.bI 4 ks.length (fun j=>(Tree.wI ks).getD j [])]
def Tree.wI:List Tree->List (List IV)
 | []=> []
 |e::r=>e.cr::Tree.wI r
end
def Tree.c(t:Tree):List IV:=[iS t.fact.rel,aT 3 t.fact.args cW.c,iI t.Gq,.bI 4 t.kids.length (fun j=>(Tree.wI t.kids).getD j [])]
def VC.c(l:VC):List IV:=[iS l.fact.rel,aT 3 l.fact.args cW.c,iI l.Gq,aT 1 l.kids kv]
def Nod.c(n:Nod):List IV:=[iS n.fact.rel,aT 3 n.fact.args cW.c,iI n.Gq,iI n.kids,aT 1 n.up kv]
mutual
def Tree.size:Tree->Nat
 | .mk _ _ ks=>1+Tree.aE ks
def Tree.aE:List Tree->Nat
 | []=>0
 |e::r=>e.size+Tree.aE r
end
end Go.Proofs.YtlmhfgbkchnfbaaGreatDoor
namespace Go.Proofs.YtlmhfgbkchnfbaaGreatDoor
open Go Go.Al Go.En
def Bz(b:By)(n:Nat)(s:RS):RS:=if s.f=0 then(if n<=b.length-s.p then⟨s.p+n,0⟩ else⟨s.p,10⟩) else s
def qC(t:By):aq:=⟨t.toArray⟩
end Go.Proofs.YtlmhfgbkchnfbaaGreatDoor
namespace Go.Proofs.YtlmhfgbkchnfbaaGreatDoor
open Go Go.Al Go.Proofs.Tryz Go.En
abbrev rP:PV:= .iv (.v (.slice is 0 0))
def lO(v:cW):By:=[UInt8.ofNat v.kind.toNat]++(if v.kind=1 then enc (zz v.num) else hQ v.sym.data.toList)
def kh(l:List cW):By:=enc l.length++l.flatMap lO
abbrev Sj(l:List cW):Bool:=l.all fun v=>lc (bW v=0)
def Sf(l:List cW):PV:=if l.length>8 then .a7 [rP,pI 2] else if Sj l=kw then .a7 [rP,pI 20] else .a7 [.iv (aT 1 (kh l) aH),pI 0]
theorem Qj{v:cW}(h:bW v=0):v.kind=1∨v.kind=2:=by
 unfold bW at h
 repeat' split at h
 all_goals first|omega|(simp at h;done)
theorem wF(n:Nat):(enc n).length<=11:=(wG 10 n).2
theorem Et{v:cW}(h:bW v=0):(lO v).length<=100:=by
 unfold lO;split
 .have:=wF (zz v.num);simp only[W1,Xy,Yg];omega
 .rename_i h1;have j:=mW h h1;have:=wF v.sym.data.toList.length;simp only[hQ,W1,Xy,Yg];have u:v.sym.data.toList.length=v.sym.size:=rfl;omega
theorem Bh:bh prog 31 [] [] (.ptr 0 0) [(0,io (o7 1 [])),(1,io (hZ []))] 2:=by
 refine ak ab func31 Z (by decide) ntmps31 Z (by simp) ?_;refine gM 10 Z (kR 0 0 1 Z Z ?_);refine gA Z (ar [0,1] (by first|exact .inr Z|exact .inl Z) Z (wk Z Z Z (bi ac) ⟨⟨_,rfl,.of_eq Z⟩,WY Z,rfl,hR Z Z Z ac⟩ Z))
theorem Cr{α:Type}[Inhabited α]{l:List α}{i:Nat}(h:i<l.length):l.getD i co∈l:=by
 rw[W2,W5 h];exact XS h
theorem R2(l:By)(v:Int)(h:0<=v)(hb:l.length<=80000000000000):bh prog 36 [.ptr 0 0,.iv (.v (.int .u8 (IntKind.u8.wrap v)))] (wO l) (.a7 []) (wH (l++ [UInt8.ofNat v.toNat])) 3:=by
 have e:IntKind.u8.wrap v=((UInt8.ofNat v.toNat).toNat:Int):=by
  have:=B3 v.toNat;rwa[Zk h]at this
 rw[e];exact xS l _ hb
theorem VX{v:Int}(h:0<=v∧v<=1000000000000):PV.iv (.v (.int .u64 (IntKind.u64.wrap v)))=pU v.toNat:=by
 have h1:=VU v.toNat (by omega);have j:((v.toNat:Nat):Int)=v:=by omega
 rw[j]at h1;show _=PV.iv (.v (.int .u64 ((v.toNat:Nat):Int)));rw[j,h1]
theorem zk(l:By)(v:Int)(h:0<=v∧v<=1000000000000)(hb:l.length<=70000000000000):bh prog 41 [.ptr 0 0,.iv (.v (.int .u64 (IntKind.u64.wrap v)))] (wO l) (.a7 []) (wH (l++enc v.toNat)) 3:=by
 rw[VX h];exact Uo l v.toNat hb
theorem vv(l:By)(hb:l.length<=60000000000000):bh prog 35 [.ptr 0 0] (wO l) (.sl 2 0 l.length 1) [(0,io (o7 1 l)),(1,io (hZ l)),(2,io (hZ l))] 3:=by
 refine ak ab func35 Z (by decide) ntmps35 Z (by simp) ?_;refine gA Z (W0 (fun g=>absurd g (by decide)) (fun g=>?_));refine gA Z (ai [0,1] (UR l hb) Z Z Z Z Z (by simp only[W7,Xj,Xp,Xq,aD,bb];rfl) Z Z ?_);refine gA Z (ar [2] (by first|exact .inr Z|exact .inl Z) Z (wk Z Z Z ⟨.row Z,rfl,ac⟩ ⟨⟨_,rfl,.of_eq Z⟩,WY Z,rfl,hR Z (by first|rfl|exact aB _ _) Z (hR Z (by first|rfl|exact aB _ _) Z ac)⟩ Z))
theorem zc{α:Type}(f:α->By){m:Nat}(l:List α)(h: ∀x∈l,(f x).length<=m):(l.flatMap f).length<=m*l.length:=by
 induction l with
 |nil=>simp
 |cons x l ih=>
  have h1:=h x (by simp);have u:=ih fun y j=>h y (by simp[j]);rw[X5,W1,Xy,Nat.mul_succ];omega
theorem Uz(l:List cW):Pure prog 75 [.iv (aT 3 l cW.c)] (Sf l):=by
 unfold Sf;refine ah ab func75 Z (by decide) ntmps75 Z (by simp) (by split<;>first|rfl|(split<;>rfl)) ?_;refine gA Z ?_;refine W0 (fun g1=>?_) (fun g1=>?_)
 .have g1:l.length>8:=by have:=of_decide_eq_true g1;omega
  refine gA Z (aM (by first|exact .inr Z|exact .inl Z) Z (.of_eq ?_));rw[am g1];rfl
 have g1: ¬l.length>8:=by have:=of_decide_eq_false g1;omega
 rw[be g1];refine gA Z (aF (c98 l) Z Z Z Z Z Z ?_);refine gA Z ?_;refine W0 (fun g2=>?_) (fun g2=>?_)
 .have g2:Sj l=kw:=by simpa using g2
  refine gA Z (aM (by first|exact .inr Z|exact .inl Z) Z (.of_eq ?_));rw[am g2];rfl
 have g2:Sj l=jp:=by simpa using g2
 rw[be (by rw[g2];decide)];have G: ∀v∈l,bW v=0:=fun v G=>of_decide_eq_true (XO.1 g2 v G);refine gA Z (ai [] (Bh) Z Z Z Z Z Z Z Z ?_);refine gA Z (ai [0,1] (zk [] l.length ⟨by omega,by omega⟩ (by decide)) Z Z Z Z Z (by simp only[W7,Xj,Xp,Xq,aD,bb];rfl) Z Z ?_);refine gA Z ?_;obtain⟨B,u⟩: ∃B:Nat->By,∀i,B i=enc l.length++(l.take i).flatMap lO:=⟨_,fun _=>rfl⟩
 have J:([]:By)++enc ((l.length:Int)).toNat=B 0:=by rw[u,Zm,aaa,XM];rfl
 have A:B l.length=kh l:=by rw[u,Yk,kh]
 have y: ∀i,(B i).length<=1000:=fun i=>by
  have h1:=wF l.length;have h2:=zc lO (m:=100) (l.take i) fun v b0=>Et (G v (YK b0));have j:(l.take i).length<=l.length:=by rw[XA];omega
  rw[u,W1];omega
 rw[J];refine aN 0 l.length (Xc _) (fun i=>⟨[(4,.ptr 0 0),(21,.iv (aT 3 l cW.c)),(22,pI l.length),(23,pI i)],[(0,io (o7 3 (B i))),(3,io (hZ (B i)))],4⟩) (fun _=>True) [2] ac
  (wk Z Z Z (bi (bi (bi (bi trivial)))) ⟨⟨_,rfl,.of_eq Z⟩,WY Z,rfl,hR Z (by first|rfl|exact aB _ _) Z trivial⟩ Z) fun i hi _=>?_
 refine gA Z ?_;refine W0 (fun h1=>?_) (fun h1=>?_)
 .have h1:i<l.length:=by simpa using h1
  have Y:=G _ (Cr h1);have hk:=Qj Y;have c0:=y i;have x:B (i+1)=B i++lO (l.getD i co):=by rw[u,u,bD h1,Xf]
  refine gA Z (ai [0,3] (R2 (B i) (l.getD i co).kind (by omega) (by omega)) Z Z Z Z Z (by simp only[W7,Xj,Xp,Xq,aD,bb];rfl) Z Z ?_);refine gA Z ?_;refine W0 (fun j=>?_) (fun j=>?_)
  .have j:(l.getD i co).kind=1:=of_decide_eq_true j;have D:=qv Y j;have I:B i++ [UInt8.ofNat (l.getD i co).kind.toNat]++enc (zz (l.getD i co).num)=B (i+1):=by rw[x,lO,am j,Xf]
   refine gA Z (ai [0,5] (V4 (B i++ [UInt8.ofNat (l.getD i co).kind.toNat]) (l.getD i co).num D.1 D.2 (by rw[W1];simp;omega)) Z Z Z Z Z (by simp only[W7,Xj,aD];exact congrArg (fun z=> [_,io z]) (aD _ _)) Z Z ?_);rw[I];refine gA Z ⟨h1,ac,[6],wk Z Z Z (bi (bi (bi (bi ac)))) ⟨⟨_,rfl,.of_eq Z⟩,WY Z,rfl,hR Z (by first|rfl|exact aB _ _) Z ac⟩ Z⟩
  .have j: ¬(l.getD i co).kind=1:=of_decide_eq_false j;have hs:=mW Y j;have I:B i++ [UInt8.ofNat (l.getD i co).kind.toNat]++hQ (l.getD i co).sym.data.toList=B (i+1):=by rw[x,lO,be j,Xf]
   refine gA Z (ai [0,5] (EE (B i++ [UInt8.ofNat (l.getD i co).kind.toNat]) (l.getD i co).sym (by omega) (by rw[W1];simp;omega)) Z Z Z Z Z (by simp only[W7,Xj,aD];exact congrArg (fun z=> [_,io z]) (aD _ _)) Z Z ?_);rw[I];refine gA Z ⟨h1,ac,[6],wk Z Z Z (bi (bi (bi (bi ac)))) ⟨⟨_,rfl,.of_eq Z⟩,WY Z,rfl,hR Z (by first|rfl|exact aB _ _) Z ac⟩ Z⟩
 .have h1:l.length<=i:=by simpa using h1
  have a0:i=l.length:=by omega
  subst a0;rw[A];have hT:(kh l).length<=1000:=by rw[<-A];exact y _
  refine gA Z (ai [0,3] (vv (kh l) (by omega)) Z Z Z Z Z (by simp only[W7,Xj,Xp,Xq,aD,bb];rfl) Z Z ?_);refine gA Z (fp (r0:= .a7 [.sl 4 0 (kh l).length 1,pI 0]) (.inr Z) Z (fy.fR 4 (kh l) aH Z (aB _ _) (by simp[PV.aZ,aY]) (.done (.a7 ⟨.bI Z (fun k _=>by rw[Xo]),.refl _,ac⟩))))
end Go.Proofs.YtlmhfgbkchnfbaaGreatDoor
namespace Go.Proofs.YtlmhfgbkchnfbaaGreatDoor
open Go Go.Al Go.Proofs.Tryz Go.En Go.Bo
def fg(f:Fact):By:=hQ f.rel.data.toList++hQ (kh f.args)
structure QI (f:Fact):Prop where
 rel:f.rel.size<=100000
 len:f.args.length<=8
 args:Sj f.args=jp
theorem QI.val{f:Fact}(h:QI f): ∀v∈f.args,bW v=0:=fun v j=>of_decide_eq_true (XO.1 h.args v j)
theorem y8{l:List cW}(hl:l.length<=8)(h: ∀v∈l,bW v=0):(kh l).length<=1000:=by
 have h1:=wF l.length;have u:=zc lO (m:=100) l fun v j=>Et (h v j);rw[kh,W1];omega
theorem jT(t:By):(hQ t).length<=11+t.length:=by
 have:=wF t.length;rw[hQ,W1];omega
theorem Cw{f:Fact}(h:QI f):(fg f).length<=110000:=by
 have h1:=jT f.rel.data.toList;have j:=jT (kh f.args);have u:=y8 h.len h.val;have x:=h.rel;have y:f.rel.data.toList.length=f.rel.size:=rfl;rw[fg,W1];omega
theorem vu(l:By)(f:Fact)(hf:QI f)(hb:l.length<=50000000000000):bh prog 43 [.ptr 0 0,ag f.c] (wO l) (.a7 []) (wH (l++fg f)) 3:=by
 have x:Pure prog 75 [.iv (aT 3 f.args cW.c)] (.a7 [.iv (aT 1 (kh f.args) aH),pI 0]):=by
  have:=Uz f.args;rwa[Sf,be (by have:=hf.len;omega),be (by rw[hf.args];decide)]at this
 have h1:=jT f.rel.data.toList;have y:=y8 hf.len hf.val;have A:=hf.rel;have B:f.rel.data.toList.length=f.rel.size:=rfl;refine ak ab func43 Z (by decide) ntmps43 Z (by simp) ?_;refine gA Z (ai [0,1] (EE l f.rel (by omega) (by omega)) Z Z Z Z Z (by simp only[W7,Xj,Xp,Xq,aD,bb];rfl) Z Z ?_);refine gA Z (aF (x) Z Z Z Z Z Z ?_);refine gA Z (bB Z (kG (mO ab (kh f.args) Z Z Z Z Z Z Z Z Z (fun j D=>rfl)) Z) ?_);rintro t rfl;refine gA Z (ai [0,3] (EE (l++hQ f.rel.data.toList) ⟨(kh f.args).toArray⟩ (by show(kh f.args).toArray.size<=_;simp;omega) (by rw[W1];omega)) Z Z Z Z Z (by simp only[W7,Xj,aD];exact congrArg (fun z=> [_,io z]) (aD _ _)) Z Z ?_);have u:l++fg f=l++hQ f.rel.data.toList++hQ (kh f.args):=by rw[fg,Xf]
 refine gA Z (ar [4] (by first|exact .inr Z|exact .inl Z) Z (wk Z Z Z (bi ac) ⟨⟨_,rfl,Qw u Z Z⟩,WY Z,rfl,hR Z (by rw[u];exact aB _ _) Z ac⟩ Z))
def pZ(c:b3 Fact):By:=[if c.1=jp then 1 else 0]++fg c.2
def bc(l:List (b3 Fact)):By:=enc l.length++l.flatMap pZ
def dE(l:List Fact):By:=enc l.length++l.flatMap fg
theorem FG{c:b3 Fact}(h:QI c.2):(pZ c).length<=110001:=by
 have:=Cw h;rw[pZ,W1,Xu];omega
theorem DI{α:Type}(f:α->By){m k:Nat}{l:List α}(hl:l.length<=k)(h: ∀x∈l,(f x).length<=m)(i:Nat):(enc l.length++(l.take i).flatMap f).length<=11+m*k:=by
 have h1:=wF l.length;have y:=zc f (m:=m) (l.take i) fun v u=>h v (YK u);have j:(l.take i).length<=k:=by rw[XA];omega
 have A:=Nat.mul_le_mul_left m j;rw[W1];omega
theorem Dn(l:List (b3 Fact))(hl:l.length<=100000000)(hF: ∀x∈l,QI x.2):Pure prog 26 [.iv (aT 3 l fN)] (.iv (aT 1 (bc l) aH)):=by
 refine ah ab func26 Z (by decide) ntmps26 Z (by simp) Z ?_;refine gA Z (ai [] (Bh) Z Z Z Z Z Z Z Z ?_);refine gA Z (ai [0,1] (zk [] l.length ⟨by omega,by omega⟩ (by decide)) Z Z Z Z Z (by simp only[W7,Xj,Xp,Xq,aD,bb];rfl) Z Z ?_);refine gA Z ?_;obtain⟨B,u⟩: ∃B:Nat->By,∀i,B i=enc l.length++(l.take i).flatMap pZ:=⟨_,fun _=>rfl⟩
 have G:([]:By)++enc ((l.length:Int)).toNat=B 0:=by rw[u,Zm,aaa,XM];rfl
 have I:B l.length=bc l:=by rw[u,Yk,bc]
 have A: ∀i,(B i).length<=11+110001*100000000:=fun i=>by rw[u];exact DI pZ hl (fun x hx=>FG (hF x hx)) i
 rw[G];refine aN 0 l.length (Xc _) (fun i=>⟨[(3,.ptr 0 0),(12,.iv (aT 3 l fN)),(13,pI l.length),(14,pI i)],[(0,io (o7 3 (B i))),(3,io (hZ (B i)))],4⟩) (fun _=>True) [2] ac
  (wk Z Z Z (bi (bi (bi (bi trivial)))) ⟨⟨_,rfl,.of_eq Z⟩,WY Z,rfl,hR Z (by first|rfl|exact aB _ _) Z trivial⟩ Z) fun i hi _=>?_
 refine gA Z ?_;refine W0 (fun h1=>?_) (fun h1=>?_)
 .have h1:i<l.length:=by simpa using h1
  have hf:=hF _ (Cr h1);have Y:=A i;have y:B (i+1)=B i++pZ (l.getD i co):=by rw[u,u,bD h1,Xf]
  refine gA Z ?_;refine W0 (fun j=>?_) (fun j=>?_)
  .have j:(l.getD i co).1=jp:=j;have D:B i++ [1]++fg (l.getD i co).2=B (i+1):=by rw[y,pZ,am j,Xf]
   refine gA Z (ai [0,3] (xS (B i) 1 (by omega)) Z Z Z Z Z (by simp only[W7,Xj,Xp,Xq,aD,bb];rfl) Z Z ?_);refine gA Z (ai [0,5] (vu (B i++ [1]) (l.getD i co).2 hf (by rw[W1,Xu];omega)) Z Z Z Z Z (by simp only[W7,Xj,aD];exact congrArg (fun z=> [_,io z]) (aD _ _)) Z Z ?_);rw[D];refine gA Z ⟨h1,ac,[6],wk Z Z Z (bi (bi (bi (bi ac)))) ⟨⟨_,rfl,.of_eq Z⟩,WY Z,rfl,hR Z (by first|rfl|exact aB _ _) Z ac⟩ Z⟩
  .have j:(l.getD i co).1=kw:=j;have D:B i++ [0]++fg (l.getD i co).2=B (i+1):=by rw[y,pZ,be (by rw[j];decide),Xf]
   refine gA Z (ai [0,3] (xS (B i) 0 (by omega)) Z Z Z Z Z (by simp only[W7,Xj,Xp,Xq,aD,bb];rfl) Z Z ?_);refine gA Z (ai [0,5] (vu (B i++ [0]) (l.getD i co).2 hf (by rw[W1,Xu];omega)) Z Z Z Z Z (by simp only[W7,Xj,aD];exact congrArg (fun z=> [_,io z]) (aD _ _)) Z Z ?_);rw[D];refine gA Z ⟨h1,ac,[6],wk Z Z Z (bi (bi (bi (bi ac)))) ⟨⟨_,rfl,.of_eq Z⟩,WY Z,rfl,hR Z (by first|rfl|exact aB _ _) Z ac⟩ Z⟩
 .have h1:l.length<=i:=by simpa using h1
  have J:i=l.length:=by omega
  subst J;have hT:=A l.length;rw[I] at*
  refine gA Z (ai [0,3] (vv (bc l) (by omega)) Z Z Z Z Z (by simp only[W7,Xj,Xp,Xq,aD,bb];rfl) Z Z ?_);refine gA Z (fp (r0:= .sl 4 0 (bc l).length 1) (.inr Z) Z (fy.fR 4 (bc l) aH Z (aB _ _) (by simp[PV.aZ]) (.done (.bI Z (fun k _=>by rw[Xo])))))
theorem Gp(l:List Fact)(hl:l.length<=100000000)(hF: ∀x∈l,QI x):Pure prog 22 [.iv (aT 2 l Fact.c)] (.iv (aT 1 (dE l) aH)):=by
 refine ah ab func22 Z (by decide) ntmps22 Z (by simp) Z ?_;refine gA Z (ai [] (Bh) Z Z Z Z Z Z Z Z ?_);refine gA Z (ai [0,1] (zk [] l.length ⟨by omega,by omega⟩ (by decide)) Z Z Z Z Z (by simp only[W7,Xj,Xp,Xq,aD,bb];rfl) Z Z ?_);refine gA Z ?_;obtain⟨B,j⟩: ∃B:Nat->By,∀i,B i=enc l.length++(l.take i).flatMap fg:=⟨_,fun _=>rfl⟩
 have y:([]:By)++enc ((l.length:Int)).toNat=B 0:=by rw[j,Zm,aaa,XM];rfl
 have A:B l.length=dE l:=by rw[j,Yk,dE]
 have u: ∀i,(B i).length<=11+110000*100000000:=fun i=>by rw[j];exact DI fg hl (fun x J=>Cw (hF x J)) i
 rw[y];refine aN 0 l.length (Xc _) (fun i=>⟨[(3,.ptr 0 0),(12,.iv (aT 2 l Fact.c)),(13,pI l.length),(14,pI i)],[(0,io (o7 3 (B i))),(3,io (hZ (B i)))],4⟩) (fun _=>True) [2] ac
  (wk Z Z Z (bi (bi (bi (bi trivial)))) ⟨⟨_,rfl,.of_eq Z⟩,WY Z,rfl,hR Z (by first|rfl|exact aB _ _) Z trivial⟩ Z) fun i hi _=>?_
 refine gA Z ?_;refine W0 (fun h1=>?_) (fun h1=>?_)
 .have h1:i<l.length:=by simpa using h1
  have hf:=hF _ (Cr h1);have I:=u i;have G:B i++fg (l.getD i co)=B (i+1):=by rw[j,j,bD h1,Xf]
  refine gA Z (ai [0,3] (vu (B i) (l.getD i co) hf (by omega)) Z Z Z Z Z (by simp only[W7,Xj,Xp,Xq,aD,bb];rfl) Z Z ?_);rw[G];refine gA Z ⟨h1,ac,[5],wk Z Z Z (bi (bi (bi (bi ac)))) ⟨⟨_,rfl,.of_eq Z⟩,WY Z,rfl,hR Z (by first|rfl|exact aB _ _) Z ac⟩ Z⟩
 .have h1:l.length<=i:=by simpa using h1
  have D:i=l.length:=by omega
  subst D;have hT:=u l.length;rw[A] at*
  refine gA Z (ai [0,3] (vv (dE l) (by omega)) Z Z Z Z Z (by simp only[W7,Xj,Xp,Xq,aD,bb];rfl) Z Z ?_);refine gA Z (fp (r0:= .sl 4 0 (dE l).length 1) (.inr Z) Z (fy.fR 4 (dE l) aH Z (aB _ _) (by simp[PV.aZ]) (.done (.bI Z (fun k _=>by rw[Xo])))))
end Go.Proofs.YtlmhfgbkchnfbaaGreatDoor
namespace Go.Proofs.YtlmhfgbkchnfbaaGreatDoor
open Go Go.Al Go.Proofs.Tryz Go.En
theorem cz(xs:By):(XC xs.length).map (fun k=>(aH (xs.getD k co)).map PV.iv)=dd xs:=by
 apply Zy
 .simp
 .intro i h1 u;have j:i<xs.length:=by simpa using h1
  simp[Z8,W5 j]
theorem UB(l xs:By)(hb:l.length+xs.length<=100000000000000):bh prog 63 [.ptr 0 0,.iv (aT 1 xs aH)] (wO l) (.a7 []) (wH (l++xs)) 3:=by
 refine ak ab func63 Z (by decide) ntmps63 Z (by simp) ?_;refine gl Z ?_ (ar [2] (by first|exact .inr Z|exact .inl Z) Z (wk Z Z Z (bi ac) ⟨⟨_,rfl,.of_eq ?_⟩,WY Z,rfl,hR Z ?_ Z ac⟩ Z))
 .refine⟨ac,by simp,ac,?_,by omega,by omega⟩;rw[show(List.map (fun k=>List.map PV.iv ((fun k=>aH (xs.getD k co)) k)) (XC xs.length))=dd xs from cz xs];exact fi (fun _=>rfl) xs
 .rw[<-W1];rfl
 .rw[Xg];exact congrArg _ (cz xs)
theorem EH(l xs:By)(hb:l.length+xs.length<=80000000000000):bh prog 32 [.ptr 0 0,.iv (aT 1 xs aH)] (wO l) (.a7 []) (wH (l++xs)) 3:=by
 refine ak ab func32 Z (by decide) ntmps32 Z (by simp) ?_;refine gA Z ?_;refine W0 (fun zz=>?_) (fun zz=>?_)<;>(try(exact absurd zz (by decide)))
 refine gA Z (ai [0,1] (UB l xs (by omega)) Z Z Z Z Z (by simp only[W7,Xj,Xp,Xq,aD,bb];rfl) Z Z ?_);refine gA Z (ar [2] (by first|exact .inr Z|exact .inl Z) Z (wk Z Z Z (bi ac) ⟨⟨_,rfl,.of_eq Z⟩,WY Z,rfl,hR Z (by first|rfl|exact aB _ _) Z ac⟩ Z))
abbrev mkE(m:Int):List (List PV):=[[pY (IntKind.u8.wrap (m.fdiv (2 ^ min (Zt 24) IntKind.u32.bits)))],[pY (IntKind.u8.wrap (m.fdiv (2 ^ min (Zt 16) IntKind.u32.bits)))],[pY (IntKind.u8.wrap (m.fdiv (2 ^ min (Zt 8) IntKind.u32.bits)))],[pY (IntKind.u8.wrap m)]]
abbrev E5(m:Nat):By:=[UInt8.ofNat (m/16777216),UInt8.ofNat (m/65536),UInt8.ofNat (m/256),UInt8.ofNat m]
theorem GQ(m:Nat):mkE (m:Int)=dd (E5 m):=by
 have j:(2:Int) ^ min (Zt 24) IntKind.u32.bits=16777216:=by decide
 have u:(2:Int) ^ min (Zt 16) IntKind.u32.bits=65536:=by decide
 have x:(2:Int) ^ min (Zt 8) IntKind.u32.bits=256:=by decide
 unfold mkE;rw[j,u,x,Yp _ (by decide),Yp _ (by decide),Yp _ (by decide)];have h1:=B3 (m/16777216);have y:=B3 (m/65536);have A:=B3 (m/256);rw[show((m:Int)/16777216)=((m/16777216:Nat):Int) from rfl,show((m:Int)/65536)=((m/65536:Nat):Int) from rfl,show((m:Int)/256)=((m/256:Nat):Int) from rfl,h1,y,A,B3];rfl
theorem qz(l:By):0<=qA l:=Int.emod_nonneg _ (by decide)
theorem Il(n:Int)(h:0<=n):Pure prog 33 [pV n] (.iv (aT 1 (E5 n.toNat) aH)):=by
 obtain⟨m,rfl⟩: ∃m:Nat,n=(m:Int):=⟨n.toNat,by omega⟩
 refine ah ab func33 Z (by decide) ntmps33 Z (by simp) Z ?_;refine gl Z ?_ (dD (by first|exact .inr Z|exact .inl Z) Z Z (GQ m) Z);trivial
def kI(a:By):By:=(XC 4).map fun k=>a.getD (a.length-5+k) co
def sX(k:UInt8)(n:Nat)(body:By):By:=[k]++enc n++hQ body
def ck(a:By)(k:UInt8)(n:Nat)(body:By):By:=sX k n body++E5 (qA (sX k n body++kI a)).toNat++ [90]
set_option maxHeartbeats 1000000 in
theorem zm(a body:By)(k:UInt8)(a0:Int)(Y:5<=a.length)(ha:a.length<=1000000000)(hn:0<=a0∧a0<=1000000000000)(hb:body.length<=900000000):
  bh prog 21 [.iv (aT 1 a aH),pY (k.toNat:Int),pI a0,.iv (aT 1 body aH)] [] (.sl 0 0 (ck a k a0.toNat body).length 1) [(0,io (hZ (ck a k a0.toNat body)))] 1:=by
 have hW:(sX k a0.toNat body).length<=900000100:=by
  have h1:=wF a0.toNat;have J:=jT body;rw[sX,W1,W1,Xu];omega
 refine ak ab func21 Z (by decide) ntmps21 Z (by simp) ?_;refine gA Z (ai [] (Bh) Z Z Z Z Z Z Z Z ?_);refine gA Z (ai [0,1] (xS [] k (by decide)) Z Z Z Z Z (by simp only[W7,Xj,Xp,Xq,aD,bb];rfl) Z Z ?_);refine gA Z (ai [0,2] (zk ([]++ [k]) a0 hn (by simp)) Z Z Z Z Z (by simp only[W7,Xj,aD];exact congrArg (fun z=> [_,io z]) (aD _ _)) Z Z ?_);refine gM 1 Z (bZ [] (t:=⟨[(0,.iv (aT 1 a aH)),(3,.iv (aT 1 body aH)),(9,.ptr 0 0)],[(0,io (o7 3 ([]++ [k]++enc a0.toNat))),(3,io (hZ ([]++ [k]++enc a0.toNat)))],4⟩) (wk Z Z Z (bi (bi (bi ac))) ⟨⟨_,rfl,.of_eq Z⟩,WY Z,rfl,hR Z (aB _ _) Z ac⟩ Z) ?_);refine gA Z (bB Z (kG (mO ab body Z Z Z Z Z Z Z Z Z (fun j hj=>rfl)) Z) ?_);rintro t rfl;refine gA Z (ai [0,3] (EE ([]++ [k]++enc a0.toNat) ⟨body.toArray⟩ (by show body.toArray.size<=_;simp;omega) (by have:=wF a0.toNat;simp only[W1,Yg,Xu];omega)) Z Z Z Z Z (by simp only[W7,Xj,Xp,Xq,aD,bb];rfl) Z Z ?_);have e:([]:By)++ [k]++enc a0.toNat++hQ body=sX k a0.toNat body:=rfl;rw[show(⟨body.toArray⟩:aq).data.toList=body from rfl,e];rw[ck];generalize sX k a0.toNat body=W at*
 refine gA Z (ai [0,4] (vv W (by omega)) Z Z Z Z Z (by simp only[W7,Xj,aD];exact congrArg (fun z=> [_,io z]) (aD _ _)) Z Z ?_);refine gM 2 Z (bZ [] (t:=⟨[(0,.iv (aT 1 a aH)),(9,.ptr 0 0),(10,.sl 5 0 W.length 1)],[(0,io (o7 4 W)),(4,io (hZ W)),(5,io (hZ W))],6⟩) (wk Z Z Z (bi (bi (bi ac))) ⟨⟨_,rfl,.of_eq Z⟩,WY Z,rfl,hR Z (aB _ _) Z (hR Z (aB _ _) Z ac)⟩ Z) ?_);have G:((a.length:Int)-4-1).toNat=a.length-5:=by omega
 have y:((a.length:Int)-1).toNat-((a.length:Int)-4-1).toNat=4:=by omega
 have x:(XC (((a.length:Int)-1).toNat-((a.length:Int)-4-1).toNat)).map (fun k=>(aH (a.getD (((a.length:Int)-4-1).toNat+k) co)).map PV.iv)=dd (kI a):=by rw[y,G];rfl
 have I:(kI a).length=4:=by simp[kI]
 refine gM 15 Z (hC:=(by refine⟨⟨⟨⟨⟨ac,?_⟩,?_⟩,?_⟩,by omega,by omega,by omega⟩,by simp,ac,by rw[x];exact fi (fun _=>rfl) _,by omega,by omega⟩<;>exact⟨by omega,by omega⟩)) (iY 6 (fun k=>aH ((W++kI a).getD k co)) Z (cG (by rw[Xg];exact congrArg _ x)) ?_ ?_ ?_)
 .simp[AF.kK,PV.aZ]
 .have D:dd W++(XC (((a.length:Int)-1).toNat-((a.length:Int)-4-1).toNat)).map (fun k=>(aH (a.getD (((a.length:Int)-4-1).toNat+k) co)).map PV.iv)=dd (W++kI a):=by rw[x];exact Xg.symm
  refine⟨fun k e j p A B=>?_,by simp[AO.kK,aY,PV.aZ],de _ _ _ _ _ _,de _ _ _ _ _ _,ac⟩;have u:(dd (W++kI a))[k]? =io e:=by rw[<-D];exact A
  exact de 6 1 0 1 (W++kI a) aH k e j p u B
 refine bZ (L:=[]) (t:=⟨[(9,.ptr 0 0),(10,.iv (aT 1 (W++kI a) aH))],[(0,io (o7 4 W)),(4,io (hZ W))],7⟩) (wk Z Z Z (bi ⟨.iv (.bI (by rw[W1,I,y]) (fun k _=>by rw[Xo])),rfl,ac⟩) ⟨⟨_,rfl,.of_eq Z⟩,WY Z,rfl,hR Z (by first|rfl|exact aB _ _) Z ac⟩ Z) ?_;refine gA Z (aF (RN (W++kI a) (by rw[W1];omega)) Z Z Z Z Z Z ?_);refine gA Z (aF (Il (qA (W++kI a)) (qz _)) Z Z Z Z Z Z ?_);refine gA Z (ai [0,4] (EH W (E5 (qA (W++kI a)).toNat) (by show W.length+4<=_;omega)) Z Z Z Z Z (by simp only[W7,Xj,Xp,Xq,aD,bb];rfl) Z Z ?_);refine gA Z (ai [0,7] (xS (W++E5 (qA (W++kI a)).toNat) 90 (by rw[W1];show W.length+4<=_;omega)) Z Z Z Z Z (by simp only[W7,Xj,aD];exact congrArg (fun z=> [_,io z]) (aD _ _)) Z Z ?_);refine gA Z (ai [0,8] (vv (W++E5 (qA (W++kI a)).toNat++ [90]) (by rw[W1,W1];show W.length+4+1<=_;omega)) Z Z Z Z Z (by simp only[W7,Xj,aD];exact congrArg (fun z=> [_,io z]) (aD _ _)) Z Z ?_);refine gA Z (ar [9] (by first|exact .inr Z|exact .inl Z) Z (wk Z Z Z (bi ac) (hR Z (aB _ _) Z ac) Z))
abbrev Ss:By:=[80,68,74,49]
def yw(p:Prog):By:=Ss++E5 (vX p).toNat
def bF(p:Prog):By:=yw p++E5 (qA (yw p)).toNat++ [90]
theorem cU(p:Prog):(bF p).length=13:=rfl
set_option maxHeartbeats 1000000 in
theorem UK(hS:fJ)(p:Prog)(hf:p.fit)(hs:p.size<=10000000)(ht:p.ts<=800000000)(hc:(gP p).1=0):bh prog 17 [ag p.c] [] (.a7 [.sl 0 0 13 1,pI 0]) [(0,io (hZ (bF p)))] 1:=by
 have hM:=Qd hS p hf hs ht
 replace hM:Pure prog 30 [ag p.c] (.a7 [pV (vX p),pI 0]):=by rw[yk,am hc]at hM;exact hM
 have x:(yw p).length=8:=rfl;have B:0<=vX p:=qz _;refine ak ab func17 Z (by decide) ntmps17 Z (by simp) ?_;refine gA Z (aF (hM) Z Z Z Z Z Z ?_);refine gA Z ?_;refine W0 (fun zz=>?_) (fun zz=>?_)<;>(try(exact absurd zz (by decide)))
 refine gA Z (ai [] (Bh) Z Z Z Z Z Z Z Z ?_);refine gA Z (bB Z (N4 (es:=[[pY 80],[pY 68],[pY 74],[pY 49]]) ab Z Z Z Z Z (fun k=>aH (Ss.getD k co)) Z Z ?_ Z (by decide) Z) ?_)
 .intro k e u
  match k,u with
  |0,u=>cases u;rfl
  |1,u=>cases u;rfl
  |2,u=>cases u;rfl
  |3,u=>cases u;rfl
 rintro t rfl;refine gA Z (ai [1,2] (bh.le (aa:=[.ptr 0 0,.iv (.bI 1 4 fun k=>(fun k=>aH (Ss.getD k co)) (0+k))]) (EH [] Ss (by decide)) ⟨.refl _,.iv (.bI Z (fun k _=>by rw[Xo])),ac⟩) Z Z Z Z Z (by simp only[W7,Xj,Xp,Xq,aD,bb];rfl) Z Z ?_);refine gM 1 Z (bZ [] (t:=⟨[(4,pV (vX p)),(6,.ptr 1 0)],[(1,io (o7 4 Ss)),(4,io (hZ Ss))],5⟩) (wk Z Z Z (bi (bi ac)) ⟨⟨_,rfl,.of_eq Z⟩,WY Z,rfl,hR Z (aB _ _) Z ac⟩ Z) ?_);refine gA Z (aF (Il (vX p) B) Z Z Z Z Z Z ?_);refine gA Z (ai [1,4] (EH Ss (E5 (vX p).toNat) (by show 8<=_;decide)) Z Z Z Z Z (by simp only[W7,Xj,Xp,Xq,aD,bb];rfl) Z Z ?_);refine gM 1 Z (bZ [] (t:=⟨[(6,.ptr 1 0)],[(1,io (o7 5 (yw p))),(5,io (hZ (yw p)))],6⟩) (wk Z Z Z (bi ac) ⟨⟨_,rfl,.of_eq Z⟩,WY Z,rfl,hR Z (aB _ _) Z ac⟩ Z) ?_);rw[bF];generalize yw p=A at*
 refine gA Z (ai [1,5] (vv A (by omega)) Z Z Z Z Z (by simp only[W7,Xj,Xp,Xq,aD,bb];rfl) Z Z ?_);refine gA Z (sc (asv:=[.sl 6 0 A.length 1]) (Pure.nS (RN A (by omega))) Z Z Z Z Z (lJ (i:=6) (sz:=1) (fun k=>aH (A.getD k co)) Z (cG (aB _ _)) (by simp[aY,PV.aZ]) ⟨.bI Z (fun k _=>by rw[Xo]),ac⟩) Z (fun j o y=>nomatch y) Z ?_);refine gA Z (aF (Il (qA A) (qz _)) Z Z Z Z Z Z ?_);refine gA Z (ai [1,5] (EH A (E5 (qA A).toNat) (by show A.length+4<=_;omega)) Z Z Z Z Z (by simp only[W7,Xj,aD];exact congrArg (fun z=> [_,io z]) (aD _ _)) Z Z ?_);refine gA Z (ai [1,7] (xS (A++E5 (qA A).toNat) 90 (by rw[W1];show A.length+4<=_;omega)) Z Z Z Z Z (by simp only[W7,Xj,aD];exact congrArg (fun z=> [_,io z]) (aD _ _)) Z Z ?_);refine gA Z (ai [1,8] (vv (A++E5 (qA A).toNat++ [90]) (by rw[W1,W1];show A.length+4+1<=_;omega)) Z Z Z Z Z (by simp only[W7,Xj,aD];exact congrArg (fun z=> [_,io z]) (aD _ _)) Z Z ?_);have hl:(A++E5 (qA A).toNat++ [90]).length=13:=by rw[W1,W1,x];rfl
 refine gA Z (ar [9] (by first|exact .inr Z|exact .inl Z) Z (wk Z Z Z ⟨.a7 ⟨.row hl,.refl _,ac⟩,rfl,ac⟩ (hR Z (aB _ _) Z ac) Z))
theorem MF(hS:fJ)(p:Prog)(hf:p.fit)(hs:p.size<=10000000)(ht:p.ts<=800000000)(hc: ¬(gP p).1=0):Pure prog 17 [ag p.c] (.a7 [rP,pI 4]):=by
 have hM:=Qd hS p hf hs ht
 replace hM:Pure prog 30 [ag p.c] (.a7 [pV 0,pI 4]):=by rw[yk,be hc]at hM;exact hM
 refine ah ab func17 Z (by decide) ntmps17 Z (by simp) Z ?_;refine gA Z (aF (hM) Z Z Z Z Z Z ?_);refine gA Z ?_;refine W0 (fun zz=>?_) (fun zz=>?_)<;>(try(exact absurd zz (by decide)))
 refine gA Z (aM (by first|exact .inr Z|exact .inl Z) Z (.of_eq ?_));rfl
theorem RG{h:AH}(l:By){j n:Nat}(hj:h.get j=io (hZ l))(hn:n<=l.length):xp h 1 (.sl j 0 n 1)=io (dd (l.take n)):=by
 have e:Xv 1 1=jp:=rfl;unfold xp;simp only[e,hj,hZ,aS,Xo,Xw,Nat.ble_eq,ZP];rw[show Y4 n l.length=jp from X0 hn];show io _=_;rw[dd,List.map_take]
theorem Dj(l:By)(n:Nat)(h0:0<n)(hn:n<=l.length)(hb:l.length<=1000000000):bh prog 20 [.sl 0 0 n 1] [hZ l] (.sl 1 0 n 1) [(0,io (hZ l)),(1,io (hZ (l.take n)))] 2:=by
 have hl:(l.take n).length=n:=by rw[XA];omega
 refine ak ab func20 Z (by decide) ntmps20 Z (by simp) ?_;refine gA Z (Jv ab n n Z Z Z Z Z Z Z Z Z h0 (by omega) (by show 1*n<=_;omega) Z (by decide) (z:=[pY 0]) Z (.inr ⟨rfl,rfl⟩) Z ?_);refine gA Z (bB Z (Kf (news:=dd (l.take n)) (eu:=Ru) ab Z Z Z Z Z Z (by simp) Z (ib (by exact RG l Z hn)) (fun e j=>by obtain⟨k,_,rfl⟩:=XH.1 j;rfl) (by rw[Xw,hl]) h0 Z) ?_);rintro t rfl;refine gA Z (ar [1] (by first|exact .inr Z|exact .inl Z) Z (wk Z Z Z (bi ac) (hR Z Z Z (hR Z Z Z ac)) Z))
end Go.Proofs.YtlmhfgbkchnfbaaGreatDoor
namespace Go.Proofs.YtlmhfgbkchnfbaaGreatDoor
open Go Go.Al Go.Proofs.Tryz Go.En Go.Bo
abbrev jC(i k:Nat)(a:By)(a0:Int):AO:= .cells [.ptr i 0,.sl k 0 a.length 1,pI a0]
abbrev jO(p:Prog)(n:Nat)(m:FM)(a:By)(a0:Int):List AO:=[bt m,b8 p n 0,hZ a,jC 1 2 a a0]
abbrev jH(p:Prog)(n:Nat)(m:FM)(a:By)(a0:Int):AH:=[(0,io (bt m)),(1,io (b8 p n 0)),(2,io (hZ a)),(3,io (jC 1 2 a a0))]
theorem vw(p:Prog)(n:Nat)(m:FM)(a:By)(a0:Int):bh prog 12 [.ptr 3 0] (jO p n m a a0) (pI a0) (jH p n m a a0) 4:=by
 refine ak ab func12 Z (by decide) ntmps12 Z (by simp) ?_;refine gA Z ?_;refine W0 (fun zz=>?_) (fun zz=>?_)<;>(try(exact absurd zz (by decide)))
 refine gA Z (ar [] (by first|exact .inr Z|exact .inl Z) Z (wk Z Z Z (bi ac) (hM Z Z Z ⟨⟨_,rfl,.of_eq Z⟩,WY Z,rfl,hR Z (by first|rfl|exact aB _ _) Z ⟨⟨_,rfl,.of_eq Z⟩,WY Z,rfl,ac⟩⟩) Z))
theorem ER(p:Prog)(n:Nat)(m:FM)(a:By)(a0:Int)(h0:0<a.length)(ha:a.length<=1000000000):bh prog 9 [.ptr 3 0] (jO p n m a a0) (.iv (aT 1 a aH)) (jH p n m a a0) 4:=by
 have hF:=Dj a a.length h0 (W8 _) ha;rw[Yk]at hF;refine ak ab func9 Z (by decide) ntmps9 Z (by simp) ?_;refine gA Z ?_;refine W0 (fun zz=>?_) (fun zz=>?_)<;>(try(exact absurd zz (by decide)))
 refine gA Z (ai [2] (hF) Z Z Z Z Z (by simp only[W7,Xj,Xp,Xq,aD,bb];rfl) Z Z ?_);refine gA Z ⟨.inr Z,.sl 4 0 a.length 1,rfl,fy.fR 4 a aH Z (by first|rfl|exact aB _ _) (by simp[PV.aZ]) (.done ⟨_,_,_,[],⟨rfl,rfl,rfl⟩,wk Z Z Z ⟨.iv (.bI Z (fun k _=>by rw[Xo])),rfl,ac⟩ (hM Z Z Z ⟨⟨_,rfl,.of_eq Z⟩,WY Z,rfl,hR Z (by first|rfl|exact aB _ _) Z ⟨⟨_,rfl,.of_eq Z⟩,WY Z,rfl,ac⟩⟩) Z⟩)⟩
theorem uF(p:Prog)(n:Nat)(a:By)(a0:Int){m:FM}{S:List Fact}(hk:b4 cE m S)(hs:rq aU S)(hF:xE S)(hl:S.length<=100000000):bh prog 8 [.ptr 3 0] (jO p n m a a0) (.iv (aT 2 S Fact.c)) (jH p n m a a0) 4:=by
 refine ak ab func8 Z (by decide) ntmps8 Z (by simp) ?_;refine gA Z ?_;refine W0 (fun zz=>?_) (fun zz=>?_)<;>(try(exact absurd zz (by decide)))
 refine gA Z (ai [0,1] (Im p n hk hs hF hl) Z Z Z Z Z Z Z Z ?_);refine gA Z (ar [] (by first|exact .inr Z|exact .inl Z) Z (wk Z Z Z (bi ac) (hM Z Z Z ⟨⟨_,rfl,.of_eq Z⟩,WY Z,rfl,hR Z (by first|rfl|exact aB _ _) Z ⟨⟨_,rfl,.of_eq Z⟩,WY Z,rfl,ac⟩⟩) Z))
theorem Gl(p:Prog)(n:Nat)(m:FM)(hb:p.size<=1000000000):bh prog 56 [.ptr 1 0] (bO p n m) (ag p.c) (bH p n m) 2:=by
 refine ak ab func56 Z (by decide) ntmps56 Z (by simp) ?_;refine gA Z ?_;refine W0 (fun zz=>?_) (fun zz=>?_)<;>(try(exact absurd zz (by decide)))
 refine gA Z (aF (Ih p hb) Z Z Z Z Z Z ?_);refine gA Z (ar [] (by first|exact .inr Z|exact .inl Z) Z (wk Z Z Z (bi ac) (hM Z Z Z ⟨⟨_,rfl,.of_eq Z⟩,WY Z,rfl,ac⟩) Z))
section
section
variable (hS:fJ) (p:Prog) (hf:p.fit) (hs:p.size<=10000000) (ht:p.ts<=800000000)
include hS hf hs ht
theorem zr(hc:(gP p).1=0):bh prog 7 [ag p.c] [] (.a7 [.ptr 3 0,pI 0]) (jH p 0 [] (bF p) 0) 4:=by
 refine ak ab func7 Z (by decide) ntmps7 Z (by simp) ?_;refine gA Z (ai [] (UK hS p hf hs ht hc) Z Z Z Z Z Z Z Z ?_);refine gA Z ?_;refine W0 (fun zz=>?_) (fun zz=>?_)<;>(try(exact absurd zz (by decide)))
 refine gA Z (ai [] (V2 hS p hf hs hc) Z Z Z Z Z Z Z Z ?_);refine gA Z ?_;refine W0 (fun zz=>?_) (fun zz=>?_)<;>(try(exact absurd zz (by decide)))
 refine gA Z (ar [2,3,1,4] (by first|exact .inr Z|exact .inl Z) Z (wk Z Z Z ⟨.of_eq Z,rfl,ac⟩ (hM Z Z Z ⟨⟨_,rfl,.of_eq Z⟩,WY Z,rfl,hR Z (by first|rfl|exact aB _ _) Z ⟨⟨_,rfl,.of_eq Z⟩,WY Z,rfl,ac⟩⟩) Z))
theorem Gm(hc: ¬(gP p).1=0):Pure prog 7 [ag p.c] (.a7 [Wd,pI 4]):=by
 refine ah ab func7 Z (by decide) ntmps7 Z (by simp) Z ?_;refine gA Z (aF (MF hS p hf hs ht hc) Z Z Z Z Z Z ?_);refine gA Z ?_;refine W0 (fun zz=>?_) (fun zz=>?_)<;>(try(exact absurd zz (by decide)))
 refine gA Z (aM (by first|exact .inr Z|exact .inl Z) Z (.of_eq ?_));rfl
end
theorem Mn(a b:By):lc ((⟨a.toArray⟩:aq)=⟨b.toArray⟩)=lc (a=b):=by
 refine decide_eq_decide.2 ⟨fun h=>?_,fun h=>by rw[h]⟩;have:=congrArg (fun x:aq=>x.data.toList) h;exact this
theorem EL(a b:By):Pure prog 48 [.iv (aT 1 a aH),.iv (aT 1 b aH)] (pB (lc (a=b))):=by
 refine ah ab func48 Z (by decide) ntmps48 Z (by simp) Z ?_;refine gM 7 Z (bB Z (kG (mO ab a Z Z Z Z Z Z Z Z Z (fun j u=>rfl)) Z) ?_);rintro t rfl;refine gM 1 Z (bB Z (kG (mO ab b Z Z Z Z Z Z Z Z Z (fun j u=>rfl)) Z) ?_);rintro t rfl;refine gA Z (aM (by first|exact .inr Z|exact .inl Z) Z (.of_eq ?_));exact congrArg pB (Mn a b)
theorem MD(b a:By):Pure prog 27 [.iv (aT 1 b aH),.iv (aT 1 a aH)] (pB (lc (b.take a.length=a))):=by
 refine ah ab func27 Z (by decide) ntmps27 Z (by simp) Z ?_;refine gA Z ?_;refine W0 (fun h1=>?_) (fun h1=>?_)
 .have h1:a.length<=b.length:=by have:=of_decide_eq_true h1;omega
  refine gM 6 Z (bB Z (kG (pH (m:=a.length) ab Z Z Z Z Z Z Z h1) Z) ?_);rintro t rfl;refine gA Z (aF (EL (b.take a.length) a) Z Z Z Z Z Z ?_);refine gA Z (aM (by first|exact .inr Z|exact .inl Z) Z (.of_eq ?_));rfl
 .have h1: ¬a.length<=b.length:=by have:=of_decide_eq_false h1;omega
  rw[decide_eq_false fun h=>h1 (by rw[<-h,XA];omega)];refine gA Z (aM (by first|exact .inr Z|exact .inl Z) Z (.of_eq ?_));rfl
end
end Go.Proofs.YtlmhfgbkchnfbaaGreatDoor
namespace Go.Proofs.YtlmhfgbkchnfbaaGreatDoor
open Go Go.Al Go.En Go.Bo
structure LdJ (L:List Fact) (n:Nat) (i:Nat) (x:FM×Nat):Prop where
 keeps:b4 cE x.1 (L.take (4096*i))
 num:x.2=n+i
theorem GC{p:Prog}{A B:List Fact}(j:Go.Bo.ef aU (okF p) (A++B))(u:B.length<=4096):ir aU (okF p) A (B.map fun f=>(jp,f))=0:=by
 rw[kC,BX pg j.zg];refine⟨by rw[Xw];exact u,fun x y=>?_,j.JR⟩;obtain⟨f,hf,rfl⟩:=XH.1 y;exact j.ok f (YB _ hf)
theorem yH{p:Prog}{L:List Fact}(h:Go.Bo.ef aU (okF p) L)(j:Nat):Go.Bo.ef aU (okF p) (L.take j):=
 ⟨h.zg.sublist (List.take_sublist _ _),fun f hf=>h.ok f (YK hf),by have:=h.JR;rw[XA];omega⟩
theorem ef.Vi{p:Prog}{L:List Fact}(h:Go.Bo.ef aU (okF p) L): ∀f∈L,f.args.length<=8:=fun f hf=>iT (h.ok f hf)
theorem UE(p:Prog)(n:Nat)(a:By)(a0:Int){m:FM}(L:List Fact)(hk:b4 cE m [])(hL:Go.Bo.ef aU (okF p) L)(hr:p.aG.length<=1000000000)(hn:n<=100000000000):
  Al.Fn Tryz.prog 59 [.ptr 3 0,.iv (aT 2 L Fact.c)] (jO p n m a a0) fun r h k=> ∃m' n',n'<=n+17∧b4 cE m' L∧r=pB jp∧h=jH p n' m' a a0∧k=4:=by
 have e0:=hL.JR;have h8:=ef.Vi hL;refine lW ab Tryz.func59 Z (by decide) Tryz.ntmps59 Z (by simp) ?_;refine gA Z ?_;refine iZ 0 ((L.length+4095)/4096) (Xc _) (fun i (x:FM×Nat)=>⟨[(0,.ptr 3 0),(1,.iv (aT 2 (L.drop (4096*i)) Fact.c))],jH p x.2 x.1 a a0,4⟩) (LdJ L n) (m,n) [] ⟨hk,rfl⟩
  (wk Z Z Z (bi (bi trivial)) (hM Z Z Z ⟨⟨_,rfl,.of_eq Z⟩,WY Z,rfl,hR Z (by first|rfl|exact aB _ _) Z ⟨⟨_,rfl,.of_eq Z⟩,WY Z,rfl,ac⟩⟩) Z) fun i x hi hJ=>?_
 obtain⟨m1,A⟩:=x;obtain⟨u,g0⟩:=hJ;dsimp only at u g0;have J:(L.drop (4096*i)).length=L.length-4096*i:=X7 ..;obtain⟨D,Y⟩: ∃D,D=L.drop (4096*i):=⟨_,rfl⟩
 rw[<-Y]at J ⊢;refine gA Z ?_;refine W0 (fun h1=>?_) (fun h1=>?_)
 .have h1:0<D.length:=by have:=of_decide_eq_true h1;omega
  have f0:i<(L.length+4095)/4096:=by omega
  obtain⟨c,hc⟩: ∃c,c=min D.length 4096:=⟨_,rfl⟩
  have c0:c<=D.length:=by omega
  have hB:(D.take c).length<=4096:=by rw[XA];omega
  have I:L.take (4096*i)++D.take c=L.take (4096*(i+1)):=by
   rw[Y,show 4096*(i+1)=4096*i+4096 by omega,List.take_add];congr 1;rw[hc,J];by_cases h:L.length-4096*i<=4096
   .rw[Y9 h,Xh (by rw[X7];exact W8 _),Xh (by rw[X7];exact h)]
   .rw[Nat.min_eq_right (by omega)]
  have j:=yH hL (4096*(i+1));rw[<-I]at j;have y:=GC j hB;have G: ∀f∈D,f.args.length<=8:=fun f hf=>h8 f (aao (by rw[Y]at hf;exact hf));have B:=Iu [] (D.take c) Zf (YU.1 j.zg).2.1 (fun f hf=>nomatch hf) (fun f hf=>by have:=G f (YK hf);omega) (by decide) (by omega);rw[nq]at B
  have hA:=Dp p A ((D.take c).map fun f=>(jp,f)) hr u (yH hL _) (fun x hx=>by
   obtain⟨f,hf,rfl⟩:=XH.1 hx;have:=G f (YK hf)
   show f.args.length<=_;omega) (by omega)
  rw[show ke aU (okF p) (L.take (4096*i),A) ((D.take c).map fun f=>(jp,f))=(L.take (4096*(i+1)),A+1) by unfold ke;rw[am y,BX pg j.zg,I]]at hA;have b0:D.drop c=L.drop (4096*(i+1)):=by
   by_cases h:D.length<=4096
   .rw[Yy (by omega),Yy (by omega)]
   .rw[Y,List.drop_drop];congr 1;omega
  have d0:ae (.iv (.bI 2 (D.length-c) fun k=>Fact.c (D.getD (c+k) co))) (.iv (aT 2 (L.drop (4096*(i+1))) Fact.c)):=by rw[<-b0];exact .iv (Cy Z)
  (refine gM 9 Z ?_;refine bZ (L:=[]) (t:=⟨[(0,.ptr 3 0),(1,.iv (aT 2 D Fact.c)),(5,pI c)],jH p A m1 a a0,4⟩) (wk Z Z Z (bi (bi ⟨.of_eq (congrArg pI (by omega)),rfl,ac⟩)) (hM Z Z Z ⟨⟨_,rfl,.of_eq Z⟩,WY Z,rfl,hR Z Z Z ⟨⟨_,rfl,.of_eq Z⟩,WY Z,rfl,ac⟩⟩) Z) ?_)
  refine gA Z (kT (p:= .iv (aT 2 (D.take c) Fact.c)) 7 Z Z Z Z Z Z (pH (m:=c) ab Z Z Z Z Z Z Z c0) ?_);refine gA Z (bf ab [] (Pure.nS (Pure.le (aa:=[rP,.iv (aT 2 (D.take c) Fact.c)]) B ⟨.nil _ _,.refl _,ac⟩)) Z Z Z Z Z Z Z Z Z Z Z Z (by(repeat' (first|exact ac|exact rfl|exact ae.refl _|exact ae.bk (by assumption)|apply W0))<;>first|omega|(simp only[W6];omega)|(simp;done)|(simp;omega)) Z (by(repeat' (first|exact ac|exact rfl|exact ae.refl _|exact ae.bk (by assumption)|apply W0))<;>first|omega|(simp only[W6];omega)|(simp;done)|(simp;omega)) ?_);refine gA Z (JB ab [0,1] hA Z Z Z Z Z Z Z Z Z Z Z (by(repeat' (first|exact ac|exact rfl|exact ae.refl _|exact ae.bk (by assumption)|apply W0))<;>first|omega|(simp only[W6];omega)|(simp;done)|(simp;omega)) ?_);rintro r h' n' ⟨m2,hk2,rfl,rfl,rfl⟩;refine⟨_,rfl,_,rfl,(by(repeat' (first|exact ac|exact rfl|exact ae.refl _|exact ae.bk (by assumption)|apply W0))<;>first|omega|(simp only[W6];omega)|(simp;done)|(simp;omega)),?_⟩;refine gA Z ?_;refine W0 (fun zz=>?_) (fun zz=>?_)<;>(try(rw[y]at zz;exact absurd zz (by decide)))
  refine gA Z ⟨f0,(m2,A+1),[],⟨hk2,by dsimp only;omega⟩,wk Z Z Z (bi ⟨d0,rfl,ac⟩) (hM Z Z Z ⟨⟨_,rfl,.of_eq Z⟩,WY Z,rfl,hR Z (by first|rfl|exact aB _ _) Z ⟨⟨_,rfl,.of_eq Z⟩,WY Z,rfl,ac⟩⟩) Z⟩
 .have h1:D.length=0:=by have:=of_decide_eq_false h1;omega
  rw[Xh (by omega)]at u;refine gA Z (dC (r:=pB jp) (h:=jH p A m1 a a0) (n:=4) [] (.inr Z) Z ⟨m1,A,by omega,u,rfl,rfl,rfl⟩ (wk Z Z Z (bi ac) (hM Z Z Z ⟨⟨_,rfl,.of_eq Z⟩,WY Z,rfl,hR Z (by first|rfl|exact aB _ _) Z ⟨⟨_,rfl,.of_eq Z⟩,WY Z,rfl,ac⟩⟩) Z))
end Go.Proofs.YtlmhfgbkchnfbaaGreatDoor
namespace Go.Proofs.YtlmhfgbkchnfbaaGreatDoor
open Go Go.Al Go.Proofs.Tryz Go.En
abbrev oq(b:By)(s:RS):AO:= .cells [.iv (aT 1 b aH),pI s.p,pI s.f]
abbrev uJ(b:By)(s:RS):AH:=[(0,io (oq b s))]
def gn(s:RS)(e:Int):RS:=if s.f=0 then⟨s.p,e⟩ else s
theorem rF(b:By)(s:RS)(e:Int):bh prog 87 [.ptr 0 0,pI e] [oq b s] (.a7 []) (uJ b (gn s e)) 1:=by
 refine ak ab func87 Z (by decide) ntmps87 Z (by simp) ?_;refine gA Z ?_;refine W0 (fun g1=>?_) (fun g1=>?_)
 .have g1:s.f=0:=of_decide_eq_true g1;rw[gn,am g1];refine gA Z (ar [] (by first|exact .inr Z|exact .inl Z) Z (wk Z Z Z (bi ac) ⟨⟨_,rfl,.of_eq Z⟩,WY Z,rfl,ac⟩ Z))
 .have g1: ¬s.f=0:=of_decide_eq_false g1;rw[gn,be g1];refine gA Z (ar [] (by first|exact .inr Z|exact .inl Z) Z (wk Z Z Z (bi ac) ⟨⟨_,rfl,.of_eq Z⟩,WY Z,rfl,ac⟩ Z))
theorem vq(b:By)(s:RS):bh prog 84 [.ptr 0 0] [oq b s] (pB (lc (s.f=0))) (uJ b s) 1:=by
 refine ak ab func84 Z (by decide) ntmps84 Z (by simp) ?_;refine gA Z ?_;refine W0 (fun zz=>?_) (fun zz=>?_)<;>(try(exact absurd zz (by decide)))
 refine gA Z (ar [] (by first|exact .inr Z|exact .inl Z) Z (wk Z Z Z (bi ac) ⟨⟨_,rfl,.of_eq Z⟩,WY Z,rfl,ac⟩ Z))
theorem sQ(b:By)(s:RS):bh prog 54 [.ptr 0 0] [oq b s] (pI s.f) (uJ b s) 1:=by
 refine ak ab func54 Z (by decide) ntmps54 Z (by simp) ?_;refine gA Z ?_;refine W0 (fun zz=>?_) (fun zz=>?_)<;>(try(exact absurd zz (by decide)))
 refine gA Z (ar [] (by first|exact .inr Z|exact .inl Z) Z (wk Z Z Z (bi ac) ⟨⟨_,rfl,.of_eq Z⟩,WY Z,rfl,ac⟩ Z))
def js(b:By)(s:RS):Int:=if s.f=0∧s.p<b.length then 13 else s.f
theorem Ig(b:By)(s:RS):bh prog 89 [.ptr 0 0] [oq b s] (pI (js b s)) (uJ b s) 1:=by
 refine ak ab func89 Z (by decide) ntmps89 Z (by simp) ?_;refine gA Z ?_;refine W0 (fun zz=>?_) (fun zz=>?_)<;>(try(exact absurd zz (by decide)))
 refine gA Z ?_;refine W0 (fun g1=>?_) (fun g1=>?_)
 .have g1:s.f=0:=of_decide_eq_true g1;refine gA Z ?_;refine W0 (fun g2=>?_) (fun g2=>?_)
  .have g2:s.p<b.length:=by have:=of_decide_eq_true g2;omega
   rw[js,am ⟨g1,g2⟩];refine gA Z (ar [] (by first|exact .inr Z|exact .inl Z) Z (wk Z Z Z (bi ac) ⟨⟨_,rfl,.of_eq Z⟩,WY Z,rfl,ac⟩ Z))
  .have g2: ¬s.p<b.length:=by have:=of_decide_eq_false g2;omega
   rw[js,be fun h=>g2 h.2];refine gA Z (ar [] (by first|exact .inr Z|exact .inl Z) Z (wk Z Z Z (bi ac) ⟨⟨_,rfl,.of_eq Z⟩,WY Z,rfl,ac⟩ Z))
 .have g1: ¬s.f=0:=of_decide_eq_false (g1.trans Z);rw[js,be fun h=>g1 h.1];refine gA Z (ar [] (by first|exact .inr Z|exact .inl Z) Z (wk Z Z Z (bi ac) ⟨⟨_,rfl,.of_eq Z⟩,WY Z,rfl,ac⟩ Z))
theorem S6: ∀c:Nat,c<256->(BitVec.ofInt IntKind.u8.bits (c:Int)&&&BitVec.ofInt IntKind.u8.bits 127).toNat=c % 128:=by
 intro c h;have j: ∀c:Fin 256,(BitVec.ofInt IntKind.u8.bits ((c.val:Nat):Int)&&&BitVec.ofInt IntKind.u8.bits 127).toNat=c.val % 128:=by decide+kernel
 exact j ⟨c,h⟩
theorem Tt(n:Nat)(h:n<18446744073709551616):IntKind.u64.wrap (n:Int)=(n:Int):=by
 have e:IntKind.u64.wrap (n:Int)=(n:Int) % 18446744073709551616:=rfl;rw[e];omega
theorem w8(n:Nat)(h:n<256):IntKind.u8.wrap (n:Int)=(n:Int):=by
 have e:IntKind.u8.wrap (n:Int)=(n:Int) % 256:=rfl;rw[e];omega
theorem Sm(n:Nat)(h:n<18446744073709551616):(BitVec.ofInt 64 (n:Int)).toNat=n:=by
 rw[BitVec.toNat_ofInt];have:((n:Int) % ((2 ^ 64:Nat):Int))=(n:Int):=by
  show(n:Int) % 18446744073709551616=_;omega
 rw[this];rfl
theorem Tf(x c i:Nat)(hi:i<=9)(D:x<128 ^ i)(hc:c<256)(J:i=9->c<=1):
  IntKind.u64.wrap ((BitVec.ofInt IntKind.u64.bits (x:Int)|||BitVec.ofInt IntKind.u64.bits (IntKind.u64.wrap (IntKind.u64.wrap (IntKind.u8.wrap ((BitVec.ofInt IntKind.u8.bits (c:Int)&&&BitVec.ofInt IntKind.u8.bits 127).toNat:Int))*2 ^ min ((7*(i:Int))).toNat IntKind.u64.bits))).toNat:Int)=((x+c % 128*128 ^ i:Nat):Int):=by
 rw[S6 c hc,w8 _ (by omega),Tt (c % 128) (by omega)];have A:(128:Nat) ^ i=2 ^ (7*i):=by rw[show(128:Nat)=2 ^ 7 from rfl,<-Nat.pow_mul]
 have Y:min ((7*(i:Int))).toNat IntKind.u64.bits=7*i:=by
  show min _ 64=_;omega
 have u:c % 128*2 ^ (7*i)<18446744073709551616∧x+c % 128*2 ^ (7*i)<18446744073709551616:=by
  rw[A]at D;by_cases h:i=9
  .subst h;have:=J Z;have h1:c % 128<=1:=by omega
   have G:c % 128*2 ^ (7*9)<=1*2 ^ (7*9):=Xt _ h1;have I:(2:Nat) ^ (7*9)=9223372036854775808:=by decide
   omega
  .have h1:2 ^ (7*i)<=2 ^ 56:=aan (by decide) (by omega);have G:c % 128*2 ^ (7*i)<=127*2 ^ 56:=Nat.mul_le_mul (by omega) h1;have I:(2:Nat) ^ 56=72057594037927936:=by decide
   omega
 rw[Y];have j:(((c % 128:Nat):Int))*2 ^ (7*i)=((c % 128*2 ^ (7*i):Nat):Int):=by push_cast;rfl
 rw[j,Tt _ u.1];have B:x<2 ^ (7*i):=A▸D;have y:(BitVec.ofInt IntKind.u64.bits (x:Int)|||BitVec.ofInt IntKind.u64.bits ((c % 128*2 ^ (7*i):Nat):Int)).toNat=x+c % 128*2 ^ (7*i):=by
  show(BitVec.ofInt 64 (x:Int)|||BitVec.ofInt 64 ((c % 128*2 ^ (7*i):Nat):Int)).toNat=_;rw[BitVec.toNat_or,Sm x (by omega),Sm _ u.1,Nat.or_comm,ZM,<-Nat.two_pow_add_eq_or_of_lt B,Nat.add_comm]
 rw[y,Tt _ u.2,A]
def kL(b:By)(s:RS):Nat×Nat×RS:=match dec 0 0 (b.drop s.p) with
 | .ok n k=>(n,k,s)
 | .short=>(0,0,gn s 10)
 | .form=>(0,0,gn s 11)
structure NxJ (b:By) (s:RS) (i x:Nat):Prop where
 le:i<=9
 eq:dec 0 0 (b.drop s.p)=dec i x (b.drop (s.p+i))
 lt:x<128 ^ i
theorem Ii(b:By)(s:RS)(hb:b.length<=1000000000)(hp:s.p<=1000000000):bh prog 86 [.ptr 0 0] [oq b s] (.a7 [pU (kL b s).1,pI (kL b s).2.1]) (uJ b (kL b s).2.2) 1:=by
 refine ak ab func86 Z (by decide) ntmps86 Z (by simp) ?_;refine gA Z ?_;refine iZ 0 10 (by decide) (fun i x=>⟨[(0,.ptr 0 0),(4,pU x),(7,pI i)],[(0,io (oq b s))],1⟩) (NxJ b s) 0 [] ⟨by decide,rfl,by decide⟩
  (wk Z Z Z (bi (bi (bi trivial))) ⟨⟨_,rfl,.of_eq Z⟩,WY Z,rfl,ac⟩ Z) fun i x hi I=>?_
 have B:=I.le;refine gA Z ?_;refine W0 (fun zz=>?_) (fun zz=>?_)<;>(try(have h9:=of_decide_eq_false zz;omega))
 refine gA Z ?_;refine W0 (fun g1=>?_) (fun g1=>?_)
 .have g1:b.length<=s.p+i:=by have:=of_decide_eq_true g1;omega
  have e:kL b s=(0,0,gn s 10):=by rw[kL,I.eq,Yy g1];cases i<;>rfl
  rw[e];refine gA Z (ai [0] (rF b s 10) Z Z Z Z Z Z Z Z ?_);refine gA Z (ar [] (by first|exact .inr Z|exact .inl Z) Z (wk Z Z Z (bi ac) ⟨⟨_,rfl,.of_eq Z⟩,WY Z,rfl,ac⟩ Z))
 have g1:s.p+i<b.length:=by have:=of_decide_eq_false g1;omega
 obtain⟨c,J⟩: ∃c,c=(b.getD (s.p+i) co).toNat:=⟨_,rfl⟩
 have u:c<256:=by rw[J];exact(b.getD (s.p+i) co).toNat_lt
 have j:((s.p:Int)+(i:Int)).toNat=s.p+i:=by omega
 have a0:b.drop (s.p+i)=b.getD (s.p+i) co::b.drop (s.p+i+1):=by
  rw[YO g1];simp[Z8,W5 g1]
 have G:=I.eq;rw[a0,dec,<-J]at G;have A:(i=9∧1<c)∨(0<i∧c=0)->kL b s=(0,0,gn s 11):=fun h=>by rw[kL,G,am h]
 have e1:c<128-> ¬((i=9∧1<c)∨(0<i∧c=0))->kL b s=(x+c % 128*128 ^ i,i+1,s):=fun h1 h2=>by rw[kL,G,be h2,am h1]
 have e2: ¬c<128-> ¬((i=9∧1<c)∨(0<i∧c=0))->NxJ b s (i+1) (x+c % 128*128 ^ i):=fun h1 h2=>by
  rw[be h2,be h1]at G;refine⟨by omega,G,?_⟩;have h3:=I.lt;have h4:c % 128*128 ^ i<=127*128 ^ i:=Xt _ (by omega);rw[ZO];omega
 refine gA Z ?_;refine W0 (fun Y=>?_) (fun Y=>?_)
 .have Y:i=9:=by have:=of_decide_eq_true Y;omega
  refine gA Z ?_;refine W0 (fun a2=>?_) (fun a2=>?_)
  .have a2: ¬c>1:=by have:=of_decide_eq_false a2;rw[j]at this;omega
   refine gA Z ?_;refine W0 (fun a3=>?_) (fun a3=>?_)
   .refine gA Z ?_;refine W0 (fun a4=>?_) (fun a4=>?_)
    .have a4:c=0:=by have:=of_decide_eq_true a4;rw[j]at this;omega
     have e:kL b s=(0,0,gn s 11):=A (by omega);rw[e];refine gA Z (ai [0] (rF b s 11) Z Z Z Z Z Z Z Z ?_);refine gA Z (ar [] (by first|exact .inr Z|exact .inl Z) Z (wk Z Z Z (bi ac) ⟨⟨_,rfl,.of_eq Z⟩,WY Z,rfl,ac⟩ Z))
    .have a4: ¬c=0:=by have:=of_decide_eq_false a4;rw[j]at this;omega
     have y: ¬((i=9∧1<c)∨(0<i∧c=0)):=by omega
     refine gA Z ?_;refine W0 (fun g3=>?_) (fun g3=>?_)
     .have g3:c<128:=by have:=of_decide_eq_true g3;rw[j]at this;omega
      rw[e1 g3 y];refine gA Z (ar [] (by first|exact .inr Z|exact .inl Z) Z (wk Z Z Z ⟨.of_eq (congrArg (fun z=>PV.a7 [PV.iv (.v (.int .u64 z)),pI ((i:Int)+1)]) (by rw[j,<-J];exact Tf x c i B I.lt u (by omega))),rfl,ac⟩ ⟨⟨_,rfl,.of_eq Z⟩,WY Z,rfl,ac⟩ Z))
     .have g3: ¬c<128:=by have:=of_decide_eq_false g3;rw[j]at this;omega
      have D:=e2 g3 y;refine gA Z ⟨by omega,_,[],D,wk Z Z Z (bi ⟨.of_eq (congrArg (fun z=>PV.iv (.v (.int .u64 z))) (by rw[j,<-J];exact Tf x c i B I.lt u (by omega))),rfl,bi ac⟩) ⟨⟨_,rfl,.of_eq Z⟩,WY Z,rfl,ac⟩ Z⟩
   .exact absurd (of_decide_eq_false (a3.trans Z)) (by omega)
  .have a2:c>1:=by have:=of_decide_eq_true (a2.trans Z);rw[j]at this;omega
   have e:kL b s=(0,0,gn s 11):=A (by omega);rw[e];refine gA Z (ai [0] (rF b s 11) Z Z Z Z Z Z Z Z ?_);refine gA Z (ar [] (by first|exact .inr Z|exact .inl Z) Z (wk Z Z Z (bi ac) ⟨⟨_,rfl,.of_eq Z⟩,WY Z,rfl,ac⟩ Z))
 .have Y: ¬i=9:=by have:=of_decide_eq_false (Y.trans Z);omega
  refine gA Z ?_;refine W0 (fun a3=>?_) (fun a3=>?_)
  .have a3:0<i:=by have:=of_decide_eq_true a3;omega
   refine gA Z ?_;refine W0 (fun a4=>?_) (fun a4=>?_)
   .have a4:c=0:=by have:=of_decide_eq_true a4;rw[j]at this;omega
    have e:kL b s=(0,0,gn s 11):=A (by omega);rw[e];refine gA Z (ai [0] (rF b s 11) Z Z Z Z Z Z Z Z ?_);refine gA Z (ar [] (by first|exact .inr Z|exact .inl Z) Z (wk Z Z Z (bi ac) ⟨⟨_,rfl,.of_eq Z⟩,WY Z,rfl,ac⟩ Z))
   .have a4: ¬c=0:=by have:=of_decide_eq_false a4;rw[j]at this;omega
    have y: ¬((i=9∧1<c)∨(0<i∧c=0)):=by omega
    refine gA Z ?_;refine W0 (fun g3=>?_) (fun g3=>?_)
    .have g3:c<128:=by have:=of_decide_eq_true g3;rw[j]at this;omega
     rw[e1 g3 y];refine gA Z (ar [] (by first|exact .inr Z|exact .inl Z) Z (wk Z Z Z ⟨.of_eq (congrArg (fun z=>PV.a7 [PV.iv (.v (.int .u64 z)),pI ((i:Int)+1)]) (by rw[j,<-J];exact Tf x c i B I.lt u (by omega))),rfl,ac⟩ ⟨⟨_,rfl,.of_eq Z⟩,WY Z,rfl,ac⟩ Z))
    .have g3: ¬c<128:=by have:=of_decide_eq_false g3;rw[j]at this;omega
     have D:=e2 g3 y;refine gA Z ⟨by omega,_,[],D,wk Z Z Z (bi ⟨.of_eq (congrArg (fun z=>PV.iv (.v (.int .u64 z))) (by rw[j,<-J];exact Tf x c i B I.lt u (by omega))),rfl,bi ac⟩) ⟨⟨_,rfl,.of_eq Z⟩,WY Z,rfl,ac⟩ Z⟩
  .have a3: ¬0<i:=by have:=of_decide_eq_false (a3.trans Z);omega
   have y: ¬((i=9∧1<c)∨(0<i∧c=0)):=by omega
   refine gA Z ?_;refine W0 (fun g3=>?_) (fun g3=>?_)
   .have g3:c<128:=by have:=of_decide_eq_true g3;rw[j]at this;omega
    rw[e1 g3 y];refine gA Z (ar [] (by first|exact .inr Z|exact .inl Z) Z (wk Z Z Z ⟨.of_eq (congrArg (fun z=>PV.a7 [PV.iv (.v (.int .u64 z)),pI ((i:Int)+1)]) (by rw[j,<-J];exact Tf x c i B I.lt u (by omega))),rfl,ac⟩ ⟨⟨_,rfl,.of_eq Z⟩,WY Z,rfl,ac⟩ Z))
   .have g3: ¬c<128:=by have:=of_decide_eq_false g3;rw[j]at this;omega
    have D:=e2 g3 y;refine gA Z ⟨by omega,_,[],D,wk Z Z Z (bi ⟨.of_eq (congrArg (fun z=>PV.iv (.v (.int .u64 z))) (by rw[j,<-J];exact Tf x c i B I.lt u (by omega))),rfl,bi ac⟩) ⟨⟨_,rfl,.of_eq Z⟩,WY Z,rfl,ac⟩ Z⟩
theorem sx: ∀(l:By) (i a n k:Nat),dec i a l= .ok n k->i+1<=k∧k<=i+l.length
 | [],_,_,_,_,h=>by rw[dec]at h;cases h
 |c::r,i,a,n,k,h=>by
  rw[dec]at h;split at h
  .cases h
  .split at h
   .cases h;rw[Xy];omega
   .have:=sx r _ _ _ _ h;rw[Xy];omega
theorem oG(b:By)(s:RS)(hf:s.f=0)(hp:s.p<=b.length):(∃n k,dec 0 0 (b.drop s.p)= .ok n k∧kL b s=(n,k,s)∧1<=k∧s.p+k<=b.length)∨(∃e:Int,(e=10∨e=11)∧kL b s=(0,0,⟨s.p,e⟩)∧(∀n k,dec 0 0 (b.drop s.p)≠ .ok n k)∧(dec 0 0 (b.drop s.p)= .short->e=10)∧(dec 0 0 (b.drop s.p)= .form->e=11)):=by
 unfold kL;cases h:dec 0 0 (b.drop s.p) with
 |ok n k=>
  have:=sx _ _ _ _ _ h;rw[X7]at this;exact .inl ⟨n,k,rfl,rfl,by omega,by omega⟩
 |short=>exact .inr ⟨10,.inl Z,(by show(0,0,gn s 10)=_;rw[gn,am hf]),(fun _ _ h=>nomatch h),(fun _=>rfl),(fun h=>nomatch h)⟩
 |form=>exact .inr ⟨11,.inr Z,(by show(0,0,gn s 11)=_;rw[gn,am hf]),(fun _ _ h=>nomatch h),(fun h=>nomatch h),(fun _=>rfl)⟩
theorem zj(b:By)(s:RS)(most:Nat)(hb:b.length<=1000000000)(hp:s.p<=b.length):bh prog 51 [.ptr 0 0,pU most] [oq b s] (pU (cP b most s).1) (uJ b (cP b most s).2) 1:=by
 have x:=Ii b s hb (by omega);refine ak ab func51 Z (by decide) ntmps51 Z (by simp) ?_;refine gA Z (ai [0] (vq b s) Z Z Z Z Z Z Z Z ?_);refine gA Z ?_;refine W0 (fun g1=>?_) (fun g1=>?_)
 .have g1: ¬s.f=0:=by simpa using g1
  rw[cP,be g1];refine gA Z (ar [] (by first|exact .inr Z|exact .inl Z) Z (wk Z Z Z (bi ac) ⟨⟨_,rfl,.of_eq Z⟩,WY Z,rfl,ac⟩ Z))
 have g1:s.f=0:=by simpa using g1
 rcases oG b s g1 hp with⟨n,k,hd,A,B,D⟩|⟨e,G,A,hd,j,u⟩
 .rw[A]at x;refine gA Z (ai [0] (x) Z Z Z Z Z Z Z Z ?_);refine gA Z ?_;refine W0 (fun zz=>?_) (fun zz=>?_)<;>(try(simp at zz;omega))
  refine gA Z ?_;refine W0 (fun g2=>?_) (fun g2=>?_)
  .have g2: ¬n<=most:=by have:=of_decide_eq_true g2;omega
   rw[cP,am g1,hd];simp only[be g2];refine gA Z (ai [0] (rF b s 12) Z Z Z Z Z Z Z Z ?_);rw[show gn s 12=⟨s.p,12⟩ from am g1];refine gA Z ?_;refine W0 (fun zz=>?_) (fun zz=>?_)<;>(try(simp at zz;done))
   refine gA Z (ar [] (by first|exact .inr Z|exact .inl Z) Z (wk Z Z Z (bi ac) ⟨⟨_,rfl,.of_eq Z⟩,WY Z,rfl,ac⟩ Z))
  .have g2:n<=most:=by have:=of_decide_eq_false g2;omega
   rw[cP,am g1,hd];simp only[am g2];refine gA Z ?_;refine W0 (fun zz=>?_) (fun zz=>?_)<;>(try(exact absurd g1 (by simpa using zz)))
   refine gA Z (ar [] (by first|exact .inr Z|exact .inl Z) Z (wk Z Z Z (bi ac) ⟨⟨_,rfl,.of_eq (by simp only[g1];rfl)⟩,WY Z,rfl,ac⟩ Z))
 .rw[A]at x;refine gA Z (ai [0] (x) Z Z Z Z Z Z Z Z ?_);have hu:cP b most s=(0,⟨s.p,e⟩):=by
   rw[cP,am g1];cases h:dec 0 0 (b.drop s.p) with
   |ok n k=>exact absurd h (hd n k)
   |short=>rw[j h]
   |form=>rw[u h]
  rw[hu];have y:e≠0:=by omega
  refine gA Z ?_;refine W0 (fun zz=>?_) (fun zz=>?_)<;>(try(simp at zz;done))
  refine gA Z ?_;refine W0 (fun zz=>?_) (fun zz=>?_)<;>(try(simp at zz;exact absurd zz y))
  refine gA Z (ar [] (by first|exact .inr Z|exact .inl Z) Z (wk Z Z Z (bi ac) ⟨⟨_,rfl,.of_eq Z⟩,WY Z,rfl,ac⟩ Z))
theorem VZ{h:AH}(l:By):xp h 1 (.iv (aT 1 l aH))=io (dd l):=by
 unfold xp;have e:Xv 1 1=jp:=rfl;simp only[e];exact congrArg io (cz l)
theorem RZ(b:By)(s:RS)(n:Nat)(hb:b.length<=1000000000)(hp:s.p<=b.length)(hn:n<=b.length-s.p):bh prog 85 [.ptr 0 0,pI n] [oq b s] (.iv (.bI 1 n fun k=>aH (b.getD (s.p+k) co))) (uJ b ⟨s.p+n,s.f⟩) 1:=by
 refine ak ab func85 Z (by decide) ntmps85 Z (by simp) ?_;refine gA Z ?_;refine W0 (fun g1=>?_) (fun g1=>?_)
 .exact absurd (of_decide_eq_true g1) (by omega)
 have h1:((s.p:Int)+(n:Int)).toNat=s.p+n:=by omega
 have j:((s.p:Int)+(n:Int)-(n:Int)).toNat=s.p:=by omega
 have e:s.p+n-s.p=n:=by omega
 refine gA Z (ar [] (by first|exact .inr Z|exact .inl Z) Z (wk Z Z Z ⟨.of_eq (by show PV.iv (.bI 1 (((s.p:Int)+(n:Int)).toNat-((s.p:Int)+(n:Int)-(n:Int)).toNat) fun k=>aH (b.getD (((s.p:Int)+(n:Int)-(n:Int)).toNat+k) co))=_;rw[h1,j,e];rfl),rfl,ac⟩ ⟨⟨_,rfl,.of_eq Z⟩,WY Z,rfl,ac⟩ Z))
theorem Uw(b:By)(s:RS)(n:Nat)(hb:b.length<=1000000000)(hp:s.p<=b.length)(hf:s.f=0)(hn:n<=b.length-s.p):bh prog 53 [.ptr 0 0,pI n] [oq b s] .any (uJ b ⟨s.p+n,s.f⟩) 1:=by
 refine ak ab func53 Z (by decide) ntmps53 Z (by simp) ?_;refine gA Z (ai [0] (vq b s) Z Z Z Z Z Z Z Z ?_);refine gA Z ?_;refine W0 (fun zz=>?_) (fun zz=>?_)<;>(try(simp[hf]at zz;done))
 refine gA Z ?_;refine W0 (fun zz=>?_) (fun zz=>?_)<;>(try(have j:=of_decide_eq_true zz;omega))
 refine gA Z (ai [0] (RZ b s n hb hp hn) Z Z Z Z Z Z Z Z ?_);refine gA Z (bB Z (u1 (news:=(XC n).map fun k=>(aH (b.getD (s.p+k) co)).map PV.iv) (eu:=Ru) (sz:=1) ab Z Z Z Z Z Z Z (by decide) Z (eD (fi (fun _=>rfl) _)) (by show((XC n).map _).length*1<=_;simp;omega) (by simp;omega) Z) ?_);rintro t rfl;refine gA Z (ar [] (by first|exact .inr Z|exact .inl Z) Z (wk Z Z Z ⟨(fun M N U x h=> .any _),rfl,ac⟩ ⟨⟨_,rfl,.of_eq Z⟩,WY Z,rfl,ac⟩ Z))
theorem Ux(b:By)(s:RS)(n:Nat)(hf:s.f≠0):bh prog 53 [.ptr 0 0,pI n] [oq b s] .any (uJ b s) 1:=by
 refine ak ab func53 Z (by decide) ntmps53 Z (by simp) ?_;refine gA Z (ai [0] (vq b s) Z Z Z Z Z Z Z Z ?_);refine gA Z ?_;refine W0 (fun zz=>?_) (fun zz=>?_)<;>(try(simp[hf]at zz;done))
 refine gA Z (ar [] (by first|exact .inr Z|exact .inl Z) Z (wk Z Z Z ⟨(fun M N U x h=> .any _),rfl,ac⟩ ⟨⟨_,rfl,.of_eq Z⟩,WY Z,rfl,ac⟩ Z))
theorem FZ(n:Int)(h1: -9223372036854775808<=n)(j:n<9223372036854775808):IntKind.i64.wrap n=n:=by
 show(if(jp&&lc (n % 18446744073709551616>=9223372036854775808))=jp then n % 18446744073709551616-18446744073709551616 else n % 18446744073709551616)=n;by_cases h:n % 18446744073709551616>=9223372036854775808
 .rw[am (by simpa using h)];omega
 .rw[be (by simpa using h)];omega
theorem VV(n:Int)(h1:9223372036854775808<=n)(j:n<18446744073709551616):IntKind.i64.wrap n=n-18446744073709551616:=by
 show(if(jp&&lc (n % 18446744073709551616>=9223372036854775808))=jp then n % 18446744073709551616-18446744073709551616 else n % 18446744073709551616)=_;rw[am (by simp;omega)];omega
theorem U5(n:Nat)(h:n<18446744073709551616):IntKind.i64.wrap (IntKind.u64.wrap ((BitVec.ofInt IntKind.u64.bits (n:Int)&&&BitVec.ofInt IntKind.u64.bits 1).toNat:Int))=((n % 2:Nat):Int):=by
 have e:(BitVec.ofInt IntKind.u64.bits (n:Int)&&&BitVec.ofInt IntKind.u64.bits 1).toNat=n % 2:=by
  show(BitVec.ofInt 64 (n:Int)&&&BitVec.ofInt 64 1).toNat=_;rw[BitVec.toNat_and,Sm n h,show(BitVec.ofInt 64 1).toNat=1 from rfl,Nat.and_one_is_mod]
 rw[e,Tt _ (by omega),FZ _ (by omega) (by omega)]
theorem Vb(n:Nat):((n:Int).fdiv (2 ^ min (1:Int).toNat IntKind.u64.bits))=((n/2:Nat):Int):=by
 rw[show(2:Int) ^ min (1:Int).toNat IntKind.u64.bits=2 from by decide,Yp _ (by decide)];omega
theorem VT(n:Nat)(h:n<18446744073709551616):IntKind.i64.wrap ((BitVec.ofInt IntKind.i64.bits (IntKind.i64.wrap ((n:Int).fdiv (2 ^ min (1:Int).toNat IntKind.u64.bits))) ^^^ BitVec.ofInt IntKind.i64.bits (-((n % 2:Nat):Int))).toNat:Int)=AI n:=by
 rw[Vb,FZ ((n/2:Nat):Int) (by omega) (by omega)];show IntKind.i64.wrap ((BitVec.ofInt 64 ((n/2:Nat):Int) ^^^ BitVec.ofInt 64 (-((n % 2:Nat):Int))).toNat:Int)=AI n;unfold AI;by_cases j:n % 2=0
 .rw[am j,j,show(-((0:Nat):Int))=0 from rfl,Ek _ (by omega),FZ _ (by omega) (by omega)]
 .rw[be j,show n % 2=1 by omega,show BitVec.ofInt 64 (-((1:Nat):Int))=BitVec.ofInt 64 18446744073709551615 from by decide,El _ (by omega),VV _ (by omega) (by omega)];omega
theorem UH(b:By)(s:RS)(j hi:Int)(hb:b.length<=1000000000)(hp:s.p<=b.length):bh prog 162 [.ptr 0 0,pI j,pI hi] [oq b s] (pI (nI b j hi s).1) (uJ b (nI b j hi s).2) 1:=by
 have B:=Ii b s hb (by omega);refine ak ab func162 Z (by decide) ntmps162 Z (by simp) ?_;refine gA Z (ai [0] (vq b s) Z Z Z Z Z Z Z Z ?_);refine gA Z ?_;refine W0 (fun g1=>?_) (fun g1=>?_)
 .have g1: ¬s.f=0:=by simpa using g1
  rw[nI,be g1];refine gA Z (ar [] (by first|exact .inr Z|exact .inl Z) Z (wk Z Z Z (bi ac) ⟨⟨_,rfl,.of_eq Z⟩,WY Z,rfl,ac⟩ Z))
 have g1:s.f=0:=by simpa using g1
 rcases oG b s g1 hp with⟨n,k,hd,G,I,J⟩|⟨e,Y,G,hd,x,y⟩
 .rw[G]at B;have u:n<18446744073709551616:=(CD hd).1;refine gA Z (ai [0] (B) Z Z Z Z Z Z Z Z ?_);refine gA Z (Qn 25 (p:=pI ((n % 2:Nat):Int)) (.of_eq (congrArg pI (U5 n u))) (go_neg Z Z Z (by omega) (by omega) Z ?_));have A:=VT n u;refine gA Z ?_;refine W0 (fun zz=>?_) (fun zz=>?_)<;>(try(simp at zz;omega))
  refine gA Z ?_;refine W0 (fun g2=>?_) (fun g2=>?_)
  .have g2: ¬AI n<j:=by have h:=of_decide_eq_false g2;rw[<-A];exact h
   refine gA Z ?_;refine W0 (fun g3=>?_) (fun g3=>?_)
   .have g3:AI n>hi:=by have h:=of_decide_eq_true g3;rw[<-A];exact h
    rw[nI,am g1,hd];simp only[be (show¬(j<=AI n∧AI n<=hi) by omega)];refine gA Z (ai [0] (rF b s 12) Z Z Z Z Z Z Z Z ?_);rw[show gn s 12=⟨s.p,12⟩ from am g1];refine gA Z ?_;refine W0 (fun zz=>?_) (fun zz=>?_)<;>(try(simp at zz;done))
    refine gA Z (ar [] (by first|exact .inr Z|exact .inl Z) Z (wk Z Z Z (bi ac) ⟨⟨_,rfl,.of_eq Z⟩,WY Z,rfl,ac⟩ Z))
   .have g3: ¬AI n>hi:=by have h:=of_decide_eq_false g3;rw[<-A];exact h
    rw[nI,am g1,hd];simp only[am (show j<=AI n∧AI n<=hi by omega)];refine gA Z ?_;refine W0 (fun zz=>?_) (fun zz=>?_)<;>(try(exact absurd g1 (by simpa using zz)))
    refine gA Z (ar [] (by first|exact .inr Z|exact .inl Z) Z (wk Z Z Z ⟨.of_eq (congrArg pI A),rfl,ac⟩ ⟨⟨_,rfl,.of_eq (by simp only[g1];rfl)⟩,WY Z,rfl,ac⟩ Z))
  .have g2:AI n<j:=by have h:=of_decide_eq_true (g2.trans Z);rw[<-A];exact h
   rw[nI,am g1,hd];simp only[be (show¬(j<=AI n∧AI n<=hi) by omega)];refine gA Z (ai [0] (rF b s 12) Z Z Z Z Z Z Z Z ?_);rw[show gn s 12=⟨s.p,12⟩ from am g1];refine gA Z ?_;refine W0 (fun zz=>?_) (fun zz=>?_)<;>(try(simp at zz;done))
   refine gA Z (ar [] (by first|exact .inr Z|exact .inl Z) Z (wk Z Z Z (bi ac) ⟨⟨_,rfl,.of_eq Z⟩,WY Z,rfl,ac⟩ Z))
 .rw[G]at B;refine gA Z (ai [0] (B) Z Z Z Z Z Z Z Z ?_);refine gA Z (Qn 25 (p:=pI ((0 % 2:Nat):Int)) (.of_eq (congrArg pI (U5 0 (by decide)))) (go_neg Z Z Z (by decide) (by decide) Z ?_));have hu:nI b j hi s=(0,⟨s.p,e⟩):=by
   rw[nI,am g1];cases h:dec 0 0 (b.drop s.p) with
   |ok n k=>exact absurd h (hd n k)
   |short=>rw[x h]
   |form=>rw[y h]
  rw[hu];have D:e≠0:=by omega
  refine gA Z ?_;refine W0 (fun zz=>?_) (fun zz=>?_)<;>(try(simp at zz;done))
  refine gA Z ?_;refine W0 (fun zz=>?_) (fun zz=>?_)<;>(try(simp at zz;exact absurd zz D))
  refine gA Z (ar [] (by first|exact .inr Z|exact .inl Z) Z (wk Z Z Z (bi ac) ⟨⟨_,rfl,.of_eq Z⟩,WY Z,rfl,ac⟩ Z))
theorem Iq(b:By)(s:RS)(n:Nat)(hb:b.length<=1000000000)(hp:s.p<=b.length)(hn:b.length-s.p<n):bh prog 85 [.ptr 0 0,pI n] [oq b s] (.iv (aT 1 ([]:By) aH)) (uJ b (gn s 10)) 1:=by
 refine ak ab func85 Z (by decide) ntmps85 Z (by simp) ?_;refine gA Z ?_;refine W0 (fun g1=>?_) (fun g1=>?_)
 .refine gA Z (ai [0] (rF b s 10) Z Z Z Z Z Z Z Z ?_);refine gA Z (ar [] (by first|exact .inr Z|exact .inl Z) Z (wk Z Z Z ⟨.nil _ _,rfl,ac⟩ ⟨⟨_,rfl,.of_eq Z⟩,WY Z,rfl,ac⟩ Z))
 .exact absurd (of_decide_eq_false g1) (by omega)
theorem Uv(b:By)(s:RS)(n:Nat)(hb:b.length<=1000000000)(hp:s.p<=b.length)(hf:s.f=0)(hn:b.length-s.p<n):bh prog 53 [.ptr 0 0,pI n] [oq b s] .any (uJ b (gn s 10)) 1:=by
 refine ak ab func53 Z (by decide) ntmps53 Z (by simp) ?_;refine gA Z (ai [0] (vq b s) Z Z Z Z Z Z Z Z ?_);refine gA Z ?_;refine W0 (fun zz=>?_) (fun zz=>?_)<;>(try(simp[hf]at zz;done))
 refine gA Z ?_;refine W0 (fun zz=>?_) (fun zz=>?_)<;>(try(have j:=of_decide_eq_true zz;omega))
 refine gA Z (ai [0] (Iq b s n hb hp hn) Z Z Z Z Z Z Z Z ?_);refine gA Z (bB Z (u1 (news:=[]) (eu:=Ru) (sz:=1) ab Z Z Z Z Z Z Z (by decide) Z (by simp) (by decide) (by decide) Z) ?_);rintro t rfl;refine gA Z (ar [] (by first|exact .inr Z|exact .inl Z) Z (wk Z Z Z ⟨(fun M N U x h=> .any _),rfl,ac⟩ ⟨⟨_,rfl,.of_eq Z⟩,WY Z,rfl,ac⟩ Z))
theorem Uy(b:By)(s:RS)(n:Nat)(hb:b.length<=1000000000)(hp:s.p<=b.length):bh prog 53 [.ptr 0 0,pI n] [oq b s] .any (uJ b (Bz b n s)) 1:=by
 unfold Bz;split
 .rename_i hf;split
  .rename_i j;have h:=Uw b s n hb hp hf j;rw[hf]at h;exact h
  .rename_i j;have h:=Uv b s n hb hp hf (by omega);rw[gn,am hf]at h;exact h
 .rename_i hf;exact Ux b s n hf
theorem HT(b:By)(q n k:Nat)(h:k<n):b.getD (q+k) co=((b.drop q).take n).getD k 0:=by
 simp[Z8,XK,h,XW];rfl
theorem zl(b:By)(s:RS)(most:Nat)(hm:most<=1000000000)(hb:b.length<=1000000000)(hp:s.p<=b.length):bh prog 52 [.ptr 0 0,pI most] [oq b s] (pS (qC (dN b most s).1)) (uJ b (dN b most s).2) 1:=by
 have B:=Ii b s hb (by omega);refine ak ab func52 Z (by decide) ntmps52 Z (by simp) ?_;refine gA Z (ai [0] (vq b s) Z Z Z Z Z Z Z Z ?_);refine gA Z ?_;refine W0 (fun g1=>?_) (fun g1=>?_)
 .have g1: ¬s.f=0:=by simpa using g1
  rw[dN,be g1];refine gA Z (ar [] (by first|exact .inr Z|exact .inl Z) Z (wk Z Z Z (bi ac) ⟨⟨_,rfl,.of_eq Z⟩,WY Z,rfl,ac⟩ Z))
 have g1:s.f=0:=by simpa using g1
 rcases oG b s g1 hp with⟨n,k,hd,G,J,Y⟩|⟨e,he,G,hd,u,x⟩
 .rw[G]at B;have y:=Tt most (by omega);refine gA Z (ai [0] (B) Z Z Z Z Z Z Z Z ?_);refine gA Z ?_;refine W0 (fun zz=>?_) (fun zz=>?_)<;>(try(simp at zz;omega))
  refine gA Z ?_;refine W0 (fun zz=>?_) (fun zz=>?_)<;>(try(simp at zz;omega))
  refine gA Z ?_;refine W0 (fun g2=>?_) (fun g2=>?_)
  .have g2:n<=most:=by have h:=of_decide_eq_false g2;rw[y]at h;omega
   refine gA Z ?_;refine W0 (fun zz=>?_) (fun zz=>?_)<;>(try(have h:=of_decide_eq_true zz;omega))
   refine gA Z ?_;refine W0 (fun zz=>?_) (fun zz=>?_)<;>(try(exact absurd g1 (by simpa using zz)))
   have A:=FZ n (by omega) (by omega);by_cases g3:n<=b.length-(s.p+k)
   .have ht:dN b most s=((b.drop (s.p+k)).take n,⟨s.p+k+n,0⟩):=by
     rw[dN,am g1,hd];simp only[am g2,am g3]
    rw[ht];refine gA Z (ai [0] (bh.le (aa:=[.ptr 0 0,pI (IntKind.i64.wrap (n:Int))]) (RZ b ⟨s.p+k,s.f⟩ n hb (by show s.p+k<=_;omega) g3) ⟨.refl _,.of_eq (congrArg pI A),ac⟩) Z Z Z Z Z Z Z Z ?_);have hl:n=((b.drop (s.p+k)).take n).length:=by rw[XA,X7];omega
    refine gA Z (bB Z (kG (mO ab ((b.drop (s.p+k)).take n) Z Z Z Z Z Z Z Z hl (fun j I=>?_)) Z) ?_)
    .exact congrArg aH (HT b (s.p+k) n j (by omega))
    rintro t rfl;refine gA Z ?_;refine W0 (fun zz=>?_) (fun zz=>?_)<;>(try(exact absurd g1 (by simpa using zz)))
    refine gA Z (ar [] (by first|exact .inr Z|exact .inl Z) Z (wk Z Z Z (bi ac) ⟨⟨_,rfl,.of_eq (by simp only[g1];rfl)⟩,WY Z,rfl,ac⟩ Z))
   .have ht:dN b most s=([],⟨s.p,10⟩):=by
     rw[dN,am g1,hd];simp only[am g2,be g3]
    rw[ht];refine gA Z (ai [0] (bh.le (aa:=[.ptr 0 0,pI (IntKind.i64.wrap (n:Int))]) (Iq b ⟨s.p+k,s.f⟩ n hb (by show s.p+k<=_;omega) (by show b.length-(s.p+k)<_;omega)) ⟨.refl _,.of_eq (congrArg pI A),ac⟩) Z Z Z Z Z Z Z Z ?_);rw[show gn ⟨s.p+k,s.f⟩ 10=⟨s.p+k,10⟩ from am g1];refine gA Z (bB Z (kG (mO ab ([]:By) Z Z Z Z Z Z Z Z Z (fun j I=>absurd I (by simp))) Z) ?_);rintro t rfl;refine gA Z ?_;refine W0 (fun zz=>?_) (fun zz=>?_)<;>(try(simp at zz;done))
    refine gA Z (ar [] (by first|exact .inr Z|exact .inl Z) Z (wk Z Z Z (bi ac) ⟨⟨_,rfl,.of_eq Z⟩,WY Z,rfl,ac⟩ Z))
  .have g2: ¬n<=most:=by have h:=of_decide_eq_true (g2.trans Z);rw[y]at h;omega
   rw[dN,am g1,hd];simp only[be g2];refine gA Z (ai [0] (rF b s 12) Z Z Z Z Z Z Z Z ?_);rw[show gn s 12=⟨s.p,12⟩ from am g1];refine gA Z ?_;refine W0 (fun zz=>?_) (fun zz=>?_)<;>(try(simp at zz;done))
   refine gA Z (ar [] (by first|exact .inr Z|exact .inl Z) Z (wk Z Z Z (bi ac) ⟨⟨_,rfl,.of_eq Z⟩,WY Z,rfl,ac⟩ Z))
 .rw[G]at B;refine gA Z (ai [0] (B) Z Z Z Z Z Z Z Z ?_);have hu:dN b most s=([],⟨s.p,e⟩):=by
   rw[dN,am g1];cases h:dec 0 0 (b.drop s.p) with
   |ok n k=>exact absurd h (hd n k)
   |short=>rw[u h]
   |form=>rw[x h]
  rw[hu];have D:e≠0:=by omega
  refine gA Z ?_;refine W0 (fun zz=>?_) (fun zz=>?_)<;>(try(simp at zz;done))
  refine gA Z ?_;refine W0 (fun zz=>?_) (fun zz=>?_)<;>(try(simp at zz;exact absurd zz D))
  refine gA Z (ar [] (by first|exact .inr Z|exact .inl Z) Z (wk Z Z Z (bi ac) ⟨⟨_,rfl,.of_eq Z⟩,WY Z,rfl,ac⟩ Z))
theorem Dh(b:By)(hb:b.length<=1000000000):bh prog 49 [.iv (aT 1 b aH)] [] (.ptr 0 0) (uJ b ⟨0,0⟩) 1:=by
 refine ak ab func49 Z (by decide) ntmps49 Z (by simp) ?_;refine gA Z (bB Z (u1 (news:=dd b) (eu:=Ru) (sz:=1) ab Z Z Z Z Z Z Z (by decide) (by exact VZ b) (eD (fi (fun _=>rfl) b)) (by show(dd b).length*1<=_;simp;omega) (by simp;omega) Z) ?_);rintro t rfl;have hl:(dd b).length=b.length:=Xw ..;rw[hl];refine gM 5 Z (bZ [] (t:=⟨[(2,.ptr 2 0)],[(1,io (hZ b)),(2,io (.cells [.sl 1 0 b.length 1,pI 0,pI 0]))],3⟩) (wk Z Z Z (bi ac) (hR Z Z Z ⟨⟨_,rfl,.of_eq Z⟩,WY Z,rfl,ac⟩) Z) ?_);refine iY 1 (fun k=>aH (b.getD k co)) Z (cG Z) (by simp[AF.kK,PV.aZ]) ⟨de _ _ _ _ _ _,(by simp[AO.kK,aY,PV.aZ]),ac⟩ ?_;refine gA Z (ar [2] (by first|exact .inr Z|exact .inl Z) Z (wk Z Z Z (bi ac) ⟨⟨_,rfl,.cells ⟨.iv (.bI Z (fun k _=>by rw[Xo])),.refl _,.refl _,ac⟩⟩,WY Z,rfl,ac⟩ Z))
def bm(b:By)(s:RS):UInt8×RS:=if s.f=0 then(if s.p<b.length then(b.getD s.p 0,⟨s.p+1,0⟩) else(0,⟨s.p,10⟩)) else(0,s)
theorem Dm(b:By)(s:RS)(hb:b.length<=1000000000)(hp:s.p<=b.length):bh prog 50 [.ptr 0 0] [oq b s] (pY ((bm b s).1.toNat:Int)) (uJ b (bm b s).2) 1:=by
 unfold bm;refine ak ab func50 Z (by decide) ntmps50 Z (by simp) ?_;refine gA Z (ai [0] (vq b s) Z Z Z Z Z Z Z Z ?_);refine gA Z ?_;refine W0 (fun g1=>?_) (fun g1=>?_)
 .have g1: ¬s.f=0:=by simpa using g1
  rw[be g1];refine gA Z (ar [] (by first|exact .inr Z|exact .inl Z) Z (wk Z Z Z (bi ac) ⟨⟨_,rfl,.of_eq Z⟩,WY Z,rfl,ac⟩ Z))
 have g1:s.f=0:=by simpa using g1
 rw[am g1];by_cases g2:s.p<b.length
 .rw[am g2];refine gA Z (ai [0] (RZ b s 1 hb hp (by omega)) Z Z Z Z Z Z Z Z ?_);refine gA Z ?_;refine W0 (fun zz=>?_) (fun zz=>?_)<;>(try(exact absurd zz (by decide)))
  refine gA Z (ar [] (by first|exact .inr Z|exact .inl Z) Z (wk Z Z Z (bi ac) ⟨⟨_,rfl,.of_eq (by rw[g1];rfl)⟩,WY Z,rfl,ac⟩ Z))
 .rw[be g2];refine gA Z (ai [0] (Iq b s 1 hb hp (by omega)) Z Z Z Z Z Z Z Z ?_);rw[show gn s 10=⟨s.p,10⟩ from am g1];refine gA Z ?_;refine W0 (fun zz=>?_) (fun zz=>?_)<;>(try(exact absurd zz (by decide)))
  refine gA Z (ar [] (by first|exact .inr Z|exact .inl Z) Z (wk Z Z Z (bi ac) ⟨⟨_,rfl,.of_eq Z⟩,WY Z,rfl,ac⟩ Z))
theorem V8(b:By)(s:RS):bh prog 55 [.ptr 0 0] [oq b s] (pI s.p) (uJ b s) 1:=by
 refine ak ab func55 Z (by decide) ntmps55 Z (by simp) ?_;refine gA Z ?_;refine W0 (fun zz=>?_) (fun zz=>?_)<;>(try(exact absurd zz (by decide)))
 refine gA Z (ar [] (by first|exact .inr Z|exact .inl Z) Z (wk Z Z Z (bi ac) ⟨⟨_,rfl,.of_eq Z⟩,WY Z,rfl,ac⟩ Z))
end Go.Proofs.YtlmhfgbkchnfbaaGreatDoor
namespace Go.Proofs.YtlmhfgbkchnfbaaGreatDoor
open Go Go.Al Go.En
section
section
variable {b:By} {s:RS}
theorem rz{most:Nat}(h:s.p<=b.length):(cP b most s).2.p<=b.length:=by
 unfold cP;split
 .cases hd:dec 0 0 (b.drop s.p) with
  |ok n k=>
   have h1:=sx _ _ _ _ _ hd;rw[X7]at h1;dsimp only;split
   .show s.p+k<=_;omega
   .exact h
  |short=>exact h
  |form=>exact h
 .exact h
theorem fV{most:Nat}:(cP b most s).1<=most:=by
 unfold cP;split
 .cases hd:dec 0 0 (b.drop s.p) with
  |ok n k=>
   dsimp only;split
   .assumption
   .exact Xc _
  |short=>exact Xc _
  |form=>exact Xc _
 .exact Xc _
theorem ND{j hi:Int}(h:s.p<=b.length):(nI b j hi s).2.p<=b.length:=by
 unfold nI;split
 .cases hd:dec 0 0 (b.drop s.p) with
  |ok n k=>
   have h1:=sx _ _ _ _ _ hd;rw[X7]at h1;dsimp only;split
   .show s.p+k<=_;omega
   .exact h
  |short=>exact h
  |form=>exact h
 .exact h
theorem oy{most:Nat}(h:s.p<=b.length):(dN b most s).2.p<=b.length:=by
 unfold dN;split
 .cases hd:dec 0 0 (b.drop s.p) with
  |ok n k=>
   have h1:=sx _ _ _ _ _ hd;rw[X7]at h1;dsimp only;split
   .split
    .rename_i j;show s.p+k+n<=_;omega
    .exact h
   .exact h
  |short=>exact h
  |form=>exact h
 .exact h
theorem M5{n:Nat}(h:s.p<=b.length):(Bz b n s).p<=b.length:=by
 unfold Bz;split
 .split
  .show s.p+n<=_;omega
  .exact h
 .exact h
end
end
end Go.Proofs.YtlmhfgbkchnfbaaGreatDoor
namespace Go.Proofs.YtlmhfgbkchnfbaaGreatDoor
open Go Go.Al Go.Proofs.Tryz Go.En
theorem sB{b:By}{s:RS}(h:s.p<=b.length):(bm b s).2.p<=b.length:=by
 unfold bm;split
 .split
  .show s.p+1<=_;omega
  .exact h
 .exact h
def dW(b:By)(s:RS):Int×cW×RS:=
 if(bm b s).2.f≠0 then((bm b s).2.f,co,(bm b s).2)
 else if(bm b s).1=1 then((nI b (-2147483647) 2147483647 (bm b s).2).2.f,⟨1,(nI b (-2147483647) 2147483647 (bm b s).2).1,Xb⟩,(nI b (-2147483647) 2147483647 (bm b s).2).2)
 else if(bm b s).1=2 then((dN b 64 (bm b s).2).2.f,⟨2,0,qC (dN b 64 (bm b s).2).1⟩,(dN b 64 (bm b s).2).2)
 else(20,co,(bm b s).2)
def ix(b:By):Nat->RS->List cW->Int×List cW×RS
 |0,s,A=>(0,A,s)
 |n+1,s,A=>if(dW b s).1≠0 then((dW b s).1,[],(dW b s).2.2) else ix b n (dW b s).2.2 (A++ [(dW b s).2.1])
def og(b:By):Int×List cW:=
 let x:=cP b 8 ⟨0,0⟩
 let y:=ix b x.1 x.2 []
 if y.1≠0 then(y.1,[]) else if js b y.2.2≠0 then(js b y.2.2,[]) else(0,y.2.1)
def Ak(b:By):PV:=if(og b).1=0 then .a7 [.iv (aT 3 (og b).2 cW.c),pI 0] else .a7 [rP,pI (og b).1]
theorem Ji{b:By}{s:RS}(h:s.p<=b.length):(dW b s).2.2.p<=b.length:=by
 have h1:=sB h;unfold dW;split
 .exact h1
 .split
  .exact ND h1
  .split
   .exact oy h1
   .exact h1
theorem CP(c:UInt8):((c.toNat:Int)=1↔c=1)∧((c.toNat:Int)=2↔c=2):=by
 constructor
 .constructor
  .intro h;exact UInt8.toNat_inj.1 (by show c.toNat=1;omega)
  .rintro rfl;rfl
 .constructor
  .intro h;exact UInt8.toNat_inj.1 (by show c.toNat=2;omega)
  .rintro rfl;rfl
structure GtJ (b:By) (n:Nat) (s0:RS) (i:Nat) (x:List cW×RS):Prop where
 le:x.2.p<=b.length
 len:x.1.length=i
 eq:ix b n s0 []=ix b (n-i) x.2 x.1
theorem AN(n i:Nat)(h:i<n)(hn:n<=1000000000):IntKind.u64.wrap (((n-i:Nat):Int)-1)=((n-(i+1):Nat):Int):=by
 have:=VU (n-(i+1)) (by omega);rw[<-this];congr 1;omega
theorem V5(b:By)(hb:b.length<=1000000000):Pure prog 117 [.iv (aT 1 b aH)] (Ak b):=by
 refine ah ab func117 Z (by decide) ntmps117 Z (by simp) (by unfold Ak;split<;>rfl) ?_;obtain⟨n,hn⟩: ∃n,n=(cP b 8 ⟨0,0⟩).1:=⟨_,rfl⟩
 obtain⟨s0,d0⟩: ∃s0,s0=(cP b 8 ⟨0,0⟩).2:=⟨_,rfl⟩
 have h0:s0.p<=b.length:=by rw[d0];exact rz (Xc _)
 have i0:n<=8:=by rw[hn];exact fV
 have hU:bh prog 51 [.ptr 0 0,pU 8] [oq b ⟨0,0⟩] (pU n) (uJ b s0) 1:=by rw[hn,d0];exact zj b ⟨0,0⟩ 8 hb (Xc _)
 have hG:og b=(let y:=ix b n s0 [];if y.1≠0 then(y.1,[]) else if js b y.2.2≠0 then(js b y.2.2,[]) else(0,y.2.1)):=by rw[hn,d0];rfl
 clear hn d0;refine gA Z (ai [] (Dh b hb) Z Z Z Z Z Z Z Z ?_);refine gA Z (ai [0] (hU) Z Z Z Z Z Z Z Z ?_);refine gA Z ?_;refine jz 5 3 Z ?_;refine iZ 0 n (Xc _) (fun i (x:List cW×RS)=>⟨[(4,.ptr 0 0),(5,.sl 2 0 i 3),(6,pU (n-i))],[(0,io (oq b x.2)),(2,io (aS 3 x.1 cW.c))],3⟩) (GtJ b n s0) ([],s0) [1] ⟨h0,rfl,rfl⟩
  (wk Z Z Z (bi (bi (bi trivial))) ⟨⟨_,rfl,.of_eq Z⟩,WY Z,rfl,hR Z Z Z trivial⟩ Z) fun i x hi hJ=>?_
 obtain⟨A,j⟩:=x;obtain⟨b0,c0,D⟩:=hJ;dsimp only at b0 c0 D;refine gA Z ?_;refine W0 (fun h1=>?_) (fun h1=>?_)
 .have h1:i<n:=by simp at h1;omega
  have hB:=sB b0;have hI:=Ji b0;have a0:ix b (n-i) j A=if(dW b j).1≠0 then((dW b j).1,[],(dW b j).2.2) else ix b (n-(i+1)) (dW b j).2.2 (A++ [(dW b j).2.1]):=by
   rw[show n-i=(n-(i+1))+1 by omega,ix]
  have hk:=FZ (bm b j).1.toNat (by have:=(bm b j).1.toNat_lt;omega) (by have:=(bm b j).1.toNat_lt;omega);have u:(dW b j).1≠0->Ak b= .a7 [rP,pI (dW b j).1]:=fun he=>by
   unfold Ak;rw[hG,D,a0];simp only[he,ne_eq,not_false_eq_true,if_true,if_false]
  have G:(dW b j).1=0->GtJ b n s0 (i+1) (A++ [(dW b j).2.1],(dW b j).2.2):=fun he=>⟨hI,by simp[c0],by rw[D,a0,be (by rw[he];decide)]⟩
  refine gA Z (ai [0] (Dm b j hb b0) Z Z Z Z Z Z Z Z ?_);refine gA Z (ai [0] (sQ b (bm b j).2) Z Z Z Z Z Z Z Z ?_);refine gA Z ?_;refine W0 (fun J=>?_) (fun J=>?_)
  .have J:(bm b j).2.f≠0:=by simpa using J
   have f0:(dW b j).1=(bm b j).2.f:=by unfold dW;rw[am J]
   rw[u (by rw[f0];exact J),f0];refine gA Z (ai [0] (sQ b (bm b j).2) Z Z Z Z Z Z Z Z ?_);refine gA Z ?_;refine W0 (fun zz=>?_) (fun zz=>?_)<;>(try(exact absurd (by simpa using zz) J))
   refine gA Z (aM (by first|exact .inr Z|exact .inl Z) Z (.of_eq ?_));rfl
  have J:(bm b j).2.f=0:=by simpa using J
  refine gA Z ?_;refine W0 (fun Y=>?_) (fun Y=>?_)
  .have Y:(bm b j).1=1:=by rw[hk]at Y;exact(CP _).1.1 (of_decide_eq_true Y)
   have I:dW b j=((nI b (-2147483647) 2147483647 (bm b j).2).2.f,⟨1,(nI b (-2147483647) 2147483647 (bm b j).2).1,Xb⟩,(nI b (-2147483647) 2147483647 (bm b j).2).2):=by
    unfold dW;rw[be (by rw[J];decide),am Y]
   rw[I]at u G;dsimp only at u G;refine gA Z (ai [0] (UH b (bm b j).2 (-2147483647) 2147483647 hb hB) Z Z Z Z Z Z Z Z ?_);generalize nI b (-2147483647) 2147483647 (bm b j).2=y at*
   refine gA Z (ai [0] (sQ b y.2) Z Z Z Z Z Z Z Z ?_);refine gA Z ?_;refine W0 (fun B=>?_) (fun B=>?_)
   .have B:y.2.f≠0:=by simpa using B
    rw[u B];refine gA Z (aM (by first|exact .inr Z|exact .inl Z) Z (.of_eq ?_));rfl
   have B:y.2.f=0:=by simpa using B
   have e0:IntKind.i64.wrap ((bm b j).1.toNat:Int)=1:=by rw[hk,Y];rfl
   refine gA Z ⟨h1,_,[5],G B,wk Z Z Z (bi (bi ⟨.of_eq (congrArg (fun z:Int=>PV.iv (.v (.int .u64 z))) (AN n i h1 (by omega))),rfl,ac⟩)) ⟨⟨_,rfl,.of_eq Z⟩,WY Z,rfl,hR Z (by rw[Xg,e0];rfl) Z ac⟩ Z⟩
  have Y: ¬(bm b j).1=1:=fun e=>by rw[hk,e]at Y;cases Y
  refine gA Z ?_;refine W0 (fun h5=>?_) (fun h5=>?_)
  .have h5:(bm b j).1=2:=by rw[hk]at h5;exact(CP _).2.1 (of_decide_eq_true h5)
   have I:dW b j=((dN b 64 (bm b j).2).2.f,⟨2,0,qC (dN b 64 (bm b j).2).1⟩,(dN b 64 (bm b j).2).2):=by
    unfold dW;rw[be (by rw[J];decide),be Y,am h5]
   rw[I]at u G;dsimp only at u G;refine gA Z (ai [0] (zl b (bm b j).2 64 (by decide) hb hB) Z Z Z Z Z Z Z Z ?_);generalize dN b 64 (bm b j).2=y at*
   refine gA Z (ai [0] (sQ b y.2) Z Z Z Z Z Z Z Z ?_);refine gA Z ?_;refine W0 (fun B=>?_) (fun B=>?_)
   .have B:y.2.f≠0:=by simpa using B
    rw[u B];refine gA Z (aM (by first|exact .inr Z|exact .inl Z) Z (.of_eq ?_));rfl
   have B:y.2.f=0:=by simpa using B
   have e0:IntKind.i64.wrap ((bm b j).1.toNat:Int)=2:=by rw[hk,h5];rfl
   refine gA Z ⟨h1,_,[5],G B,wk Z Z Z (bi (bi ⟨.of_eq (congrArg (fun z:Int=>PV.iv (.v (.int .u64 z))) (AN n i h1 (by omega))),rfl,ac⟩)) ⟨⟨_,rfl,.of_eq Z⟩,WY Z,rfl,hR Z (by rw[Xg,e0];rfl) Z ac⟩ Z⟩
  have h5: ¬(bm b j).1=2:=fun e=>by rw[hk,e]at h5;cases h5
  have I:dW b j=(20,co,(bm b j).2):=by
   unfold dW;rw[be (by rw[J];decide),be Y,be h5]
  rw[u (by rw[I];show(20:Int)≠0;decide),I];refine gA Z (aM (by first|exact .inr Z|exact .inl Z) Z (.of_eq ?_));rfl
 .have h1:n<=i:=by simp at h1;omega
  have g0:i=n:=by omega
  subst g0;rw[Zw,ix]at D;refine gA Z (ai [0] (Ig b j) Z Z Z Z Z Z Z Z ?_);refine gA Z ?_;refine W0 (fun B=>?_) (fun B=>?_)
  .have B:js b j≠0:=by simpa using B
   have hP:Ak b= .a7 [rP,pI (js b j)]:=by
    unfold Ak;rw[hG,D];simp only[B,ne_eq,not_true_eq_false,not_false_eq_true,if_true,if_false]
   rw[hP];refine gA Z (aM (by first|exact .inr Z|exact .inl Z) Z (.of_eq ?_));rfl
  have B:js b j=0:=by simpa using B
  have hP:Ak b= .a7 [.iv (aT 3 A cW.c),pI 0]:=by
   unfold Ak;rw[hG,D];simp only[B,ne_eq,not_true_eq_false,if_true,if_false]
  rw[hP];refine gA Z (fp (r0:= .a7 [.sl 2 0 i 3,pI 0]) (.inr Z) Z (fy.fR 2 A cW.c Z Z (by simp[PV.aZ,aY,c0]) (.done (.a7 ⟨.bI c0.symm (fun k _=>by rw[Xo]),.refl _,ac⟩))))
abbrev Ql(p:Prog):AO:= .cells [.ptr 1 0,.iv (aT 4 p.aG Decl.c),.iv (aT 5 p.rules aw.c)]
def KS(b:By)(s:RS):By×RS:=dN b 32 s
def nN(b:By)(s:RS):By×RS:=dN b 4194304 (KS b s).2
def ua(b:By)(s:RS):Fact:=⟨qC (KS b s).1,if(nN b s).2.f=0 then(og (nN b s).1).2 else[]⟩
def lV(p:Prog)(b:By)(s:RS):Bool:=lc ((nN b s).2.f=0)&&(lc ((og (nN b s).1).1=0)&&lc (oc p (ua b s)=0))
theorem wb(b:By): ∀(n:Nat) (s:RS) (A:List cW),(ix b n s A).2.1.length<=A.length+n
 |0,s,A=>W8 _
 |n+1,s,A=>by
  rw[ix];split
  .exact Xc _
  .have:=wb b n (dW b s).2.2 (A++ [(dW b s).2.1]);rw[W1,Xu]at this;omega
theorem Cq(b:By):(og b).2.length<=8:=by
 have h1:=wb b (cP b 8 ⟨0,0⟩).1 (cP b 8 ⟨0,0⟩).2 [];have j:=fV (b:=b) (s:=⟨0,0⟩) (most:=8);unfold og;dsimp only;split
 .exact Xc _
 .split
  .exact Xc _
  .simp only[Yg]at h1;show(ix b (cP b 8 ⟨0,0⟩).1 (cP b 8 ⟨0,0⟩).2 []).2.1.length<=8;omega
theorem NR{b:By}(h: ¬(og b).1=0):(og b).2=[]:=by
 unfold og at*
 dsimp only at*
 split
 .rfl
 .rename_i h1;rw[be h1]at h;split
  .rfl
  .rename_i j;rw[be j]at h;exact absurd Z h
theorem xK{b:By}{m:Nat}{s:RS}:(dN b m s).1.length<=b.length:=by
 unfold dN;split
 .split
  .split
   .split
    .rw[XA,X7];omega
    .exact Xc _
   .exact Xc _
  .exact Xc _
  .exact Xc _
 .exact Xc _
theorem Io(p:Prog)(b:By)(s:RS)(hb:b.length<=1000000000)(hp:s.p<=b.length)(hr:p.aG.length<=1000000000):bh prog 88 [.ptr 0 0] [Ql p,oq b s] (.a7 [ag (ua b s).c,pB (lV p b s)]) [(0,io (Ql p)),(1,io (oq b (nN b s).2))] 2:=by
 have u:(KS b s).2.p<=b.length:=oy hp;have hT:(nN b s).1.length<=b.length:=xK;refine ak ab func88 Z (by decide) ntmps88 Z (by simp) ?_;refine gA Z (ai [1] (zl b s 32 (by decide) hb hp) Z Z Z Z Z Z Z Z ?_);refine gA Z (ai [1] (zl b (KS b s).2 4194304 (by decide) hb u) Z Z Z Z Z Z Z Z ?_);refine gA Z (ai [1] (sQ b (nN b s).2) Z Z Z Z Z Z Z Z ?_);refine gA Z ?_;refine W0 (fun g1=>?_) (fun g1=>?_)
 .have g1: ¬(nN b s).2.f=0:=by simpa using g1
  have hF:ua b s=⟨qC (KS b s).1,[]⟩:=by unfold ua;rw[be g1]
  have hO:lV p b s=kw:=by unfold lV;rw[decide_eq_false g1];rfl
  rw[hF,hO];refine gA Z (ar [] (by first|exact .inr Z|exact .inl Z) Z (wk Z Z Z ⟨.a7 ⟨.agg ⟨.refl _,.nil _ _,ac⟩,.refl _,ac⟩,rfl,ac⟩ ⟨⟨_,rfl,.of_eq Z⟩,WY Z,rfl,⟨_,rfl,.of_eq Z⟩,WY Z,rfl,ac⟩ Z))
 have g1:(nN b s).2.f=0:=by simpa using g1
 refine gA Z (pC (b:=qC (nN b s).1) ab Z Z Z Z Z Z Z Z Z Z Z (by show(nN b s).1.toArray.size<=_;simp;omega) ?_);have j:=V5 (nN b s).1 (by omega);unfold Ak at j;by_cases g2:(og (nN b s).1).1=0
 .rw[am g2]at j;have hF:ua b s=⟨qC (KS b s).1,(og (nN b s).1).2⟩:=by unfold ua;rw[am g1]
  have hO:lV p b s=lc (oc p ⟨qC (KS b s).1,(og (nN b s).1).2⟩=0):=by unfold lV;rw[decide_eq_true g1,decide_eq_true g2,hF];rfl
  have hl:=Cq (nN b s).1;rw[hF,hO];refine gA Z (aF (j) Z Z Z Z Z Z ?_);refine gA Z ?_;refine W0 (fun zz=>?_) (fun zz=>?_)<;>(try(exact absurd zz (by decide)))
  refine gA Z (bf ab [] (Pure.nS (c16 p ⟨qC (KS b s).1,(og (nN b s).1).2⟩ hr (by show(og (nN b s).1).2.length<=_;omega))) Z Z Z Z Z Z Z Z Z Z Z Z (by(repeat' (first|exact ac|exact rfl|exact ae.refl _|exact ae.bk (by assumption)|apply W0))<;>first|omega|(simp only[W6];omega)|(simp;done)|(simp;omega)) Z (by(repeat' (first|exact ac|exact rfl|exact ae.refl _|exact ae.bk (by assumption)|apply W0))<;>first|omega|(simp only[W6];omega)|(simp;done)|(simp;omega)) ?_);refine gA Z (ar [] (by first|exact .inr Z|exact .inl Z) Z (wk Z Z Z (bi ac) ⟨⟨_,rfl,.of_eq Z⟩,WY Z,rfl,⟨_,rfl,.of_eq Z⟩,WY Z,rfl,ac⟩ Z))
 .rw[be g2]at j;have hF:ua b s=⟨qC (KS b s).1,[]⟩:=by unfold ua;rw[am g1,NR g2]
  have hO:lV p b s=kw:=by unfold lV;rw[decide_eq_true g1,decide_eq_false g2];rfl
  rw[hF,hO];refine gA Z (aF (j) Z Z Z Z Z Z ?_);refine gA Z ?_;refine W0 (fun zz=>?_) (fun zz=>?_)<;>(try(exact absurd (of_decide_eq_true zz) g2))
  refine gA Z (ar [] (by first|exact .inr Z|exact .inl Z) Z (wk Z Z Z ⟨.a7 ⟨.agg ⟨.refl _,.nil _ _,ac⟩,.refl _,ac⟩,rfl,ac⟩ ⟨⟨_,rfl,.of_eq Z⟩,WY Z,rfl,⟨_,rfl,.of_eq Z⟩,WY Z,rfl,ac⟩ Z))
end Go.Proofs.YtlmhfgbkchnfbaaGreatDoor
namespace Go.Proofs.YtlmhfgbkchnfbaaGreatDoor
open Go Go.Al Go.Proofs.Tryz Go.En Go.Bo
def Kl(b:By)(s:RS):b3 Fact:=(lc (((bm b s).1.toNat:Int)=1),ua b (bm b s).2)
def sE(p:Prog)(b:By):Nat->RS->List (b3 Fact)->Bool×List (b3 Fact)×RS
 |0,s,A=>(jp,A,s)
 |n+1,s,A=>if lV p b (bm b s).2=kw∨((bm b s).1.toNat:Int)>1 then(kw,[],(nN b (bm b s).2).2) else sE p b n (nN b (bm b s).2).2 (A++ [Kl b s])
def p3(p:Prog)(b:By)(s:RS):Bool×List (b3 Fact)×RS:=sE p b (cP b 4096 s).1 (cP b 4096 s).2 []
def Ho(p:Prog)(b:By)(s:RS):PV:=if(p3 p b s).1=jp then .a7 [.iv (aT 3 (p3 p b s).2.1 fN),pB (lc (js b (p3 p b s).2.2=0))] else .a7 [rP,pB kw]
theorem JL{b:By}{s:RS}(h:s.p<=b.length):(nN b s).2.p<=b.length:=oy (oy h)
structure BtJ (p:Prog) (b:By) (n:Nat) (s0:RS) (i:Nat) (x:List (b3 Fact)×RS):Prop where
 le:x.2.p<=b.length
 len:x.1.length=i
 eq:sE p b n s0 []=sE p b (n-i) x.2 x.1
theorem ML(p:Prog)(b:By)(s:RS)(hb:b.length<=1000000000)(hp:s.p<=b.length)(hr:p.aG.length<=1000000000):bh prog 57 [.ptr 0 0] [Ql p,oq b s] (Ho p b s) [(0,io (Ql p)),(1,io (oq b (p3 p b s).2.2))] 2:=by
 obtain⟨n,hn⟩: ∃n,n=(cP b 4096 s).1:=⟨_,rfl⟩
 obtain⟨s0,D⟩: ∃s0,s0=(cP b 4096 s).2:=⟨_,rfl⟩
 have h0:s0.p<=b.length:=by rw[D];exact rz hp
 have b0:n<=4096:=by rw[hn];exact fV
 have hU:bh prog 51 [.ptr 0 0,pU 4096] [oq b s] (pU n) (uJ b s0) 1:=by rw[hn,D];exact zj b s 4096 hb hp
 have hY:p3 p b s=sE p b n s0 []:=by rw[hn,D];rfl
 clear hn D;refine ak ab func57 Z (by decide) ntmps57 Z (by simp) ?_;refine gA Z (ai [1] (hU) Z Z Z Z Z Z Z Z ?_);refine gA Z ?_;refine jz 4 3 Z ?_;refine iZ 0 n (Xc _) (fun i (x:List (b3 Fact)×RS)=>⟨[(0,.ptr 0 0),(4,.sl 3 0 i 3),(5,pU (n-i))],[(0,io (Ql p)),(1,io (oq b x.2)),(3,io (aS 3 x.1 fN))],4⟩) (BtJ p b n s0) ([],s0) [2] ⟨h0,rfl,rfl⟩
  (wk Z Z Z (bi (bi (bi trivial))) ⟨⟨_,rfl,.of_eq Z⟩,WY Z,rfl,⟨_,rfl,.of_eq Z⟩,WY Z,rfl,hR Z Z Z trivial⟩ Z) fun i x hi hJ=>?_
 obtain⟨A,j⟩:=x;obtain⟨J,B,u⟩:=hJ;dsimp only at J B u;refine gA Z ?_;refine W0 (fun h1=>?_) (fun h1=>?_)
 .have h1:i<n:=by simp at h1;omega
  have hB:=sB J;have hT:=JL hB;have y:sE p b (n-i) j A=if lV p b (bm b j).2=kw∨((bm b j).1.toNat:Int)>1 then(kw,[],(nN b (bm b j).2).2) else sE p b (n-(i+1)) (nN b (bm b j).2).2 (A++ [Kl b j]):=by
   rw[show n-i=(n-(i+1))+1 by omega,sE]
  have G:lV p b (bm b j).2=kw∨((bm b j).1.toNat:Int)>1->Ho p b s= .a7 [rP,pB kw]∧(p3 p b s).2.2=(nN b (bm b j).2).2:=fun he=>by
   have:p3 p b s=(kw,[],(nN b (bm b j).2).2):=by rw[hY,u,y,am he]
   unfold Ho;rw[this];exact⟨rfl,rfl⟩
  have hF:=Io p b (bm b j).2 hb hB hr;refine gA Z (ai [1] (Dm b j hb J) Z Z Z Z Z Z Z Z ?_);by_cases hok:lV p b (bm b j).2=jp
  .rw[hok]at hF;refine gA Z (ai [0,1] (hF) Z Z Z Z Z Z Z Z ?_);refine gA Z ?_;refine W0 (fun zz=>?_) (fun zz=>?_)<;>(try(exact absurd zz (by decide)))
   refine gA Z ?_;refine W0 (fun I=>?_) (fun I=>?_)
   .have I:((bm b j).1.toNat:Int)>1:=of_decide_eq_true I;obtain⟨e1,e2⟩:=G (.inr I);rw[e1,e2];refine gA Z (ar [] (by first|exact .inr Z|exact .inl Z) Z (wk Z Z Z (bi ac) ⟨⟨_,rfl,.of_eq Z⟩,WY Z,rfl,⟨_,rfl,.of_eq Z⟩,WY Z,rfl,ac⟩ Z))
   have I: ¬((bm b j).1.toNat:Int)>1:=of_decide_eq_false I;refine gA Z ⟨h1,(A++ [Kl b j],(nN b (bm b j).2).2),[6],⟨hT,by simp[B],by rw[u,y,be (by rw[hok];simp[I])]⟩,wk Z Z Z (bi (bi ⟨.of_eq (congrArg (fun z:Int=>PV.iv (.v (.int .u64 z))) (AN n i h1 (by omega))),rfl,ac⟩)) ⟨⟨_,rfl,.of_eq Z⟩,WY Z,rfl,⟨_,rfl,.of_eq Z⟩,WY Z,rfl,hR Z (by rw[Xg];rfl) Z ac⟩ Z⟩
  .have hok:lV p b (bm b j).2=kw:=by simpa using hok
   rw[hok]at hF;obtain⟨e1,e2⟩:=G (.inl hok);rw[e1,e2];refine gA Z (ai [0,1] (hF) Z Z Z Z Z Z Z Z ?_);refine gA Z ?_;refine W0 (fun zz=>?_) (fun zz=>?_)<;>(try(exact absurd zz (by decide)))
   refine gA Z (ar [] (by first|exact .inr Z|exact .inl Z) Z (wk Z Z Z (bi ac) ⟨⟨_,rfl,.of_eq Z⟩,WY Z,rfl,⟨_,rfl,.of_eq Z⟩,WY Z,rfl,ac⟩ Z))
 .have h1:n<=i:=by simp at h1;omega
  have a0:i=n:=by omega
  subst a0;rw[Zw,sE]at u;have Y:p3 p b s=(jp,A,j):=hY.trans u;have hP:Ho p b s= .a7 [.iv (aT 3 A fN),pB (lc (js b j=0))]:=by
   unfold Ho;rw[Y];rfl
  rw[hP,Y];refine gA Z (ai [1] (Ig b j) Z Z Z Z Z Z Z Z ?_);refine gA Z ⟨.inr Z,.a7 [.sl 3 0 i 3,pB (lc (js b j=0))],rfl,fy.fR 3 A fN Z Z (by simp[PV.aZ,aY,B]) (.done ⟨_,_,_,[],⟨rfl,rfl,rfl⟩,wk Z Z Z ⟨.a7 ⟨.bI B.symm (fun k _=>by rw[Xo]),.refl _,ac⟩,rfl,ac⟩ ⟨⟨_,rfl,.of_eq Z⟩,WY Z,rfl,⟨_,rfl,.of_eq Z⟩,WY Z,rfl,ac⟩ Z⟩)⟩
def wZ(p:Prog)(b:By)(s:RS)(A:List Fact):Prop:=lV p b s=kw∨(0<A.length∧aU (A.getD (A.length-1) co) (ua b s)>=0)
instance (p:Prog)(b:By)(s:RS)(A:List Fact):Decidable (wZ p b s A):=by unfold wZ;infer_instance
def oi(p:Prog)(b:By):Nat->RS->List Fact->Bool×List Fact×RS
 |0,s,A=>(jp,A,s)
 |n+1,s,A=>if wZ p b s A then(kw,[],(nN b s).2) else oi p b n (nN b s).2 (A++ [ua b s])
def p4(p:Prog)(b:By)(s:RS):Bool×List Fact×RS:=oi p b (cP b 65536 s).1 (cP b 65536 s).2 []
def Hp(p:Prog)(b:By)(s:RS):PV:=if(p4 p b s).1=jp then .a7 [.iv (aT 2 (p4 p b s).2.1 Fact.c),pB (lc (js b (p4 p b s).2.2=0))] else .a7 [rP,pB kw]
structure BsJ (p:Prog) (b:By) (n:Nat) (s0:RS) (i:Nat) (x:List Fact×RS):Prop where
 le:x.2.p<=b.length
 len:x.1.length=i
 args: ∀f∈x.1,f.args.length<=8
 eq:oi p b n s0 []=oi p b (n-i) x.2 x.1
theorem Cv(b:By)(s:RS):(ua b s).args.length<=8:=by
 unfold ua;dsimp only;split
 .exact Cq _
 .exact Xc _
theorem R3(p:Prog)(b:By)(s:RS)(hb:b.length<=1000000000)(hp:s.p<=b.length)(hr:p.aG.length<=1000000000):bh prog 58 [.ptr 0 0] [Ql p,oq b s] (Hp p b s) [(0,io (Ql p)),(1,io (oq b (p4 p b s).2.2))] 2:=by
 obtain⟨n,hn⟩: ∃n,n=(cP b 65536 s).1:=⟨_,rfl⟩
 obtain⟨s0,G⟩: ∃s0,s0=(cP b 65536 s).2:=⟨_,rfl⟩
 have h0:s0.p<=b.length:=by rw[G];exact rz hp
 have g0:n<=65536:=by rw[hn];exact fV
 have hU:bh prog 51 [.ptr 0 0,pU 65536] [oq b s] (pU n) (uJ b s0) 1:=by rw[hn,G];exact zj b s 65536 hb hp
 have hY:p4 p b s=oi p b n s0 []:=by rw[hn,G];rfl
 clear hn G;refine ak ab func58 Z (by decide) ntmps58 Z (by simp) ?_;refine gA Z (ai [1] (hU) Z Z Z Z Z Z Z Z ?_);refine gA Z ?_;refine jz 4 2 Z ?_;refine iZ 0 n (Xc _) (fun i (x:List Fact×RS)=>⟨[(0,.ptr 0 0),(4,.sl 3 0 i 2),(5,pU (n-i))],[(0,io (Ql p)),(1,io (oq b x.2)),(3,io (aS 2 x.1 Fact.c))],4⟩) (BsJ p b n s0) ([],s0) [2] ⟨h0,rfl,by simp,rfl⟩
  (wk Z Z Z (bi (bi (bi trivial))) ⟨⟨_,rfl,.of_eq Z⟩,WY Z,rfl,⟨_,rfl,.of_eq Z⟩,WY Z,rfl,hR Z Z Z trivial⟩ Z) fun i x hi hJ=>?_
 obtain⟨A,j⟩:=x;obtain⟨Y,u,a0,y⟩:=hJ;dsimp only at Y u y a0;refine gA Z ?_;refine W0 (fun h1=>?_) (fun h1=>?_)
 .have h1:i<n:=by simp at h1;omega
  have hT:=JL Y;have e0:=Cv b j;have D:oi p b (n-i) j A=if wZ p b j A then(kw,[],(nN b j).2) else oi p b (n-(i+1)) (nN b j).2 (A++ [ua b j]):=by
   rw[show n-i=(n-(i+1))+1 by omega,oi]
  have I:wZ p b j A->Hp p b s= .a7 [rP,pB kw]∧(p4 p b s).2.2=(nN b j).2:=fun he=>by
   have:p4 p b s=(kw,[],(nN b j).2):=by rw[hY,y,D,am he]
   unfold Hp;rw[this];exact⟨rfl,rfl⟩
  have b0: ¬wZ p b j A->BsJ p b n s0 (i+1) (A++ [ua b j],(nN b j).2):=fun he=>⟨hT,by simp[u],fun f hf=>by
   rcases Xr.1 hf with hf|hf
   .exact a0 f hf
   .rw[Xd.1 hf];exact e0,by rw[y,D,be he]⟩
  have hF:=Io p b j hb Y hr;by_cases hok:lV p b j=jp
  .rw[hok]at hF;refine gA Z (ai [0,1] (hF) Z Z Z Z Z Z Z Z ?_);refine gA Z ?_;refine W0 (fun zz=>?_) (fun zz=>?_)<;>(try(exact absurd zz (by decide)))
   refine gA Z ?_;refine W0 (fun h2=>?_) (fun h2=>?_)
   .have h2:0<i:=by have:=of_decide_eq_true h2;omega
    have d0:(A.map fun x=>(Fact.c x).map PV.iv)[0+((i:Int)-1).toNat]? =io ((A.getD (i-1) co).c.map PV.iv):=by
     rw[Xo,show((i:Int)-1).toNat=i-1 by omega,W9,W5 (by omega)];simp[Z8,W5 (show i-1<A.length by omega)]
    refine gM 5 Z (kT (p:=ag (A.getD (i-1) co).c) 12 Z Z Z Z Z Z (dr ab Z Z Z Z d0 Z) ?_);refine gA Z (bf ab [] (Pure.nS (p7 (A.getD (i-1) co) (ua b j) (by have:=a0 _ (Cr (show i-1<A.length by omega));omega) (by omega))) Z Z Z Z Z Z Z Z Z Z Z Z (by(repeat' (first|exact ac|exact rfl|exact ae.refl _|exact ae.bk (by assumption)|apply W0))<;>first|omega|(simp only[W6];omega)|(simp;done)|(simp;omega)) Z (by(repeat' (first|exact ac|exact rfl|exact ae.refl _|exact ae.bk (by assumption)|apply W0))<;>first|omega|(simp only[W6];omega)|(simp;done)|(simp;omega)) ?_);refine gA Z ?_;refine W0 (fun J=>?_) (fun J=>?_)
    .have J:aU (A.getD (i-1) co) (ua b j)>=0:=of_decide_eq_true J;obtain⟨e1,e2⟩:=I (.inr ⟨by omega,by rw[u];exact J⟩);rw[e1,e2];refine gA Z (ar [] (by first|exact .inr Z|exact .inl Z) Z (wk Z Z Z (bi ac) ⟨⟨_,rfl,.of_eq Z⟩,WY Z,rfl,⟨_,rfl,.of_eq Z⟩,WY Z,rfl,ac⟩ Z))
    .have J: ¬aU (A.getD (i-1) co) (ua b j)>=0:=of_decide_eq_false J;have B: ¬wZ p b j A:=by
      rintro(h|⟨_,h⟩)
      .rw[hok]at h;cases h
      .rw[u]at h;exact J h
     refine gA Z ⟨h1,(A++ [ua b j],(nN b j).2),[6],b0 B,wk Z Z Z (bi (bi ⟨.of_eq (congrArg (fun z:Int=>PV.iv (.v (.int .u64 z))) (AN n i h1 (by omega))),rfl,ac⟩)) ⟨⟨_,rfl,.of_eq Z⟩,WY Z,rfl,⟨_,rfl,.of_eq Z⟩,WY Z,rfl,hR Z (by rw[Xg];rfl) Z ac⟩ Z⟩
   .have h2:i=0:=by have:=of_decide_eq_false h2;omega
    have B: ¬wZ p b j A:=by
     rintro(h|⟨h,_⟩)
     .rw[hok]at h;cases h
     .omega
    refine gA Z ⟨h1,(A++ [ua b j],(nN b j).2),[6],b0 B,wk Z Z Z (bi (bi ⟨.of_eq (congrArg (fun z:Int=>PV.iv (.v (.int .u64 z))) (AN n i h1 (by omega))),rfl,ac⟩)) ⟨⟨_,rfl,.of_eq Z⟩,WY Z,rfl,⟨_,rfl,.of_eq Z⟩,WY Z,rfl,hR Z (by rw[Xg];rfl) Z ac⟩ Z⟩
  .have hok:lV p b j=kw:=by simpa using hok
   rw[hok]at hF;obtain⟨e1,e2⟩:=I (.inl hok);rw[e1,e2];refine gA Z (ai [0,1] (hF) Z Z Z Z Z Z Z Z ?_);refine gA Z ?_;refine W0 (fun zz=>?_) (fun zz=>?_)<;>(try(exact absurd zz (by decide)))
   refine gA Z (ar [] (by first|exact .inr Z|exact .inl Z) Z (wk Z Z Z (bi ac) ⟨⟨_,rfl,.of_eq Z⟩,WY Z,rfl,⟨_,rfl,.of_eq Z⟩,WY Z,rfl,ac⟩ Z))
 .have h1:n<=i:=by simp at h1;omega
  have f0:i=n:=by omega
  subst f0;rw[Zw,oi]at y;have c0:p4 p b s=(jp,A,j):=hY.trans y;have hP:Hp p b s= .a7 [.iv (aT 2 A Fact.c),pB (lc (js b j=0))]:=by
   unfold Hp;rw[c0];rfl
  rw[hP,c0];refine gA Z (ai [1] (Ig b j) Z Z Z Z Z Z Z Z ?_);refine gA Z ⟨.inr Z,.a7 [.sl 3 0 i 2,pB (lc (js b j=0))],rfl,fy.fR 3 A Fact.c Z Z (by simp[PV.aZ,aY,u]) (.done ⟨_,_,_,[],⟨rfl,rfl,rfl⟩,wk Z Z Z ⟨.a7 ⟨.bI u.symm (fun k _=>by rw[Xo]),.refl _,ac⟩,rfl,ac⟩ ⟨⟨_,rfl,.of_eq Z⟩,WY Z,rfl,⟨_,rfl,.of_eq Z⟩,WY Z,rfl,ac⟩ Z⟩)⟩
structure JS where
 S:List Fact
 a:By
 k:Nat
def oz(p:Prog)(s:JS)(b:By)(k:UInt8)(u:Nat)(t:By)(w:RS):Option JS:=
 if w.f=0∧b.take w.p=ck s.a k u t then
  if k=165∧u=s.k+1 then
   if(p3 p t ⟨0,0⟩).1=jp∧js t (p3 p t ⟨0,0⟩).2.2=0∧ir aU (okF p) s.S (p3 p t ⟨0,0⟩).2.1=0 then io ⟨ff aU s.S (p3 p t ⟨0,0⟩).2.1,s.a++b.take w.p,u⟩ else is
  else if k=166∧s.a.length=13 then
   if(p4 p t ⟨0,0⟩).1=jp∧js t (p4 p t ⟨0,0⟩).2.2=0 then io ⟨(p4 p t ⟨0,0⟩).2.1,s.a++b.take w.p,u⟩ else is
  else is
 else is
def P6(b:By):UInt8×RS:=bm b ⟨0,0⟩
def F2(b:By):Nat×RS:=cP b 2147483647 (P6 b).2
def Hu(b:By):By×RS:=dN b 4194304 (F2 b).2
def KQ(b:By):RS:=Bz b 5 (Hu b).2
def jA(p:Prog)(s:JS)(b:By):Option JS:=oz p s b (P6 b).1 (F2 b).1 (Hu b).1 (KQ b)
def tkR(p:Prog)(n:Nat)(s:JS)(o:Option JS)(r:PV)(h:AH)(k:Nat):Prop:=match o with
 |none=> ∃m,b4 cE m s.S∧r=pB kw∧h=jH p n m s.a s.k∧k=4
 |some u=> ∃m j,j<=n+17∧b4 cE m u.S∧r=pB jp∧h=[(0,io (bt m)),(1,io (b8 p j 0)),(3,io (jC 1 4 u.a u.k)),(4,io (hZ u.a))]∧k=5
theorem H5{A:List Fact}{f:Fact}(j:rq aU A)(h:0<A.length->aU (A.getD (A.length-1) co) f<0):rq aU (A++ [f]):=by
 refine YU.2 ⟨j,Zo _ _,fun x u y B=>?_⟩;rw[Xd.1 B];obtain⟨i,hi,rfl⟩:=List.getElem_of_mem u;have h:=h (by omega);rw[W2,W5 (by omega)]at h;by_cases e:i=A.length-1
 .subst e;exact h
 .exact pg.tr _ _ _ ((Yl.1 j) i (A.length-1) hi (by omega) (by omega)) h
theorem NW{p:Prog}{b:By}{s:RS}(h:lV p b s=jp):okF p (ua b s)=jp:=by
 unfold lV at h;simp only[XR]at h;exact h.2.2
theorem yY{p:Prog}{b:By}: ∀(n:Nat) (s:RS) (A:List Fact),rq aU A->(∀f∈A,okF p f=jp)->(oi p b n s A).1=jp->rq aU (oi p b n s A).2.1∧(∀f∈(oi p b n s A).2.1,okF p f=jp)∧(oi p b n s A).2.1.length=A.length+n
 |0,s,A,hA,ho,_=>⟨hA,ho,rfl⟩
 |n+1,s,A,hA,ho,h=>by
  rw[oi]at h ⊢;by_cases hb:wZ p b s A
  .rw[am hb]at h;cases h
  .rw[be hb]at h ⊢;unfold wZ at hb;have h1:lV p b s=jp:=by
    cases e:lV p b s with
    |true=>rfl
    |false=>exact absurd (.inl e) hb
   have:=yY n (nN b s).2 (A++ [ua b s]) (H5 hA fun j=>by
    have: ¬aU (A.getD (A.length-1) co) (ua b s)>=0:=fun e=>hb (.inr ⟨j,e⟩)
    omega) (fun f hf=>by
    rcases Xr.1 hf with hf|hf
    .exact ho f hf
    .rw[Xd.1 hf];exact NW h1) h
   rw[W1,Xu]at this;exact⟨this.1,this.2.1,by omega⟩
theorem yX{p:Prog}{b:By}{s:RS}(h:(p4 p b s).1=jp):Go.Bo.ef aU (okF p) (p4 p b s).2.1:=by
 have h1:=yY (p:=p) (b:=b) (cP b 65536 s).1 (cP b 65536 s).2 [] Zf (fun f hf=>nomatch hf) h;have j:(cP b 65536 s).1<=65536:=fV;exact⟨h1.1,h1.2.1,by have:=h1.2.2;show(oi p b (cP b 65536 s).1 (cP b 65536 s).2 []).2.1.length<=_;rw[this,Yg];omega⟩
theorem CS{p:Prog}{b:By}: ∀(n:Nat) (s:RS) (A:List (b3 Fact)),(∀x∈A,x.2.args.length<=8)-> ∀x∈(sE p b n s A).2.1,x.2.args.length<=8
 |0,s,A,hA=>hA
 |n+1,s,A,hA=>by
  rw[sE];split
  .intro x hx;cases hx
  .exact CS n _ _ fun x hx=>by
    rcases Xr.1 hx with hx|hx
    .exact hA x hx
    .rw[Xd.1 hx];exact Cv _ _
theorem Aw(l:By): ∀e∈dd l,∃v:List Value,e=v.map fun v=> .iv (.v v):=fun e j=>by
 obtain⟨x,_,rfl⟩:=XH.1 j;exact⟨[_],rfl⟩
abbrev VH(p:Prog)(n:Nat)(m:FM)(s:JS)(b:By)(W:RS):AH:=[(0,io (bt m)),(1,io (b8 p n 0)),(2,io (hZ s.a)),(3,io (jC 1 2 s.a s.k)),(4,io (oq b W))]
set_option maxHeartbeats 2000000 in
theorem Ur(p:Prog)(n:Nat)(s:JS){m:FM}(b:By)(hk:b4 cE m s.S)(hf:Go.Bo.ef aU (okF p) s.S)(hb:b.length<=10000000)(ha:s.a.length<=10000000)(h5:5<=s.a.length)(hr:p.aG.length<=1000000000)(hs:p.size<=10000000)(hn:n<=90000000000)(s0:s.k<=10000000000)(f0:s.a.length=13->s.S=[]):
  Al.Fn prog 28 [.ptr 3 0,.iv (aT 1 b aH)] (jO p n m s.a s.k) (tkR p n s (jA p s b)):=by
 obtain⟨K,eK⟩: ∃K,K=P6 b:=⟨_,rfl⟩
 obtain⟨U,J⟩: ∃U,U=F2 b:=⟨_,rfl⟩
 obtain⟨T,I⟩: ∃T,T=Hu b:=⟨_,rfl⟩
 obtain⟨W,eW⟩: ∃W,W=KQ b:=⟨_,rfl⟩
 have b0:K.2.p<=b.length:=by rw[eK];exact sB (Xc _)
 have d0:U.2.p<=b.length:=by rw[J];exact rz (by rw[<-eK];exact b0)
 have c0:T.2.p<=b.length:=by rw[I];exact oy (by rw[<-J];exact d0)
 have g0:W.p<=b.length:=by rw[eW];exact M5 (by rw[<-I];exact c0)
 have r0:U.1<=2147483647:=by rw[J];exact fV
 have q0:T.1.length<=b.length:=by rw[I];exact xK
 have j0:bh prog 50 [.ptr 0 0] [oq b ⟨0,0⟩] (pY (K.1.toNat:Int)) (uJ b K.2) 1:=by rw[eK];exact Dm b ⟨0,0⟩ (by omega) (Xc _)
 have n0:bh prog 51 [.ptr 0 0,pU 2147483647] [oq b K.2] (pU U.1) (uJ b U.2) 1:=by rw[J];unfold F2;rw[<-eK];exact zj b K.2 2147483647 (by omega) b0
 have m0:bh prog 52 [.ptr 0 0,pI 4194304] [oq b U.2] (pS (qC T.1)) (uJ b T.2) 1:=by rw[I];unfold Hu;rw[<-J];exact zl b U.2 4194304 (by decide) (by omega) d0
 have o0:bh prog 53 [.ptr 0 0,pI 5] [oq b T.2] .any (uJ b W) 1:=by rw[eW];unfold KQ;rw[<-I];exact Uy b T.2 5 (by omega) c0
 have hR:jA p s b=oz p s b K.1 U.1 T.1 W:=by rw[eK,J,I,eW];rfl
 rw[hR];clear hR eK J I eW;have u:oz p s b K.1 U.1 T.1 W=is-> ∀m1,b4 cE m1 s.S->tkR p n s (oz p s b K.1 U.1 T.1 W) (pB kw) (jH p n m1 s.a s.k) 4:=fun e m1 h=>by rw[e];exact⟨m1,h,rfl,rfl,rfl⟩
 obtain⟨E,hE⟩: ∃E,E=oz p s b K.1 U.1 T.1 W:=⟨_,rfl⟩
 rw[<-hE]at u ⊢;unfold oz at hE;have p0:=FZ (U.1:Int) (by omega) (by omega);obtain⟨B,a0⟩: ∃B,B=ck s.a K.1 U.1 T.1:=⟨_,rfl⟩
 have k0:bh prog 21 [.iv (aT 1 s.a aH),pY (K.1.toNat:Int),pI U.1,.iv (aT 1 T.1 aH)] [] (.sl 0 0 B.length 1) [(0,io (hZ B))] 1:=by
  rw[a0];exact zm s.a T.1 K.1 (U.1:Int) h5 (by omega) ⟨by omega,by omega⟩ (by omega)
 rw[<-a0]at hE;refine lW ab func28 Z (by decide) ntmps28 Z (by simp) ?_;refine gA Z (ai [] (Dh b (by omega)) Z Z Z Z Z Z Z Z ?_)
 (refine gM 2 Z ?_;refine bZ (L:=[]) (t:=⟨[(0,.ptr 3 0),(1,.iv (aT 1 b aH)),(5,.ptr 4 0)],VH p n m s b ⟨0,0⟩,5⟩) ?_ ?_;refine wk Z Z Z ?_ ?_ ?_;exact(bi (bi (bi ac)));exact(hM Z Z Z ⟨⟨_,rfl,.of_eq Z⟩,WY Z,rfl,hR Z Z Z ⟨⟨_,rfl,.of_eq Z⟩,WY Z,rfl,⟨_,rfl,.of_eq Z⟩,WY Z,rfl,ac⟩⟩);exact rfl)
 refine gA Z (ai [4] (j0) Z Z Z Z Z Z Z Z ?_);refine gA Z (ai [4] (n0) Z Z Z Z Z Z Z Z ?_)
 (refine gM 3 Z ?_;refine bZ (L:=[]) (t:=⟨[(0,.ptr 3 0),(1,.iv (aT 1 b aH)),(5,.ptr 4 0),(6,pY (K.1.toNat:Int)),(7,pI U.1)],VH p n m s b U.2,5⟩) ?_ ?_;refine wk Z Z Z ?_ ?_ ?_;exact(bi (bi (bi (bi ⟨.of_eq (congrArg pI p0),rfl,ac⟩))));exact(hM Z Z Z ⟨⟨_,rfl,.of_eq Z⟩,WY Z,rfl,hR Z Z Z ⟨⟨_,rfl,.of_eq Z⟩,WY Z,rfl,⟨_,rfl,.of_eq Z⟩,WY Z,rfl,ac⟩⟩);exact rfl)
 refine gA Z (ai [4] (m0) Z Z Z Z Z Z Z Z ?_);refine gA Z (pC (b:=qC T.1) ab Z Z Z Z Z Z Z Z Z Z Z (by show T.1.toArray.size<=_;simp;omega) ?_)
 (refine gM 2 Z ?_;refine bZ (L:=[]) (t:=⟨[(0,.ptr 3 0),(1,.iv (aT 1 b aH)),(5,.ptr 4 0),(6,pY (K.1.toNat:Int)),(7,pI U.1),(8,.iv (aT 1 T.1 aH))],VH p n m s b T.2,5⟩) ?_ ?_;refine wk Z Z Z ?_ ?_ ?_;exact(bi (bi (bi (bi (bi (bi ac))))));exact(hM Z Z Z ⟨⟨_,rfl,.of_eq Z⟩,WY Z,rfl,hR Z Z Z ⟨⟨_,rfl,.of_eq Z⟩,WY Z,rfl,⟨_,rfl,.of_eq Z⟩,WY Z,rfl,ac⟩⟩);exact rfl)
 refine gA Z (ai [4] (o0) Z Z Z Z Z Z Z Z ?_);refine gA Z (ai [4] (sQ b W) Z Z Z Z Z Z Z Z ?_);refine gA Z ?_;refine W0 (fun g1=>?_) (fun g1=>?_)
 .have g1: ¬W.f=0:=by simpa using g1
  rw[be fun h=>g1 h.1]at hE;refine gA Z (dC [] (.inr Z) Z (u hE m hk) (wk Z Z Z (bi ac) (hM Z Z Z ⟨⟨_,rfl,.of_eq Z⟩,WY Z,rfl,hR Z (by first|rfl|exact aB _ _) Z ⟨⟨_,rfl,.of_eq Z⟩,WY Z,rfl,ac⟩⟩) Z))
 have g1:W.f=0:=by simpa using g1
 (refine gM 1 Z ?_;refine bZ (L:=[]) (t:=⟨[(0,.ptr 3 0),(1,.iv (aT 1 b aH)),(5,.ptr 4 0),(6,pY (K.1.toNat:Int)),(7,pI U.1),(8,.iv (aT 1 T.1 aH))],VH p n m s b W,5⟩) ?_ ?_;refine wk Z Z Z ?_ ?_ ?_;exact(bi (bi (bi (bi (bi (bi ac))))));exact(hM Z Z Z ⟨⟨_,rfl,.of_eq Z⟩,WY Z,rfl,hR Z Z Z ⟨⟨_,rfl,.of_eq Z⟩,WY Z,rfl,⟨_,rfl,.of_eq Z⟩,WY Z,rfl,ac⟩⟩);exact rfl)
 refine gA Z (ai [4] (V8 b W) Z Z Z Z Z Z Z Z ?_);refine gM 1 Z (bB Z (kG (pH (m:=W.p) ab Z Z Z Z Z Z Z g0) Z) ?_);rintro t rfl;refine gA Z (sc (asv:=[.sl 2 0 s.a.length 1,pY (K.1.toNat:Int),pI U.1,.iv (aT 1 T.1 aH)]) k0 Z Z Z Z Z (lJ (i:=2) (sz:=1) (fun k=>aH (s.a.getD k co)) Z (cG Z) (by simp[aY,PV.aZ]) ⟨.bI Z (fun k _=>by rw[Xo]),.refl _,.refl _,.refl _,ac⟩) Z (wX (Aw B)) Z ?_);refine gA Z (sc (asv:=[.iv (aT 1 (b.take W.p) aH),.sl 5 0 B.length 1]) (Pure.nS (EL (b.take W.p) B)) Z Z Z Z Z (lJ (i:=5) (sz:=1) (fun k=>aH (B.getD k co)) Z (cG (aB _ _)) (by simp[aY,PV.aZ]) ⟨.refl _,.bI Z (fun k _=>by rw[Xo]),ac⟩) Z (fun j o hj=>nomatch hj) Z ?_);refine gA Z ?_;refine W0 (fun g2=>?_) (fun g2=>?_)
 .have g2: ¬b.take W.p=B:=by simpa using g2
  rw[be fun h=>g2 h.2]at hE;refine gA Z (dC [] (.inr Z) Z (u hE m hk) (wk Z Z Z (bi ac) (hM Z Z Z ⟨⟨_,rfl,.of_eq Z⟩,WY Z,rfl,hR Z (by first|rfl|exact aB _ _) Z ⟨⟨_,rfl,.of_eq Z⟩,WY Z,rfl,ac⟩⟩) Z))
 have g2:b.take W.p=B:=by simpa using g2
 rw[am ⟨g1,g2⟩]at hE;have i0:(b.take W.p).length=W.p:=by rw[XA];omega
 obtain⟨w,ew⟩: ∃w,w=b.take W.p:=⟨_,rfl⟩
 rw[<-ew]at hE i0 ⊢;refine gA Z (bf ab [] (Dh T.1 (by omega)) Z Z Z Z Z Z Z Z Z Z Z Z (by(repeat' (first|exact ac|exact rfl|exact ae.refl _|exact ae.bk (by assumption)|apply W0))<;>first|omega|(simp only[W6];omega)|(simp;done)|(simp;omega)) Z (by(repeat' (first|exact ac|exact rfl|exact ae.refl _|exact ae.bk (by assumption)|apply W0))<;>first|omega|(simp only[W6];omega)|(simp;done)|(simp;omega)) ?_);refine gA Z (bf ab [0,1] (Gl p n m (by omega)) Z Z Z Z Z Z Z Z Z Z Z Z (by(repeat' (first|exact ac|exact rfl|exact ae.refl _|exact ae.bk (by assumption)|apply W0))<;>first|omega|(simp only[W6];omega)|(simp;done)|(simp;omega)) Z (by(repeat' (first|exact ac|exact rfl|exact ae.refl _|exact ae.bk (by assumption)|apply W0))<;>first|omega|(simp only[W6];omega)|(simp;done)|(simp;omega)) ?_)
 (refine gM 4 Z ?_;refine bZ (L:=[]) (t:=⟨[(0,.ptr 3 0),(6,pY (K.1.toNat:Int)),(7,pI U.1),(9,.iv (aT 1 w aH)),(10,.ptr 7 0)],[(0,io (bt m)),(1,io (b8 p n 0)),(2,io (hZ s.a)),(3,io (jC 1 2 s.a s.k)),(6,io (oq T.1 ⟨0,0⟩)),(7,io (.cells [.ptr 6 0,.iv (aT 4 p.aG Decl.c),.iv (aT 5 p.rules aw.c)]))],8⟩) (wk Z Z Z (bi (bi (bi (bi (bi ac))))) (hM Z Z Z ⟨⟨_,rfl,.of_eq Z⟩,WY Z,rfl,hR Z Z Z ⟨⟨_,rfl,.of_eq Z⟩,WY Z,rfl,⟨_,rfl,.of_eq Z⟩,WY Z,rfl,⟨_,rfl,.of_eq Z⟩,WY Z,rfl,ac⟩⟩) Z) ?_)
 have hw:w.length<=10000000:=by omega
 refine gA Z ?_;refine W0 (fun g3=>?_) (fun g3=>?_)
 .have g3:K.1=165:=UInt8.toNat_inj.1 (by have:=of_decide_eq_true g3;show K.1.toNat=165;omega);refine gA Z ?_;refine W0 (fun g4=>?_) (fun g4=>?_)
  .have g4:U.1=s.k+1:=by have:=of_decide_eq_true g4;omega
   rw[am ⟨g3,g4⟩]at hE;have A:=ML p T.1 ⟨0,0⟩ (by omega) (Xc _) hr;have h8:=CS (p:=p) (b:=T.1) (cP T.1 4096 ⟨0,0⟩).1 (cP T.1 4096 ⟨0,0⟩).2 [] (fun x hx=>nomatch hx);have h8: ∀x∈(p3 p T.1 ⟨0,0⟩).2.1,x.2.args.length<=8:=h8;unfold Ho at A;obtain⟨Y,eY⟩: ∃Y,Y=p3 p T.1 ⟨0,0⟩:=⟨_,rfl⟩
   rw[<-eY]at A hE h8;by_cases D:Y.1=jp
   .rw[am D]at A;refine gA Z (ai [7,6] (A) Z Z Z Z Z Z Z Z ?_);refine gA Z ?_;refine W0 (fun g5=>?_) (fun g5=>?_)
    .have g5: ¬js T.1 Y.2.2=0:=by simpa using g5
     rw[be fun h=>g5 h.2.1]at hE;refine gA Z (dC [] (.inr Z) Z (u hE m hk) (wk Z Z Z (bi ac) (hM Z Z Z ⟨⟨_,rfl,.of_eq Z⟩,WY Z,rfl,hR Z Z Z ⟨⟨_,rfl,.of_eq Z⟩,WY Z,rfl,ac⟩⟩) Z))
    have g5:js T.1 Y.2.2=0:=by simpa using g5
    have G:=Dp p n Y.2.1 hr hk hf (fun x hx=>by have:=h8 x hx;omega) (by omega);by_cases h0:ir aU (okF p) s.S Y.2.1=0
    .rw[am ⟨D,g5,h0⟩]at hE;rw[show ke aU (okF p) (s.S,n) Y.2.1=(ff aU s.S Y.2.1,n+1) by unfold ke;rw[am h0]]at G;refine gA Z (mF [0,1] G Z Z Z Z Z Z Z ?_);rintro r h' n' ⟨m1,hk1,rfl,rfl,rfl⟩;refine⟨_,rfl,?_⟩;refine gA Z ?_;refine W0 (fun zz=>?_) (fun zz=>?_)<;>(try(simp[h0]at zz;done))
     refine gA Z (dC (r:=pB jp) (h:=[(0,io (bt m1)),(1,io (b8 p (n+1) 0)),(3,io (jC 1 4 (s.a++w) U.1)),(4,io (hZ (s.a++w)))]) (n:=5) [8] (.inr Z) Z (by rw[hE];exact⟨m1,(n+1),by omega,hk1,rfl,rfl,rfl⟩) (wk Z Z Z (bi ac) (hM Z Z Z ⟨⟨_,rfl,.of_eq Z⟩,WY Z,rfl,⟨_,rfl,.cells ⟨.refl _,.row (by simp),.refl _,ac⟩⟩,WY Z,rfl,hR Z (by rw[Xg];exact congrArg _ (cz w)) Z ac⟩) Z))
    .rw[be fun h=>h0 h.2.2]at hE;rw[show ke aU (okF p) (s.S,n) Y.2.1=(s.S,n) by unfold ke;rw[be h0]]at G;refine gA Z (mF [0,1] G Z Z Z Z Z Z Z ?_);rintro r h' n' ⟨m1,hk1,rfl,rfl,rfl⟩;refine⟨_,rfl,?_⟩;refine gA Z ?_;refine W0 (fun zz=>?_) (fun zz=>?_)<;>(try(exact absurd (by simpa using zz) h0))
     refine gA Z (dC [] (.inr Z) Z (u hE m1 hk1) (wk Z Z Z (bi ac) (hM Z Z Z ⟨⟨_,rfl,.of_eq Z⟩,WY Z,rfl,hR Z Z Z ⟨⟨_,rfl,.of_eq Z⟩,WY Z,rfl,ac⟩⟩) Z))
   .rw[be D]at A;rw[be fun h=>D h.1]at hE;refine gA Z (ai [7,6] (A) Z Z Z Z Z Z Z Z ?_);refine gA Z ?_;refine W0 (fun zz=>?_) (fun zz=>?_)<;>(try(exact absurd zz (by decide)))
    refine gA Z (dC [] (.inr Z) Z (u hE m hk) (wk Z Z Z (bi ac) (hM Z Z Z ⟨⟨_,rfl,.of_eq Z⟩,WY Z,rfl,hR Z Z Z ⟨⟨_,rfl,.of_eq Z⟩,WY Z,rfl,ac⟩⟩) Z))
  .have g4: ¬U.1=s.k+1:=by have:=of_decide_eq_false g4;omega
   rw[be fun h=>g4 h.2,be fun h=>absurd (g3.symm.trans h.1) (by decide)]at hE;refine gA Z ?_;refine W0 (fun zz=>?_) (fun zz=>?_)<;>(try(exact absurd (of_decide_eq_true zz) (by rw[g3];decide)))
   refine gA Z (dC [] (.inr Z) Z (u hE m hk) (wk Z Z Z (bi ac) (hM Z Z Z ⟨⟨_,rfl,.of_eq Z⟩,WY Z,rfl,hR Z Z Z ⟨⟨_,rfl,.of_eq Z⟩,WY Z,rfl,ac⟩⟩) Z))
 .have g3: ¬K.1=165:=fun h=>by rw[h]at g3;exact absurd g3 (by decide)
  rw[be fun h=>g3 h.1]at hE;refine gA Z ?_;refine W0 (fun g6=>?_) (fun g6=>?_)
  .have g6:K.1=166:=UInt8.toNat_inj.1 (by have:=of_decide_eq_true g6;show K.1.toNat=166;omega);refine gA Z ?_;refine W0 (fun g7=>?_) (fun g7=>?_)
   .have g7:s.a.length=13:=by have:=of_decide_eq_true g7;omega
    rw[am ⟨g6,g7⟩]at hE;have y:=R3 p T.1 ⟨0,0⟩ (by omega) (Xc _) hr;have e0:=yX (p:=p) (b:=T.1) (s:=⟨0,0⟩);unfold Hp at y;obtain⟨Y,eY⟩: ∃Y,Y=p4 p T.1 ⟨0,0⟩:=⟨_,rfl⟩
    rw[<-eY]at y hE e0;by_cases D:Y.1=jp
    .rw[am D]at y;refine gA Z (ai [7,6] (y) Z Z Z Z Z Z Z Z ?_);refine gA Z ?_;refine W0 (fun g5=>?_) (fun g5=>?_)
     .have g5:js T.1 Y.2.2=0:=by simpa using g5
      rw[am ⟨D,g5⟩]at hE;refine gA Z (mF [0,1,2,3] (UE p n s.a s.k Y.2.1 (f0 g7▸hk) (e0 D) hr (by omega)) Z Z Z Z Z (by simp only[W7,Xj,aD];rfl) Z ?_);rintro r h' k' ⟨m1,n1,hn1,hk1,rfl,rfl,rfl⟩;refine⟨_,rfl,?_⟩;refine gA Z ?_;refine W0 (fun zz=>?_) (fun zz=>?_)<;>(try(exact absurd zz (by decide)))
      refine gA Z (dC (r:=pB jp) (h:=[(0,io (bt m1)),(1,io (b8 p n1 0)),(3,io (jC 1 4 (s.a++w) U.1)),(4,io (hZ (s.a++w)))]) (n:=5) [8] (.inr Z) Z (by rw[hE];exact⟨m1,n1,by omega,hk1,rfl,rfl,rfl⟩) (wk Z Z Z (bi ac) (hM Z Z Z ⟨⟨_,rfl,.of_eq Z⟩,WY Z,rfl,⟨_,rfl,.cells ⟨.refl _,.row (by simp),.refl _,ac⟩⟩,WY Z,rfl,hR Z (by rw[Xg];exact congr (congrArg (· ++ ·) (aB _ _)) (cz w)) Z ac⟩) Z))
     have g5: ¬js T.1 Y.2.2=0:=by simpa using g5
     rw[be fun h=>g5 h.2]at hE;refine gA Z (dC [] (.inr Z) Z (u hE m hk) (wk Z Z Z (bi ac) (hM Z Z Z ⟨⟨_,rfl,.of_eq Z⟩,WY Z,rfl,hR Z Z Z ⟨⟨_,rfl,.of_eq Z⟩,WY Z,rfl,ac⟩⟩) Z))
    .rw[be D]at y;rw[be fun h=>D h.1]at hE;refine gA Z (ai [7,6] (y) Z Z Z Z Z Z Z Z ?_);refine gA Z ?_;refine W0 (fun zz=>?_) (fun zz=>?_)<;>(try(exact absurd zz (by decide)))
     refine gA Z (dC [] (.inr Z) Z (u hE m hk) (wk Z Z Z (bi ac) (hM Z Z Z ⟨⟨_,rfl,.of_eq Z⟩,WY Z,rfl,hR Z Z Z ⟨⟨_,rfl,.of_eq Z⟩,WY Z,rfl,ac⟩⟩) Z))
   .have g7: ¬s.a.length=13:=by have:=of_decide_eq_false g7;omega
    rw[be fun h=>g7 h.2]at hE;refine gA Z (dC [] (.inr Z) Z (u hE m hk) (wk Z Z Z (bi ac) (hM Z Z Z ⟨⟨_,rfl,.of_eq Z⟩,WY Z,rfl,hR Z Z Z ⟨⟨_,rfl,.of_eq Z⟩,WY Z,rfl,ac⟩⟩) Z))
  .have g6: ¬K.1=166:=fun h=>by rw[h]at g6;exact absurd g6 (by decide)
   rw[be fun h=>g6 h.1]at hE;refine gA Z (dC [] (.inr Z) Z (u hE m hk) (wk Z Z Z (bi ac) (hM Z Z Z ⟨⟨_,rfl,.of_eq Z⟩,WY Z,rfl,hR Z Z Z ⟨⟨_,rfl,.of_eq Z⟩,WY Z,rfl,ac⟩⟩) Z))
end Go.Proofs.YtlmhfgbkchnfbaaGreatDoor
namespace Go.Proofs.YtlmhfgbkchnfbaaGreatDoor
open Go Go.Al Go.En Go.Bo
section
def iC(p:Prog)(b:By):Nat->JS->JS
 |0,s=>s
 |f+1,s=>match jA p s (b.drop s.a.length) with
  |none=>s
  |some u=>iC p b f u
def mn(p:Prog)(b:By):JS:=iC p b (b.length+1) ⟨[],bF p,0⟩
structure kg (p:Prog) (s:JS):Prop where
 fG:Go.Bo.ef aU (okF p) s.S
 len:13<=s.a.length
 num:s.k<=2147483647
 new:s.a.length=13->s.S=[]
theorem nK(p:Prog):kg p ⟨[],bF p,0⟩:=⟨Go.Bo.ef.nil _ _,W8 13,Xc _,fun _=>rfl⟩
theorem mg(a:By)(k:UInt8)(n:Nat)(t:By):6<=(ck a k n t).length:=by
 rw[ck,sX];simp only[W1,Xu];show 6<=1+(enc n).length+(hQ t).length+4+1;omega
theorem vg{p:Prog}{s u:JS}{b:By}(h:jA p s b=io u)(hs:kg p s):kg p u∧s.a.length+6<=u.a.length∧u.a.length<=s.a.length+b.length:=by
 unfold jA oz at h;have x:(F2 b).1<=2147483647:=fV;split at h
 .rename_i h1;have y:=mg s.a (P6 b).1 (F2 b).1 (Hu b).1;rw[<-h1.2]at y;have hl:(b.take (KQ b).p).length<=b.length:=by rw[XA];omega
  split at h
  .split at h
   .rename_i j;cases h;refine⟨⟨hs.fG.next pg j.2.2,?_,x,fun e=>?_⟩,?_,?_⟩<;>simp only[W1] at* <;>have:=hs.len<;>omega
   .cases h
  .split at h
   .split at h
    .rename_i j;cases h;refine⟨⟨yX j.1,?_,x,fun e=>?_⟩,?_,?_⟩<;>simp only[W1] at* <;>have:=hs.len<;>omega
    .cases h
   .cases h
 .cases h
theorem qR{p:Prog}{b:By}: ∀(f g:Nat) {s:JS},kg p s->s.a.length<=b.length->b.length-s.a.length<f->f<=g->iC p b g s=iC p b f s
 |0,_,_,_,_,h,_=>absurd h (YY _)
 |f+1,0,_,_,_,_,h=>absurd h (Nat.not_succ_le_zero _)
 |f+1,g+1,s,hs,hl,h1,h2=>by
  rw[iC,iC];cases e:jA p s (b.drop s.a.length) with
  |none=>rfl
  |some u=>
   obtain⟨j,y,x⟩:=vg e hs;rw[X7]at x;exact qR f g j (by omega) (by omega) (by omega)
def Wc(p:Prog)(u:JS)(r:PV)(h:AH)(k:Nat):Prop:= ∃m n,n<=100000000∧b4 cE m u.S∧r= .a7 [.ptr 3 0,pI u.a.length,pI 0]∧h=jH p n m u.a u.k∧k=4
structure OpI (p:Prog) (b:By) (x:JS×FM×Nat):Prop where
 fG:kg p x.1
 keeps:b4 cE x.2.1 x.1.S
 len:x.1.a.length<=b.length
 num:x.2.2<=17*x.1.a.length
 eq:mn p b=iC p b (b.length+1) x.1
section
variable (hS:fJ) (p:Prog) (hf:p.fit) (hs:p.size<=10000000) (ht:p.ts<=800000000) (b:By)
include hS hf hs ht
set_option maxHeartbeats 1000000 in
theorem Qc(hr:p.aG.length<=1000000000)(hb:b.length<=4194304)(hc:(gP p).1=0)(hp:b.take 13=bF p):Al.Fn Tryz.prog 14 [ag p.c,.iv (aT 1 b aH)] [] (Wc p (mn p b)):=by
 have hC:=zr hS p hf hs ht hc;have J:mn p b=iC p b (b.length+1) ⟨[],bF p,0⟩:=rfl;have I:=nK p;have D:=cU p;generalize bF p=a0 at hC J I D hp;have b0:13<=b.length:=by
  have:=congrArg Ze hp;rw[XA,D]at this;omega
 have A:=MD b a0;rw[decide_eq_true (show b.take a0.length=a0 by rw[D];exact hp)]at A;refine lW ab Tryz.func14 Z (by decide) Tryz.ntmps14 Z (by simp) ?_;refine gA Z ?_;refine W0 (fun zz=>?_) (fun zz=>?_)<;>(try(have:=of_decide_eq_true zz;omega))
 refine gA Z (ai [] (hC) Z Z Z Z Z Z Z Z ?_);refine gA Z ?_;refine W0 (fun zz=>?_) (fun zz=>?_)<;>(try(exact absurd zz (by decide)))
 refine gA Z (sc (asv:=[.iv (aT 1 b aH),.sl 3 0 a0.length 1]) (Pure.nS A) Z Z Z Z Z (lJ (i:=3) (sz:=1) (fun k=>aH (a0.getD k co)) Z (cG (aB _ _)) (by simp[aY,PV.aZ]) ⟨.refl _,.bI Z (fun k _=>by rw[Xo]),ac⟩) Z (fun j o hj=>nomatch hj) Z ?_);refine gA Z ?_;refine W0 (fun zz=>?_) (fun zz=>?_)<;>(try(exact absurd zz (by decide)))
 refine gA Z ?_;refine iF (σ:={x:JS×FM×Nat//OpI p b x}) (fun x=>⟨[(1,.iv (aT 1 b aH)),(7,.ptr 4 0)],[(1,io (bt x.1.2.1)),(2,io (b8 p x.1.2.2 1)),(4,io (jC 2 5 x.1.1.a x.1.1.k)),(5,io (hZ x.1.1.a))],6⟩) (fun x=>b.length-x.1.1.a.length) ⟨(⟨[],a0,0⟩,[],0),I,b4.nil,by dsimp only;omega,Xc _,J⟩ [3]
  (wk Z Z Z (bi (bi trivial)) (hM Z Z Z ⟨⟨_,rfl,.of_eq Z⟩,WY Z,rfl,⟨_,rfl,.of_eq Z⟩,WY Z,rfl,hR Z (by first|rfl|exact aB _ _) Z trivial⟩) Z) fun x=>?_
 obtain⟨⟨s,m,n⟩,G,q2,q3,q4,Y⟩:=x;dsimp only at G q2 q3 q4 Y ⊢;have c0:=G.len;have hT:=Ur p n s (b.drop s.a.length) q2 G.fG (by rw[X7];omega) (by omega) (by omega) hr hs (by omega) (by have:=G.num;omega) G.new;refine gA Z (mF [1,2,5,4] (Al.Fn.le (aa:=[.ptr 3 0,.iv (.bI 1 (b.length-s.a.length) fun k=>aH (b.getD (s.a.length+k) co))]) hT ⟨.refl _,.iv (Cy Z),ac⟩) Z Z Z Z Z (by simp only[W7,Xj,aD];rfl) Z ?_);intro r h' n' y;rcases e:jA p s (b.drop s.a.length) with _|u
 .rw[e]at y;obtain⟨m1,B,rfl,rfl,rfl⟩:=y;refine⟨_,rfl,?_⟩;refine gA Z ?_;refine W0 (fun zz=>?_) (fun zz=>?_)<;>(try(exact absurd zz (by decide)))
  have hu:mn p b=s:=by rw[Y,iC,e]
  refine gA Z (dC (r:= .a7 [.ptr 3 0,pI s.a.length,pI 0]) (h:=jH p n m1 s.a s.k) (n:=4) [1,2,5,4] (.inr Z) Z (by rw[hu];exact⟨m1,n,by omega,B,rfl,rfl,rfl⟩) (wk Z Z Z ⟨.of_eq Z,rfl,ac⟩ (hM Z Z Z ⟨⟨_,rfl,.of_eq Z⟩,WY Z,rfl,hR Z (by first|rfl|exact aB _ _) Z ⟨⟨_,rfl,.of_eq Z⟩,WY Z,rfl,ac⟩⟩) Z))
 .rw[e]at y;obtain⟨m1,n1,d0,B,rfl,rfl,rfl⟩:=y;refine⟨_,rfl,?_⟩;obtain⟨w1,w2,w3⟩:=vg e G;rw[X7]at w3;refine gA Z ?_;refine W0 (fun zz=>?_) (fun zz=>?_)<;>(try(exact absurd zz (by decide)))
  refine gA Z ?_;refine⟨⟨(u,m1,n1),w1,B,by dsimp only;omega,by dsimp only;omega,?_⟩,[6],by dsimp only;omega,wk Z Z Z (bi (bi ac)) (hM Z Z Z ⟨⟨_,rfl,.of_eq Z⟩,WY Z,rfl,⟨_,rfl,.of_eq Z⟩,WY Z,rfl,hR Z (by first|rfl|exact aB _ _) Z ac⟩) Z⟩;rw[Y];show iC p b (b.length+1) s=iC p b (b.length+1) u;rw[iC,e];exact(qR b.length (b.length+1) w1 (by omega) (by omega) (by omega)).symm
end
end
end Go.Proofs.YtlmhfgbkchnfbaaGreatDoor
namespace Go.Proofs.YtlmhfgbkchnfbaaGreatDoor
open Go Go.Al Go.Proofs.Tryz Go.En Go.Bo
abbrev dO(p:Prog)(e:Int)(x:IV)(a:By)(a0:Int)(j u:Nat)(m1 m2:FM):List AO:=[.cells [pI e],.cells [.ptr 5 0],.cells [.ptr 4 0],.cells [.iv x],jC 6 7 a a0,b8 p j 8,b8 p u 9,hZ a,bt m1,bt m2]
abbrev dH(p:Prog)(e:Int)(x:IV)(a:By)(a0:Int)(j u:Nat)(m1 m2:FM):AH:=cO 0 (dO p e x a a0 j u m1 m2)
theorem R4(p:Prog)(x:IV)(a:By)(a0:Int)(j u:Nat)(m1 m2:FM):VF prog 24 [.ptr 0 0,.ptr 1 0,.ptr 2 0,.ptr 3 0] (dO p 0 x a a0 j u m1 m2) (dH p 0 x a a0 j u m1 m2) 10:=by
 refine ub ab func24 Z (by decide) ntmps24 Z (by simp) ?_;refine gA Z ?_;refine W0 (fun zz=>?_) (fun zz=>?_)<;>(try(exact absurd zz (by decide)))
 refine gA Z ⟨.inl Z,_,rfl,rfl,rfl⟩
theorem Dq(p:Prog)(e:Int)(he:e≠0)(x:IV)(a:By)(a0:Int)(j u:Nat)(m1 m2:FM):VF prog 24 [.ptr 0 0,.ptr 1 0,.ptr 2 0,.ptr 3 0] (dO p e x a a0 j u m1 m2) ((3,io (.cells [rP]))::(4,io (.cells [.ptr 5 0,.sl 7 0 a.length 1,pI a0]))::dH p e x a a0 j u m1 m2) 10:=by
 refine ub ab func24 Z (by decide) ntmps24 Z (by simp) ?_;refine gA Z ?_;refine W0 (fun zz=>?_) (fun zz=>?_)<;>(try(exact absurd (by simpa using zz) he))
 refine gA Z ⟨.inl Z,_,rfl,rfl,rfl⟩
theorem HB{s:aq}{a z:Nat}(h:rr s a z=jp):s.size<=32:=by
 unfold rr at h;simp only[XR,decide_eq_true_eq]at h;omega
theorem rN{p:Prog}{f:Fact}(h:okF p f=jp):f.rel.size<=32∧f.args.length<=8∧Sj f.args=jp:=by
 have h:=of_decide_eq_true h;unfold oc at h;split at h
 .cases h
 .rename_i g;have g2: ¬j7 f=kw:=fun e=>g (.inr (.inl e));rw[Bool.not_eq_false]at g2;unfold j7 gi at g2;simp only[XR,decide_eq_true_eq]at g2;exact⟨HB g2.1.2,g2.2.1,g2.2.2⟩
theorem rO{p:Prog}{f:Fact}(h:okF p f=jp):QI f:=⟨by have:=(rN h).1;omega,(rN h).2.1,(rN h).2.2⟩
theorem Hn{p:Prog}{l:List (b3 Fact)}(hl:l.length<=4096)(h: ∀x∈l,okF p x.2=jp):(bc l).length<=900000000:=by
 have:=DI pZ hl (fun x j=>FG (rO (h x j))) l.length;rw[Yk]at this;rw[bc];omega
def l0(p:Prog)(s:JS)(l:List (b3 Fact)):Int×JS×By:=
 if ir aU (okF p) s.S l≠0 then(ir aU (okF p) s.S l,s,[])
 else if 2147483647<=s.k then(231,s,[])
 else if 4194304<s.a.length+(ck s.a 165 (s.k+1) (bc l)).length then(2,s,[])
 else(0,⟨ff aU s.S l,s.a++ck s.a 165 (s.k+1) (bc l),s.k+1⟩,ck s.a 165 (s.k+1) (bc l))
abbrev S4(p:Prog)(n:Nat)(m:FM)(u:JS):AH:=[(3,io (jC 5 6 u.a u.k)),(4,io (bt m)),(5,io (b8 p n 4)),(6,io (hZ u.a))]
def apR(p:Prog)(n:Nat)(y:Int×JS×By)(r:PV)(h:AH)(k:Nat):Prop:= ∃m j,j<=n+1∧b4 cE m y.2.1.S∧r= .a7 [.iv (aT 1 y.2.2 aH),pI y.1]∧h=S4 p j m y.2.1∧k=7
noncomputable abbrev Tn:Code:=f11.body.getD .skip
abbrev WT(p:Prog)(j u:Nat)(m1 m2:FM)(a:By)(a0 e:Int)(x:IV):AH:=[(0,io (bt m1)),(1,io (b8 p j 0)),(2,io (hZ a)),(3,io (jC 9 2 a a0)),(4,io (.cells [.ptr 3 0])),(5,io (.cells [.iv x])),(6,io (.cells [pI e])),(7,io (.cells [.ptr 1 0])),(8,io (bt m2)),(9,io (b8 p u 8))]
set_option maxHeartbeats 2000000 in
theorem ET(p:Prog)(n:Nat)(s:JS){m:FM}(l:List (b3 Fact))(hk:b4 cE m s.S)(hf:Go.Bo.ef aU (okF p) s.S)(hF: ∀x∈l,x.2.args.length<=1000000000)(ha:s.a.length<=10000000)(h5:5<=s.a.length)(hr:p.aG.length<=1000000000)(hn:n<=90000000000)(d0:s.k<=10000000000):
  Al.Fn prog 11 [.ptr 3 0,.iv (aT 3 l fN)] (jO p n m s.a s.k) (apR p n (l0 p s l)):=by
 obtain⟨y,u⟩: ∃y,y=l0 p s l:=⟨_,rfl⟩
 rw[<-u];have I: ∀e:Int,y=(e,s,[])->apR p n y (.a7 [.iv (aT 1 ([]:By) aH),pI e]) (S4 p n m s) 7:=fun e h=>by rw[h];exact⟨m,n,Yw _,hk,rfl,rfl,rfl⟩
 unfold l0 at u;refine Fn.ended ?_;refine JM ab func11 (cs:=(jy Tn).1) (id:=(jy Tn).2.1) (ops:=(jy Tn).2.2.1) (T:=(jy Tn).2.2.2) (show _=io (Sx (jy Tn)) from rfl) (by decide) ntmps11 Z (by simp)
  ⟨[(1,.iv (aT 3 l fN)),(2,.ptr 4 0),(4,.ptr 5 0),(5,.ptr 6 0),(6,.ptr 7 0),(20,.cB (.func 24) [] [.ptr 6 0,.ptr 7 0,.ptr 4 0,.ptr 5 0])],WT p n n m m s.a s.k 0 (.v (.slice is 0 0)),10⟩
  (pre:=(jy Tn).2.2.1.toList.dropLast) (g:= .tmp 20) (caps:=[.ptr 6 0,.ptr 7 0,.ptr 4 0,.ptr 5 0]) Z Z Z Z Z (bg func24 Z (by decide)) ?_ ?_
 .refine gA Z ?_;refine W0 (fun zz=>?_) (fun zz=>?_)<;>(try(exact absurd zz (by decide)))
  refine gA Z (bf ab [0,1] (R0 p n m) Z Z Z Z Z Z Z Z Z Z Z Z (by(repeat' (first|exact ac|exact rfl|exact ae.refl _|exact ae.bk (by assumption)|apply W0))<;>first|omega|(simp only[W6];omega)|(simp;done)|(simp;omega)) Z (by(repeat' (first|exact ac|exact rfl|exact ae.refl _|exact ae.bk (by assumption)|apply W0))<;>first|omega|(simp only[W6];omega)|(simp;done)|(simp;omega)) ?_);refine gA Z (.inl ⟨rfl,?_⟩);refine gA Z ⟨rfl,[],wk Z Z Z (bi (bi (bi (bi (bi (bi ac)))))) (hM Z Z Z ⟨⟨_,rfl,.of_eq Z⟩,WY Z,rfl,hR Z (by first|rfl|exact aB _ _) Z ⟨⟨_,rfl,.of_eq Z⟩,WY Z,rfl,⟨_,rfl,.of_eq Z⟩,WY Z,rfl,⟨_,rfl,.of_eq Z⟩,WY Z,rfl,⟨_,rfl,.of_eq Z⟩,WY Z,rfl,⟨_,rfl,.of_eq Z⟩,WY Z,rfl,hM Z Z Z ⟨⟨_,rfl,.of_eq Z⟩,WY Z,rfl,ac⟩⟩⟩) Z⟩
 intro D;have B:=Dp p n l hr hk hf hF (by omega);by_cases A:ir aU (okF p) s.S l=0;rotate_left
 .rw[am A]at u;rw[show ke aU (okF p) (s.S,n) l=(s.S,n) by unfold ke;rw[be A]]at B;refine gA Z (mF [8,9] B Z Z Z Z Z Z Z ?_);rintro r J n' ⟨m1,hk1,rfl,rfl,rfl⟩;refine⟨_,rfl,?_⟩;refine gA Z ?_;refine W0 (fun zz=>?_) (fun zz=>?_)<;>(try(exact absurd (by simpa using zz) A))
  refine gA Z (uV [6,7,4,5,3,1,9,2,0,8] (.inr Z) (Dq p (ir aU (okF p) s.S l) A (.v (.slice is 0 0)) s.a s.k n n m m1) Z Z (by simp only[W7,Xj,aD];rfl) Z ?_);rintro r J n' ⟨rfl,rfl⟩;exact⟨_,rfl,.done ⟨_,S4 p n m s,7,[0,1,2],I _ u,wk Z Z Z ⟨.a7 ⟨.nil _ _,.refl _,ac⟩,rfl,ac⟩ ⟨⟨_,rfl,.of_eq Z⟩,WY Z,rfl,hM Z Z Z ⟨⟨_,rfl,.of_eq Z⟩,WY Z,rfl,hR Z (by first|rfl|exact aB _ _) Z ac⟩⟩ Z⟩⟩
 obtain⟨hl,hok,c0⟩:=kC.1 A;rw[be fun h=>h A]at u;have hP:DG p s.S l= .a7 [.iv (aT 3 (dM aU s.S l) fN),pI 0]:=by unfold DG;rw[am A,A]
 have hD:ke aU (okF p) (s.S,n) l=(ff aU s.S l,n+1):=by unfold ke;rw[am A]
 simp only[hP,hD]at B;have a0:=Dn l (by omega) fun x hx=>rO (hok x hx);have b0:=Hn hl hok;obtain⟨j,G⟩: ∃j,j=ck s.a 165 (s.k+1) (bc l):=⟨_,rfl⟩
 have Y:bh prog 21 [.iv (aT 1 s.a aH),pY 165,pI ((s.k:Int)+1),.iv (aT 1 (bc l) aH)] [] (.sl 0 0 j.length 1) [(0,io (hZ j))] 1:=by
  rw[G];exact zm s.a (bc l) 165 ((s.k:Int)+1) h5 (by omega) ⟨by omega,by omega⟩ b0
 have e0:j.length<=1000000000:=by
  have h1:=jT (bc l);have h2:=wF (s.k+1);rw[G,ck,sX];simp only[W1,Xu];show 1+_+_+4+1<=_;omega
 rw[<-G]at u;refine gA Z (mF [8,9] B Z Z Z Z Z Z Z ?_);rintro r J n' ⟨m1,hk1,rfl,rfl,rfl⟩;refine⟨_,rfl,?_⟩;refine gA Z ?_;refine W0 (fun zz=>?_) (fun zz=>?_)<;>(try(exact absurd zz (by decide)))
 refine gA Z ?_;refine W0 (fun g1=>?_) (fun g1=>?_)
 .have g1:2147483647<=s.k:=by have:=of_decide_eq_true g1;omega
  rw[am g1]at u;refine gA Z (uV [6,7,4,5,3,1,9,2,0,8] (.inr Z) (Dq p 231 (by decide) (.v (.slice is 0 0)) s.a s.k n (n+1) m m1) Z Z (by simp only[W7,Xj,aD];rfl) Z ?_);rintro r J n' ⟨rfl,rfl⟩;exact⟨_,rfl,.done ⟨_,S4 p n m s,7,[0,1,2],I 231 u,wk Z Z Z ⟨.a7 ⟨.nil _ _,.refl _,ac⟩,rfl,ac⟩ ⟨⟨_,rfl,.of_eq Z⟩,WY Z,rfl,hM Z Z Z ⟨⟨_,rfl,.of_eq Z⟩,WY Z,rfl,hR Z (by first|rfl|exact aB _ _) Z ac⟩⟩ Z⟩⟩
 have g1: ¬2147483647<=s.k:=by have:=of_decide_eq_false g1;omega
 rw[be g1]at u;refine gA Z (bf ab [] (Pure.nS (a0)) Z Z Z Z Z Z Z Z Z Z Z Z (by(repeat' (first|exact ac|exact rfl|exact ae.refl _|exact ae.bk (by assumption)|apply W0))<;>first|omega|(simp only[W6];omega)|(simp;done)|(simp;omega)) Z (by(repeat' (first|exact ac|exact rfl|exact ae.refl _|exact ae.bk (by assumption)|apply W0))<;>first|omega|(simp only[W6];omega)|(simp;done)|(simp;omega)) ?_);refine gA Z (r9 ab (asv:=[.sl 2 0 s.a.length 1,pY 165,pI ((s.k:Int)+1),.iv (aT 1 (bc l) aH)]) Y Z Z Z Z Z (lJ (i:=2) (sz:=1) (fun k=>aH (s.a.getD k co)) Z (cG Z) (by simp[aY,PV.aZ]) ⟨.bI Z (fun k _=>by rw[Xo]),.refl _,.refl _,.refl _,ac⟩) Z (wX (Aw j)) Z Z Z Z Z (by(repeat' (first|exact ac|exact rfl|exact ae.refl _|exact ae.bk (by assumption)|apply W0))<;>first|omega|(simp only[W6];omega)|(simp;done)|(simp;omega)) Z (by(repeat' (first|exact ac|exact rfl|exact ae.refl _|exact ae.bk (by assumption)|apply W0))<;>first|omega|(simp only[W6];omega)|(simp;done)|(simp;omega)) ?_)
 (refine gM 2 Z ?_;refine bZ (L:=[]) (t:=⟨[(2,.ptr 4 0),(4,.ptr 5 0),(5,.ptr 6 0)],[(0,io (bt m)),(1,io (b8 p n 0)),(2,io (hZ s.a)),(3,io (jC 9 2 s.a s.k)),(4,io (.cells [.ptr 3 0])),(5,io (.cells [.sl 10 0 j.length 1])),(6,io (.cells [pI 0])),(7,io (.cells [.ptr 1 0])),(8,io (bt m1)),(9,io (b8 p (n+1) 8)),(10,io (hZ j))],11⟩) ?_ ?_;refine wk Z Z Z ?_ ?_ ?_;exact(bi (bi (bi ac)));exact(hM Z Z Z ⟨⟨_,rfl,.of_eq Z⟩,WY Z,rfl,hR Z Z Z ⟨⟨_,rfl,.of_eq Z⟩,WY Z,rfl,⟨_,rfl,.of_eq Z⟩,WY Z,rfl,⟨_,rfl,.of_eq Z⟩,WY Z,rfl,⟨_,rfl,.of_eq Z⟩,WY Z,rfl,⟨_,rfl,.of_eq Z⟩,WY Z,rfl,hM Z Z Z ⟨⟨_,rfl,.of_eq Z⟩,WY Z,rfl,hR Z (aB _ _) Z ac⟩⟩⟩);exact rfl)
 refine iY 10 (fun k=>aH (j.getD k co)) Z (cG Z) (by simp[AF.kK,PV.aZ]) ⟨ac,(by simp[AO.kK,aY,PV.aZ]),de _ _ _ _ _ _,(by simp[AO.kK,aY,PV.aZ]),(by simp[AO.kK,aY,PV.aZ]),(by simp[AO.kK,aY,PV.aZ]),(by simp[AO.kK,aY,PV.aZ]),(by simp[AO.kK,aY,PV.aZ]),ac,(by simp[AO.kK,aY,PV.aZ]),de _ _ _ _ _ _,ac⟩ ?_;refine bZ (L:=[]) (t:=⟨[(2,.ptr 4 0),(4,.ptr 5 0),(5,.ptr 6 0)],[(0,io (bt m)),(1,io (b8 p n 0)),(2,io (hZ s.a)),(3,io (jC 9 2 s.a s.k)),(4,io (.cells [.ptr 3 0])),(5,io (.cells [.iv (aT 1 j aH)])),(6,io (.cells [pI 0])),(7,io (.cells [.ptr 1 0])),(8,io (bt m1)),(9,io (b8 p (n+1) 8))],11⟩) (wk Z Z Z (bi (bi (bi ac))) (hM Z Z Z ⟨⟨_,rfl,.of_eq Z⟩,WY Z,rfl,hR Z Z Z ⟨⟨_,rfl,.of_eq Z⟩,WY Z,rfl,⟨_,rfl,.of_eq Z⟩,WY Z,rfl,⟨_,rfl,.cells ⟨.bI Z (fun k _=>by rw[Xo]),ac⟩⟩,WY Z,rfl,⟨_,rfl,.of_eq Z⟩,WY Z,rfl,⟨_,rfl,.of_eq Z⟩,WY Z,rfl,hM Z Z Z ⟨⟨_,rfl,.of_eq Z⟩,WY Z,rfl,ac⟩⟩⟩) Z) ?_;refine gA Z ?_;refine W0 (fun g2=>?_) (fun g2=>?_)
 .have g2:4194304<s.a.length+j.length:=by have:=of_decide_eq_true g2;omega
  rw[am g2]at u;refine gA Z (uV [6,7,4,5,3,1,9,2,0,8] (.inr Z) (Dq p 2 (by decide) (.v (.slice is 0 0)) s.a s.k n (n+1) m m1) Z Z (by simp only[W7,Xj,aD];rfl) Z ?_);rintro r J n' ⟨rfl,rfl⟩;exact⟨_,rfl,.done ⟨_,S4 p n m s,7,[0,1,2],I 2 u,wk Z Z Z ⟨.a7 ⟨.nil _ _,.refl _,ac⟩,rfl,ac⟩ ⟨⟨_,rfl,.of_eq Z⟩,WY Z,rfl,hM Z Z Z ⟨⟨_,rfl,.of_eq Z⟩,WY Z,rfl,hR Z (by first|rfl|exact aB _ _) Z ac⟩⟩ Z⟩⟩
 have g2: ¬4194304<s.a.length+j.length:=by have:=of_decide_eq_false g2;omega
 rw[be g2]at u
 (refine gM 25 Z ?_;refine bZ (L:=[]) (t:=⟨[(4,.ptr 5 0),(5,.ptr 6 0)],[(0,io (bt m)),(1,io (b8 p n 0)),(3,io (jC 9 11 (s.a++j) ((s.k+1:Nat):Int))),(4,io (.cells [.ptr 3 0])),(5,io (.cells [.iv (aT 1 j aH)])),(6,io (.cells [pI 0])),(7,io (.cells [.ptr 1 0])),(8,io (bt m1)),(9,io (b8 p (n+1) 8)),(11,io (hZ (s.a++j)))],12⟩) ?_ ?_;refine wk Z Z Z ?_ ?_ ?_;exact(bi (bi ac));exact(hM Z Z Z ⟨⟨_,rfl,.of_eq Z⟩,WY Z,rfl,⟨_,rfl,.cells ⟨.refl _,.row (by simp),.of_eq (congrArg pI (by omega)),ac⟩⟩,WY Z,rfl,⟨_,rfl,.of_eq Z⟩,WY Z,rfl,⟨_,rfl,.of_eq Z⟩,WY Z,rfl,⟨_,rfl,.of_eq Z⟩,WY Z,rfl,⟨_,rfl,.of_eq Z⟩,WY Z,rfl,hM Z Z Z ⟨⟨_,rfl,.of_eq Z⟩,WY Z,rfl,hR Z (by rw[Xg];exact congrArg _ (cz j)) Z ac⟩⟩);exact rfl)
 refine gA Z (uV [6,7,4,5,3,1,9,11,0,8] (.inr Z) (R4 p (aT 1 j aH) (s.a++j) ((s.k+1:Nat):Int) n (n+1) m m1) Z Z (by simp only[W7,Xj,aD];rfl) Z ?_);rintro r J n' ⟨rfl,rfl⟩;exact⟨_,rfl,.done ⟨.a7 [.iv (aT 1 j aH),pI 0],S4 p (n+1) m1 ⟨ff aU s.S l,s.a++j,s.k+1⟩,7,[8,9,11],by rw[u];exact⟨m1,n+1,W8 _,hk1,rfl,rfl,rfl⟩,wk Z Z Z ⟨.of_eq Z,rfl,ac⟩ ⟨⟨_,rfl,.of_eq Z⟩,WY Z,rfl,hM Z Z Z ⟨⟨_,rfl,.of_eq Z⟩,WY Z,rfl,hR Z (aB _ _) Z ac⟩⟩ Z⟩⟩
def eI(s:JS):By:=s.a.take 13++ck (s.a.take 13) 166 s.k (dE s.S)
def jI(s:JS):Int×JS×By:=if(eI s).length<=4194304 then(0,⟨s.S,eI s,s.k⟩,eI s) else(2,s,[])
abbrev pkH(p:Prog)(n:Nat)(m:FM)(u:JS):AH:=[(0,io (bt m)),(1,io (b8 p n 0)),(3,io (jC 1 4 u.a u.k)),(4,io (hZ u.a))]
theorem NX{p:Prog}{f:Fact}(h:okF p f=jp):(fg f).length<=1100:=by
 have hF:=rO h;have h1:=jT f.rel.data.toList;have j:=jT (kh f.args);have u:=y8 hF.len hF.val;have x:=(rN h).1;have y:f.rel.data.toList.length=f.rel.size:=rfl;rw[fg,W1];omega
theorem Kv{p:Prog}{S:List Fact}(h:Go.Bo.ef aU (okF p) S):(dE S).length<=80000000:=by
 have h1:=wF S.length;have j:=zc fg (m:=1100) S fun f hf=>NX (h.ok f hf);have u:=h.JR;rw[dE,W1];omega
theorem w7: ∀{l:List (List PV)},(∀e∈l,dB e=jp)->allOnes l=jp
 | [],_=>rfl
 |e::l,h=>by
  unfold allOnes;rw[h e (by simp)];exact w7 fun x j=>h x (by simp[j])
theorem Eg(σ:Nat->Nat)(l:By)(a n:Nat):allOnes ((((dd l).map (dh σ)).drop a).take n)=jp:=by
 rw[aB];refine w7 fun e h=>?_;obtain⟨x,_,rfl⟩:=XH.1 (aao (YK h));rfl
set_option maxHeartbeats 1000000 in
theorem Qb(p:Prog)(n:Nat)(s:JS){m:FM}(hk:b4 cE m s.S)(hf:Go.Bo.ef aU (okF p) s.S)(ha:s.a.length<=10000000)(I:13<=s.a.length)(b0:s.k<=10000000000):
  bh prog 10 [.ptr 3 0] (jO p n m s.a s.k) (.a7 [.iv (aT 1 (jI s).2.2 aH),pI (jI s).1]) (pkH p n m (jI s).2.1) 5:=by
 have Y:=hf.JR;have a0:=Kv hf;obtain⟨H,D⟩: ∃H,H=s.a.take 13:=⟨_,rfl⟩
 have hH:H.length=13:=by rw[D,XA];omega
 obtain⟨u,j⟩: ∃u,u=ck H 166 s.k (dE s.S):=⟨_,rfl⟩
 obtain⟨P,G⟩: ∃P,P=eI s:=⟨_,rfl⟩
 have x:P=H++u:=by rw[G,j,D];rfl
 have B:bh prog 21 [.iv (aT 1 H aH),pY 166,pI s.k,.iv (aT 1 (dE s.S) aH)] [] (.sl 0 0 u.length 1) [(0,io (hZ u))] 1:=by
  rw[j];exact zm H (dE s.S) 166 (s.k:Int) (by omega) (by omega) ⟨by omega,by omega⟩ (by omega)
 have c0:u.length<=1000000000:=by
  have h1:=jT (dE s.S);have h2:=wF s.k;rw[j,ck,sX];simp only[W1,Xu];show 1+_+_+4+1<=_;omega
 have A:=Dj s.a 13 (by decide) I (by omega);rw[<-D]at A;unfold jI;rw[<-G];clear j G;have J:P.length=13+u.length:=by rw[x,W1,hH]
 refine ak ab func10 Z (by decide) ntmps10 Z (by simp) ?_;refine gA Z ?_;refine W0 (fun zz=>?_) (fun zz=>?_)<;>(try(exact absurd zz (by decide)))
 refine gA Z (sb ab 13 Z Z Z Z Z Z Z Z (by omega) (by omega) (.inr ⟨by decide,rfl⟩) Z ?_);refine gA Z (ai [2] (A) Z Z Z Z Z (by simp only[W7,Xj,Xp,Xq,aD,bb];rfl) Z Z ?_);refine gA Z (bf ab [0,1] (Im p n hk hf.zg (fun f h=>by have:=ef.Vi hf f h;omega) (by omega)) Z Z Z Z Z Z Z Z Z Z Z Z (by(repeat' (first|exact ac|exact rfl|exact ae.refl _|exact ae.bk (by assumption)|apply W0))<;>first|omega|(simp only[W6];omega)|(simp;done)|(simp;omega)) Z (by(repeat' (first|exact ac|exact rfl|exact ae.refl _|exact ae.bk (by assumption)|apply W0))<;>first|omega|(simp only[W6];omega)|(simp;done)|(simp;omega)) ?_);refine gA Z (bf ab [] (Pure.nS (Gp s.S (by omega) (fun f h=>rO (hf.ok f h)))) Z Z Z Z Z Z Z Z Z Z Z Z (by(repeat' (first|exact ac|exact rfl|exact ae.refl _|exact ae.bk (by assumption)|apply W0))<;>first|omega|(simp only[W6];omega)|(simp;done)|(simp;omega)) Z (by(repeat' (first|exact ac|exact rfl|exact ae.refl _|exact ae.bk (by assumption)|apply W0))<;>first|omega|(simp only[W6];omega)|(simp;done)|(simp;omega)) ?_);refine gA Z (r9 ab (asv:=[.sl 4 0 13 1,pY 166,pI s.k,.iv (aT 1 (dE s.S) aH)]) B Z Z Z Z Z (lJ (i:=4) (sz:=1) (fun k=>aH (H.getD k co)) Z (cG (aB _ _)) (by simp[aY,PV.aZ];omega) ⟨.bI hH.symm (fun k _=>by rw[Xo]),.refl _,.refl _,.refl _,ac⟩) Z (wX (Aw u)) Z Z Z Z Z (by(repeat' (first|exact ac|exact rfl|exact ae.refl _|exact ae.bk (by assumption)|apply W0))<;>first|omega|(simp only[W6];omega)|(simp;done)|(simp;omega)) Z (by(repeat' (first|exact ac|exact rfl|exact ae.refl _|exact ae.bk (by assumption)|apply W0))<;>first|omega|(simp only[W6];omega)|(simp;done)|(simp;omega)) ?_)
 (refine gM 3 Z (hC:=(by(repeat' (apply W0))<;>first|exact ac|exact rfl|exact ae.refl _|exact Eg _ _ _ _|omega|(simp;done)|(simp;omega))) ?_;refine bZ (L:=[]) (t:=⟨[(0,.ptr 3 0),(4,.sl 6 0 P.length 1)],[(0,io (bt m)),(1,io (b8 p n 0)),(2,io (hZ s.a)),(3,io (jC 1 2 s.a s.k)),(6,io (hZ P))],7⟩) ?_ ?_;refine wk Z Z Z ?_ ?_ ?_;exact(bi ⟨.row (by rw[J]),rfl,ac⟩);exact(hM Z Z Z ⟨⟨_,rfl,.of_eq Z⟩,WY Z,rfl,hR Z (aB _ _) Z ⟨⟨_,rfl,.of_eq Z⟩,WY Z,rfl,hR Z (by rw[x,Xg];exact congr (congrArg (· ++ ·) (aB _ _)) (by rw[ZP,aB];exact Xh (by simp))) Z ac⟩⟩);exact rfl)
 refine gA Z ?_;refine W0 (fun g1=>?_) (fun g1=>?_)
 .have g1: ¬P.length<=4194304:=by have:=of_decide_eq_true g1;omega
  rw[be g1];refine gA Z (ar [2] (by first|exact .inr Z|exact .inl Z) Z (wk Z Z Z ⟨.a7 ⟨.nil _ _,.refl _,ac⟩,rfl,ac⟩ (hM Z Z Z ⟨⟨_,rfl,.of_eq Z⟩,WY Z,rfl,⟨_,rfl,.of_eq Z⟩,WY Z,rfl,hR Z (by first|rfl|exact aB _ _) Z ac⟩) Z))
 have g1:P.length<=4194304:=by have:=of_decide_eq_false g1;omega
 rw[am g1];have y:=Dj P P.length (by omega) (W8 _) (by omega);rw[Yk]at y;refine gA Z (ai [6] (y) Z Z Z Z Z (by simp only[W7,Xj,Xp,Xq,aD,bb];rfl) Z Z ?_);refine gA Z ⟨.inr Z,.a7 [.sl 7 0 P.length 1,pI 0],rfl,fy.fR 7 P aH Z (by first|rfl|exact aB _ _) (by simp[PV.aZ,aY]) (.done ⟨_,_,_,[6],⟨rfl,rfl,rfl⟩,wk Z Z Z ⟨.a7 ⟨.bI Z (fun k _=>by rw[Xo]),.refl _,ac⟩,rfl,ac⟩ (hM Z Z Z ⟨⟨_,rfl,.of_eq Z⟩,WY Z,rfl,⟨_,rfl,.of_eq Z⟩,WY Z,rfl,hR Z (by first|rfl|exact aB _ _) Z ac⟩) Z⟩)⟩
end Go.Proofs.YtlmhfgbkchnfbaaGreatDoor
namespace Go.Proofs.YtlmhfgbkchnfbaaGreatDoor
open Go Go.Al Go.En Go.Bo
section
section
variable {b:By} {s:RS} {r:By}
theorem wQ{k:UInt8}(h:At b s ([k]++r)):bm b s=(k,⟨s.p+1,0⟩):=by
 have h1:=congrArg Ze h.r;rw[X7,W1,Xu]at h1;have j:b[s.p]? =io k:=by
  have:=congrArg (fun l=>l[0]?) h.r;simpa[XW]using this
 unfold bm;rw[am h.f,am (by omega),W2,j];rfl
theorem M6{x:By}{n:Nat}(h:At b s (x++r))(hn:x.length=n):Bz b n s=⟨s.p+n,0⟩:=by
 have h1:=congrArg Ze h.r;rw[X7,W1]at h1;unfold Bz;rw[am h.f,am (by omega)]
theorem Ax{x y:By}(h:At b s (x++y++r)):At b s (x++(y++r)):=by rwa[Xf]at h
theorem VS{n:Int}(h1: -2147483647<=n)(j:n<=2147483647):zz n<2 ^ 64:=by
 unfold zz;split<;>omega
theorem Jj{v:cW}(j:bW v=0)(h:At b s (lO v++r)):dW b s=(0,v,⟨s.p+(lO v).length,0⟩):=by
 have hk:=Qj j;unfold lO at h ⊢;have B:=wQ (Ax h);have y:=(Ax h).go;have A:(UInt8.ofNat v.kind.toNat=1↔v.kind=1)∧(UInt8.ofNat v.kind.toNat=2↔v.kind=2):=by
  rcases hk with e|e<;>rw[e]<;>decide
 unfold dW;rw[B];simp only[ne_eq,not_true_eq_false,if_false];unfold bW at j;by_cases h1:v.kind=1
 .rw[am h1]at y j ⊢;split at j;rotate_left
  .cases j
  rename_i hb;have u:=Jl y hb.2.1 hb.2.2 (VS hb.2.1 hb.2.2);rw[am (A.1.2 h1)];rw[Xu]at u;rw[u];have:v=⟨1,v.num,Xb⟩:=by cases v;simp_all
  simp only[W1,Xu,<-this,Yf]
 .rw[be h1]at y j ⊢;have x:v.kind=2:=by omega
  rw[am x]at j;split at j;rotate_left
  .cases j
  rename_i hb;have D:v.sym.data.toList.length=v.sym.size:=rfl;have u:=ph (most:=64) y (by omega) (by omega);rw[be (fun e=>h1 (A.1.1 e)),am (A.2.2 x)];rw[Xu]at u;rw[u];have:v=⟨2,0,qC v.sym.data.toList⟩:=by cases v;simp_all [qC]
  simp only[W1,Xu,<-this,Yf]
theorem yu: ∀(l:List cW) {s:RS} {r:By} (A:List cW),(∀v∈l,bW v=0)->At b s (l.flatMap lO++r)->ix b l.length s A=(0,A++l,⟨s.p+(l.flatMap lO).length,0⟩)
 | [],s,r,A,_,h=>by
  have:=h.f;cases s
  simp_all [ix]
 |v::l,s,r,A,hv,h=>by
  rw[X5,Xf]at h;rw[Xy,ix,Jj (hv v (by simp)) h];simp only[ne_eq,not_true_eq_false,if_false];rw[yu l (A++ [v]) (fun x j=>hv x (by simp[j])) h.go];simp[Yf]
end
theorem JD{l:List cW}(hl:l.length<=8)(y: ∀v∈l,bW v=0):og (kh l)=(0,l):=by
 have j:=At.start (kh l);have h1:At (kh l) ⟨0,0⟩ (enc l.length++(l.flatMap lO++ [])):=by rw[XM];exact j
 have u:=yu l [] y h1.go;have hu:=pe (most:=8) h1 hl (by omega);unfold og;simp only[hu];rw[u];dsimp only;have x:js (kh l) ⟨0+(enc l.length).length+(l.flatMap lO).length,0⟩=0:=by
  unfold js;rw[be];rintro⟨_,h⟩;rw[kh,W1]at h;have h:0+(enc l.length).length+(l.flatMap lO).length<_:=h;omega
 rw[be fun h=>h Z,be fun h=>h x,Xq]
structure FrA (p:Prog) (b:By) (s:RS) (f:Fact):Prop where
 ok:lV p b s=jp
 fact:ua b s=f
 next:(nN b s).2=⟨s.p+(fg f).length,0⟩
theorem Qo{p:Prog}{f:Fact}(hf:okF p f=jp){b:By}{s:RS}{r:By}(h:At b s (fg f++r)):FrA p b s f:=by
 have hF:=rO hf;have hr:f.rel.size<=32:=(rN hf).1;have y:f.rel.data.toList.length=f.rel.size:=rfl;have ht:=y8 hF.len hF.val;unfold fg at h;have h1:=Ax h;have u:KS b s=(f.rel.data.toList,⟨s.p+(hQ f.rel.data.toList).length,0⟩):=ph h1 (by omega) (by omega);have hT:nN b s=(kh f.args,⟨s.p+(hQ f.rel.data.toList).length+(hQ (kh f.args)).length,0⟩):=by
  unfold nN;rw[u];exact ph h1.go (by omega) (by omega)
 have x:=JD hF.len hF.val;have j:ua b s=f:=by
  unfold ua;rw[hT,u,x];rw[am Z];show(⟨qC f.rel.data.toList,f.args⟩:Fact)=f;cases f;rfl
 refine⟨?_,j,by rw[hT,fg,W1,Yf]⟩;unfold lV;rw[j,hT,x];rw[decide_eq_true Z];exact hf
theorem FP{p:Prog}{b:By}: ∀(l:List (b3 Fact)) {s:RS} {r:By} (A:List (b3 Fact)),(∀x∈l,okF p x.2=jp)->At b s (l.flatMap pZ++r)->sE p b l.length s A=(jp,A++l,⟨s.p+(l.flatMap pZ).length,0⟩)
 | [],s,r,A,_,h=>by
  have:=h.f;cases s
  simp_all [sE]
 |(c,f)::l,s,r,A,hl,h=>by
  rw[X5,Xf]at h;have B:At b s ([if c=jp then 1 else 0]++(fg f++(l.flatMap pZ++r))):=by
   have h:=h;unfold pZ at h;exact Ax h
  have y:=wQ B;have hR:=Qo (hl (c,f) (by simp)) (s:=⟨s.p+1,0⟩) B.go;have D:(pZ (c,f)).length=1+(fg f).length:=by rw[pZ,W1,Xu]
  have j: ¬(((if c=jp then 1 else 0:UInt8).toNat:Int)>1):=by cases c<;>decide
  have u:Kl b s=(c,f):=by
   unfold Kl;rw[y,hR.fact];cases c<;>rfl
  rw[Xy,sE,y,hR.ok,hR.next,u,be (by simp[j])];rw[FP l (A++ [(c,f)]) (fun x G=>hl x (by simp[G])) (s:=⟨s.p+1+(fg f).length,0⟩) (by have:=h.go;rw[D,<-Yf]at this;exact this)];simp only[X5,W1,D,Xf,ZQ];congr 3;show s.p+1+(fg f).length+_=_;omega
theorem FA{b:By}{n:Nat}(h:n=b.length):js b ⟨n,0⟩=0:=by
 unfold js;rw[be fun e=>by have:=e.2;dsimp only at this;omega]
theorem Ov{p:Prog}{l:List (b3 Fact)}(hl:l.length<=4096)(ho: ∀x∈l,okF p x.2=jp):p3 p (bc l) ⟨0,0⟩=(jp,l,⟨(bc l).length,0⟩):=by
 have j:=At.start (bc l);have h1:At (bc l) ⟨0,0⟩ (enc l.length++(l.flatMap pZ++ [])):=by rw[XM];exact j
 have hu:=pe (most:=4096) h1 hl (by omega);have u:=FP (p:=p) l [] ho h1.go;unfold p3;rw[hu,u];rw[bc,W1];simp
theorem zw{a body r:By}{k:UInt8}{n:Nat}(hn:n<=2147483647)(hb:body.length<=4194304):P6 (ck a k n body++r)=(k,⟨1,0⟩)∧(F2 (ck a k n body++r)).1=n∧(Hu (ck a k n body++r)).1=body∧KQ (ck a k n body++r)=⟨(ck a k n body).length,0⟩:=by
 obtain⟨b,j⟩: ∃b,b=ck a k n body++r:=⟨_,rfl⟩
 obtain⟨q,D⟩: ∃q,q=E5 (qA (sX k n body++kI a)).toNat:=⟨_,rfl⟩
 have u:q.length=4:=by rw[D];rfl
 have hR:ck a k n body=[k]++(enc n++(hQ body++(q++ [90]))):=by
  rw[ck,<-D,sX];simp only[Xf]
 have x:At b ⟨0,0⟩ ([k]++(enc n++(hQ body++(q++ [90]++r)))):=by
  have:=At.start b;rw[j,hR]at this;rw[j,hR];simpa only[Xf]using this
 have A:P6 b=(k,⟨0+1,0⟩):=wQ x;have h1:At b ⟨0+1,0⟩ (enc n++(hQ body++(q++ [90]++r))):=x.go;have B:F2 b=(n,⟨0+1+(enc n).length,0⟩):=by unfold F2;rw[A];exact pe h1 hn (by omega)
 have y:=h1.go;have hT:Hu b=(body,⟨0+1+(enc n).length+(hQ body).length,0⟩):=by unfold Hu;rw[B];exact ph y hb (by omega)
 have G:KQ b=⟨0+1+(enc n).length+(hQ body).length+5,0⟩:=by
  unfold KQ;rw[hT];exact M6 y.go (by rw[W1,u];rfl)
 rw[<-j];refine⟨by rw[A],by rw[B],by rw[hT],?_⟩;rw[G,hR];simp only[W1,Xu,u];congr 1;omega
theorem vf{p:Prog}{s:JS}{l:List (b3 Fact)}(hk:s.k+1<=2147483647)(h0:ir aU (okF p) s.S l=0)(hb:(bc l).length<=4194304)(r:By):
  jA p s (ck s.a 165 (s.k+1) (bc l)++r)=io ⟨ff aU s.S l,s.a++ck s.a 165 (s.k+1) (bc l),s.k+1⟩:=by
 obtain⟨h1,j,u,x⟩:=zw (a:=s.a) (r:=r) (k:=165) hk hb;obtain⟨hl,hok,_⟩:=kC.1 h0;unfold jA;rw[h1,j,u,x];unfold oz;rw[ZF Z,am ⟨rfl,rfl⟩,am ⟨rfl,rfl⟩,Ov hl hok,am ⟨rfl,FA Z,h0⟩]
theorem take_nil(p:Prog)(s:JS):jA p s []=is:=by
 have h1:P6 []=(0,⟨0,10⟩):=rfl;have j:F2 []=(0,⟨0,10⟩):=by unfold F2 cP;rw[h1];rfl
 have u:Hu []=([],⟨0,10⟩):=by unfold Hu dN;rw[j];rfl
 have x:KQ []=⟨0,10⟩:=by unfold KQ Bz;rw[u];rfl
 unfold jA oz;rw[x,be fun h=>absurd h.1 (by decide)]
end
abbrev Nj:aq:=⟨#[97]⟩
abbrev vA:cW:=⟨1,1,Xb⟩
def fA:Fact:=⟨Nj,[vA]⟩
def pA:Prog:=⟨[⟨Nj,[1],⟨0,0⟩⟩],[]⟩
def l1:List (b3 Fact):=[(jp,fA)]
theorem IM:pA.fit:=⟨by decide,by decide,fun r h=>nomatch h⟩
theorem BM:(gP pA).1=0:=by decide+kernel
theorem Vk:okF pA fA=jp:=by decide+kernel
theorem Jh:ir aU (okF pA) [] l1=0:=by decide+kernel
theorem Fb:ff aU [] l1=[fA]:=by decide+kernel
theorem JP:Go.Bo.ef aU (okF pA) [fA]:=⟨Zo _ _,fun f h=>by rw[Xd.1 h];exact Vk,by decide⟩
theorem Bw(a:By)(k:UInt8)(n:Nat)(t:By):(ck a k n t).length=1+(enc n).length+(hQ t).length+5:=by
 rw[ck,sX];simp only[W1,Xu];rfl
theorem ID(a:By):(ck a 165 1 (bc l1)).length=16:=by rw[Bw];decide+kernel
theorem UX(a:By):(ck a 166 1 (dE [fA])).length=15:=by rw[Bw];decide+kernel
theorem Bv(a:By)(k:UInt8)(n:Nat)(t:By):(ck a k n t).getD ((ck a k n t).length-1) co=90:=by
 rw[ck,W1,Xu,Nat.add_sub_cancel,W2,Xl (W8 _),Zw];rfl
theorem WR(a:By)(ha:a.length=13):l0 pA ⟨[],a,0⟩ l1=(0,⟨[fA],a++ck a 165 1 (bc l1),1⟩,ck a 165 1 (bc l1)):=by
 have h:=ID a;unfold l0;rw[be (fun e=>e Jh),be (by show¬2147483647<=0;decide),be (by show¬4194304<a.length+(ck a 165 1 (bc l1)).length;omega)];dsimp only;rw[Fb]
theorem U0:mn pA (bF pA++ck (bF pA) 165 1 (bc l1))=⟨[fA],bF pA++ck (bF pA) 165 1 (bc l1),1⟩:=by
 have hl:=cU pA;unfold mn;generalize bF pA=a at hl ⊢;have j:=ID a;have hb:(bc l1).length<=4194304:=by decide+kernel
 have h1:=vf (p:=pA) (s:=⟨[],a,0⟩) (l:=l1) (by show 0+1<=_;decide) Jh hb [];rw[Fb,XM]at h1;dsimp only at h1;rw[show(a++ck a 165 1 (bc l1)).length+1=28+1+1 by rw[W1];omega,iC,ZW Z];rw[h1];dsimp only;rw[iC,Yy (W8 _),take_nil]
theorem UZ(a:By)(ha:13<=a.length):(eI ⟨[fA],a,1⟩).length=28:=by
 unfold eI;rw[W1,XA,UX];show min 13 a.length+15=28;omega
theorem yh{i sz n j:Nat}{es:List (List PV)}(h: ∀e∈es,aY i sz n e):(AO.row j es).vN i sz n:=h
theorem pz{α:Type}(i sz n j:Nat)(l:List α)(f:α->List IV):(aS j l f).vN i sz n:=yh fun e u=>by
 obtain⟨x,_,rfl⟩:=XH.1 u;exact s9 _ _ _ _
theorem On{i sz:Nat}{el:Nat->List IV}(l:By):(dd l).map (oh i sz el)=dd l:=by rw[Yb];exact Yj fun _ _=>rfl
theorem pK{i sz n:Nat}{cs:List PV}{T:Option TypeId}(h:aY i sz n cs):(AO.cells cs T).vN i sz n:=h
set_option maxHeartbeats 2000000 in
theorem ES(hS:fJ):Pure Tryz.prog 6 [] (pB jp):=by
 have hC:=zr hS pA IM (by decide) (by decide) BM;have hy:=WR (bF pA) (cU pA);have ho:=U0;have y:=ID (bF pA);have c0:=cU pA;have u:(ck (bF pA) 165 1 (bc l1)).getD 0 co=165:=rfl;have B:=Bv (bF pA) 165 1 (bc l1);rw[y]at B;have b0:(bF pA++ck (bF pA) 165 1 (bc l1)).take 13=bF pA:=ZF c0;have Y:=Qc hS pA IM (by decide) (by decide) (bF pA++ck (bF pA) 165 1 (bc l1)) (by decide) (by rw[W1,c0,y];decide) BM b0;rw[ho]at Y;generalize bF pA=a0 at*
 generalize ck a0 165 1 (bc l1)=rc at*
 have J:=ET pA 0 ⟨[],a0,0⟩ (m:=[]) l1 b4.nil (Go.Bo.ef.nil _ _) (fun x hx=>by rw[Xd.1 hx];show 1<=_;decide) (by dsimp only;omega) (by dsimp only;omega) (by decide) (by decide) (by show 0<=_;decide);rw[hy]at J;have G:(a0++rc).length=29:=by rw[W1];omega
 generalize eA:a0++rc=A at*
 have D:=UZ A (by omega);have I:=vt [fA] [fA] (by decide) (fun f h=>by rw[Xd.1 h];show 1<=_;decide);rw[decide_eq_true Z]at I;refine ah ab Tryz.func6 Z (by decide) Tryz.ntmps6 Z (by simp) Z ?_
 (refine gM 21 Z ?_;refine bZ (L:=[]) (t:=⟨[(1,.ptr 2 0),(2,.ptr 4 0)],[(0,io (aS 1 [(1:Int)] kv)),(1,io (.row 4 [[pS Nj,.sl 0 0 1 1,pI 0,pI 0]])),(2,io (.cells [.sl 1 0 1 4,rP])),(3,io (aS 3 [vA] cW.c)),(4,io (.cells [pS Nj,.sl 3 0 1 3]))],5⟩) ?_ ?_;refine wk Z Z Z ?_ ?_ ?_;exact(bi (bi ac));exact(hR Z Z Z ⟨⟨_,rfl,.of_eq Z⟩,WY Z,MM Z,⟨_,rfl,.of_eq Z⟩,WY Z,rfl,hR Z Z Z ⟨⟨_,rfl,.of_eq Z⟩,WY Z,rfl,ac⟩⟩);exact rfl)
 refine Jy 0 (fun k=>kv ([(1:Int)].getD k co)) Z (cG Z) (by simp[AF.kK,PV.aZ]) ⟨pz _ _ _ _ _ _,yh (by simp[PV.aZ,aY]),pK (by simp[PV.aZ,aY]),pz _ _ _ _ _ _,pK (by simp[PV.aZ,aY]),ac⟩ ?_;refine bZ (L:=[]) (t:=⟨[(1,.ptr 2 0),(2,.ptr 4 0)],[(1,io (aS 4 pA.aG Decl.c)),(2,io (.cells [.sl 1 0 1 4,rP])),(3,io (aS 3 [vA] cW.c)),(4,io (.cells [pS Nj,.sl 3 0 1 3]))],5⟩) (wk Z Z Z (bi (bi ac)) (Tl Z (show dG [[pS Nj,.iv (.bI 1 1 fun k=>kv ([(1:Int)].getD (0+k) co)),pI 0,pI 0]] [[pS Nj,.iv (aT 1 [(1:Int)] kv),pI 0,pI 0]] from⟨⟨.refl _,.bI Z fun k _=>by rw[Xo],.refl _,.refl _,ac⟩,ac⟩) Z ⟨⟨_,rfl,.of_eq Z⟩,WY Z,rfl,hR Z Z Z ⟨⟨_,rfl,.of_eq Z⟩,WY Z,rfl,ac⟩⟩) Z) ?_;refine iY 1 (fun k=>Decl.c (pA.aG.getD k co)) Z (cG Z) (by simp[AF.kK,PV.aZ]) ⟨de _ _ _ _ _ _,(by simp[AO.kK,aY,PV.aZ,pA]),de _ _ _ _ _ _,(by simp[AO.kK,aY,PV.aZ]),ac⟩ ?_;refine bZ (L:=[]) (t:=⟨[(1,.ptr 2 0),(2,.ptr 4 0)],[(2,io (ax pA.c)),(3,io (aS 3 [vA] cW.c)),(4,io (.cells [pS Nj,.sl 3 0 1 3]))],5⟩) (wk Z Z Z (bi (bi ac)) ⟨⟨_,rfl,.cells ⟨.bI Z (fun k _=>by rw[Xo]),.nil _ _,ac⟩⟩,WY Z,rfl,hR Z Z Z ⟨⟨_,rfl,.of_eq Z⟩,WY Z,rfl,ac⟩⟩ Z) ?_;refine iY 3 (fun k=>cW.c ([vA].getD k co)) Z (cG Z) (by simp[AF.kK,PV.aZ]) ⟨(by simp[AO.kK,aY,PV.aZ,ax,Prog.c]),de _ _ _ _ _ _,(by simp[AO.kK,aY,PV.aZ]),ac⟩ ?_;refine bZ (L:=[]) (t:=⟨[(1,.ptr 2 0),(2,.ptr 4 0)],[(2,io (ax pA.c)),(4,io (ax fA.c))],5⟩) (wk Z Z Z (bi (bi ac)) ⟨⟨_,rfl,.of_eq Z⟩,WY Z,rfl,⟨_,rfl,.cells ⟨.refl _,.bI Z (fun k _=>by rw[Xo];rfl),ac⟩⟩,WY Z,rfl,ac⟩ Z) ?_;refine gA Z (ai [] (hC) Z Z Z Z Z Z Z Z ?_);refine gA Z ?_;refine W0 (fun zz=>?_) (fun zz=>?_)<;>(try(exact absurd zz (by decide)))
 refine gA Z ?_;refine W0 (fun zz=>?_) (fun zz=>?_)<;>(try(exact absurd zz (by decide)))
 (refine gM 1 Z ?_;refine bZ (L:=[]) (t:=⟨[(1,.ptr 2 0),(2,.ptr 4 0),(3,.ptr 8 0)],[(2,io (ax pA.c)),(4,io (ax fA.c)),(5,io (bt [])),(6,io (b8 pA 0 5)),(7,io (hZ a0)),(8,io (jC 6 7 a0 0))],9⟩) ?_ ?_;refine wk Z Z Z ?_ ?_ ?_;exact(bi (bi (bi ac)));exact⟨⟨_,rfl,.of_eq Z⟩,WY Z,rfl,⟨_,rfl,.of_eq Z⟩,WY Z,rfl,hM Z Z Z ⟨⟨_,rfl,.of_eq Z⟩,WY Z,rfl,hR Z (aB _ _) Z ⟨⟨_,rfl,.of_eq Z⟩,WY Z,rfl,ac⟩⟩⟩;exact rfl)
 refine gA Z (SF (t:=⟨[(1,.ptr 2 0),(2,.ptr 4 0),(3,.ptr 8 0),(32,.ptr 8 0),(35,.iv (aT 3 l1 fN))],[(2,io (ax pA.c)),(4,io (ax fA.c)),(5,io (bt [])),(6,io (b8 pA 0 5)),(7,io (hZ a0)),(8,io (jC 6 7 a0 0))],10⟩) (((To.wk (L:=[]) (t:=⟨[(1,.ptr 2 0),(2,.ptr 4 0),(3,.ptr 8 0),(32,.ptr 8 0),(35,.sl 9 0 1 3)],[(2,io (ax pA.c)),(4,io (ax fA.c)),(5,io (bt [])),(6,io (b8 pA 0 5)),(7,io (hZ a0)),(8,io (jC 6 7 a0 0)),(9,io (aS 3 l1 fN))],10⟩) (wk Z Z Z (bi (bi (bi (bi (bi ac))))) ⟨⟨_,rfl,.of_eq Z⟩,WY Z,rfl,⟨_,rfl,.of_eq Z⟩,WY Z,rfl,hM Z Z Z ⟨⟨_,rfl,.of_eq Z⟩,WY Z,rfl,hR Z Z Z ⟨⟨_,rfl,.of_eq Z⟩,WY Z,rfl,(Tl Z (show dG [[PV.kb jp,.iv (iS Nj),.iv (aT 3 [vA] cW.c)]] [[pB jp,.iv (iS fA.rel),.iv (aT 3 fA.args cW.c)]] from⟨⟨.kb _,.refl _,.refl _,ac⟩,ac⟩) Z ac)⟩⟩⟩ Z)).trans
  (To.row (s:=⟨[(1,.ptr 2 0),(2,.ptr 4 0),(3,.ptr 8 0),(32,.ptr 8 0),(35,.sl 9 0 1 3)],[(2,io (ax pA.c)),(4,io (ax fA.c)),(5,io (bt [])),(6,io (b8 pA 0 5)),(7,io (hZ a0)),(8,io (jC 6 7 a0 0)),(9,io (aS 3 l1 fN))],10⟩) 9 (fun k=>fN (l1.getD k co)) Z (cG Z) (by simp[AF.kK,PV.aZ,l1]) ⟨pK (by simp[PV.aZ,aY,Prog.c]),pK (by simp[PV.aZ,aY,Fact.c]),ac,pK (by simp[PV.aZ,aY]),pz _ _ _ _ _ _,pK (by simp[PV.aZ,aY]),pz _ _ _ _ _ _,ac⟩)).trans
  (To.wk (L:=[]) (wk Z Z Z (bi (bi (bi (bi ⟨.bI Z (fun k _=>by rw[Xo]),rfl,ac⟩)))) ⟨⟨_,rfl,.of_eq Z⟩,WY Z,rfl,⟨_,rfl,.of_eq Z⟩,WY Z,rfl,hM Z Z Z ⟨⟨_,rfl,.of_eq Z⟩,WY Z,rfl,hR Z (On _) Z ⟨⟨_,rfl,.of_eq Z⟩,WY Z,rfl,ac⟩⟩⟩ Z))) ?_)
 refine gA Z (mF [5,6,7,8] J Z Z Z Z Z (by simp only[W7,Xj,aD];rfl) Z ?_);rintro r h' n' ⟨m1,n1,hn1,hk1,rfl,rfl,rfl⟩;refine⟨_,rfl,?_⟩
 (refine gM 6 Z ?_;refine bZ (L:=[]) (t:=⟨[(1,.ptr 2 0),(2,.ptr 4 0),(3,.ptr 8 0),(5,.iv (aT 1 rc aH)),(6,pI 0)],[(2,io (ax pA.c)),(4,io (ax fA.c)),(8,io (jC 11 12 A 1)),(10,io (bt m1)),(11,io (b8 pA n1 10)),(12,io (hZ A))],13⟩) ?_ ?_;refine wk Z Z Z ?_ ?_ ?_;exact(bi (bi (bi (bi (bi ac)))));exact⟨⟨_,rfl,.of_eq Z⟩,WY Z,rfl,⟨_,rfl,.of_eq Z⟩,WY Z,rfl,⟨_,rfl,.of_eq Z⟩,WY Z,rfl,hM Z Z Z ⟨⟨_,rfl,.of_eq Z⟩,WY Z,rfl,hR Z (aB _ _) Z ac⟩⟩;exact rfl)
 refine gA Z (bf ab [10,11,12,8] (ER pA n1 m1 A 1 (by omega) (by omega)) Z Z Z Z Z (by simp only[W7,Xj,Xp,Xq,aD,bb];rfl) Z Z Z Z Z Z (by(repeat' (first|exact ac|exact rfl|exact ae.refl _|exact ae.bk (by assumption)|apply W0))<;>first|omega|(simp only[W6];omega)|(simp;done)|(simp;omega)) Z (by(repeat' (first|exact ac|exact rfl|exact ae.refl _|exact ae.bk (by assumption)|apply W0))<;>first|omega|(simp only[W6];omega)|(simp;done)|(simp;omega)) ?_);refine gA Z (JB ab [] Y Z Z Z Z Z Z Z Z Z Z Z (by(repeat' (first|exact ac|exact rfl|exact ae.refl _|exact ae.bk (by assumption)|apply W0))<;>first|omega|(simp only[W6];omega)|(simp;done)|(simp;omega)) ?_);rintro r h' n' ⟨m2,n2,hn2,hk2,rfl,rfl,rfl⟩;refine⟨_,rfl,_,rfl,(by(repeat' (first|exact ac|exact rfl|exact ae.refl _|exact ae.bk (by assumption)|apply W0))<;>first|omega|(simp only[W6];omega)|(simp;done)|(simp;omega)),?_⟩
 (refine gM 8 Z ?_;refine bZ (L:=[]) (t:=⟨[(2,.ptr 4 0),(5,.iv (aT 1 rc aH)),(6,pI 0),(7,.ptr 16 0),(8,pI A.length),(9,pI 0)],[(4,io (ax fA.c)),(13,io (bt m2)),(14,io (b8 pA n2 13)),(15,io (hZ A)),(16,io (jC 14 15 A 1))],17⟩) ?_ ?_;refine wk Z Z Z ?_ ?_ ?_;exact(bi (bi (bi (bi (bi (bi ac))))));exact⟨⟨_,rfl,.of_eq Z⟩,WY Z,rfl,hM Z Z Z ⟨⟨_,rfl,.of_eq Z⟩,WY Z,rfl,hR Z (aB _ _) Z ⟨⟨_,rfl,.of_eq Z⟩,WY Z,rfl,ac⟩⟩⟩;exact rfl)
 refine gA Z ?_;refine W0 (fun zz=>?_) (fun zz=>?_)<;>(try(first|exact absurd zz (by decide)|(simp[y,G,u,B,D]at zz;done)))
 refine gA Z ?_;refine W0 (fun zz=>?_) (fun zz=>?_)<;>(try(first|exact absurd zz (by decide)|(simp[y,G,u,B,D]at zz;done)))
 refine gA Z ?_;refine W0 (fun zz=>?_) (fun zz=>?_)<;>(try(first|exact absurd zz (by decide)|(simp[y,G,u,B,D]at zz;done)))
 refine gA Z ?_;refine W0 (fun zz=>?_) (fun zz=>?_)<;>(try(first|exact absurd zz (by decide)|(simp[y,G,u,B,D]at zz;done)))
 refine gA Z ?_;refine W0 (fun zz=>?_) (fun zz=>?_)<;>(try(first|exact absurd zz (by decide)|(simp[y,G,u,B,D]at zz;done)))
 refine gM 1 Z (go_cut 1 (fun(_:Unit)=>⟨[(5,.iv (aT 1 rc aH)),(7,.ptr 16 0),(10,pB jp)],[(13,io (bt m2)),(14,io (b8 pA n2 13)),(15,io (hZ A)),(16,io (jC 14 15 A 1))],17⟩) Z ?_ ?_)
 .refine gA Z (SE ab Z Z Z (by(repeat' (first|exact ac|exact rfl|exact ae.refl _|exact ae.bk (by assumption)|apply W0))<;>first|omega|(simp only[W6];omega)|(simp;done)|(simp;omega)) Z Z (Ap [13,14,15,16] (uF pA n2 A 1 hk2 JP.zg (fun f h=>by rw[Xd.1 h];show 1<=_;decide) (by show 1<=_;decide)) Z Z Z Z (by simp only[W7,Xj,aD];rfl) Z Z) Z (by(repeat' (first|exact ac|exact rfl|exact ae.refl _|exact ae.bk (by assumption)|apply W0))<;>first|omega|(simp only[W6];omega)|(simp;done)|(simp;omega)) Z Z (DH ab Z Z) Z (by(repeat' (first|exact ac|exact rfl|exact ae.refl _|exact ae.bk (by assumption)|apply W0))<;>first|omega|(simp only[W6];omega)|(simp;done)|(simp;omega)) ?_ ?_)
  .refine gA Z (r9 ab (asv:=[.iv (aT 2 [fA] Fact.c),.sl 17 0 1 2]) (Pure.nS I) Z Z Z Z Z (lJ (i:=17) (sz:=2) (fun k=>Fact.c ([fA].getD k co)) Z (cG Z) (by simp[aY,PV.aZ]) ⟨.refl _,.bI Z (fun k _=>by rw[Xo]),ac⟩) Z (fun j o hj=>nomatch hj) Z Z Z Z Z (by(repeat' (first|exact ac|exact rfl|exact ae.refl _|exact ae.bk (by assumption)|apply W0))<;>first|omega|(simp only[W6];omega)|(simp;done)|(simp;omega)) Z (by(repeat' (first|exact ac|exact rfl|exact ae.refl _|exact ae.bk (by assumption)|apply W0))<;>first|omega|(simp only[W6];omega)|(simp;done)|(simp;omega)) ?_);refine gA Z (lZ () [] ?_);exact wk Z Z Z (bi (bi (bi ac))) (hM Z Z Z ⟨⟨_,rfl,.of_eq Z⟩,WY Z,rfl,hR Z (aB _ _) Z ⟨⟨_,rfl,.of_eq Z⟩,WY Z,rfl,ac⟩⟩) Z
  .refine gA Z (bf ab [13,14,15,16] (uF pA n2 A 1 hk2 JP.zg (fun f h=>by rw[Xd.1 h];show 1<=_;decide) (by show 1<=_;decide)) Z Z Z Z Z (by simp only[W7,Xj,Xp,Xq,aD,bb];rfl) Z Z Z Z Z Z (by(repeat' (first|exact ac|exact rfl|exact ae.refl _|exact ae.bk (by assumption)|apply W0))<;>first|omega|(simp only[W6];omega)|(simp;done)|(simp;omega)) Z (by(repeat' (first|exact ac|exact rfl|exact ae.refl _|exact ae.bk (by assumption)|apply W0))<;>first|omega|(simp only[W6];omega)|(simp;done)|(simp;omega)) ?_);refine gA Z (r9 ab (asv:=[.iv (aT 2 [fA] Fact.c),.sl 17 0 1 2]) (Pure.nS I) Z Z Z Z Z (lJ (i:=17) (sz:=2) (fun k=>Fact.c ([fA].getD k co)) Z (cG Z) (by simp[aY,PV.aZ]) ⟨.refl _,.bI Z (fun k _=>by rw[Xo]),ac⟩) Z (fun j o hj=>nomatch hj) Z Z Z Z Z (by(repeat' (first|exact ac|exact rfl|exact ae.refl _|exact ae.bk (by assumption)|apply W0))<;>first|omega|(simp only[W6];omega)|(simp;done)|(simp;omega)) Z (by(repeat' (first|exact ac|exact rfl|exact ae.refl _|exact ae.bk (by assumption)|apply W0))<;>first|omega|(simp only[W6];omega)|(simp;done)|(simp;omega)) ?_);refine gA Z (lZ () [] ?_);exact wk Z Z Z (bi (bi (bi ac))) (hM Z Z Z ⟨⟨_,rfl,.of_eq Z⟩,WY Z,rfl,hR Z (aB _ _) Z ⟨⟨_,rfl,.of_eq Z⟩,WY Z,rfl,ac⟩⟩) Z
 intro _;have hP:=Qb pA n2 ⟨[fA],A,1⟩ hk2 JP (by show A.length<=_;omega) (by show 13<=A.length;omega) (by show 1<=_;decide);rw[show jI ⟨[fA],A,1⟩=(0,⟨[fA],eI ⟨[fA],A,1⟩,1⟩,eI ⟨[fA],A,1⟩) from am (by rw[D];decide)]at hP;generalize eI ⟨[fA],A,1⟩=P at hP D;refine gA Z (ai [13,14,15,16] (hP) Z Z Z Z Z (by simp only[W7,Xj,Xp,Xq,aD,bb];rfl) Z Z ?_)
 (refine gM 6 Z ?_;refine bZ (L:=[]) (t:=⟨[(5,.iv (aT 1 rc aH)),(7,.ptr 16 0),(10,pB jp),(11,.iv (aT 1 P aH)),(12,pI 0)],[(13,io (bt m2)),(14,io (b8 pA n2 13)),(16,io (jC 14 17 P 1)),(17,io (hZ P))],18⟩) ?_ ?_;refine wk Z Z Z ?_ ?_ ?_;exact(bi (bi (bi (bi (bi ac)))));exact(hM Z Z Z ⟨⟨_,rfl,.of_eq Z⟩,WY Z,rfl,⟨_,rfl,.of_eq Z⟩,WY Z,rfl,hR Z (aB _ _) Z ac⟩);exact rfl)
 refine gA Z ?_;refine W0 (fun zz=>?_) (fun zz=>?_)<;>(try(first|exact absurd zz (by decide)|(simp[y,G,u,B,D]at zz;done)))
 refine gA Z ?_;refine W0 (fun zz=>?_) (fun zz=>?_)<;>(try(first|exact absurd zz (by decide)|(simp[y,G,u,B,D]at zz;done)))
 refine gA Z ?_;refine W0 (fun zz=>?_) (fun zz=>?_)<;>(try(first|exact absurd zz (by decide)|(simp[y,G,u,B,D]at zz;done)))
 refine gA Z (ai [13,14,17,16] (vw pA n2 m2 P 1) Z Z Z Z Z (by simp only[W7,Xj,Xp,Xq,aD,bb];rfl) Z Z ?_);refine gA Z ?_;refine W0 (fun zz=>?_) (fun zz=>?_)<;>(try(exact absurd zz (by decide)))
 refine gA Z ?_;refine W0 (fun zz=>?_) (fun zz=>?_)<;>(try(rw[show rc.getD (Zt 0) co=165 from u]at zz;exact absurd zz (by decide)))
 refine gA Z (aM (by first|exact .inr Z|exact .inl Z) Z (.of_eq ?_));show pB (lc (((rc.getD 15 co).toNat:Int)=90))=_;rw[show rc.getD 15 co=90 from B];rfl
theorem Da{b:By}{m:Nat}{s:RS}:(dN b m s).1.length<=m:=by
 unfold dN;split
 .split
  .split
   .split
    .rw[XA];omega
    .exact Xc _
   .exact Xc _
  .exact Xc _
  .exact Xc _
 .exact Xc _
theorem FQ{p:Prog}{b:By}: ∀(l:List Fact) {s:RS} {r:By} (A:List Fact),rq aU (A++l)->(∀f∈l,okF p f=jp)->At b s (l.flatMap fg++r)->oi p b l.length s A=(jp,A++l,⟨s.p+(l.flatMap fg).length,0⟩)
 | [],s,r,A,_,_,h=>by
  have:=h.f;cases s
  simp_all [oi]
 |f::l,s,r,A,hs,hl,h=>by
  rw[X5,Xf]at h;have hR:=Qo (hl f (by simp)) h;have j: ¬wZ p b s A:=by
   rintro(e|⟨e1,e2⟩)
   .rw[hR.ok]at e;cases e
   .rw[hR.fact]at e2;have h1:=(YU.1 hs).2.2 (A.getD (A.length-1) co) (by rw[W2,W5 (by omega)];exact XS _) f (by simp);omega
  rw[Xy,oi,be j,hR.next,hR.fact];rw[FQ l (A++ [f]) (by rw[Xf];exact hs) (fun x u=>hl x (by simp[u])) h.go];simp[Yf]
theorem Ow{p:Prog}{S:List Fact}(hS:Go.Bo.ef aU (okF p) S):p4 p (dE S) ⟨0,0⟩=(jp,S,⟨(dE S).length,0⟩):=by
 have j:=At.start (dE S);have h1:At (dE S) ⟨0,0⟩ (enc S.length++(S.flatMap fg++ [])):=by rw[XM];exact j
 have hu:=pe (most:=65536) h1 hS.JR (by have:=hS.JR;omega);have u:=FQ (p:=p) S [] hS.zg hS.ok h1.go;unfold p4;rw[hu,u];rw[dE,W1];simp
theorem F4{p:Prog}{a:By}{S:List Fact}{k:Nat}{j:List Fact}{k0:Nat}(ha:a.length=13)(hk:k<=2147483647)(hS:Go.Bo.ef aU (okF p) S)(hb:(dE S).length<=4194304)(r:By):
  jA p ⟨j,a,k0⟩ (ck a 166 k (dE S)++r)=io ⟨S,a++ck a 166 k (dE S),k⟩:=by
 obtain⟨h1,u,x,y⟩:=zw (a:=a) (r:=r) (k:=166) hk hb;unfold jA;rw[h1,u,x,y];unfold oz;rw[ZF Z,am ⟨rfl,rfl⟩,be fun h=>absurd h.1 (by decide),am ⟨rfl,ha⟩,Ow hS,am ⟨rfl,FA Z⟩]
abbrev Si(p:Prog)(b:By)(s:JS):JS:=iC p b (b.length+1) s
theorem BR{p:Prog}{b:By}{s u:JS}(hs:kg p s)(hl:s.a.length<=b.length)(h:jA p s (b.drop s.a.length)=io u):Si p b s=Si p b u:=by
 obtain⟨j,y,x⟩:=vg h hs;rw[X7]at x;show iC p b (b.length+1) s=iC p b (b.length+1) u;rw[iC,h];exact(qR b.length (b.length+1) j (by omega) (by omega) (by omega)).symm
theorem IQ{p:Prog}{b:By}{s:JS}(h:jA p s (b.drop s.a.length)=is):Si p b s=s:=by
 show iC p b (b.length+1) s=s;rw[iC,h]
theorem JX(t:By):t.length<=(hQ t).length:=by rw[hQ,W1];omega
theorem V9(a:By)(k:UInt8)(n:Nat)(t:By):(ck a k n t).length=1+(enc n).length+(hQ t).length+5:=by
 rw[ck,sX];simp only[W1,Xu];rfl
theorem Au{a:By}{k:UInt8}{n:Nat}{t:By}{m:Nat}(h:(ck a k n t).length<=m):t.length<=m:=by
 have h1:=V9 a k n t;have j:=JX t;omega
theorem GI{p:Prog}{S:List Fact}{k:Nat}(hS:Go.Bo.ef aU (okF p) S)(hk:k<=2147483647)(hl:(bF p++ck (bF p) 166 k (dE S)).length<=4194304)(r:By):
  mn p (bF p++ck (bF p) 166 k (dE S)++r)=Si p (bF p++ck (bF p) 166 k (dE S)++r) ⟨S,bF p++ck (bF p) 166 k (dE S),k⟩:=by
 have hf:=nK p;have j:=cU p;unfold mn;generalize bF p=a at*
 rw[W1]at hl;refine BR hf (by simp only[W1];omega) ?_;dsimp only;rw[Xf,ZW Z];exact F4 j hk hS (Au (a:=a) (k:=166) (n:=k) (m:=4194304) (by omega)) r
theorem BL{p:Prog}{s:JS}(hs:kg p s)(j:s.a.take 13=bF p)(hl:s.a.length<=4194304):kg p (jI s).2.1∧(jI s).2.1.a.take 13=bF p∧(jI s).2.1.a.length<=4194304∧(jI s).2.1.S=s.S∧(jI s).2.1.k=s.k:=by
 unfold jI;split
 .rename_i h;have u:(eI s).take 13=bF p:=by
   unfold eI;rw[j];exact ZF (cU p)
  refine⟨⟨hs.fG,?_,hs.num,fun e=>?_⟩,u,h,rfl,rfl⟩
  .have:=congrArg Ze u;rw[XA,cU]at this;show 13<=(eI s).length;omega
  .have h1:=mg (s.a.take 13) 166 s.k (dE s.S);have e:(eI s).length=13:=e;unfold eI at e;rw[W1,j,cU]at e;rw[j]at h1;omega
 .exact⟨hs,j,hl,rfl,rfl⟩
theorem OD{p:Prog}{s:JS}(l:List (b3 Fact))(hs:kg p s)(hl:s.a.length<=4194304):kg p (l0 p s l).2.1∧(l0 p s l).2.1.a.take 13=s.a.take 13∧(l0 p s l).2.1.a.length<=4194304:=by
 unfold l0;split
 .exact⟨hs,rfl,hl⟩
 .rename_i j;split
  .exact⟨hs,rfl,hl⟩
  .rename_i h1;split
   .exact⟨hs,rfl,hl⟩
   .rename_i x;have u:=hs.len;have y:=mg s.a 165 (s.k+1) (bc l);refine⟨⟨hs.fG.next pg (by simpa using j),?_,?_,fun e=>?_⟩,?_,?_⟩
    .show 13<=(s.a++_).length;rw[W1];omega
    .show s.k+1<=_;omega
    .have e:(s.a++ck s.a 165 (s.k+1) (bc l)).length=13:=e;rw[W1]at e;omega
    .exact Y3 u
    .show(s.a++_).length<=_;rw[W1];omega
section
abbrev NB(p:Prog)(n:Nat)(m:FM)(s:JS)(i:Nat):AH:=[(i,io (bt m)),(i+1,io (b8 p n i)),(i+2,io (hZ s.a)),(i+3,io (jC (i+1) (i+2) s.a s.k))]
abbrev apK(p:Prog)(n:Nat)(m:FM)(s:JS)(J i:Nat):AH:=[(J,io (jC (i+1) (i+2) s.a s.k)),(i,io (bt m)),(i+1,io (b8 p n i)),(i+2,io (hZ s.a))]
structure JI (p:Prog) (s:JS) (m:FM) (n i:Nat):Prop where
 fG:kg p s
 keeps:b4 cE m s.S
 len:s.a.length<=4194304
 num:n<=100000000+i
 head:s.a.take 13=bF p
theorem JI.new(p:Prog)(i:Nat):JI p ⟨[],bF p,0⟩ [] 0 i:=⟨nK p,b4.nil,by show(bF p).length<=_;rw[cU];decide,Xc _,by show(bF p).take 13=_;rw[Xh (by rw[cU];decide)]⟩
section
variable {p:Prog} {s:JS} {m:FM} {n i:Nat} (h:JI p s m n i) (hi:i<=10000000000) (hr:p.aG.length<=1000000000)
include h hi hr
theorem JI.append(l:List (b3 Fact))(hF: ∀x∈l,x.2.args.length<=1000000000):Al.Fn Tryz.prog 11 [.ptr 3 0,.iv (aT 3 l fN)] (jO p n m s.a s.k) fun r h k=> ∃j u,JI p (l0 p s l).2.1 j u (i+1)∧r= .a7 [.iv (aT 1 (l0 p s l).2.2 aH),pI (l0 p s l).1]∧h=S4 p u j (l0 p s l).2.1∧k=7:=by
 have h1:=h.fG.len;have G:=h.fG.num;have I:=h.num;have J:=h.len;obtain⟨y,A,B⟩:=OD l h.fG h.len;refine(ET p n s l h.keeps h.fG.fG hF (by omega) (by omega) hr (by omega) (by omega)).mono ?_;rintro r D k ⟨j,u,e1,e2,e3,e4,e5⟩;exact⟨j,u,⟨y,e2,B,by omega,by rw[A];exact h.head⟩,e3,e4,e5⟩
omit hi hr
theorem JI.pack:bh Tryz.prog 10 [.ptr 3 0] (jO p n m s.a s.k) (.a7 [.iv (aT 1 (jI s).2.2 aH),pI (jI s).1]) (pkH p n m (jI s).2.1) 5∧JI p (jI s).2.1 m n i:=by
 have h1:=h.fG.len;have A:=h.fG.num;have B:=h.len;obtain⟨j,u,x,y,D⟩:=BL h.fG h.head h.len;exact⟨Qb p n s h.keeps h.fG.fG (by omega) h1 (by omega),j,by rw[y];exact h.keeps,x,h.num,u⟩
theorem JI.bytes:bh Tryz.prog 9 [.ptr 3 0] (jO p n m s.a s.k) (.iv (aT 1 s.a aH)) (jH p n m s.a s.k) 4:=by
 have h1:=h.fG.len;have j:=h.len;exact ER p n m s.a s.k (by omega) (by omega)
theorem JI.facts:bh Tryz.prog 8 [.ptr 3 0] (jO p n m s.a s.k) (.iv (aT 2 s.S Fact.c)) (jH p n m s.a s.k) 4:=
 uF p n s.a s.k h.keeps h.fG.fG.zg (wy h.fG.fG) (by have:=h.fG.fG.JR;omega)
end
theorem IL{s:JS}(h:(eI s).length<=4194304):jI s=(0,⟨s.S,eI s,s.k⟩,eI s):=am h
structure PkS where
 j:JS
 k:JS
 fj:FM
 fk:FM
 nj:Nat
 nk:Nat
structure PkJ (p:Prog) (i:Nat) (x:PkS):Prop where
 j:JI p x.j x.fj x.nj i
 k:JI p x.k x.fk x.nk i
 S:x.j.S=x.k.S
 n:x.j.k=x.k.k
end
end Go.Proofs.YtlmhfgbkchnfbaaGreatDoor
namespace Go.Proofs.YtlmhfgbkchnfbaaGreatDoor
open Go Go.Al Go.Proofs.Tryz Go.Bo Go.ChangeShapes Go.WideShapes Go.RowKit
section
theorem Of:prog.cellsOf 28=3:=by kernel_rfl
theorem Ud{H:Type}{p:Prog}{d:DataW H}(h:VN p d)(hb:bk d<=1048576):p.ts<=800000000:=by
 have:=h.1.2;omega
abbrev Qk(x:Int×Int×Int):List IV:=[.v (.int .i64 x.1),.v (.int .i64 x.2.1),.v (.int .i64 x.2.2)]
section
variable {H:Type} {enc:TypeId×Value->H} {W:World} {hT:lN W} {sp:Nat->Bool} {held:Bool}
theorem MV(n:Nat):Rd enc prog W hT sp held 28 Qk (fun _ _=>True) n:=by
 intro m _ D y h;obtain⟨B,k,rfl,rfl,hl,A,hf⟩:=DataW.trod_struct underlying28 h
 match B,A with
 | [x0,x1,x2],_=>
  obtain⟨a,j,G,_⟩:=iR (hT:=hT) underlying3 k k (W8 _) _ _ (mI hf 0 Z Z Z jd Z);obtain⟨b,u,I,_⟩:=iR (hT:=hT) underlying3 k k (W8 _) _ _ (mI hf 1 Z Z Z jd Z);obtain⟨c,x,J,_⟩:=iR (hT:=hT) underlying3 k k (W8 _) _ _ (mI hf 2 Z Z Z jd Z);exact⟨⟨a,b,c⟩,j.eO (o':=1) Z (u.eO (o':=2) Z (x.eO (o':=3) Z (.end_ (hl.trans Of)))),ac⟩
end
theorem Ky{H:Type}{enc:TypeId×Value->H}{W:World}(hT:lN W){v:Value}{d:DataW H}{p:List MemPlace}(j: ∃base,Value.okWide prog W .any base 28 v)(h:DataW.Trod enc prog W 0 (fun _=>jp) jp 28 v d p):
  ∃x:Int×Int×Int,True∧VR (Mem.qS W hT) Tg (· <0) (ag (Qk x)) v:=by
 obtain⟨base,j⟩:=j;obtain⟨A,rfl,_⟩:=okWide_struct underlying28 j;obtain⟨n,y⟩:=h;obtain⟨r,h1,u⟩:=MV (hT:=hT) n n (W8 _) _ _ y;exact⟨r,u,h1.agg⟩
end
end Go.Proofs.YtlmhfgbkchnfbaaGreatDoor
namespace Go.Proofs.YtlmhfgbkchnfbaaGreatDoor
open Go Go.Al Go.Proofs.Tryz Go.ChangeShapes Go.WideShapes Go.RowKit
theorem jm:prog.closure 3=[3,6,7,17,30,37,65,66,98,97,127,173,214,174,121,168,207,242,259,208,114,128,175,123,120,92,122,169,209,170,171,210,153,243,260,267,268,269,270,147,273,274,271,272,275,276,277,278,261,94,125,176,172,211,244,212,245,246,263,262,264,213,124,177,192,215,247,178,216,221,179,181,182,180,217,183,184,185,186,218,248,219,135,194,220,187,222,249,223,225,250,224,226,188,189,227,251,252,130,193,228,253,190,96,67,99,100,129,108,146,191,229,235,257,230,254,231,196,197,232,255,256,265,233,234,236,237,101,68,102,131,132,133,103,134,104,136,62,69,70,95,105,126,137,61,91,93,34,31,32,63,33,35,64,36,18,38,71,106,11,23,44,76,24,25,45,77,115,112,151,202,152,78,80,79,46,81,47,82,116,154,155,203,156,157,204,205,240,158,159,160,161,83,73,110,148,200,111,149,150,201,239,109,26,41,74,43,42,75,113,21,9,20,14,27,48,28,49,50,84,85,87,51,86,52,53,54,55,56,57,88,117,162,89,58,59,90,118,163,164,206,138,241,258,266,167,166,165,119,8,19,39,40,72,107,139,195,140,141,198,199,238,142,143,144,145,15,29,60,10,22,12,13]:=by kernel_rfl
theorem sA:joinedFacts prog 3 f3 (Rows.OpenSpec.upto Rows.journalCutsSpec).bare Rows.journalCutsUptoRow=jp:=by
 have h1:prog.inPlace 3=Rows.journalCutsUptoRow.inPlace:=by unfold Program.inPlace;rw[jm];kernel_rfl
 have j:prog.unfollowed 3=jp:=by unfold Program.unfollowed;rw[jm];kernel_rfl
 have u:prog.varsNamed 3=Rows.journalCutsUptoRow.named:=by unfold Program.varsNamed;rw[jm];kernel_rfl
 have x:prog.recurses 3=jp:=by unfold Program.recurses;rw[j];rfl
 unfold joinedFacts;rw[h1,j,u,x];show(_:Bool)=jp
 kernel_rfl
end Go.Proofs.YtlmhfgbkchnfbaaGreatDoor
namespace Go.Proofs.YtlmhfgbkchnfbaaGreatDoor
open Go Go.Al Go.En Go.Bo
section
instance:Inhabited JS:=⟨⟨[],[],0⟩⟩
theorem HU{p:Prog}{s:JS}{x:By}(hx:x=[]∨ ∃l c,x=(ck s.a 165 (s.k+1) (bc l)).take c∧c<(ck s.a 165 (s.k+1) (bc l)).length∧s.k+1<=2147483647∧(bc l).length<=4194304)(z:Nat):jA p s (x++X3 z 0)=is:=by
  have hu:(F2 (x++X3 z 0)).1<=2147483647:=fV;have ht:(Hu (x++X3 z 0)).1.length<=4194304:=Da;unfold jA oz;rw[be];rintro⟨_,h⟩;generalize(P6 (x++X3 z 0)).1=k at*
  generalize(F2 (x++X3 z 0)).1=u at*
  generalize(Hu (x++X3 z 0)).1=t at*
  generalize(KQ (x++X3 z 0)).p=w at*
  have J:=mg s.a k u t;have hl:=Bv s.a k u t;obtain⟨q,G⟩: ∃q,q=ck s.a k u t:=⟨_,rfl⟩
  rw[<-G]at h J hl;have A:=congrArg Ze h;rw[XA,W1,List.length_replicate]at A;have y:q.length<=x.length:=by
    refine YA fun Y=>?_
    have e:q.getD (q.length-1) co=0:=by
      rw[<-h,W2,XK,am (by rw[h];omega),Xl (by rw[h];omega),List.getElem?_replicate,am (by rw[h];omega)];rfl
    rw[e]at hl;exact absurd hl (by decide)
  have j:q=x.take q.length:=by
    have:=congrArg (List.take q.length) h;rw[List.take_take,Xh (W8 q.length),Y3 (by omega),Y9 (by omega)]at this;exact this.symm
  rcases hx with rfl|⟨l,c,rfl,hc,hk,hb⟩
  · rw[Yg]at y;omega
  · obtain⟨R,hR⟩: ∃R,R=ck s.a 165 (s.k+1) (bc l):=⟨_,rfl⟩
    have I:=(zw (a:=s.a) (r:=[]) (k:=165) hk hb).2.2.2;rw[XM,<-hR]at I;have B:=(zw (a:=s.a) (r:=R.drop q.length) (k:=k) hu ht).2.2.2;rw[<-hR]at hc y j;rw[XA]at y;rw[List.take_take,Y9 (by omega)]at j
    rw[<-G,show q++R.drop q.length=R by
      have D:=List.take_append_drop q.length R
      rw[<-j]at D;exact D,I]at B
    have:=congrArg RS.p B;dsimp only at this;omega
structure Ch (p:Prog) (C:List JS):Prop where
  ne:0<C.length
  fG: ∀i,i<C.length->kg p (C.getD i co)
  len: ∀i,i<C.length->(C.getD i co).a.length<=4194304
  step: ∀i,i+1<C.length-> ∃l,ir aU (okF p) (C.getD i co).S l=0∧(C.getD i co).k+1<=2147483647∧
    C.getD (i+1) co=⟨ff aU (C.getD i co).S l,(C.getD i co).a++ck (C.getD i co).a 165 ((C.getD i co).k+1) (bc l),(C.getD i co).k+1⟩
  base: ∀r,mn p ((C.getD 0 co).a++r)=Si p ((C.getD 0 co).a++r) (C.getD 0 co)
  head:(C.getD 0 co).a.take 13=bF p
theorem Ch.one{p:Prog}{s:JS}(h:kg p s)(hl:s.a.length<=4194304)(hb: ∀r,mn p (s.a++r)=Si p (s.a++r) s)(j:s.a.take 13=bF p):Ch p [s]:=
  ⟨by simp, fun i hi => by obtain rfl:i=0:=by(simp at hi;omega)
                           exact h, fun i hi => by obtain rfl:i=0:=by(simp at hi;omega)
                                                   exact hl,fun i hi=>by simp at hi,hb,j⟩
theorem Ch.new(p:Prog):Ch p [⟨[],bF p,0⟩]:=by
  refine Ch.one (nK p) ?_ (fun r=>rfl) ?_
  · show(bF p).length<=_;rw[cU];decide
  · show(bF p).take 13=_;exact Xh (by rw[cU];decide)
theorem Ch.packed{p:Prog}{s:JS}(h:kg p s)(j:s.a.take 13=bF p)(x:(eI s).length<=4194304):Ch p [⟨s.S,eI s,s.k⟩]:=by
  have u:eI s=bF p++ck (bF p) 166 s.k (dE s.S):=by unfold eI;rw[j]
  have h1:=BL h j;have y:kg p ⟨s.S,eI s,s.k⟩:=by
    refine⟨h.fG,?_,h.num,fun e=>?_⟩
    · show 13<=(eI s).length
      rw[u,W1,cU];omega
    · have A:=mg (bF p) 166 s.k (dE s.S)
      have e:(eI s).length=13:=e;rw[u,W1,cU]at e;omega
  refine Ch.one y x (fun r=>?_) ?_
  · show mn p (eI s++r)=_
    rw[u]at x ⊢;exact GI h.fG h.num x r
  · show(eI s).take 13=_
    rw[u];exact ZF (cU p)
theorem jq{α:Type}[Inhabited α](C:List α)(u:α)(i:Nat):(C++ [u]).getD i co=if i<C.length then C.getD i co else if i=C.length then u else co:=by
  simp only[W2];by_cases h:i<C.length
  · rw[am h,Xn h]
  · rw[be h,Xl (by omega)]
    by_cases e:i=C.length
    · rw[am e,e,Zw];rfl
    · rw[be e,List.getElem?_eq_none (by simp;omega)];rfl
theorem Ch.snoc{p:Prog}{C:List JS}(h:Ch p C){u:JS}{l:List (b3 Fact)}(hu:kg p u)(hl:u.a.length<=4194304)(h0:ir aU (okF p) (C.getD (C.length-1) co).S l=0)(hk:(C.getD (C.length-1) co).k+1<=2147483647)
    (he:u=⟨ff aU (C.getD (C.length-1) co).S l,(C.getD (C.length-1) co).a++ck (C.getD (C.length-1) co).a 165 ((C.getD (C.length-1) co).k+1) (bc l),(C.getD (C.length-1) co).k+1⟩):Ch p (C++ [u]):=by
  have j:=h.ne;refine⟨by simp,fun i hi=>?_,fun i hi=>?_,fun i hi=>?_,?_,?_⟩
  · rw[jq]
    split
    · rename_i h1;exact h.fG i h1
    · rw[am (by simp at hi;omega)];exact hu
  · rw[jq]
    split
    · rename_i h1;exact h.len i h1
    · rw[am (by simp at hi;omega)];exact hl
  · rw[W1,Xu]at hi
    rw[jq,jq,am (by omega)];by_cases e:i+1<C.length
    · rw[am e];exact h.step i e
    · rw[be e,am (by omega)]
      obtain rfl:i=C.length-1:=by omega
      exact⟨l,h0,hk,he⟩
  · rw[jq,am j];exact h.base
  · rw[jq,am j];exact h.head
section
variable {p:Prog} {C:List JS} (h:Ch p C)
include h
theorem Ch.pre: ∀(d i:Nat),i+d<C.length-> ∃r,(C.getD (i+d) co).a=(C.getD i co).a++r∧6*d<=r.length∧(C.getD (i+d) co).k=(C.getD i co).k+d
  |0,i,_=>⟨[],by simp,by simp,rfl⟩
  | d+1,i,hi=>by
    obtain⟨r,h1,x,j⟩:=Ch.pre d i (by omega);obtain⟨l,_,_,u⟩:=h.step (i+d) (by omega);have y:=mg (C.getD (i+d) co).a 165 ((C.getD (i+d) co).k+1) (bc l);rw[show i+(d+1)=i+d+1 by omega,u];generalize ck (C.getD (i+d) co).a 165 ((C.getD (i+d) co).k+1) (bc l)=q at*
    refine⟨r++q,?_,?_,?_⟩
    · show(C.getD (i+d) co).a++q=_
      rw[h1,Xf]
    · rw[W1];omega
    · show(C.getD (i+d) co).k+1=_
      rw[j];omega
theorem Ch.lt{i j:Nat}(u:i<j)(hj:j<C.length):(C.getD i co).a.length<(C.getD j co).a.length:=by
  obtain⟨r,h1,x,_⟩:=h.pre (j-i) i (by omega);rw[show i+(j-i)=j by omega]at h1;rw[h1,W1];omega
theorem Ch.last(n:Nat)(hn:(C.getD 0 co).a.length<=n): ∃t,t<C.length∧(C.getD t co).a.length<=n∧(t+1=C.length∨n<(C.getD (t+1) co).a.length):=by
  have key: ∀d t,t+d+1=C.length->(C.getD t co).a.length<=n-> ∃t,t<C.length∧(C.getD t co).a.length<=n∧(t+1=C.length∨n<(C.getD (t+1) co).a.length):=by
    intro d
    induction d with
    |zero=>exact fun t h1 j=>⟨t,by omega,j,.inl (by omega)⟩
    | succ d ih=>
      intro t h1 j;by_cases e:n<(C.getD (t+1) co).a.length
      · exact⟨t,by omega,j,.inr e⟩
      · exact ih (t+1) (by omega) (by omega)
  exact key (C.length-1) 0 (by have:=h.ne;omega) hn
theorem Ch.opens{n z t:Nat}(ht:t<C.length)(G:(C.getD t co).a.length<=n)(x:n<=(C.getD (C.length-1) co).a.length)(D:t+1=C.length∨n<(C.getD (t+1) co).a.length):
    mn p ((C.getD (C.length-1) co).a.take n++X3 z 0)=C.getD t co:=by
  obtain⟨L,A⟩: ∃L,L=(C.getD (C.length-1) co).a:=⟨_,rfl⟩
  rw[<-A]at x ⊢;obtain⟨b,hb⟩: ∃b,b=L.take n++X3 z 0:=⟨_,rfl⟩
  rw[<-hb];have j: ∀i,i<=t-> ∃r,b=(C.getD i co).a++r:=fun i hi=>by
    obtain⟨r,h1,_,_⟩:=h.pre (C.length-1-i) i (by omega);rw[show i+(C.length-1-i)=C.length-1 by omega,<-A]at h1;have a0:(C.getD i co).a.length<=n:=by
      rcases XZ i t with e|e
      · have:=h.lt e ht;omega
      · obtain rfl:i=t:=by omega
        exact G
    refine⟨r.take (n-(C.getD i co).a.length)++X3 z 0,?_⟩;rw[hb,h1,aaC,Xh a0,Xf]
  have B: ∀i,i<=t->(C.getD i co).a.length<=b.length:=fun i hi=>by
    obtain⟨r,e⟩:=j i hi;rw[e,W1];omega
  have Y: ∀i,i<=t->mn p b=Si p b (C.getD i co):=by
    intro i
    induction i with
    | zero=>
      intro _;obtain⟨r,e⟩:=j 0 (Xc _);rw[e];exact h.base r
    | succ i ih=>
      intro hi;rw[ih (by omega)];obtain⟨l,h0,hk,hs⟩:=h.step i (by omega);obtain⟨r,e⟩:=j (i+1) hi;have I:(bc l).length<=4194304:=by
        have h1:=h.len (i+1) (by omega);rw[hs]at h1;have h1:((C.getD i co).a++ck (C.getD i co).a 165 ((C.getD i co).k+1) (bc l)).length<=4194304:=h1;rw[W1]at h1;exact Au (a:=(C.getD i co).a) (k:=165) (n:=(C.getD i co).k+1) (by omega)
      refine BR (h.fG i (by omega)) (B i (by omega)) ?_;have J:b.drop (C.getD i co).a.length=ck (C.getD i co).a 165 ((C.getD i co).k+1) (bc l)++r:=by
        rw[e,hs];show((C.getD i co).a++ck (C.getD i co).a 165 ((C.getD i co).k+1) (bc l)++r).drop _=_;rw[Xf,ZW Z]
      rw[J,vf hk h0 I,hs]
  rw[Y t (W8 _)];refine IQ ?_;obtain⟨r,h1,_,_⟩:=h.pre (C.length-1-t) t (by omega);rw[show t+(C.length-1-t)=C.length-1 by omega,<-A]at h1;have J:b.drop (C.getD t co).a.length=r.take (n-(C.getD t co).a.length)++X3 z 0:=by
    rw[hb,h1,aaC,Xh G,Xf,ZW Z]
  rw[J];refine HU ?_ z;rcases D with e|e
  · left
    rw[A,show C.length-1=t by omega]at x;rw[show n-(C.getD t co).a.length=0 by omega,Zm]
  · by_cases e1:t+1<C.length
    rotate_left
    · left
      rw[A,show C.length-1=t by omega]at x;rw[show n-(C.getD t co).a.length=0 by omega,Zm]
    right;obtain⟨l,h0,hk,hs⟩:=h.step t e1;obtain⟨r2,y,_,_⟩:=h.pre (C.length-1-(t+1)) (t+1) (by omega);rw[show t+1+(C.length-1-(t+1))=C.length-1 by omega,<-A]at y;have u:=h.len (t+1) e1;rw[hs]at e y u;have e:n<((C.getD t co).a++ck (C.getD t co).a 165 ((C.getD t co).k+1) (bc l)).length:=e;have u:((C.getD t co).a++ck (C.getD t co).a 165 ((C.getD t co).k+1) (bc l)).length<=4194304:=u;have y:L=(C.getD t co).a++ck (C.getD t co).a 165 ((C.getD t co).k+1) (bc l)++r2:=y;rw[W1]at e u;rw[h1,Xf]at y;have h3:=List.append_cancel_left y;refine⟨l,n-(C.getD t co).a.length,?_,by omega,hk,Au (a:=(C.getD t co).a) (k:=165) (n:=(C.getD t co).k+1) (by omega)⟩;rw[h3,Y3 (by omega)]
end
theorem Ef(p:Prog)(s:JS)(l:List (b3 Fact)):((l0 p s l).1=0∧ir aU (okF p) s.S l=0∧s.k+1<=2147483647∧(l0 p s l).2.1=⟨ff aU s.S l,s.a++ck s.a 165 (s.k+1) (bc l),s.k+1⟩)∨((l0 p s l).1≠0∧(l0 p s l).2.1=s):=by
  unfold l0;split
  · rename_i h;exact .inr ⟨h,rfl⟩
  · rename_i h
    split
    · exact .inr ⟨by show(231:Int)≠0;decide,rfl⟩
    · rename_i h1
      split
      · exact .inr ⟨by show(2:Int)≠0;decide,rfl⟩
      · exact .inl ⟨rfl,by simpa using h,by omega,rfl⟩
end
theorem UL(b:By)(n:Nat)(z:Int)(h0:0<n)(hn:n<=b.length)(hb:b.length<=1000000000):Pure Tryz.prog 13 [.iv (aT 1 b aH),pI n,pI z] (.iv (aT 1 (b.take n++X3 (min z.toNat 64) 0) aH)):=by
 have hl:(b.take n).length=n:=by rw[XA];omega
 refine ah ab Tryz.func13 Z (by decide) Tryz.ntmps13 Z (by simp) Z ?_;refine gA Z ?_;refine W0 (fun zz=>?_) (fun zz=>?_)<;>(try(have:=of_decide_eq_true zz;omega))
 refine gA Z ?_;refine W0 (fun zz=>?_) (fun zz=>?_)<;>(try(have:=of_decide_eq_true zz;omega))
 refine gM 10 Z (bB Z (kG (pH (m:=n) ab Z Z Z Z Z Z Z hn) Z) ?_);rintro t rfl;generalize b.take n=W at*
 refine gA Z ?_;refine iZ 0 64 (by decide) (fun i (_:Unit)=>⟨[(2,pI z),(7,.sl 2 0 (n+i) 1),(8,pI i)],[(2,io (hZ (W++X3 i 0)))],3⟩) (fun i _=>(i:Int)<=max z 0) () [1] (by simp;omega)
  (wk Z Z Z (bi ⟨.row (by simp[hl]),rfl,bi trivial⟩) (hR Z (by rw[List.replicate_zero,XM];exact cz W) Z trivial) Z) fun i _ hi y=>?_
 refine gA Z ?_;refine W0 (fun h1=>?_) (fun h1=>?_)
 .have h1:(i:Int)<z:=of_decide_eq_true h1;refine gA Z ?_;refine W0 (fun j=>?_) (fun j=>?_)
  .have j:i<64:=by have:=of_decide_eq_true j;omega
   refine gA Z ⟨j,(),[4],by omega,wk Z Z Z (bi ⟨.row Z,rfl,bi ac⟩) (hR Z (by rw[List.replicate_succ',<-Xf];exact(Xg (f:=fun x:UInt8=>(aH x).map PV.iv) (l₁:=W++X3 i 0) (l₂:=[0])).symm) Z ac) Z⟩
  .have j:i=64:=by have:=of_decide_eq_false j;omega
   have u:min z.toNat 64=i:=by omega
   rw[u];refine gA Z (fp (r0:= .sl 2 0 (n+i) 1) (.inr Z) Z (fy.fR 2 (W++X3 i 0) aH Z Z (by simp[PV.aZ,hl]) (.done (.bI (by simp[hl]) (fun k _=>by rw[Xo])))))
 .have h1:z<=(i:Int):=by have:=of_decide_eq_false h1;omega
  have u:min z.toNat 64=i:=by omega
  rw[u];refine gA Z (fp (r0:= .sl 2 0 (n+i) 1) (.inr Z) Z (fy.fR 2 (W++X3 i 0) aH Z Z (by simp[PV.aZ,hl]) (.done (.bI (by simp[hl]) (fun k _=>by rw[Xo])))))
end Go.Proofs.YtlmhfgbkchnfbaaGreatDoor
