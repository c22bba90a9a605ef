/-
  What the proofs of the claims need: part 5 of 5.
-/
import Derived.Test.YtlmhfgbkchnfbaaGreatDoorPart4
open And renaming intro→WN
open Bool renaming and_eq_true→XE,and_false→Zi,eq_iff_iff→Yk,false_and→YK,false_eq_true→YE,not_eq_false'→YF,true_and→Zp
open ByteArray renaming empty→W0
open Classical renaming byContradiction→Ym
open Int renaming fdiv_eq_ediv_of_nonneg→Yd,le_refl→Za,toNat→Ze,toNat_natCast→WV,toNat_of_nonneg→Y5
open List.Pairwise renaming nil→Y0
open List renaming all_eq_true→XC,any_eq_true→Yf,append_assoc→W6,append_nil→XA,cons_append→Xe,drop_eq_getElem_cons→YC,drop_left'→aas,drop_of_length_le→Yg,drop_zero→ZC,ext_getElem→Zk,flatMap_cons→XS,flatMap_nil→ZW,getD→ZU,getD_eq_getElem?_getD→WQ,getElem?_append_right→Xc,getElem?_drop→XK,getElem?_eq_getElem→WU,getElem?_eq_some_iff→WT,getElem?_map→WX,getElem?_of_mem→XH,getElem?_set→YD,getElem?_take→Xy,getElem_map→YB,getElem_mem→XF,length→Y9,length_append→WO,length_cons→Xn,length_drop→XT,length_eq_zero_iff→Yl,length_filter_le→Yi,length_map→Xk,length_nil→X8,length_singleton→Xl,length_take→Xv,map_append→W4,map_congr_left→X6,map_cons→WW,map_map→XX,map_nil→W7,mem_append→Xf,mem_append_right→Yo,mem_cons→Xa,mem_cons_of_mem→W5,mem_cons_self→W8,mem_filter→Xu,mem_map→Xw,mem_of_getElem?→Xs,mem_of_mem_drop→aaa,mem_of_mem_take→Yx,mem_singleton→W1,mem_singleton_self→YT,nil_append→Xg,nodup_cons→XB,nodup_nil→XM,pairwise_append→YI,pairwise_iff_getElem→X9,pairwise_singleton→Y8,perm_ext_iff_of_nodup→Yw,range→Xq,singleton_append→ZD,size_toArray→Y1,sum_cons→Ya,take_left'→ZJ,take_length→X7,take_of_length_le→W9,take_succ_cons→Ye,take_zero→Zz
open Nat renaming add_assoc→X3,add_mul→XG,beq→Xj,ble→YR,ble_eq_true_of_le→XN,blt→Xm,div_lt_iff_lt_mul→Z5,le_add_right→Zl,le_of_ble_eq_true→WL,le_refl→WY,le_succ→Yh,le_trans→XR,lt_of_lt_of_le→Yu,lt_or_ge→XO,lt_succ_iff_lt_or_eq→YP,lt_trichotomy→YZ,mod_eq_of_lt→Y6,mul_assoc→aae,mul_comm→Zy,mul_le_mul_right→Xi,not_lt_zero→YM,pow_le_pow_right→Z9,pow_succ→ZB,sub_self→Zv,zero_add→Xd,zero_le→W2
open Option.some renaming inj→XP
set_option maxRecDepth 100000
open Bool renaming false→kw,true→jp
open Decidable renaming decide→lc
open Inhabited renaming default→co
open Option renaming none→is,some→io
open Array renaming getD_eq_getD_getElem?→WM
open Option.some renaming injEq→WR
open Array renaming range→ZP
open Array renaming getElem?_map→Zr
open Option renaming map_some→XW
open Option renaming getD_some→XV
open Array renaming getElem?_eq_getElem→Xx
open Array renaming append_assoc→Zs
open Array renaming getElem?_append_left→Xt
open Nat renaming sub_mul→Z7
open Array renaming getElem?_append_right→YJ
open Array renaming getElem?_toList→Xo
open List renaming getElem?_toArray→XD
open List renaming getElem?_append_left→Xb
namespace Go.Proofs.YtlmhfgbkchnfbaaGreatDoor
open Go Go.Al Go.Proofs.Tryz Go.Tj
abbrev Tk(a:aq):List PV:=[pS a,.ptr 0 0,.ptr 1 0,.ptr 2 0,.ptr 3 0,.ptr 4 0,.ptr 5 0]
abbrev vF(a:aq):AF:=[(0,pS a),(1,.ptr 0 0),(2,.ptr 1 0),(3,.ptr 2 0),(4,.ptr 3 0),(5,.ptr 4 0),(6,.ptr 5 0)]
def SU(p:Prog)(f:Nat):Prop:= ∀(path:List aq) (a:aq) (w:TW),w.Ok (ns p)->Inv (bt p) path w.st->w.st.low a=0->a∈ns p->(∀g∈path,od (bt p) g a)->kz (ns p) w.st<=f->
 Go.Al.Fn prog 99 (Tk a) (tO (yv (ct p (cZ p))) w) fun r h n=> ∃j:TW,j.Ok (ns p)∧j.st=(eF (bt p) f a w.st).2∧r=pI (eF (bt p) f a w.st).1∧h=tH (yv (ct p (cZ p))) j 10∧n=11
theorem Jm(p:Prog)(hs:List (aq×aq×Nat)){a:aq}(h:a∈p.aF.map Decl.name):(Gs (dW .str (ct p hs) a is)).pv= .iv (BO (j9 hs a)):=by rw[Jn p hs h];rfl
theorem Rq(G:IV)(w:TW){n:Nat}:[io (AO.cells [PV.mp 6]),io (.cells [.mp 7]),io (.cells [qx w.ur 11 w.stack]),io (.cells [.iv G]),io (.cells [AN]),io (.cells [.mp 8]),io (cX w.low),io (cX w.on),io (cX w.ring),io (qy w.ur w.stack)]=
  (tO G w).map fun o=>io (o.b3 (sig [0,1,2,3,4,5,6,7,8,11] n)):=by
 have h1:=l4 (sig [0,1,2,3,4,5,6,7,8,11] n) w.ur 9 w.stack;have j:=l5 (sig [0,1,2,3,4,5,6,7,8,11] n) w.ur w.stack;show _=[io (AO.cells [PV.mp 6]),io (.cells [.mp 7]),io (.cells [(qx w.ur 9 w.stack).b3 (sig [0,1,2,3,4,5,6,7,8,11] n)]),io (.cells [.iv G]),io (.cells [AN]),io (.cells [.mp 8]),io (cX w.low),io (cX w.on),io (cX w.ring),io ((qy w.ur w.stack).b3 (sig [0,1,2,3,4,5,6,7,8,11] n))]
 rw[h1,j];rfl
theorem HO(u:List aq)(b:aq):((u++ [b]).map fun x=>(de x).map PV.iv)[0+((((u.length+1:Nat):Int)-1).toNat)]? =io [pS b]:=by
 rw[Xd,show(((u.length+1:Nat):Int)-1).toNat=u.length by omega];simp[de]
theorem HP(i:Nat)(u:List aq)(b:aq):(u.length=0∧qx (io b) i u= .sl i 1 0 1)∨(0<u.length∧qx (io b) i u= .sl i 0 u.length 1):=by
 cases u with
 |nil=>exact .inl ⟨rfl,rfl⟩
 |cons x r=>exact .inr ⟨by simp,rfl⟩
theorem A4(u:List aq)(b:aq):eR (aX 1 (u++ [b]) de) (qy (io b) u):=by
 cases u with
 |nil=>exact .of_eq Z
 |cons x r=>
  have e:qy (io b) (x::r)= .row 1 (((x::r++ [b]).map fun y=>(de y).map PV.iv).take (x::r).length):=by
   rw[<-List.map_take,List.take_left];rfl
  rw[e];exact .take
theorem uz{p:Prog}: ∀a∈ns p,∀b∈bt p a,b∈ns p:=fun _ _ _ h=>(Xu.1 h).1
theorem IS{p:Prog}(hf:dV p):(ns p).length<=64:=by
 have:=hf.len;rw[ns,kr,Xk];exact this
theorem Ht(hS:fy){p:Prog}(hf:dV p)(hl:(cZ p).length<=100000000)(f:Nat)(ih:SU p f):SU p (f+1):=by
 intro path a w hok hI h0 Y hp hw;have i0:=IS hf;have e1:=lk hI.nS Y h0;have m1:=TW.len hok;have p1:=TW.xI hok hI;have q0:a∈p.aF.map Decl.name:=by rw[ns,mn]at Y;exact Y
 have D:=TW.M4 hok h0;have t0:=TW.M5 hok h0 Y;have o1:=Yi (eg p a) (ns p);refine lU ab func99 Z (by decide) ntmps99 Z (by simp) ?_;refine go_cut 6 (fun _:Unit=>⟨(9,pI ((w.low.length:Int)+1))::(10,pI ((w.low.length:Int)+1))::vF a,tH (yv (ct p (cZ p))) (w.push a) 10,11⟩) Z ?_ ?_
 .have o0:dW .str (cP .str w.low a ((w.low.length:Int)+1)) a 0=(w.low.length:Int)+1:=by rw[mw,am Z]
  by_cases hu:w.ur=is∨w.stack≠ []
  .rw[show tO (yv (ct p (cZ p))) w=[.cells [.mp 6],.cells [.mp 7],.cells [.sl 9 0 w.stack.length 1],.cells [.iv (yv (ct p (cZ p)))],.cells [AN],.cells [.mp 8],cX w.low,cX w.on,cX w.ring,aX 1 w.stack de] by
    unfold tO;rw[A1 hu,A3 hu]]
   refine gA Z (oQ () [11] ?_);exact wk Z Z Z ⟨.of_eq (congrArg pI o0),rfl,.of_eq (congrArg pI o0),rfl,bi (bi (bi (bi (bi (bi (bi ac))))))⟩
    (uZ (w:=w.push a) Z Z (fun i hi=>gG (by show i<10;omega)) Z Z Z Z Z Z Z Z Z Z (by show _=PV.sl 11 0 (w.stack++ [a]).length 1;rw[WO];rfl) Z Z Z (.of_eq (by show _=aX 1 (w.stack++ [a]) de;rw[aX,W4];rfl))) Z
  .obtain⟨y,hy,v0⟩: ∃y,w.ur=io y∧w.stack=[]:=by
    cases hg:w.ur with
    |none=>exact absurd (.inl hg) hu
    |some y=>exact⟨y,rfl,Ym fun h=>hu (.inr h)⟩
   rw[show tO (yv (ct p (cZ p))) w=[.cells [.mp 6],.cells [.mp 7],.cells [.sl 9 1 0 1],.cells [.iv (yv (ct p (cZ p)))],.cells [AN],.cells [.mp 8],cX w.low,cX w.on,cX w.ring,.row 1 [[pS y]]] by
    unfold tO;rw[hy,v0];rfl]
   refine gA Z (Ae ab Z Z Z Z Z Z Z Z Z (by simp) (by simp) (gm Z) Z ?_);refine gA Z (oQ () [11] ?_);exact wk Z Z Z ⟨.of_eq (congrArg pI o0),rfl,.of_eq (congrArg pI o0),rfl,bi (bi (bi (bi (bi (bi (bi ac))))))⟩
    (uZ (w:=w.push a) Z Z (fun i hi=>gG (by show i<10;omega)) Z Z Z Z Z Z Z Z Z Z (by show _=PV.sl 11 0 (w.stack++ [a]).length 1;rw[v0];rfl) Z Z Z (.of_eq (by show _=aX 1 (w.stack++ [a]) de;rw[v0];rfl))) Z
 intro _;have hi:=Bx hI h0 hp;rw[<-D]at e1 hi;have hm:((w.push a).low.length:Int)=(w.low.length:Int)+1:=by
  have:=tI (v:=(w.low.length:Int)+1) (TW.key hok h0);show(((cP .str w.low a _).length:Nat):Int)=_;rw[this];omega
 have la:(w.push a).st.low a=(w.st.n:Int)+1:=by rw[D];exact kA _ _ _
 have oa:(w.push a).st.on a=1:=by rw[D];exact kA _ _ _
 have g1:fK (bt p) path a w.st [] ((w.st.n:Int)+1,Go.Tj.push w.st a) []:=
  ⟨D▸hi,.refl _,rfl,fun y hy=>(nomatch hy),Za _,fun y hy=>(nomatch hy),fun z hz=>(nomatch hz),fun z hz=>(nomatch hz),⟨a,D▸oa,D▸la,.refl _⟩⟩
 have k0:=fun pa b s=>qo (succ:=bt p) uz f pa b s
 let I:Nat->Int×St aq:=fun i=>((bt p a).take i).foldl (Go.Tj.tA (eF (bt p) f)) ((w.st.n:Int)+1,Go.Tj.push w.st a)
 have g0: ∀i,∃t,fK (bt p) path a w.st ((bt p a).take i) (I i) t:=fun i=>by
  have:=s5 uz k0 hI h0 Y (by rw[<-D];omega) ((bt p a).take i) [] _ [] g1 fun b hb=>Yx hb;rwa[Xg]at this
 refine gM 5 Z (Nz ab (.iv (BO (j9 (cZ p) a))) Z Z Z Z (Jm p _ q0) Z ?_);refine gA Z (zp (Ui hS hf hl a) ?_);refine gA Z ?_;refine jv 0 (bt p a).length (W2 _) (fun i B=>⟨(9,pI ((w.low.length:Int)+1))::(10,pI (I i).1)::(32,.iv (strs (bt p a)))::(33,pI (bt p a).length)::(34,pI i)::vF a,tH (yv (ct p (cZ p))) B 11,12⟩)
  (fun i B=>B.Ok (ns p)∧B.st=(I i).2) (w.push a) [10] ⟨t0,D⟩
  (wk Z Z Z (bi (bi (bi (bi (bi (bi (bi (bi (bi (bi (bi (bi trivial))))))))))))
   (uZ Z Z (fun i hi=>gG (by show i<11;omega)) Z Z Z Z Z Z Z Z Z Z Z Z Z Z (.refl _)) Z) fun i B s1 hJ=>?_
 obtain⟨C,A⟩:=hJ;obtain⟨t2,x⟩:=g0 i;have n1:(bt p a).length<=64:=XR o1 i0;refine zJ Z Z (fun h1=>?_) fun h1=>?_
 .have h1:i<(bt p a).length:=by simpa using h1
  have d0:I (i+1)=Go.Tj.tA (eF (bt p) f) (I i) ((bt p a).getD i co):=iD h1;have hb:((bt p a).getD i co)∈bt p a:=mB h1;have j:Go.Tj.tA (eF (bt p) f) (I i) ((bt p a).getD i co)=if B.st.low ((bt p a).getD i co)=0 then(min (I i).1 (eF (bt p) f ((bt p a).getD i co) B.st).1,(eF (bt p) f ((bt p a).getD i co) B.st).2)
    else if B.st.on ((bt p a).getD i co)=1 then(min (I i).1 (B.st.low ((bt p a).getD i co)),B.st) else(I i):=by rw[A];rfl
  refine zJ Z Z (fun h2=>?_) fun h2=>?_
  .have h2:B.st.low ((bt p a).getD i co)=0:=zT h2;rw[am h2]at j;have b0: ∀g∈path++ [a],od (bt p) g ((bt p a).getD i co):=by
    intro g hg;have G:(I i).2.on a=1:=(x.inv.xI a).2 (by rw[x.stack];simp);refine .step (x.inv.dn g hg a G ?_) hb;rcases Xf.1 hg with e|e
    .have:=x.pa hI h0 g e;omega
    .rw[W1]at e;rw[e];exact Za _
   have r1:kz (ns p) B.st<=f:=by
    have:=xA (V:=ns p) x.le;rw[A];rw[D]at e1;omega
   refine gA Z (lD [0,1,2,3,4,5,6,7,8,11] (ih (path++ [a]) ((bt p a).getD i co) B C (A▸x.inv) h2 (uz a Y ((bt p a).getD i co) hb) b0 r1) Z Z Z Z Z (Rq _ _) Z ?_);rintro r h' n' ⟨w3,hok3,hst3,rfl,rfl,rfl⟩;refine⟨_,rfl,?_⟩;refine gA Z ⟨h1,w3,[12],⟨hok3,by rw[d0,j];exact hst3⟩,zM (bi ⟨.of_eq (by rw[d0,j];rfl),rfl,bi (bi (bi (bi (bi (bi (bi (bi (bi (bi ac)))))))))⟩) (uZ Z Z (fun i hi=>gG (by show i<11;omega)) Z Z Z Z Z Z Z Z Z Z (l4 _ _ _ _) Z Z Z (.of_eq (l5 _ _ _)))⟩
  .have h2: ¬B.st.low ((bt p a).getD i co)=0:=zF h2;rw[be h2]at j;refine zJ Z Z (fun h3=>?_) fun h3=>?_
   .have h3:B.st.on ((bt p a).getD i co)=1:=zT h3;rw[am h3]at j;refine gA Z ⟨h1,B,[11],⟨C,by rw[d0,j]⟩,zM (bi ⟨.of_eq (by rw[d0,j];rfl),rfl,bi (bi (bi (bi (bi (bi (bi (bi (bi (bi ac)))))))))⟩) (uZ Z Z (fun i hi=>gG (by show i<11;omega)) Z Z Z Z Z Z Z Z Z Z Z Z Z Z (.refl _))⟩
   .have h3: ¬B.st.on ((bt p a).getD i co)=1:=zF h3;rw[be h3]at j;refine gA Z ⟨h1,B,[11],⟨C,by rw[d0,j];exact A⟩,zM (bi ⟨.of_eq (by rw[d0,j];rfl),rfl,bi (bi (bi (bi (bi (bi (bi (bi (bi (bi ac)))))))))⟩) (uZ Z Z (fun i hi=>gG (by show i<11;omega)) Z Z Z Z Z Z Z Z Z Z Z Z Z Z (.refl _))⟩
 .have h1:(bt p a).length<=i:=by simpa using h1
  have j1:i=(bt p a).length:=by omega
  subst j1;have n0:eF (bt p) (f+1) a w.st=uy a ((w.st.n:Int)+1) (I (bt p a).length):=by
   show uy a _ ((bt p a).foldl _ _)=uy a _ (((bt p a).take (bt p a).length).foldl _ _);rw[X7]
  have a0: ∀(w':TW) (k:Nat) (u:AS) (e:Exit),e= .normal∨e= .ret->10<=k->k<u.nx->je qq u f99.results.toList=io (pI (I (bt p a).length).1)->w'.Ok (ns p)->w'.st=(uy a ((w.st.n:Int)+1) (I (bt p a).length)).2->
    o6 11 (sg 10 [k]) u.h (tH (yv (ct p (cZ p))) w' 10)->OE qq f99.results.toList 10 (fun r h n=> ∃w':TW,w'.Ok (ns p)∧w'.st=(eF (bt p) (f+1) a w.st).2∧r=pI (eF (bt p) (f+1) a w.st).1∧h=tH (yv (ct p (cZ p))) w' 10∧n=11) e u:=by
   intro w' k u e he hk k1 hr s0 w0 hh;refine dz [k] he hr ⟨w',s0,by rw[n0];exact w0,rfl,rfl,rfl⟩ ⟨rfl,by show 10<=u.nx;omega,by simpa using k1,⟨.of_eq ?_,rfl,ac⟩,hh,?_⟩
   .show pI (I (bt p a).length).1=pI (eF (bt p) (f+1) a w.st).1;rw[n0];unfold uy;split<;>rfl
   .show[0,1,2,3,4,5,6,7,8,k].Nodup;simp;omega
  generalize I (bt p a).length=q at*
  refine zE Z Z (fun h4=>?_) fun h4=>?_
  .have h4: ¬q.1=(w.st.n:Int)+1:=zF h4;refine gA Z (a0 B 11 _ _ (.inr Z) (by omega) (by show 11<12;omega) Z C (by rw[uy,be h4];exact A) ?_);exact uZ Z Z (fun i hi=>gG (by omega)) Z Z Z Z Z Z Z Z Z Z Z Z Z Z (.refl _)
  have h4:q.1=(w.st.n:Int)+1:=zT h4;have hE:(uy a ((w.st.n:Int)+1) q).2=fW a ((w.st.n:Int)+1) q.2.stack.length q.2:=by rw[uy,am h4]
  have G:q.2.on a=1:=(x.inv.xI a).2 (by rw[x.stack];simp);have hF:fW a ((w.st.n:Int)+1) (t2.length+1) q.2=(uy a ((w.st.n:Int)+1) q).2:=by
   rw[hE,sV (by omega) x.stack x.at_ G,sV (by rw[x.stack];simp;omega) x.stack x.at_ G]
  generalize(uy a ((w.st.n:Int)+1) q).2=F at hF a0;refine gA Z ?_;refine iC (σ:={v:TW//v.Ok (ns p)∧((∃t,v.stack=w.stack++a::t∧a∉t∧v.stack.length<=64∧v.st.on a=1∧fW a ((w.st.n:Int)+1) (t.length+1) v.st=F)∨(v.st.on a≠1∧v.st=F))})
   (fun v=>⟨(9,pI ((w.low.length:Int)+1))::(10,pI q.1)::vF a,tH (yv (ct p (cZ p))) v.1 12,13⟩) (fun v=>v.1.stack.length) ⟨B,C,.inl ⟨t2,by rw[show B.stack=B.st.stack from rfl,A];exact x.stack,x.at_,XR (TW.xI C (A▸x.inv)) i0,by rw[A];exact G,by rw[A];exact hF⟩⟩ [11]
   (zW (uZ Z Z (fun i hi=>gG (by show i<12;omega)) Z Z Z Z Z Z Z Z Z Z Z Z Z Z (.refl _))) fun v=>?_
  obtain⟨v,j0,hJ⟩:=v;rcases hJ with⟨t,hs,a1,m0,c0,J⟩|⟨c0,f1⟩
  rotate_left
  .refine zJ Z Z (fun h5=>?_) fun h5=>?_
   .exact absurd (zT h5) c0
   refine gA Z (a0 v 12 _ _ (.inr Z) (by omega) (by show 12<13;omega) Z j0 f1 ?_);exact uZ Z Z (fun i hi=>gG (by omega)) Z Z Z Z Z Z Z Z Z Z Z Z Z Z (.refl _)
  have key: ∃u b,v.stack=u++ [b]∧((b=a∧zt ((w.st.n:Int)+1) v.st=F)∨ ∃t',u=w.stack++a::t'∧a∉t'∧b≠a∧fW a ((w.st.n:Int)+1) (t'.length+1) (zt ((w.st.n:Int)+1) v.st)=F):=by
   rcases t.eq_nil_or_concat with e|⟨t',b,e⟩
   .subst e;refine⟨w.stack,a,hs,.inl ⟨rfl,?_⟩⟩;rw[X8,fW,am c0]at J;exact J
   .rw[List.concat_eq_append]at e;subst e;refine⟨w.stack++a::t',b,by rw[hs];simp,.inr ⟨t',rfl,fun h=>a1 (by simp[h]),fun h=>a1 (by simp[h]),?_⟩⟩;rw[fW,am c0,WO]at J;exact J
  obtain⟨u,b,e0,f0⟩:=key;have t1:u.length+1<=64:=by rw[e0,WO]at m0;exact m0
  have d1:v.stack≠ []:=by rw[e0];simp
  have x0:v.stack.length=u.length+1:=by rw[e0,WO];rfl
  have q1:tH (yv (ct p (cZ p))) v 12=[(0,io (.cells [.mp 6])),(1,io (.cells [.mp 7])),(2,io (.cells [.sl 12 0 (u.length+1) 1])),(3,io (.cells [.iv (yv (ct p (cZ p)))])),(4,io (.cells [AN])),(5,io (.cells [.mp 8])),
    (6,io (cX v.low)),(7,io (cX v.on)),(8,io (cX v.ring)),(12,io (aX 1 (u++ [b]) de))]:=by
   unfold tH;rw[A1 (.inr d1),A3 (.inr d1),x0,e0]
  show GO prog _ _ _ ⟨_,tH (yv (ct p (cZ p))) v 12,_⟩;rw[q1];refine zE Z Z (fun h5=>?_) fun h5=>?_
  .exact absurd c0 (zF h5)
  refine gM 9 Z (kN ab Z Z Z Z Z (HO u b) Z Z ?_);have z0:(v.pop u b ((w.st.n:Int)+1)).Ok (ns p)∧((∃t,(v.pop u b ((w.st.n:Int)+1)).stack=w.stack++a::t∧a∉t∧(v.pop u b ((w.st.n:Int)+1)).stack.length<=64∧(v.pop u b ((w.st.n:Int)+1)).st.on a=1∧fW a ((w.st.n:Int)+1) (t.length+1) (v.pop u b ((w.st.n:Int)+1)).st=F)∨((v.pop u b ((w.st.n:Int)+1)).st.on a≠1∧(v.pop u b ((w.st.n:Int)+1)).st=F)):=by
   refine⟨TW.R9 j0 u b _,?_⟩;rcases f0 with⟨rfl,p0⟩|⟨t',hu,r0,i1,p0⟩
   .refine .inr ⟨?_,by rw[TW.IC e0];exact p0⟩;show dW .str (cP .str v.on b 2) b 0≠1;rw[mw,am Z];decide
   .refine .inl ⟨t',hu,r0,by show u.length<=64;omega,?_,by rw[TW.IC e0];exact p0⟩;show dW .str (cP .str v.on b 2) a 0=1;rw[mw,be i1];exact c0
  have b1:(v.pop u b ((w.st.n:Int)+1)).stack.length<v.stack.length:=by show u.length<v.stack.length;omega
  rcases HP 12 u b with hc|hc
  .refine gA Z (Ad ab u.length Z Z Z Z Z Z Z (by omega) (by omega) (by omega) (.inl ⟨hc.1,rfl⟩) Z ?_);refine gA Z ⟨⟨v.pop u b ((w.st.n:Int)+1),z0⟩,[12],b1,zW (uZ Z Z (fun i hi=>gG (by show i<12;omega)) Z Z Z Z Z Z Z Z Z Z hc.2.symm Z Z Z (A4 u b))⟩
  .refine gA Z (Ad ab u.length Z Z Z Z Z Z Z (by omega) (by omega) (by omega) (.inr ⟨hc.1,rfl⟩) Z ?_);refine gA Z ⟨⟨v.pop u b ((w.st.n:Int)+1),z0⟩,[12],b1,zW (uZ Z Z (fun i hi=>gG (by show i<12;omega)) Z Z Z Z Z Z Z Z Z Z hc.2.symm Z Z Z (A4 u b))⟩
theorem Ti(hS:fy){p:Prog}(hf:dV p)(hl:(cZ p).length<=100000000): ∀f,SU p f
 |0=>fun path a w hok hI u j x y=>by
  have:=lk hI.nS j u;omega
 |f+1=>Ht hS hf hl f (Ti hS hf hl f)
theorem F6(hS:fy){p:Prog}(hf:dV p)(hs:List (aq×aq×Nat)):Pure prog 101 [.iv (yv (ct p hs))] (.iv (strs (ns p))):=by
 have h:=H2 hS (ct p hs) (by have:=hf.len;simp[ct];omega);rw[show(ct p hs).map (·.1)=p.aF.map Decl.name from DN p hs]at h;exact h
abbrev MX:PV:= .cv (.func 99) [] [.ptr 4 0,.ptr 5 0,.ptr 7 0,.ptr 0 0,.ptr 8 0,.ptr 6 0]
abbrev rH(G:IV)(w:TW)(k:Nat):AH:=[(0,io (.cells [.iv G])),(1,io (cX w.low)),(2,io (cX w.on)),(3,io (cX w.ring)),(4,io (.cells [.mp 1])),(5,io (.cells [.mp 2])),(6,io (.cells [.mp 3])),(7,io (.cells [qx w.ur k w.stack])),(8,io (.cells [MX])),(k,io (qy w.ur w.stack))]
theorem Qu{n k:Nat}{σ:Nat->Nat}{h:AH}{G:IV}{w:TW}{B:PV}{x y A o:AO}(b:YR 9 n=jp)(bk:Xm k n=jp)(hs: ∀i,i<9->σ i=i)
  (g0:h.get 0=io (.cells [.iv G])) (g1:h.get 1=io x) (g2:h.get 2=io y) (g3:h.get 3=io A)
  (g4:h.get 4=io (.cells [.mp 1])) (g5:h.get 5=io (.cells [.mp 2])) (g6:h.get 6=io (.cells [.mp 3])) (g7:h.get 7=io (.cells [B])) (g8:h.get 8=io (.cells [MX])) (g9:h.get (σ k)=io o)
  (C:eR x (cX w.low)) (D:eR y (cX w.on)) (I:eR A (cX w.ring)) (J:B=qx w.ur (σ k) w.stack) (Y:eR o (qy w.ur w.stack)):o6 n σ h (rH G w k):=by
 have b9:=WL b;have bk:=WL bk;have hb: ∀i,i<9->Xm i n=jp:=fun i hi=>XN (by omega);subst J;have r: ∀i,i<9->PV.mp (σ i)=PV.mp i:=fun i hi=>by rw[hs i hi]
 have j: ∀i,i<9->PV.ptr (σ i) 0=PV.ptr i 0:=fun i hi=>by rw[hs i hi]
 have u: ∀i,i<9->bq n [PV.mp i]=jp:=fun i hi=>by simp only[bq,PV.low,hb i hi]
 refine⟨⟨_,by rw[hs 0 (by omega)];exact g0,.of_eq Z⟩,by omega,rfl,
  ⟨_,by rw[hs 1 (by omega)];exact g1,C⟩,by omega,ac,
  ⟨_,by rw[hs 2 (by omega)];exact g2,D⟩,by omega,ac,
  ⟨_,by rw[hs 3 (by omega)];exact g3,I⟩,by omega,ac,
  ⟨_,by rw[hs 4 (by omega)];exact g4,.of_eq (by simp only[AO.b3,dc,PV.b3,r 1 (by omega)])⟩,by omega,u 1 (by omega),
  ⟨_,by rw[hs 5 (by omega)];exact g5,.of_eq (by simp only[AO.b3,dc,PV.b3,r 2 (by omega)])⟩,by omega,u 2 (by omega),
  ⟨_,by rw[hs 6 (by omega)];exact g6,.of_eq (by simp only[AO.b3,dc,PV.b3,r 3 (by omega)])⟩,by omega,u 3 (by omega),
  ⟨_,by rw[hs 7 (by omega)];exact g7,.of_eq (by simp only[AO.b3,dc,l4])⟩,by omega,by simp only[AO.low,bq,A2 (XN bk)],
  ⟨_,by rw[hs 8 (by omega)];exact g8,.of_eq (by simp only[AO.b3,dc,PV.b3,j 0 (by omega),j 4 (by omega),j 5 (by omega),j 6 (by omega),j 7 (by omega),j 8 (by omega)])⟩,by omega,by simp only[AO.low,bq,PV.low,hb 0 (by omega),hb 4 (by omega),hb 5 (by omega),hb 6 (by omega),hb 7 (by omega),hb 8 (by omega)],
  ⟨_,g9,by rw[l5];exact Y⟩,bk,A5 _ _ _,ac⟩
theorem vS{V:Type}{kc:KC}{ev:V->IV}{z:V}{u:Value}{x:PV->V}(A: ∀M,IR M (ev z) u):eR .ft (.map kc ev z u x []):=
 ⟨id,fun M N U w j y=>⟨#[],0,y,⟨rfl,by simp,by simp,by simp,by simp⟩,A M⟩⟩
def TW.o:TW:=⟨[],[],[],[],is⟩
theorem R5(G:IV)(w:TW){n:Nat}:[io (AO.cells [PV.mp 1]),io (.cells [.mp 2]),io (.cells [qx w.ur 10 w.stack]),io (.cells [.iv G]),io (.cells [MX]),io (.cells [.mp 3]),io (cX w.low),io (cX w.on),io (cX w.ring),io (qy w.ur w.stack)]=
  (tO G w).map fun o=>io (o.b3 (sig [4,5,7,0,8,6,1,2,3,10] n)):=by
 have h1:=l4 (sig [4,5,7,0,8,6,1,2,3,10] n) w.ur 9 w.stack;have j:=l5 (sig [4,5,7,0,8,6,1,2,3,10] n) w.ur w.stack;show _=[io (AO.cells [PV.mp 1]),io (.cells [.mp 2]),io (.cells [(qx w.ur 9 w.stack).b3 (sig [4,5,7,0,8,6,1,2,3,10] n)]),io (.cells [.iv G]),io (.cells [MX]),io (.cells [.mp 3]),io (cX w.low),io (cX w.on),io (cX w.ring),io ((qy w.ur w.stack).b3 (sig [4,5,7,0,8,6,1,2,3,10] n))]
 rw[h1,j];rfl
theorem RG(hS:fy){p:Prog}(hf:dV p)(hl:(cZ p).length<=100000000):Go.Al.Fn prog 67 [.iv (yv (ct p (cZ p)))] [] fun r h n=> ∃m:NM,Go.Rg.w6 (ns p) (eg p) (fun a=>dW .str m a 0)∧r= .iv (BO m)∧h=[]∧n=0:=by
 have B:=IS hf;refine lU ab func67 Z (by decide) ntmps67 Z (by simp) ?_;refine gA Z (zp (F6 hS hf (cZ p)) ?_);refine gA Z ?_;refine kM 7 0 1 Z Z ?_
 let y:Nat->St aq:=fun i=>ik (bt p) (ns p).length ((ns p).take i) St.o
 have A: ∀i,Inv (bt p) [] (y i):=fun i=>(sR uz (WY _) ((ns p).take i) St.o (fun a h=>Yx h) (P9 _)).1
 refine jv 0 (ns p).length (W2 _) (fun i w=>⟨[(3,.ptr 4 0),(4,.ptr 5 0),(5,.ptr 6 0),(6,.ptr 7 0),(7,.ptr 8 0),(15,.iv (strs (ns p))),(16,pI (ns p).length),(17,pI i)],rH (yv (ct p (cZ p))) w 10,11⟩)
  (fun i w=>w.Ok (ns p)∧w.st=y i) TW.o [9] ⟨⟨fun a h=>(nomatch h),XM,fun a h=>(nomatch h)⟩,rfl⟩
  (wk Z Z Z (bi (bi (bi (bi (bi (bi (bi (bi trivial))))))))
   (Qu Z Z (fun i hi=>gG (by show i<10;omega)) Z Z Z Z Z Z Z Z Z Z (vS gj) (vS gj) (vS gj) Z (.of_eq Z)) Z) fun i w hi G=>?_
 obtain⟨hok,x⟩:=G;refine zJ Z Z (fun h1=>?_) fun h1=>?_
 .have h1:i<(ns p).length:=by simpa using h1
  have u:y (i+1)=if(y i).low ((ns p).getD i co)=0 then(eF (bt p) (ns p).length ((ns p).getD i co) (y i)).2 else y i:=iD h1;refine zJ Z Z (fun j=>?_) fun j=>?_
  .have j:w.st.low ((ns p).getD i co)=0:=zT j;rw[<-x,am j]at u;refine gA Z (lD [4,5,7,0,8,6,1,2,3,10] (Ti hS hf hl (ns p).length [] ((ns p).getD i co) w hok (x▸A i) j (mB h1) (fun g I=>nomatch I) (Yi _ _)) Z Z Z Z Z (R5 _ _) Z ?_);rintro r J Y ⟨w3,hok3,hst3,rfl,rfl,rfl⟩;refine⟨_,rfl,?_⟩;refine gA Z ?_
   exact⟨h1,w3,[11],⟨hok3,by rw[u];exact hst3⟩,wk Z Z Z (bi (bi (bi (bi (bi (bi (bi (bi ac))))))))
    (Qu Z Z (fun i hi=>gG (by show i<10;omega)) Z Z Z Z Z Z Z Z Z Z (.refl _) (.refl _) (.refl _) (l4 _ _ _ _) (.of_eq (l5 _ _ _))) Z⟩
  .have j: ¬w.st.low ((ns p).getD i co)=0:=zF j;rw[<-x,be j]at u;refine gA Z ?_
   exact⟨h1,w,[10],⟨hok,u.symm⟩,wk Z Z Z (bi (bi (bi (bi (bi (bi (bi (bi ac))))))))
    (Qu Z Z (fun i hi=>gG (by show i<10;omega)) Z Z Z Z Z Z Z Z Z Z (.refl _) (.refl _) (.refl _) Z (.refl _)) Z⟩
 .have h1:(ns p).length<=i:=by simpa using h1
  have hr:Go.Rg.w6 (ns p) (eg p) (fun a=>dW .str w.ring a 0):=by
   have j:=Ip hf.nodup (WY (ns p).length);have C:y i=ik (bt p) (ns p).length (ns p) St.o:=by show ik _ _ ((ns p).take i) _=_;rw[W9 h1]
   have D:(fun a=>dW .str w.ring a 0)=(ik (bt p) (ns p).length (ns p) St.o).ring:=by rw[<-C,<-x];rfl
   rw[D];exact j
  refine gA Z ⟨.inr Z,_,rfl,fH.map 3 Z (.done ⟨.iv (BO w.ring),[],0,[],⟨w.ring,hr,rfl,rfl,rfl⟩,?_⟩)⟩;exact⟨rfl,W2 _,by simp,⟨.of_eq Z,rfl,ac⟩,ac,XM⟩
end Go.Proofs.YtlmhfgbkchnfbaaGreatDoor
namespace Go.Proofs.YtlmhfgbkchnfbaaGreatDoor
open Go Go.Al Go.Proofs.Tryz
theorem RO(l:List aq)(s:aq):Pure prog 134 [.iv (strs l),pS s] (pI (qV (fun x:aq=>lc (s=x)) l)):=by
 refine IB (bc func134 Z (by decide)) ⟨_,_,W8⟩ fun u=>?_;simp only[maxLen]at u;refine ah ab func134 Z (by decide) ntmps134 Z (by simp) Z ?_;refine gA Z ?_
 refine aM 0 l.length (W2 _) (fun i=>⟨[(0,.iv (strs l)),(1,pS s),(7,pI l.length),(8,pI i)],[],0⟩) (fun i=>(l.take i).any (fun x:aq=>lc (s=x))=kw) [] (by simp)
  (wk0 Z Z (bi (bi (bi (bi trivial)))) Z) fun i hi y=>?_
 refine zJ Z Z (fun h1=>?_) fun h1=>?_
 .have h1:i<l.length:=by simpa using h1
  refine zJ Z Z (fun j=>?_) fun j=>?_
  .have j:(fun x:aq=>lc (s=x)) (l.getD i co)=jp:=j;rw[iV y h1 j];exact zU Z
  .have j:(fun x:aq=>lc (s=x)) (l.getD i co)=kw:=j;refine gA Z ⟨h1,(c5 y h1).2 j,[],wk0 Z Z (bi (bi (bi (bi ac)))) Z⟩
 .have h1:l.length<=i:=by simpa using h1
  rw[gy (any_none y h1)];exact zU Z
theorem Oz(l:List aq)(s:aq):(l.any fun x=>lc (s=x))=dX l s:=by
 rw[Yk,bK,Yf];constructor
 .rintro⟨x,hx,h⟩;exact(zT h)▸hx
 .exact fun h=>⟨s,h,decide_eq_true Z⟩
theorem Ga(l:List aq)(s:aq):Pure prog 103 [.iv (strs l),pS s] (pB (dX l s)):=by
 refine ah ab func103 Z (by decide) ntmps103 Z (by simp) Z ?_;refine gA Z (zp (RO l s) ?_);refine gA Z (zL (.of_eq ?_));exact oy (by rw[<-Oz];exact iW _ l)
def pL(m:NM)(r:aw)(l:Lit):Bool:=lc (l.kind=1)&&lc (dW .str m l.atom.rel 0=dW .str m r.head.rel 0)
abbrev R0(m:NM)(r:aw):List AO:=[.cells [.iv (BO m)],aG r.c]
abbrev MM(m:NM)(r:aw):AH:=[(0,io (.cells [.iv (BO m)])),(1,io (aG r.c))]
theorem Mw(m:NM)(r:aw)(l:Lit):bf prog 136 [ag l.c,.ptr 0 0,.ptr 1 0] (R0 m r) (pB (pL m r l)) (MM m r) 2:=by
 refine ak ab func136 Z (by decide) ntmps136 Z (by simp) ?_;refine zJ Z Z (fun h1=>?_) fun h1=>?_
 .have h1:l.kind=1:=zT h1;refine gA Z (zD [] Z (zM ⟨.of_eq (oy (by rw[pL,decide_eq_true h1,Zp])),rfl,ac⟩ ((zO (zK ac)))))
 .have h1: ¬l.kind=1:=zF h1;refine gA Z (zD [] Z (zM ⟨.of_eq (oy (by rw[pL,decide_eq_false h1,YK])),rfl,ac⟩ ((zO (zK ac)))))
abbrev Im:PV:= .cv (.func 136) [] [.ptr 0 0,.ptr 1 0]
theorem Mu(m:NM)(r:aw)(l:List Lit):bf prog 194 [.iv (aW 30 l Lit.c),Im] (R0 m r) (pI (qV (pL m r) l)) (MM m r) 2:=by
 refine qZ (bc func194 Z (by decide)) ⟨_,_,W8⟩ fun u=>?_;simp only[maxLen]at u;refine ak ab func194 Z (by decide) ntmps194 Z (by simp) ?_;refine gA Z ?_
 refine aM 0 l.length (W2 _) (fun i=>⟨[(0,.iv (aW 30 l Lit.c)),(1,Im),(7,pI l.length),(8,pI i)],MM m r,2⟩) (fun i=>(l.take i).any (pL m r)=kw) [] (by simp)
  (zW ((zO (zK trivial)))) fun i hi x=>?_
 refine zJ Z Z (fun h1=>?_) fun h1=>?_
 .have h1:i<l.length:=by simpa using h1
  refine gA Z (zq [0,1] (Mw m r (l.getD i co)) ?_);refine zJ Z Z (fun j=>?_) fun j=>?_
  .have j:pL m r (l.getD i co)=jp:=j;rw[iV x h1 j];refine gA Z (zD [] Z (zW ((zO (zK ac)))))
  .have j:pL m r (l.getD i co)=kw:=j;refine gA Z ⟨h1,(c5 x h1).2 j,[],zW ((zO (zK ac)))⟩
 .have h1:l.length<=i:=by simpa using h1
  rw[gy (any_none x h1)];refine gA Z (zD [] Z (zW ((zO (zK ac)))))
theorem Mv(m:NM)(r:aw)(l:List Lit):bf prog 135 [.iv (aW 30 l Lit.c),Im] (R0 m r) (pB (l.any (pL m r))) (MM m r) 2:=by
 refine ak ab func135 Z (by decide) ntmps135 Z (by simp) ?_;refine gA Z (zq [0,1] (Mu m r l) ?_);refine gA Z (zD [] Z (zM ⟨.of_eq (oy (iW _ l)),rfl,ac⟩ ((zO (zK ac)))))
theorem RF(m:NM)(r:aw):Pure prog 104 [ag r.c,.iv (BO m)] (pB (r.body.any (pL m r))):=by
 refine ah ab func104 Z (by decide) ntmps104 Z (by simp) Z ?_;refine gA Z (zq [1,0] (Mv m r r.body) ?_);exact zU Z
def xg(m:NM)(r:aw)(l:Lit):Bool:=lc (l.kind≠1)&&(named l).any fun t=>lc (dW .str m t 0=dW .str m r.head.rel 0)
def xt(m:NM)(r:aw)(t:Term):Bool:=lc (t.kind=1)&&!dX (lQ r) t.var&&r.body.any (pL m r)
def jT(m:NM)(r:aw):gF:=match r.body.find? (xg m r) with
 |some l=>(70,l.at)
 |none=>if r.head.an.any (xt m r)=jp then(71,r.at_) else gF.z
theorem RB(m:NM)(r:aw)(hb:r.size<=10000000):Pure prog 68 [ag r.c,.iv (BO m)] (ag (jT m r).c):=by
 have C:r.body.length<=10000000:=by have:=Lit.aJ r.body;unfold aw.size at hb;omega
 have I:r.head.an.length<=10000000:=by unfold aw.size at hb;omega
 refine ah ab func68 Z (by decide) ntmps68 Z (by simp) Z ?_;refine gA Z ?_;refine aM 0 r.body.length (W2 _) (fun i=>⟨[(1,.iv (BO m)),(2,.ptr 0 0),(4,.ptr 1 0),(13,.iv (lits r.body)),(14,pI r.body.length),(15,pI i)],[(0,io (aG r.c)),(1,io (aG gF.z.c))],2⟩) (fun i=>(r.body.take i).any (xg m r)=kw) [] (by simp)
  (zW (zK (zK trivial))) fun i hi A=>?_
 refine zJ Z Z (fun h1=>?_) fun h1=>?_
 .have h1:i<r.body.length:=by simpa using h1
  have G:(r.body.getD i co).size<=10000000:=by have:=Lit.bT r.body i h1;unfold aw.size at hb;omega
  have D:=mj (r.body.getD i co);refine gA Z (zp (Ey (r.body.getD i co) (by omega)) ?_);refine gA Z ?_;refine aM 0 (named (r.body.getD i co)).length (W2 _) (fun k=>⟨[(1,.iv (BO m)),(2,.ptr 0 0),(4,.ptr 1 0),(6,.ptr 2 0),(13,.iv (lits r.body)),(14,pI r.body.length),(15,pI i),(20,.iv (strs (named (r.body.getD i co)))),(21,pI (named (r.body.getD i co)).length),(22,pI k)],[(0,io (aG r.c)),(1,io (aG gF.z.c)),(2,io (aG (r.body.getD i co).c))],3⟩)
   (fun k=>lc ((r.body.getD i co).kind≠1)=kw∨((named (r.body.getD i co)).take k).any (fun t=>lc (dW .str m t 0=dW .str m r.head.rel 0))=kw) [] (.inr (by simp))
   (zW (zK (zK (zK trivial)))) fun k hk hK=>?_
  refine zJ Z Z (fun j=>?_) fun j=>?_
  .have j:k<(named (r.body.getD i co)).length:=by simpa using j
   refine zJ Z Z (fun u=>?_) fun u=>?_
   .have u: ¬(r.body.getD i co).kind=1:=by simpa using u
    have hK:=hK.resolve_left (by simpa using u);refine zJ Z Z (fun x=>?_) fun x=>?_
    .have x:dW .str m ((named (r.body.getD i co)).getD k co) 0=dW .str m r.head.rel 0:=zT x;have hs:xg m r (r.body.getD i co)=jp:=by
      rw[xg,decide_eq_true u,Zp];exact FG j (decide_eq_true x)
     rw[jT,oN A h1 hs];exact zU Z
    .have x: ¬dW .str m ((named (r.body.getD i co)).getD k co) 0=dW .str m r.head.rel 0:=zF x;refine gA Z ⟨j,.inr ((c5 hK j).2 (decide_eq_false x)),[],zW (zK (zK (zK ac)))⟩
   .have u:(r.body.getD i co).kind=1:=by simpa using u
    refine gA Z ⟨j,.inl (decide_eq_false fun h=>h u),[],zW (zK (zK (zK ac)))⟩
  .have j:(named (r.body.getD i co)).length<=k:=by simpa using j
   have hs:xg m r (r.body.getD i co)=kw:=by
    rcases hK with hK|hK
    .rw[xg,hK,YK]
    .rw[xg,any_none hK j,Zi]
   refine gA Z ⟨h1,(c5 A h1).2 hs,[],zW (zK (zK ac))⟩
 have h1:r.body.length<=i:=by simpa using h1
 have B:r.body.find? (xg m r)=is:=mD (any_none A h1);rw[jT,B];refine gA Z (zp (Wl r hb) ?_);refine gA Z ?_;refine aM 0 r.head.an.length (W2 _) (fun k=>⟨[(1,.iv (BO m)),(2,.ptr 0 0),(4,.ptr 1 0),(9,.iv (strs (lQ r))),(49,.iv (aW 5 r.head.an Term.c)),(50,pI r.head.an.length),(51,pI k)],[(0,io (aG r.c)),(1,io (aG gF.z.c))],2⟩) (fun k=>(r.head.an.take k).any (xt m r)=kw) [] (by simp)
  (zW (zK (zK trivial))) fun k hk hK=>?_
 refine zJ Z Z (fun j=>?_) fun j=>?_
 .have j:k<r.head.an.length:=by simpa using j
  have no:xt m r (r.head.an.getD k co)=kw->(r.head.an.take (k+1)).any (xt m r)=kw:=(c5 hK j).2;refine zJ Z Z (fun u=>?_) fun u=>?_
  .have u:(r.head.an.getD k co).kind=1:=zT u;refine gA Z (zp (Ga (lQ r) (r.head.an.getD k co).var) ?_);refine zJ Z Z (fun x=>?_) fun x=>?_
   .have x:(!dX (lQ r) (r.head.an.getD k co).var)=jp:=x;refine gA Z (zp (RF m r) ?_);refine zJ Z Z (fun y=>?_) fun y=>?_
    .have y:r.body.any (pL m r)=jp:=y;rw[am (FG j (by rw[xt,decide_eq_true u,x,y];rfl))];exact zU Z
    .have y:r.body.any (pL m r)=kw:=y;refine gA Z ⟨j,no (by rw[xt,y,Zi]),[],zW (zK (zK ac))⟩
   .have x:(!dX (lQ r) (r.head.an.getD k co).var)=kw:=x;refine gA Z ⟨j,no (by rw[xt,x,Zi,YK]),[],zW (zK (zK ac))⟩
  .have u: ¬(r.head.an.getD k co).kind=1:=zF u;refine gA Z ⟨j,no (by rw[xt,decide_eq_false u,YK,YK]),[],zW (zK (zK ac))⟩
 .have j:r.head.an.length<=k:=by simpa using j
  rw[be (by rw[any_none hK j];decide)];exact zU Z
theorem find_congr{α:Type}{f g:α->Bool}: ∀{l:List α},(∀x∈l,f x=g x)->l.find? f=l.find? g
 | [],_=>rfl
 |x::l,h=>by
  rw[List.find?_cons,List.find?_cons,h x W8,find_congr fun y j=>h y (W5 _ j)]
theorem wU{α:Type}{f g:α->Bool}{l:List α}(h: ∀x∈l,f x=g x):l.any f=l.any g:=by
 rw[Yk,Yf,Yf];exact⟨fun⟨x,hx,h1⟩=>⟨x,hx,by rw[<-h x hx];exact h1⟩,fun⟨x,hx,h1⟩=>⟨x,hx,by rw[h x hx];exact h1⟩⟩
theorem zH{p:Prog}{a:aq}(h:a∈p.aF.map Decl.name):a∈ns p:=by rw[ns,mn];exact h
theorem RZ{p:Prog}(hf:dV p){m:NM}(hR:Go.Rg.w6 (ns p) (eg p) (fun a=>dW .str m a 0)){r:aw}(hr:r∈p.rules):r.body.any (pL m r)=Di p r:=by
 refine wU fun l hl=>?_;rw[pL];by_cases hk:l.kind=1
 .have j:l.atom.rel∈named l:=by rw[rQ,am (.inl hk)];exact YT _
  rw[tD hR (zH (hf.lits r hr l hl _ j)) (zH (hf.E9 r hr))]
 .rw[decide_eq_false hk];rfl
theorem Ho{p:Prog}(hf:dV p){m:NM}(hR:Go.Rg.w6 (ns p) (eg p) (fun a=>dW .str m a 0)){r:aw}(hr:r∈p.rules):jT m r=yZ p r:=by
 have h1:r.body.find? (xg m r)=y8 p r:=find_congr fun l hl=>by
  rw[xg];congr 1;exact wU fun t ht=>(tD hR (zH (hf.lits r hr l hl t ht)) (zH (hf.E9 r hr))).symm
 have j:r.head.an.any (xt m r)=(tn r&&Di p r):=by
  rw[<-RZ hf hR hr,tn];have:xt m r=fun t=>(lc (t.kind=1)&&!dX (lQ r) t.var)&&r.body.any (pL m r):=rfl;rw[this];generalize r.body.any (pL m r)=c;cases c<;>simp
 rw[jT,yZ,h1];cases y8 p r with
 |some l=>rfl
 |none=>
  simp only[j,XE]
theorem RI(hS:fy){p:Prog}(hb:p.fit)(h: ¬(eQ p).1=0):Pure prog 65 [ag p.c] (.aY [.iv (.v (.map is)),pB kw]):=by
 have:=P3 hS p hb;rwa[wa,be h,decide_eq_false h]at this
theorem RH(hS:fy){p:Prog}(hb:p.fit)(h:(eQ p).1=0):Pure prog 65 [ag p.c] (.aY [.iv (yv (ct p (cZ p))),pB jp]):=by
 have:=P3 hS p hb;rwa[wa,am h,decide_eq_true h]at this
theorem u9{α β:Type}(f:α->List β)(g:α->Nat)(h: ∀a,(f a).length<=g a): ∀l:List α,(l.flatMap f).length<=(l.map g).sum
 | []=>WY _
 |a::l=>by
  have h1:=u9 f g h l;have j:=h a;rw[XS,WO,WW,Ya];omega
theorem gq: ∀l:List Lit,Lit.aD l=(l.map Lit.size).sum
 | []=>rfl
 |x::l=>by rw[Lit.aD,gq l,WW,Ya]
theorem GV{p:Prog}(hs:p.size<=10000000):(cZ p).length<=100000000:=by
 have h1:=u9 (fun r:aw=>r.body.flatMap fun l=>(named l).map fun t=>(r.head.rel,t,nB l)) aw.size (fun r=>by
  have:=u9 (fun l=>(named l).map fun t=>(r.head.rel,t,nB l)) Lit.size (fun l=>by rw[Xk];exact mj l) r.body;rw[<-gq]at this
  unfold aw.size;omega) p.rules
 unfold Prog.size at hs;show(p.rules.flatMap _).length<=_;omega
theorem Ih(hS:fy)(p:Prog)(hb:p.fit)(hs:p.size<=10000000):Pure prog 37 [ag p.c] (ag (gP p).c):=by
 by_cases A:(eQ p).1=0;rotate_left
 .rw[gP,am A];refine ah ab func37 Z (by decide) ntmps37 Z (by simp) Z ?_;refine gA Z (zp (RI hS hb A) ?_);refine zE Z Z (fun B=>?_) fun B=>?_
  .cases B
  refine gA Z (zp (c24 p hb) ?_);exact zU Z
 have hf:=Fi A;have I:p.rules.length<=1000000000:=hb.2.1;rw[gP,be (by simpa using A)];refine ah ab func37 Z (by decide) ntmps37 Z (by simp) Z ?_;refine gA Z (zp (RH hS hb A) ?_);refine zJ Z Z (fun B=>?_) fun B=>?_
 .cases B
 refine gA Z (lD [] (RG hS hf (GV hs)) Z Z Z Z Z Z Z ?_);rintro r J Y ⟨m,hR,rfl,rfl,rfl⟩;refine⟨_,rfl,?_⟩;have G:p.rules.map (jT m)=p.rules.map (yZ p):=X6 fun r hr=>Ho hf hR hr;rw[<-G]
 have y: ∀i,i<p.rules.length->(p.rules.map (jT m)).getD i co=jT m (p.rules.getD i co):=fun i hi=>by
  rw[WQ,WX,WU hi,WQ,WU hi];rfl
 have j:(p.rules.map (jT m)).length=p.rules.length:=Xk _;refine gA Z ?_;refine aM 0 p.rules.length (W2 _) (fun i=>⟨[(1,.ptr 0 0),(2,.ptr 1 0),(5,.iv (BO m)),(21,.iv (aW 5 p.rules aw.c)),(22,pI p.rules.length),(23,pI i)],[(0,io (aG p.c)),(1,io (aG gF.z.c))],2⟩) (fun i=>((p.rules.map (jT m)).take i).any (fun d=>lc (d.1≠0))=kw) [] (by simp)
  (zW (zK (zK trivial))) fun i hi C=>?_
 refine zJ Z Z (fun h1=>?_) fun h1=>?_
 .have h1:i<p.rules.length:=by simpa using h1
  have x:=hb.2.2 _ (mB h1);have D:=y i h1;refine gA Z (zp (RB m (p.rules.getD i co) x.1) ?_);refine zJ Z Z (fun u=>?_) fun u=>?_
  .have u: ¬(jT m (p.rules.getD i co)).1=0:=by simpa using u
   rw[oN C (by rw[j];exact h1) (by rw[D];exact decide_eq_true u),D];exact zU Z
  .have u:(jT m (p.rules.getD i co)).1=0:=by simpa using u
   refine gA Z ⟨h1,(c5 C (by rw[j];exact h1)).2 (by rw[D];simpa using u),[],zW (zK (zK ac))⟩
 .have h1:p.rules.length<=i:=by simpa using h1
  rw[mD (any_none C (by rw[j];exact h1))];exact zU Z
end Go.Proofs.YtlmhfgbkchnfbaaGreatDoor
namespace Go.Proofs.YtlmhfgbkchnfbaaGreatDoor
open Go Go.Al Go.Proofs.Tryz Go.Bo
section
theorem VU(hS:fy)(p:Prog)(hb:p.fit)(hs:p.size<=10000000)(h0:(gP p).1=0):bf prog 18 [ag p.c] [] (.aY [.ptr 1 0,pI 0]) (bH p 0 []) 2:=by
 refine ak ab func18 Z (by decide) ntmps18 Z (by simp) ?_;refine gA Z (aE (Ih hS p hb hs) Z Z Z Z Z Z ?_);refine gA Z ?_;refine WN (fun j=>?_) (fun j=>?_)
 .exact absurd h0 (by simpa using j)
 refine gA Z (aE (H4 p (by omega)) Z Z Z Z Z Z ?_);refine gA Z (ar [1,2] (by first|exact .inr Z|exact .inl Z) Z (wk Z Z Z ⟨.of_eq Z,rfl,ac⟩ (Sr Z JM Z ⟨⟨_,rfl,.of_eq Z⟩,WL Z,rfl,ac⟩) Z))
abbrev Dw(p:Prog)(S:List Fact)(l:List (bZ Fact)):PV:= .aY [.iv (aW 3 (if iU aV (okF p) S l=0 then dI aV S l else[]) fF),pI (iU aV (okF p) S l)]
theorem Gf{p:Prog}{S:List Fact}{l:List (bZ Fact)}(h:iU aV (okF p) S l=0):(((mapOf (ch S l)).map (·.2)).Perm (dI aV S l))∧w5 aV (dI aV S l)∧(∀x∈dI aV S l,x.2.args.length<=1000000000)∧(dI aV S l).length<=100000000:=by
 have j:=kv.1 h;refine⟨?_,pf pb S l,fun x u=>?_,by have:=HE (c:=aV) S l;omega⟩
 .rw[XX];have:(Prod.snd ∘ fun x:bZ Fact=>(cA x.2,x))=id:=rfl;rw[this,List.map_id];exact nr pb S l
 .have:x.2.args.length<=8:=iR (j.2.1 _ (iA ((jE pb (a:=x.1) (f:=x.2)).1 u).1));omega
section
variable (p:Prog) (n:Nat) {m:FM} {S:List Fact} (l:List (bZ Fact)) (hb:p.aF.length<=1000000000) (hk:bY cA m S) (hS:Go.Bo.dV aV (okF p) S) (hF: ∀x∈l,x.2.args.length<=1000000000)
include hb hk hS hF
end
theorem RQ(p:Prog)(n:Nat)(m:FM):bf prog 23 [.ptr 1 0] (bO p n m) (.ptr 3 0) [(0,io (bz m)),(1,io (cm p n 0)),(2,io (bz m)),(3,io (cm p n 2))] 4:=by
 refine ak ab func23 Z (by decide) ntmps23 Z (by simp) ?_;refine gA Z ?_;refine WN (fun j=>?_) (fun j=>?_)
 .exact absurd j (by decide)
 refine gA Z (bg ab [0] (Kd (o:=bz m) SK (bc func44 Z (by decide)) Z) Z Z Z Z Z Z Z Z Z Z Z Z (by(repeat' (first|exact ac|exact rfl|exact ae.refl _|exact ae.bk (by assumption)|apply WN))<;>first|omega|(simp only[WV];omega)|(simp;done)|(simp;omega)) Z (by(repeat' (first|exact ac|exact rfl|exact ae.refl _|exact ae.bk (by assumption)|apply WN))<;>first|omega|(simp only[WV];omega)|(simp;done)|(simp;omega)) ?_);refine gA Z (ar [2,3] (by first|exact .inr Z|exact .inl Z) Z (wk Z Z Z ⟨.of_eq Z,rfl,ac⟩ (hM Z Z Z ⟨⟨_,rfl,.of_eq Z⟩,WL Z,rfl,hM Z Z Z ⟨⟨_,rfl,.of_eq Z⟩,WL Z,rfl,ac⟩⟩) Z))
end
section
def A6(m:FM)(x:bZ Fact):FM:=if x.1=jp then cP kF m (cA x.2) x.2 else lj kF m (cA x.2)
def HS(S:List Fact)(x:bZ Fact):List Fact:=if x.1=jp then x.2::S else S.erase x.2
def nN(m:FM)(M:CM):List Nat->FM
 | []=>m
 |j::vs=>A6 (nN m M vs) (mH M j)
def lY(S:List Fact)(M:CM):List Nat->List Fact
 | []=>S
 |j::vs=>HS (lY S M vs) (mH M j)
section
variable {S:List Fact} {T:List (bZ Fact)}
theorem DX{j:Nat}(hj:j<T.length): ∃x,T[j]? =io x∧mH (mapOf T) j=x:=by
 refine⟨T[j],WU hj,?_⟩;unfold mH mapOf;rw[WQ,WX,WU hj];rfl
structure Vv (S:List Fact) (T:List (bZ Fact)):Prop where
 nd:(T.map (·.2)).Nodup
 VB: ∀x∈T,lc (x.2∈S)≠x.1
 s8: ∀f∈S,f.args.length<=8
 t8: ∀x∈T,x.2.args.length<=8
theorem Vv.one(h:Vv S T){i j:Nat}{x y:bZ Fact}(hi:T[i]? =io x)(hj:T[j]? =io y)(e:x.2=y.2):i=j:=by
 have D:=X9.1 h.nd;obtain⟨A,u⟩:=WT.1 hi;obtain⟨C,B⟩:=WT.1 hj;rcases YZ i j with g|g|g
 .exact absurd (by rw[YB,YB,u,B];exact e) (D i j (by simpa using A) (by simpa using C) g)
 .exact g
 .exact absurd (by rw[YB,YB,u,B];exact e.symm) (D j i (by simpa using C) (by simpa using A) g)
theorem rj(h:Vv S T)(hS:S.Nodup): ∀{vs:List Nat},vs.Nodup->(∀j∈vs,j<T.length)->(lY S (mapOf T) vs).Nodup∧ ∀f,f∈lY S (mapOf T) vs↔(∃j∈vs,T[j]? =io (jp,f))∨(f∈S∧ ¬ ∃j∈vs,T[j]? =io (kw,f))
 | [],_,_=>⟨hS,fun f=>by simp[lY]⟩
 |j::vs,hn,hv=>by
  rw[XB]at hn;obtain⟨i1,i2⟩:=rj h hS hn.2 fun i hi=>hv i (W5 _ hi);obtain⟨x,y,D⟩:=DX (hv j (W8 ..));have C:=h.VB x (Xs y);have u: ∀i∈vs,∀b,T[i]? ≠io (b,x.2):=fun i hi b e=>hn.1 ((h.one e y Z)▸hi);simp only[lY,D,HS];obtain⟨b,g⟩:=x
  cases b with
  |true=>
   simp only[if_true];have A:g∉S:=fun m=>C (decide_eq_true m)
   have B:g∉lY S (mapOf T) vs:=fun m=>by
    rcases(i2 g).1 m with⟨i,hi,e⟩|⟨m2,_⟩
    .exact u i hi jp e
    .exact A m2
   refine⟨XB.2 ⟨B,i1⟩,fun f=>?_⟩;rw[Xa,i2];constructor
   .rintro(rfl|⟨i,hi,e⟩|⟨m,k⟩)
    .exact .inl ⟨j,W8 ..,y⟩
    .exact .inl ⟨i,W5 _ hi,e⟩
    .refine .inr ⟨m,?_⟩;rintro⟨i,hi,e⟩;rcases Xa.1 hi with rfl|hi
     .rw[y]at e;cases e
     .exact k ⟨i,hi,e⟩
   .rintro(⟨i,hi,e⟩|⟨m,k⟩)
    .rcases Xa.1 hi with rfl|hi
     .rw[y]at e;cases e;exact .inl Z
     .exact .inr (.inl ⟨i,hi,e⟩)
    .exact .inr (.inr ⟨m,fun⟨i,hi,e⟩=>k ⟨i,W5 _ hi,e⟩⟩)
  |false=>
   simp only[YE,if_false];refine⟨i1.erase g,fun f=>?_⟩;rw[i1.mem_erase_iff,i2];constructor
   .rintro⟨hne,⟨i,hi,e⟩|⟨m,k⟩⟩
    .exact .inl ⟨i,W5 _ hi,e⟩
    .refine .inr ⟨m,?_⟩;rintro⟨i,hi,e⟩;rcases Xa.1 hi with rfl|hi
     .rw[y]at e;cases e;exact hne Z
     .exact k ⟨i,hi,e⟩
   .rintro(⟨i,hi,e⟩|⟨m,k⟩)
    .rcases Xa.1 hi with rfl|hi
     .rw[y]at e;cases e
     .refine⟨?_,.inl ⟨i,hi,e⟩⟩;rintro rfl;exact u i hi jp e
    .refine⟨?_,.inr ⟨m,fun⟨i,hi,e⟩=>k ⟨i,W5 _ hi,e⟩⟩⟩;rintro rfl;exact k ⟨j,W8 ..,y⟩
theorem ui{m:FM}(hk:bY cA m S)(h:Vv S T)(hS:S.Nodup): ∀{vs:List Nat},vs.Nodup->(∀j∈vs,j<T.length)->bY cA (nN m (mapOf T) vs) (lY S (mapOf T) vs)∧ ∀f∈lY S (mapOf T) vs,f.args.length<=8
 | [],_,_=>⟨hk,h.s8⟩
 |j::vs,hn,hv=>by
  have A:=XB.1 hn;obtain⟨I,D⟩:=ui hk h hS A.2 fun i hi=>hv i (W5 _ hi);have Y:=(rj h hS A.2 fun i hi=>hv i (W5 _ hi)).2;obtain⟨x,G,J⟩:=DX (hv j (W8 ..));have B:=Xs G;have C:=h.VB x B;have y: ∀u∈lY S (mapOf T) vs,cA u=cA x.2->u=x.2:=fun u hu e=>rX (D u hu) e;simp only[nN,lY,J,A6,HS];by_cases hb:x.1=jp
  .rw[am hb,am hb];refine⟨I.put y fun m2=>?_,fun f hf=>?_⟩
   .rcases(Y x.2).1 m2 with⟨i,hi,e⟩|⟨m3,_⟩
    .exact A.1 (h.one e G Z▸hi)
    .exact C (by rw[hb];exact decide_eq_true m3)
   .rcases Xa.1 hf with rfl|hf
    .exact h.t8 x B
    .exact D f hf
  .rw[be hb,be hb];exact⟨I.del y,fun f hf=>D f (List.mem_of_mem_erase hf)⟩
end
theorem JT{p:Prog}{S:List Fact}{l:List (bZ Fact)}(hS:Go.Bo.dV aV (okF p) S)(h:iU aV (okF p) S l=0):Vv S (ch S l):=by
 have y:(ch S l).Perm (dI aV S l):=nr pb S l;have A:=kv.1 h;have u: ∀x∈ch S l,dN l x.2=io x.1∧lc (x.2∈S)≠x.1:=fun x j=>(jE pb (a:=x.1) (f:=x.2)).1 (y.mem_iff.1 j);exact⟨((y.map (·.2)).nodup_iff).2 ((w5.facts (pf pb S l)).nodup pb),fun x j=>(u x j).2,fun f hf=>iR (hS.ok f hf),fun x j=>iR (A.2.1 _ (iA (u x j).1))⟩
theorem Hf{p:Prog}{m:FM}{S:List Fact}{l:List (bZ Fact)}(hk:bY cA m S)(hS:Go.Bo.dV aV (okF p) S)(h:iU aV (okF p) S l=0){vs:List Nat}(A:vs.Nodup)(v2: ∀j∈vs,j<(ch S l).length)(v3: ∀j,j<(ch S l).length->j∈vs):
  bY cA (nN m (mapOf (ch S l)) vs) (fX aV S l):=by
 have x:=JT hS h;have u:=hS.AA.nodup pb;have B:(ch S l).Perm (dI aV S l):=nr pb S l;obtain⟨C,_⟩:=ui hk x u A v2;obtain⟨G,I⟩:=rj x u A v2;refine C.perm ((Yw G ((ry pb S l).nodup pb)).2 fun f=>?_);have hT: ∀b:Bool,(∃j∈vs,(ch S l)[j]? =io (b,f))↔dN l f=io b∧lc (f∈S)≠b:=fun b=>by
  rw[<-jE pb,<-B.mem_iff];constructor
  .rintro⟨j,_,e⟩;exact Xs e
  .intro D;obtain⟨j,y⟩:=XH D;exact⟨j,v3 j (WT.1 y).1,y⟩
 rw[I,rT pb,hT,hT];cases e:dN l f with
 |none=>simp
 |some b=>cases b<;>by_cases g:f∈S<;>simp[g]
theorem De(p:Prog)(n:Nat){m:FM}{S:List Fact}(l:List (bZ Fact))(hb:p.aF.length<=1000000000)(hk:bY cA m S)(hS:Go.Bo.dV aV (okF p) S)(hF: ∀x∈l,x.2.args.length<=1000000000)(hn:n<=1000000000000):
  Al.Fn prog 25 [.ptr 1 0,.iv (aW 3 l fF)] (bO p n m) fun r h k=> ∃m',bY cA m' (j5 aV (okF p) (S,n) l).1∧r=Dw p S l∧h=bH p (j5 aV (okF p) (S,n) l).2 m'∧k=2:=by
 have h1:=VV p n l hb hk hS hF;by_cases u:iU aV (okF p) S l=0;rotate_left
 .rw[uF Z u]at h1;have e:Dw p S l= .aY [.iv (aW 3 [] fF),pI (iU aV (okF p) S l)]:=by unfold Dw;rw[be u]
  have Y:j5 aV (okF p) (S,n) l=(S,n):=by unfold j5;rw[be u]
  rw[e,Y];refine lU ab func25 Z (by decide) ntmps25 Z (by simp) ?_;refine gA Z (ai [0,1] (h1) Z Z Z Z Z Z Z Z ?_);refine gA Z ?_;refine WN (fun J=>?_) (fun J=>?_);rotate_left
  .exact absurd (by simpa using J) u
  refine gA Z (dz [] (.inr Z) Z ⟨m,hk,rfl,rfl,rfl⟩ (wk Z Z Z ⟨.aY ⟨.nil _ _,.refl _,ac⟩,rfl,ac⟩ (hM Z Z Z ⟨⟨_,rfl,.of_eq Z⟩,WL Z,rfl,ac⟩) Z))
 obtain⟨q1,q2,q3,q4⟩:=Gf u;have d0:=q1.length_eq;rw[Xk,Xk]at d0;rw[EU u]at h1;have e:Dw p S l= .aY [.iv (aW 3 (dI aV S l) fF),pI 0]:=by unfold Dw;rw[am u,u]
 have Y:j5 aV (okF p) (S,n) l=(fX aV S l,n+1):=by unfold j5;rw[am u]
 rw[e,Y];have b0: ∀x∈ch S l,x.2.args.length<=8:=(JT hS u).t8;refine lU ab func25 Z (by decide) ntmps25 Z (by simp) ?_;refine gA Z (ai [0,1] (h1) Z Z Z Z Z Z Z Z ?_);refine gA Z ?_;refine WN (fun J=>?_) (fun J=>?_)
 .exact absurd J (by decide)
 refine gA Z ?_;refine gd (mapOf (ch S l)) (fun vs=>⟨[(0,.ptr 1 0),(6,.iv (Cy (mapOf (ch S l)))),(20,.ptr 2 0)],[(0,io (bz (nN m (mapOf (ch S l)) vs))),(1,io (cm p n 0)),(2,io (.bX kF Cz (mapOf (ch S l)) vs is))],3⟩) (fun vs=>vs.Nodup∧ ∀j∈vs,j<(mapOf (ch S l)).length) [] ⟨XM,by simp⟩
  (wk Z Z Z (bi (bi (bi trivial))) (hM Z Z Z ⟨⟨_,rfl,.of_eq Z⟩,WL Z,rfl,hI Z Z (.inl Z) Z trivial⟩) Z) fun vs hJ=>?_
 obtain⟨v1,v2⟩:=hJ;refine gf Z ac (dS Z Z Z Z Z (by decide) (fun D=>?_) fun j x B C=>?_)
 .have c0:=Hf hk hS u v1 (fun j C=>by have:=v2 j C;rwa[Xk]at this) (fun j C=>D j (by rwa[Xk]));refine gA Z (aE (Ue q1 q2 q3 q4) Z Z Z Z Z Z ?_);refine gA Z (dz [] (.inr Z) Z ⟨_,c0,rfl,rfl,rfl⟩ (wk Z Z Z (bi ac) (hM Z Z Z ⟨⟨_,rfl,.of_eq Z⟩,WL Z,rfl,ac⟩) Z))
 .have g0:x.2=mH (mapOf (ch S l)) j:=by rw[mH,WQ,B];rfl
  have a0: ∀A,A=j::vs->A.Nodup∧ ∀i∈A,i<(mapOf (ch S l)).length:=fun A e=>e▸⟨XB.2 ⟨C,v1⟩,fun i hi=>(Xa.1 hi).elim (fun h=>h▸(WT.1 B).1) (v2 i)⟩;have G:=(WT.1 B).1;rw[Xk]at G;obtain⟨y,hy,f0⟩:=DX G
  have e0:x=(cA y.2,y):=by
   have:(mapOf (ch S l))[j]? =io (cA y.2,y):=by unfold mapOf;rw[WX,hy];rfl
   rw[this]at B;exact(XP B).symm
  subst e0;have i0:=b0 y (Xs hy);have I:nN m (mapOf (ch S l)) (j::vs)=A6 (nN m (mapOf (ch S l)) vs) y:=by rw[nN,f0]
  refine gA Z ?_;refine WN (fun g1=>?_) (fun g1=>?_)
  .have g1:y.1=jp:=g1;refine gA Z (bg ab [] (Pure.nX (mU y.2 (by omega))) Z Z Z Z Z Z Z Z Z Z Z Z (by(repeat' (first|exact ac|exact rfl|exact ae.refl _|exact ae.bk (by assumption)|apply WN))<;>first|omega|(simp only[WV];omega)|(simp;done)|(simp;omega)) Z (by(repeat' (first|exact ac|exact rfl|exact ae.refl _|exact ae.bk (by assumption)|apply WN))<;>first|omega|(simp only[WV];omega)|(simp;done)|(simp;omega)) ?_);refine gf Z ?_ ?_
   .repeat' (first|exact ac|exact rfl|exact JO _|exact ae.refl _|apply WN)
   exact⟨j,_,B,C,a0 _ Z,[],wk Z Z Z (bi (bi (bi ac))) (hM Z (by rw[I,A6,am g1];exact congrArg (cP kF (nN m (mapOf (ch S l)) vs) (cA y.2)) (JU y.2)) Z ⟨⟨_,rfl,.of_eq Z⟩,WL Z,rfl,hI Z Z (.inr Z) Z ac⟩) Z⟩
  .have g1:y.1=kw:=g1;refine gA Z ⟨j,_,B,C,a0 _ Z,[],wk Z Z Z (bi (bi (bi ac))) (hM Z (by rw[I,A6,be (by rw[g1];decide)];rfl) Z ⟨⟨_,rfl,.of_eq Z⟩,WL Z,rfl,hI Z Z (.inr Z) Z ac⟩) Z⟩
end
section
abbrev Kc:AO:= .cells [kU]
theorem VY(x y:Fact)(j:x.args.length<=1000000000)(u:y.args.length<=1000000000):bf prog 167 [ag x.c,ag y.c,.ptr 0 0] [Kc] (pB (lc (aV x y=0))) [(0,io Kc)] 1:=by
 refine ak ab func167 Z (by decide) ntmps167 Z (by simp) ?_;refine gA Z (aE (pZ x y j u) Z Z Z Z Z Z ?_);refine gA Z (ar [] (by first|exact .inr Z|exact .inl Z) Z (wk Z Z Z (bi ac) ⟨⟨_,rfl,.of_eq Z⟩,WL Z,rfl,ac⟩ Z))
section
variable {L:List Fact} (hs:rk aV L) (hF:xy L) (hl:L.length<=1000000000)
include hs hF hl
theorem Ie:bf prog 166 [pO L,.cv (.func 167) [] [.ptr 0 0]] [Kc] (pO L) [(0,io Kc)] 1:=by
 refine ak ab func166 Z (by decide) ntmps166 Z (by simp) ?_;refine gA Z ?_;refine WN (fun y=>?_) (fun y=>?_)
 .refine gA Z (ar [] (by first|exact .inr Z|exact .inl Z) Z (wk Z Z Z (bi ac) ⟨⟨_,rfl,.of_eq Z⟩,WL Z,rfl,ac⟩ Z))
 refine gA Z ?_;refine aM 1 (max 1 L.length) (Nat.le_max_left _ _) (fun i=>⟨[(0,pO L),(1,.cv (.func 167) [] [.ptr 0 0]),(5,pI i)],[(0,io Kc)],1⟩) (fun i=>1<=i) [] (WY _)
  (wk Z Z Z (bi (bi (bi trivial))) ⟨⟨_,rfl,.of_eq Z⟩,WL Z,rfl,ac⟩ Z) fun i hi A=>?_
 refine gA Z ?_;refine WN (fun h1=>?_) (fun h1=>?_)
 .have h1:i<L.length:=by simpa using h1
  have e:((i:Int)-1).toNat=i-1:=by omega
  refine gA Z (bg ab [0] (VY (L.getD i co) (L.getD ((i:Int)-1).toNat co) (hF.at (by omega)) (hF.at (by omega))) Z Z Z Z Z Z Z Z Z Z Z Z (by(repeat' (first|exact ac|exact rfl|exact ae.refl _|exact ae.bk (by assumption)|apply WN))<;>first|omega|(simp only[WV];omega)|(simp;done)|(simp;omega)) Z (by(repeat' (first|exact ac|exact rfl|exact ae.refl _|exact ae.bk (by assumption)|apply WN))<;>first|omega|(simp only[WV];omega)|(simp;done)|(simp;omega)) ?_);refine gA Z ?_;refine WN (fun j=>?_) (fun j=>?_)
  .have j:aV (L.getD i co) (L.getD ((i:Int)-1).toNat co)=0:=of_decide_eq_true j;rw[e]at j;have x:=(X9.1 hs) (i-1) i (by omega) h1 (by omega);have u:=(pb.eq _ _).1 j;rw[WQ,WQ,WU h1,WU (by omega:i-1<L.length)]at u;have u:L[i]=L[i-1]:=u;rw[u]at x;exact absurd x (pb.Sp _)
  .refine gA Z ?_;exact⟨by omega,by omega,[],wk Z Z Z (bi (bi (bi ac))) ⟨⟨_,rfl,.of_eq Z⟩,WL Z,rfl,ac⟩ Z⟩
 .refine gA Z (ar [] (by first|exact .inr Z|exact .inl Z) Z (wk Z Z Z (bi ac) ⟨⟨_,rfl,.of_eq Z⟩,WL Z,rfl,ac⟩ Z))
omit hs hF in
theorem UC:Pure prog 165 [pO L] (pO L):=by
 refine ah ab func165 Z (by decide) ntmps165 Z (by simp) Z ?_;refine gA Z (aH (by first|exact .inr Z|exact .inl Z) Z ?_);exact .bL (by simp) (fun k _=>rfl)
theorem Ev:Pure prog 118 [pO L,kU] (pO L):=by
 refine ah ab func118 Z (by decide) ntmps118 Z (by simp) Z ?_;refine gA Z (aE (MF L (by omega)) Z Z Z Z Z Z ?_);refine gA Z (aE (HZ (Tl hs) hF (by omega)) Z Z Z Z Z Z ?_);refine gA Z (ai [0] (Ie hs hF hl) Z Z Z Z Z Z Z Z ?_);refine gA Z (aE (UC hl) Z Z Z Z Z Z ?_);refine gA Z (aH (by first|exact .inr Z|exact .inl Z) Z (.of_eq ?_));rfl
end
def SC:List Fact->List Fact->Int
 | [],_=>1
 |_::_,[]=> -1
 |x::_,y::_=>aV x y
theorem Da: ∀(A B:List Fact) (C:xy A) (D:xy B),Pure prog 119 [pO A,pO B] (pI (SC A B))
 | [],B,_,_=>by
  refine ah ab func119 Z (by decide) ntmps119 Z (by simp) Z ?_;refine gA Z ?_;refine WN (fun j=>?_) (fun j=>?_)
  .refine gA Z (aH (by first|exact .inr Z|exact .inl Z) Z (.of_eq ?_));rfl
  .exact absurd j (by simp)
 |x::A,[],_,_=>by
  refine ah ab func119 Z (by decide) ntmps119 Z (by simp) Z ?_;refine gA Z ?_;refine WN (fun j=>?_) (fun j=>?_)
  .exact absurd j (by simp;omega)
  refine gA Z ?_;refine WN (fun u=>?_) (fun u=>?_)
  .refine gA Z (aH (by first|exact .inr Z|exact .inl Z) Z (.of_eq ?_));rfl
  .exact absurd u (by simp)
 |x::A,y::B,C,D=>by
  refine ah ab func119 Z (by decide) ntmps119 Z (by simp) Z ?_;refine gA Z ?_;refine WN (fun j=>?_) (fun j=>?_)
  .exact absurd j (by simp;omega)
  refine gA Z ?_;refine WN (fun u=>?_) (fun u=>?_)
  .exact absurd u (by simp;omega)
  refine gA Z (bg ab [] (Pure.nX (pZ x y (C x (W8 ..)) (D y (W8 ..)))) Z Z Z Z Z Z Z Z Z Z Z Z (by(repeat' (first|exact ac|exact rfl|exact ae.refl _|exact ae.bk (by assumption)|apply WN))<;>first|omega|(simp only[WV];omega)|(simp;done)|(simp;omega)) Z (by(repeat' (first|exact ac|exact rfl|exact ae.refl _|exact ae.bk (by assumption)|apply WN))<;>first|omega|(simp only[WV];omega)|(simp;done)|(simp;omega)) ?_);refine gA Z (aH (by first|exact .inr Z|exact .inl Z) Z (.of_eq ?_));rfl
end
theorem mF{x:Fact}{A:List Fact}(h:xy (x::A)):xy A:=fun f hf=>h f (W5 _ hf)
theorem s9(x:Fact)(A:List Fact):ae (.iv (.bL 2 ((x::A).length-(1:Int).toNat) fun k=>(fun k=>Fact.c ((x::A).getD k co)) ((1:Int).toNat+k))) (pO A):=
 .bL (by simp) fun k _=>by
  show Fact.c ((x::A).getD (1+k) co)=_;rw[Nat.add_comm];rfl
abbrev btS(A B:List Fact)(out:List (bZ Fact)):AS:=⟨[(5,pO A),(6,pO B),(7,.sl 1 0 out.length 3)],[(1,io (aX 3 out fF))],2⟩
theorem Ii(A B:List Fact)(hA:rk aV A)(hB:rk aV B)(fA:xy A)(fB:xy B)(lA:A.length<=1000000)(lB:B.length<=1000000):Pure prog 90 [pO A,pO B] (.iv (aW 3 (ef aV A B) fF)):=by
 obtain⟨R,Y⟩: ∃R,R=ef aV A B:=⟨_,rfl⟩
 rw[<-Y];refine ah ab func90 Z (by decide) ntmps90 Z (by simp) Z ?_;refine gA Z (aE (Ev hA fA (by omega)) Z Z Z Z Z Z ?_);refine gA Z (aE (Ev hB fB (by omega)) Z Z Z Z Z Z ?_);refine gM 6 Z (ju 7 3 Z ?_)
 refine gA Z (iC (σ:={s:List Fact×List Fact×List (bZ Fact)//xy s.1∧xy s.2.1∧R=s.2.2++ef aV s.1 s.2.1∧s.1.length+s.2.1.length+s.2.2.length<=2000000}) (fun s=>btS s.1.1 s.1.2.1 s.1.2.2) (fun s=>s.1.1.length+s.1.2.1.length) ⟨(A,B,[]),fA,fB,Y,by simp;omega⟩ [0]
  (wk Z Z Z (bi (bi (bi ac))) (hR Z Z Z ac) Z) fun s=>?_)
 obtain⟨⟨D,G,a0⟩,j,u,I,C⟩:=s;have j:xy D:=j;have u:xy G:=u;have I:R=a0++ef aV D G:=I;have C:D.length+G.length+a0.length<=2000000:=C;show GO _ _ _ _ (btS D G a0)
 match D,G,j,u,I,C with
 | [],[],j,u,I,C=>
  refine gA Z ?_;refine WN (fun g1=>?_) (fun g1=>?_);rotate_left
  .exact absurd g1 (by simp)
  refine gA Z ?_;refine WN (fun g2=>?_) (fun g2=>?_)
  .exact absurd g2 (by simp)
  rw[mY,W7,XA]at I;subst I;refine gA Z (dA (by first|exact .inr Z|exact .inl Z) Z Z (rfl) (rfl))
 | [],y::G,j,u,I,C=>
  have hy:=u y (W8 ..);have J:R=(a0++ [(jp,y)])++ef aV [] G:=by rw[I,mY,mY,WW,W6];rfl
  simp only[Xn,X8]at C;refine gA Z ?_;refine WN (fun g1=>?_) (fun g1=>?_);rotate_left
  .exact absurd g1 (by simp)
  refine gA Z ?_;refine WN (fun g2=>?_) (fun g2=>?_);rotate_left
  .exact absurd g2 (by simp)
  refine gA Z (aE (Da [] (y::G) j u) Z Z Z Z Z Z ?_);refine gA Z ?_;refine WN (fun g3=>?_) (fun g3=>?_)
  .exact absurd (of_decide_eq_true g3) (by show¬(1:Int)<0;decide)
  refine gA Z ?_;refine WN (fun g4=>?_) (fun g4=>?_);rotate_left
  .exact absurd (show(1:Int)>0 by decide) (of_decide_eq_false g4)
  refine gA Z (aE (mU y (by omega)) Z Z Z Z Z Z ?_);refine gA Z ?_;exact⟨⟨([],G,a0++ [(jp,y)]),j,mF u,J,by simp;omega⟩,[3],by show _<_;simp,wk Z Z Z (bi ⟨s9 y G,rfl,.row (by simp),rfl,ac⟩) (Ta Z (by rw[W4];exact(dC.refl _).app ⟨⟨.kb _,.refl _,.refl _,ac⟩,ac⟩) Z ac) Z⟩
 |x::D,[],j,u,I,C=>
  have hx:=j x (W8 ..);have J:R=(a0++ [(kw,x)])++ef aV D []:=by rw[I,tM,tM,WW,W6];rfl
  simp only[Xn,X8]at C;refine gA Z ?_;refine WN (fun g1=>?_) (fun g1=>?_)
  .exact absurd g1 (by simp)
  refine gA Z (aE (Da (x::D) [] j u) Z Z Z Z Z Z ?_);refine gA Z ?_;refine WN (fun g3=>?_) (fun g3=>?_);rotate_left
  .exact absurd (show(-1:Int)<0 by decide) (of_decide_eq_false g3)
  refine gA Z (aE (mU x (by omega)) Z Z Z Z Z Z ?_);refine gA Z ?_;exact⟨⟨(D,[],a0++ [(kw,x)]),mF j,u,J,by simp;omega⟩,[3],by show _<_;simp,wk Z Z Z ⟨s9 x D,rfl,bi ⟨.row (by simp),rfl,ac⟩⟩ (Ta Z (by rw[W4];exact(dC.refl _).app ⟨⟨.refl _,.refl _,.refl _,ac⟩,ac⟩) Z ac) Z⟩
 |x::D,y::G,j,u,I,C=>
  have hx:=j x (W8 ..);have hy:=u y (W8 ..);simp only[Xn]at C;rw[BR]at I;refine gA Z ?_;refine WN (fun g1=>?_) (fun g1=>?_)
  .exact absurd g1 (by simp)
  refine gA Z (aE (Da (x::D) (y::G) j u) Z Z Z Z Z Z ?_);refine gA Z ?_;refine WN (fun g3=>?_) (fun g3=>?_)
  .have g3:aV x y<0:=of_decide_eq_true g3;rw[am g3]at I;have J:R=(a0++ [(kw,x)])++ef aV D (y::G):=by rw[I,W6];rfl
   refine gA Z (aE (mU x (by omega)) Z Z Z Z Z Z ?_);refine gA Z ⟨⟨(D,y::G,a0++ [(kw,x)]),mF j,u,J,by simp;omega⟩,[3],by show _<_;simp,wk Z Z Z ⟨s9 x D,rfl,bi ⟨.row (by simp),rfl,ac⟩⟩ (Ta Z (by rw[W4];exact(dC.refl _).app ⟨⟨.refl _,.refl _,.refl _,ac⟩,ac⟩) Z ac) Z⟩
  have g3: ¬aV x y<0:=of_decide_eq_false g3;rw[be g3]at I;refine gA Z ?_;refine WN (fun g4=>?_) (fun g4=>?_)
  .have g4:0<aV x y:=of_decide_eq_true g4;rw[am g4]at I;have J:R=(a0++ [(jp,y)])++ef aV (x::D) G:=by rw[I,W6];rfl
   refine gA Z (aE (mU y (by omega)) Z Z Z Z Z Z ?_);refine gA Z ⟨⟨(x::D,G,a0++ [(jp,y)]),j,mF u,J,by simp;omega⟩,[3],by show _<_;simp,wk Z Z Z (bi ⟨s9 y G,rfl,.row (by simp),rfl,ac⟩) (Ta Z (by rw[W4];exact(dC.refl _).app ⟨⟨.kb _,.refl _,.refl _,ac⟩,ac⟩) Z ac) Z⟩
  .have g4: ¬0<aV x y:=of_decide_eq_false g4;rw[be g4]at I;refine gA Z ⟨⟨(D,G,a0),mF j,mF u,I,by simp;omega⟩,[1],by show _<_;simp;omega,wk Z Z Z ⟨s9 x D,rfl,s9 y G,rfl,bi ac⟩ (hR Z Z Z ac) Z⟩
theorem AT{α:Type}[Inhabited α]{a b:List α}(hl:a.length=b.length)(h: ∀j,j<a.length->a.getD j co=b.getD j co):a=b:=by
 refine Zk hl fun i h1 u=>?_;have:=h i h1;rwa[WQ,WQ,WU h1,WU u]at this
theorem BM{α:Type}[Inhabited α]{a b:List α}{i:Nat}(h: ¬a.getD i co=b.getD i co):a≠b:=fun e=>h (by rw[e])
theorem C6(a b:List cS)(ha:a.length<=1000000000):Pure prog 60 [.iv (aW 3 a cS.c),.iv (aW 3 b cS.c)] (pB (lc (a=b))):=by
 refine ah ab func60 Z (by decide) ntmps60 Z (by simp) Z ?_;refine gA Z ?_;refine WN (fun u=>?_) (fun u=>?_)
 .have u: ¬a.length=b.length:=by
   intro e;have g:(!lc ((a.length:Int)=(b.length:Int)))=jp:=u;rw[e]at g;simp at g
  rw[decide_eq_false fun e=>u (by rw[e])];refine gA Z (aH (by first|exact .inr Z|exact .inl Z) Z (.of_eq ?_));rfl
 have u:a.length=b.length:=by
  have g:(!lc ((a.length:Int)=(b.length:Int)))=kw:=u;rw[YF,decide_eq_true_eq]at g;exact Int.ofNat_inj.1 g
 refine gA Z ?_;refine aM 0 a.length (W2 _) (fun i=>⟨[(0,.iv (aW 3 a cS.c)),(1,.iv (aW 3 b cS.c)),(5,pI i)],[],0⟩) (fun i=> ∀j,j<i->a.getD j co=b.getD j co) [] (fun j A=>absurd A (YM j))
  (wk Z Z Z (bi (bi (bi trivial))) trivial Z) fun i hi C=>?_
 refine gA Z ?_;refine WN (fun h1=>?_) (fun h1=>?_)
 .have h1:i<a.length:=by simpa using h1
  have D:(lc ((a.getD i co).kind=(b.getD i co).kind)&&(lc ((a.getD i co).num=(b.getD i co).num)&&(lc ((a.getD i co).sym=(b.getD i co).sym)&&jp)))=lc (a.getD i co=b.getD i co):=by
   generalize a.getD i co=x;generalize b.getD i co=y;cases x;cases y;simp[cS.mk.injEq]
  refine gA Z ?_;refine WN (fun B=>?_) (fun B=>?_)
  .have g:(!(lc ((a.getD i co).kind=(b.getD i co).kind)&&(lc ((a.getD i co).num=(b.getD i co).num)&&(lc ((a.getD i co).sym=(b.getD i co).sym)&&jp))))=jp:=B;rw[D]at g;have g: ¬a.getD i co=b.getD i co:=by simpa using g
   rw[decide_eq_false (BM g)];refine gA Z (aH (by first|exact .inr Z|exact .inl Z) Z (.of_eq ?_));rfl
  .have g:(!(lc ((a.getD i co).kind=(b.getD i co).kind)&&(lc ((a.getD i co).num=(b.getD i co).num)&&(lc ((a.getD i co).sym=(b.getD i co).sym)&&jp))))=kw:=B;rw[D]at g;have g:a.getD i co=b.getD i co:=by simpa using g
   refine gA Z ⟨h1,fun j A=>by rcases YP.1 A with h|h;exact C j h;exact h▸g,[],wk Z Z Z (bi (bi (bi ac))) ac Z⟩
 .have h1:a.length<=i:=by simpa using h1
  rw[decide_eq_true (AT u fun j A=>C j (by omega))];refine gA Z (aH (by first|exact .inr Z|exact .inl Z) Z (.of_eq ?_));rfl
theorem F7(a b:Fact)(ha:a.args.length<=1000000000):Pure prog 29 [ag a.c,ag b.c] (pB (lc (a=b))):=by
 have u:lc (a=b)=(lc (a.rel=b.rel)&&lc (a.args=b.args)):=by
  cases a;cases b;simp[Fact.mk.injEq]
 rw[u];refine ah ab func29 Z (by decide) ntmps29 Z (by simp) Z ?_;refine gA Z ?_;refine WN (fun j=>?_) (fun j=>?_)
 .have j:a.rel=b.rel:=of_decide_eq_true j;refine gA Z (aE (C6 a.args b.args ha) Z Z Z Z Z Z ?_);refine gA Z (aH (by first|exact .inr Z|exact .inl Z) Z (.of_eq ?_));rw[decide_eq_true j,Zp];rfl
 .have j: ¬a.rel=b.rel:=of_decide_eq_false j;refine gA Z (aH (by first|exact .inr Z|exact .inl Z) Z ?_);rw[decide_eq_false j,YK];exact .of_eq Z
theorem vk(a b:List Fact)(hl:a.length<=1000000000)(ha: ∀f∈a,f.args.length<=1000000000):Pure prog 15 [.iv (aW 2 a Fact.c),.iv (aW 2 b Fact.c)] (pB (lc (a=b))):=by
 refine ah ab func15 Z (by decide) ntmps15 Z (by simp) Z ?_;refine gA Z ?_;refine WN (fun u=>?_) (fun u=>?_)
 .have u: ¬a.length=b.length:=by
   intro e;have g:(!lc ((a.length:Int)=(b.length:Int)))=jp:=u;rw[e]at g;simp at g
  rw[decide_eq_false fun e=>u (by rw[e])];refine gA Z (aH (by first|exact .inr Z|exact .inl Z) Z (.of_eq ?_));rfl
 have u:a.length=b.length:=by
  have g:(!lc ((a.length:Int)=(b.length:Int)))=kw:=u;rw[YF,decide_eq_true_eq]at g;exact Int.ofNat_inj.1 g
 refine gA Z ?_;refine aM 0 a.length (W2 _) (fun i=>⟨[(0,.iv (aW 2 a Fact.c)),(1,.iv (aW 2 b Fact.c)),(5,pI i)],[],0⟩) (fun i=> ∀j,j<i->a.getD j co=b.getD j co) [] (fun j x=>absurd x (YM j))
  (wk Z Z Z (bi (bi (bi trivial))) trivial Z) fun i hi B=>?_
 refine gA Z ?_;refine WN (fun h1=>?_) (fun h1=>?_)
 .have h1:i<a.length:=by simpa using h1
  have A:(a.getD i co).args.length<=1000000000:=ha _ (by rw[WQ,WU h1];exact XF h1);refine gA Z (bg ab [] (Pure.nX (F7 (a.getD i co) (b.getD i co) A)) Z Z Z Z Z Z Z Z Z Z Z Z (by(repeat' (first|exact ac|exact rfl|exact ae.refl _|exact ae.bk (by assumption)|apply WN))<;>first|omega|(simp only[WV];omega)|(simp;done)|(simp;omega)) Z (by(repeat' (first|exact ac|exact rfl|exact ae.refl _|exact ae.bk (by assumption)|apply WN))<;>first|omega|(simp only[WV];omega)|(simp;done)|(simp;omega)) ?_);refine gA Z ?_;refine WN (fun y=>?_) (fun y=>?_)
  .have g: ¬a.getD i co=b.getD i co:=by
    have g:(!lc (a.getD i co=b.getD i co))=jp:=y;simpa using g
   rw[decide_eq_false (BM g)];refine gA Z (aH (by first|exact .inr Z|exact .inl Z) Z (.of_eq ?_));rfl
  .have g:a.getD i co=b.getD i co:=by
    have g:(!lc (a.getD i co=b.getD i co))=kw:=y;simpa using g
   refine gA Z ⟨h1,fun j x=>by rcases YP.1 x with h|h;exact B j h;exact h▸g,[],wk Z Z Z (bi (bi (bi ac))) ac Z⟩
 .have h1:a.length<=i:=by simpa using h1
  rw[decide_eq_true (AT u fun j x=>B j (by omega))];refine gA Z (aH (by first|exact .inr Z|exact .inl Z) Z (.of_eq ?_));rfl
end Go.Proofs.YtlmhfgbkchnfbaaGreatDoor
namespace Go.Proofs.YtlmhfgbkchnfbaaGreatDoor
open Go Go.Al Go.Bo
section
def nmP:aq:=⟨#[112]⟩
def U9(n:Int):Fact:=⟨nmP,[⟨1,n,W0⟩]⟩
section
variable {ok:Fact->Bool} (hok: ∀n:Int, -1<=n->n<=65536->ok (U9 n)=jp)
include hok
end
def more:List (bZ Fact):=[(jp,U9 65536),(jp,U9 (-1)),(kw,U9 0),(kw,U9 1)]
end
abbrev xu(l:List (bZ Fact)):List IV:=[aW 3 l fF]
theorem Cm{p:Prog}{S:List Fact}(h:Go.Bo.dV aV (okF p) S):xy S:=fun f hf=>by have:=iR (h.ok f hf);omega
end Go.Proofs.YtlmhfgbkchnfbaaGreatDoor
namespace Go.Proofs.YtlmhfgbkchnfbaaGreatDoor
open Go Go.Al Go.Proofs.Tryz Go.Bo Go.ChangeShapes Go.WideShapes Go.RowKit
section
theorem Kh:prog.cellsOf 4=1:=by kernel_rfl
theorem N6:prog.cellsOf 43=1:=by kernel_rfl
theorem Fw:prog.cellsOf 64=3:=by kernel_rfl
section
variable {H:Type} {enc:TypeId×Value->H} {W:World} {hT:lK W} {sp:Nat->Bool} {held:Bool}
def QC(x:bZ Fact)(d:DataW H):Prop:=x.2.args.length<=bk d
theorem EL(n:Nat):Rd enc prog W hT sp held 4 (fun b=> [.v (.bool b)]) (fun _ _=>True) n:=by
 intro m _ j y h;obtain⟨b,rfl,rfl⟩:=DataW.trod_bool underlying4 h;exact⟨b,.one (.v _),ac⟩
theorem R2(n:Nat):Rd enc prog W hT sp held 64 fF QC n:=by
 intro m _ C y h;obtain⟨B,k,rfl,rfl,hl,x,hf⟩:=DataW.trod_struct underlying64 h
 match B,x with
 | [x0,x1],_=>
  obtain⟨a,j,_⟩:=EL (hT:=hT) k k (WY _) _ _ (nV hf 0 Z Z Z Kh Z);obtain⟨b,u,A⟩:=MS (hT:=hT) k k (WY _) _ _ (nV hf 1 Z Z Z Fx Z);refine⟨(a,b),j.fm (o':=1) Z (u.fm (o':=3) Z (.end_ (hl.trans Fw))),?_⟩;simp only[QF,bk]at A;simp only[QC,bk,WW,W7,Rows.uptoBulk,Rows.uptoBulkAll];omega
theorem MU(n:Nat):Rd enc prog W hT sp held 43 xu (QL QC) n:=
 (fR (hT:=hT) underlying43 Fw (by decide) (fun _=>rfl) (R2 n)).mono (Yh n)
theorem Dp(n:Nat):Rd enc prog W hT sp held 26 (fun l:List (List (bZ Fact))=> [aW 1 l xu]) (QL (QL QC)) n:=
 (fR (hT:=hT) underlying26 N6 (by decide) (fun _=>rfl) (MU n)).mono (Yh n)
end
theorem NX{H:Type}{x:List (bZ Fact)}{d:DataW H}(h:QL QC x d)(hb:bk d<=1048576): ∀y∈x,y.2.args.length<=1000000000:=fun y j=>by
 obtain⟨e,h1,u⟩:=h.all y j;simp only[QC]at h1;omega
theorem Oj{H:Type}{x:List (List (bZ Fact))}{d:DataW H}(h:QL (QL QC) x d)(hb:bk d<=1048576): ∀l∈x,∀y∈l,y.2.args.length<=1000000000:=fun l hl=>by
 obtain⟨e,h1,j⟩:=h.all l hl;exact NX h1 (by omega)
theorem CK{H:Type}{enc:TypeId×Value->H}{W:World}(hT:lK W){v:Value}{d:DataW H}{p:List MemPlace}(j: ∃base,Value.okWide prog W .any base 26 v)(h:DataW.Trod enc prog W 0 (fun _=>jp) jp 26 v d p):
  ∃x:List (List (bZ Fact)),QL (QL QC) x d∧VR (Mem.qN W hT) S6 (· <0) (.iv (aW 1 x xu)) v:=by
 obtain⟨base,j⟩:=j;obtain⟨a,len,a0,rfl⟩:=okWide_slice underlying26 j;obtain⟨n,y⟩:=h;obtain⟨r,h1,u⟩:=Dp (hT:=hT) n n (WY _) _ _ y;exact⟨r,u,Hs h1⟩
end
end Go.Proofs.YtlmhfgbkchnfbaaGreatDoor
namespace Go.Proofs.YtlmhfgbkchnfbaaGreatDoor
open Go Go.Al Go.Proofs.Tryz
theorem Ib: ∀(n:Nat) (e:Expr),e.size<=n->e.size<=1000000000->Pure prog 126 [ag e.c] (ag e.c)
 |0,e,h,_=>absurd e.size_pos (by omega)
 |n+1,e,h,hb=>by
  have B:=e.size_eq;have A:=Expr.aJ e.args;refine Al.Pure.le (aa:=[ag e.c]) (args:=[ag e.c1]) ?_ ⟨e.DD,ac⟩;by_cases u:e.args=[]
  .refine ah ab func126 Z (by decide) ntmps126 Z (by simp) Z ?_;refine gA Z (aE (EE e.args (by omega)) Z Z Z Z Z Z ?_);refine gA Z (nC (n:=0) ?_);refine gA Z ?_;refine WN (fun y=>?_) (fun y=>?_)
   .exact absurd y (by simp[u])
   refine gA Z (aH (by first|exact .inr Z|exact .inl Z) Z ?_);exact e.GL
  refine ah ab func126 Z (by decide) ntmps126 Z (by simp) Z ?_;refine gA Z (ai [] (Bf e.args (by omega) u) Z Z Z Z Z Z Z Z ?_);refine gA Z ?_;refine aM 0 e.args.length (W2 _) (fun i=>⟨[(1,.ptr 0 0),(2,.ptr 1 0),(10,pI e.args.length),(11,pI i)],[(0,io (.cells [.iv (iI e.kind),.iv (iS e.var),.iv (iI e.val.kind),.iv (iI e.val.num),.iv (iS e.val.sym),.iv (iI e.op),.sl 2 0 e.args.length 7])),(1,io (.cells [pI 0,pS W0,pI 0,pI 0,pS W0,pI 0,.iv (.v (.slice is 0 0))])),(2,io (aX 7 e.args Expr.c))],3⟩) (fun _=>True) [] ac
   (wk Z Z Z (bi (bi (bi (bi trivial)))) ⟨⟨_,rfl,.of_eq Z⟩,WL Z,rfl,⟨⟨_,rfl,.of_eq Z⟩,WL Z,rfl,hR Z (by rw[XX];exact X6 fun x _=>js _ _) Z trivial⟩⟩ Z) fun i hi _=>?_
  refine gA Z ?_;refine WN (fun h1=>?_) (fun h1=>?_)
  .have h1:i<e.args.length:=by simpa using h1
   have C:=Expr.bT e.args i h1;have j:=Dh (g:=fun x=>(Expr.c x).map PV.iv) h1;refine gM 16 Z (kO (p:=ag (e.args.getD i co).c) 7 Z Z Z Z Z Z (dm ab Z Z Z Z j Z) ?_);refine gA Z (bg ab [] (Pure.nX (Ib n (e.args.getD i co) (by omega) (by omega))) Z Z Z Z Z Z Z Z Z Z Z Z (by(repeat' (first|exact ac|exact rfl|exact ae.refl _|exact ae.bk (by assumption)|apply WN))<;>first|omega|(simp only[WV];omega)|(simp;done)|(simp;omega)) Z (by(repeat' (first|exact ac|exact rfl|exact ae.refl _|exact ae.bk (by assumption)|apply WN))<;>first|omega|(simp only[WV];omega)|(simp;done)|(simp;omega)) ?_);refine gA Z (iY ab Z Z Z Z Z (by first|trivial|(repeat' apply WN)<;>trivial) (vd ab Z Z (i:=2) (sz:=7) (q:=0+i) Z Z Z Z (by simp;omega) Z Z Z) Z (by first|trivial|(repeat' apply WN)<;>trivial) ?_);refine gA Z ⟨h1,ac,[],wk Z Z Z (bi (bi (bi (bi ac)))) ⟨⟨_,rfl,.of_eq Z⟩,WL Z,rfl,⟨⟨_,rfl,.of_eq Z⟩,WL Z,rfl,hR Z (Bi (g:=fun x=>(Expr.c x).map PV.iv) h1) Z ac⟩⟩ Z⟩
  .have h1:e.args.length<=i:=by simpa using h1
   refine gA Z (gz (.inr Z) Z (fH.gu 2 e.args Expr.c Z Z (by simp[PV.bb,a8]) (.done ?_)));have:ae (ag e.c1) (ag e.c):=e.GL;simp only[PV.dF,n9,Xd];exact this
theorem zi(e:Expr)(hb:e.size<=1000000000):Pure prog 126 [ag e.c] (ag e.c):=Ib e.size e (WY _) hb
mutual
def Lit.bare:Lit->Lit
 | .mk k a op l r f v o b _=> .mk k a op l r f v o (Lit.jb b) ⟨0,0⟩
def Lit.jb:List Lit->List Lit
 | []=> []
 |x::r=>x.bare::Lit.jb r
end
def Lit.WE(l:Lit):Lit:= .mk l.kind l.atom l.op l.left l.right l.dU l.bF l.kn l.ay ⟨0,0⟩
theorem Lit.On(l:Lit):l.bare= .mk l.kind l.atom l.op l.left l.right l.dU l.bF l.kn (Lit.jb l.ay) ⟨0,0⟩:=by cases l;rw[Lit.bare];rfl
theorem Lit.pF: ∀l:List Lit,Lit.jb l=l.map Lit.bare
 | []=>rfl
 |x::r=>by rw[Lit.jb,Lit.pF r];rfl
def aw.bare(r:aw):aw:=⟨r.head,Lit.jb r.body,⟨0,0⟩⟩
def Decl.bare(d:Decl):Decl:=⟨d.name,d.types,⟨0,0⟩⟩
def Prog.bare(p:Prog):Prog:=⟨p.aF.map Decl.bare,p.rules.map aw.bare⟩
def gu(l:List Lit)(i:Nat):List Lit:=(l.take i).map Lit.bare++l.drop i
abbrev cL(x:Lit):List PV:=(Lit.c x).map PV.iv
theorem RX(l:List Lit):gu l 0=l:=by simp[gu]
theorem Ik{l:List Lit}{i:Nat}(h:l.length<=i):gu l i=Lit.jb l:=by
 rw[gu,W9 h,List.drop_eq_nil_of_le h,XA,Lit.pF]
theorem MJ{l:List Lit}{i:Nat}(h:i<l.length):((gu l i).map cL)[0+i]? =io (cL (l.getD i co)):=by
 rw[Xd,WX,gu,Xc (by simp;omega)];simp only[Xk,Xv,XK];rw[show i+(i-min i l.length)=i by omega,WU h,WQ,WU h];rfl
theorem Rz{es:List (List PV)}{i:Nat}{r r2:List PV}(h:es[0+i]? =io r):(es.set (0+i) r2)[0+i]? =io r2:=by
 rw[YD,am Z,am (WT.1 h).1]
theorem Gd{l:List Lit}{i:Nat}(h:i<l.length)(r:List PV):(((gu l i).map cL).set (0+i) r).set (0+i) (cL (l.getD i co).bare)=(gu l (i+1)).map cL:=by
 rw[List.set_set,Xd];have j:gu l i=(l.take i).map Lit.bare++(l.getD i co::l.drop (i+1)):=by
  rw[gu,WQ,WU h];show _++l.drop i=_++(l[i]::_)
  rw[YC h]
 have u:gu l (i+1)=(l.take i).map Lit.bare++((l.getD i co).bare::l.drop (i+1)):=by
  rw[gu,bS h,W4,W6];rfl
 rw[j,u,W4,W4,List.set_append_right _ _ (by simp;omega)];simp only[Xk,Xv,WW];rw[show i-min i l.length=0 by omega];rfl
theorem Ez{y:IV}(A:jR (lits []) y):Pure prog 95 [.iv (lits [])] (.iv y):=by
 refine ah ab func95 Z (by decide) ntmps95 Z (by simp) Z ?_;refine gA Z (aE (EC [] (by simp)) Z Z Z Z Z Z ?_);refine gA Z (nC (n:=0) ?_);refine gA Z ?_;refine WN (fun j=>?_) (fun j=>?_)
 .exact absurd j (by simp)
 refine gA Z (aH (by first|exact .inr Z|exact .inl Z) Z ?_);exact .iv (fun M x u=>A M x u)
set_option maxHeartbeats 2000000 in
theorem RK: ∀(n:Nat) (l:List Lit) (y:IV),Lit.aD l<=n->Lit.aD l<=1000000000->jR (lits (Lit.jb l)) y->Pure prog 95 [.iv (lits l)] (.iv y):=by
 intro n
 induction n with
 |zero=>
  intro l y h hb D;have hl:=Lit.aJ l;have C:l=[]:=Yl.1 (by omega);subst C;exact Ez D
 |succ n ih=>
  intro l y h hb D;have hl:=Lit.aJ l;by_cases G:l=[]
  .subst G;exact Ez D
  refine ah ab func95 Z (by decide) ntmps95 Z (by simp) Z ?_;refine gA Z (ai [] (Be l (by omega) G) Z Z Z Z Z Z Z Z ?_);refine gA Z ?_;refine aM 0 l.length (W2 _) (fun i=>⟨[(0,.iv (lits l)),(3,.sl 0 0 l.length 30),(9,pI l.length),(10,pI i)],[(0,io (.row 30 ((gu l i).map cL)))],1⟩) (fun _=>True) [] ac
   (wk Z Z Z (bi (bi (bi (bi trivial)))) (hR (l:=gu l 0) Z (by rw[RX,XX];exact X6 fun x _=>js _ _) Z trivial) Z) fun i hi _=>?_
  refine gA Z ?_;refine WN (fun h1=>?_) (fun h1=>?_)
  .have h1:i<l.length:=by simpa using h1
   have J:=Lit.bT l i h1;have I:=(l.getD i co).size_eq;have j:=MJ h1;have u:=Gd h1 (cL (l.getD i co).WE);generalize(gu l i).map cL=es at j u ⊢;generalize B:(gu l (i+1)).map cL=es2 at u;generalize A:es.set (0+i) (cL (l.getD i co).WE)=es1 at u;refine gA Z (wb ab es1 Z Z Z Z Z Z j Z Z (by decide) Z A ?_);have j:=Rz (r2:=cL (l.getD i co).WE) j;rw[A]at j;refine gM 8 Z (kN ab Z Z Z Z Z (j) Z Z ?_);refine gA Z (aE (uA (l.getD i co).atom.an (by omega)) Z Z Z Z Z Z ?_);refine gA Z (nD ab Z Z Z Z (i:=0) (q:=0+i) (off:=2) Z Z j Z Z (by decide) Z Z ?_);refine gM 9 Z (kO (p:=ag (l.getD i co).left.c) 6 Z Z Z Z Z Z (dm ab Z Z Z Z j Z) ?_);refine gM 3 Z (kO (p:=ag (l.getD i co).right.c) 11 Z Z Z Z Z Z (dm ab Z Z Z Z j Z) ?_);refine gM 4 Z (kO (p:=ag (l.getD i co).kn.c) 17 Z Z Z Z Z Z (dm ab Z Z Z Z j Z) ?_);refine gA Z (r8 ab [11,17] [] (Pure.nX (zi (l.getD i co).left (by omega))) Z Z Z Z Z Z Z Z Z Z Z Z (by(repeat' (first|exact ac|exact rfl|exact ae.refl _|exact ae.bk (by assumption)|apply WN))<;>first|omega|(simp only[WV];omega)|(simp;done)|(simp;omega)) Z (by(repeat' (first|exact ac|exact rfl|exact ae.refl _|exact ae.bk (by assumption)|apply WN))<;>first|omega|(simp only[WV];omega)|(simp;done)|(simp;omega)) ⟨mO ab Z Z Z Z Z Z Z j Z (.refl _),⟨mO ab Z Z Z Z Z Z Z j Z (.refl _),ac⟩⟩ ?_);refine gA Z (r8 ab [17] [] (Pure.nX (zi (l.getD i co).right (by omega))) Z Z Z Z Z Z Z Z Z Z Z Z (by(repeat' (first|exact ac|exact rfl|exact ae.refl _|exact ae.bk (by assumption)|apply WN))<;>first|omega|(simp only[WV];omega)|(simp;done)|(simp;omega)) Z (by(repeat' (first|exact ac|exact rfl|exact ae.refl _|exact ae.bk (by assumption)|apply WN))<;>first|omega|(simp only[WV];omega)|(simp;done)|(simp;omega)) ⟨mO ab Z Z Z Z Z Z Z j Z (.refl _),ac⟩ ?_);refine gA Z (bg ab [] (Pure.nX (zi (l.getD i co).kn (by omega))) Z Z Z Z Z Z Z Z Z Z Z Z (by(repeat' (first|exact ac|exact rfl|exact ae.refl _|exact ae.bk (by assumption)|apply WN))<;>first|omega|(simp only[WV];omega)|(simp;done)|(simp;omega)) Z (by(repeat' (first|exact ac|exact rfl|exact ae.refl _|exact ae.bk (by assumption)|apply WN))<;>first|omega|(simp only[WV];omega)|(simp;done)|(simp;omega)) ?_);refine gA Z (iY ab Z Z Z Z Z (by(repeat' (first|exact ac|exact rfl|exact ae.refl _|exact ae.bk (by assumption)|apply WN))<;>first|omega|(simp only[WV];omega)|(simp;done)|(simp;omega)) (gp ab Z Z Z (i:=0) (q:=0+i) (off:=4) Z Z j Z Z (by decide) Z Z) Z (by(repeat' (first|exact ac|exact rfl|exact ae.refl _|exact ae.bk (by assumption)|apply WN))<;>first|omega|(simp only[WV];omega)|(simp;done)|(simp;omega)) ?_);refine gA Z (iY ab Z Z Z Z Z (by(repeat' (first|exact ac|exact rfl|exact ae.refl _|exact ae.bk (by assumption)|apply WN))<;>first|omega|(simp only[WV];omega)|(simp;done)|(simp;omega)) (gp ab Z Z Z (i:=0) (q:=0+i) (off:=11) Z Z j Z Z (by decide) Z Z) Z (by(repeat' (first|exact ac|exact rfl|exact ae.refl _|exact ae.bk (by assumption)|apply WN))<;>first|omega|(simp only[WV];omega)|(simp;done)|(simp;omega)) ?_);refine gA Z (iY ab Z Z Z Z Z (by(repeat' (first|exact ac|exact rfl|exact ae.refl _|exact ae.bk (by assumption)|apply WN))<;>first|omega|(simp only[WV];omega)|(simp;done)|(simp;omega)) (gp ab Z Z Z (i:=0) (q:=0+i) (off:=20) Z Z j Z Z (by decide) Z Z) Z (by(repeat' (first|exact ac|exact rfl|exact ae.refl _|exact ae.bk (by assumption)|apply WN))<;>first|omega|(simp only[WV];omega)|(simp;done)|(simp;omega)) ?_);refine gM 7 Z (kN ab Z Z Z Z Z (j) Z Z ?_);refine gA Z (aE (Al.Pure.le (aa:=[.iv (sw (l.getD i co).ay)]) (ih (l.getD i co).ay (sw (Lit.jb (l.getD i co).ay)) (by omega) (by omega) (zX _)) ⟨.iv (nn _),ac⟩) Z Z Z Z Z Z ?_);refine gA Z (wb ab es2 Z Z Z Z Z Z j Z Z (by decide) Z (by rw[<-u,Lit.On];rfl) ?_);refine gA Z ?_;subst B;exact⟨h1,ac,[],wk Z Z Z (bi (bi (bi (bi ac)))) (hR (l:=gu l (i+1)) Z Z Z ac) Z⟩
  .have h1:l.length<=i:=by simpa using h1
   rw[Ik h1];refine gA Z (gz (r0:= .sl 0 0 l.length 30) (.inr Z) Z (fH.gu 0 (Lit.jb l) Lit.c Z Z (by simp[PV.bb,a8,Lit.pF]) (.done ?_)));have e:(Lit.jb l).length=l.length:=by rw[Lit.pF,Xk]
   have:ae (.iv (.bL 30 l.length fun k=>Lit.c ((Lit.jb l).getD k co))) (.iv y):=by rw[<-e];exact .iv D
   simp only[PV.dF,n9,Xd];exact this
theorem Mz(l:List Lit)(hb:Lit.aD l<=1000000000):Pure prog 95 [.iv (lits l)] (.iv (lits (Lit.jb l))):=RK _ l _ (WY _) hb (fun _ _ h=>h)
end Go.Proofs.YtlmhfgbkchnfbaaGreatDoor
namespace Go.Proofs.YtlmhfgbkchnfbaaGreatDoor
open Go Go.Al
theorem UD(p:Prog)(hb:p.size<=1000000000):Pure Tryz.prog 62 [ag p.c] (ag p.bare.c):=by
 unfold Prog.size at hb;refine ah ab Tryz.func62 Z (by decide) Tryz.ntmps62 Z (by simp) Z ?_;refine gM 9 Z ?_;refine kM 2 0 4 Z Z ?_;refine kM 2 1 5 Z Z ?_;refine gA Z ?_;refine aM 0 p.aF.length (W2 _) (fun i=>⟨[(1,.ptr 0 0),(2,.ptr 1 0),(3,.ptr 2 0),(9,.iv (aW 4 p.aF Decl.c)),(10,pI p.aF.length),(11,pI i)],[(0,io (aG p.c)),(1,io (.cells [.iv (.v (.slice is 0 0)),.iv (.v (.slice is 0 0))])),(2,io (.cells [.sl 5 0 i 4,.sl 4 0 0 5])),(4,io (aX 5 ([]:List aw) aw.c)),(5,io (aX 4 ((p.aF.take i).map Decl.bare) Decl.c))],6⟩) (fun _=>True) [3] ac
  (wk Z Z Z (bi (bi (bi (bi (bi (bi trivial)))))) (hC Z Z Z ⟨⟨_,rfl,.of_eq Z⟩,WL Z,rfl,⟨_,rfl,.of_eq Z⟩,WL Z,rfl,hR Z Z Z (hR Z Z Z trivial)⟩) Z) fun i hi _=>?_
 refine gA Z ?_;refine WN (fun h1=>?_) (fun h1=>?_)
 .have h1:i<p.aF.length:=by simpa using h1
  have y:((p.aF.take i).map Decl.bare).length=i:=by rw[Xk,Xv];omega
  have x:=bS (l:=p.aF) h1;have A:=pe (fun d:Decl=>d.types.length) p.aF i h1;refine gA Z (bg ab [] (Pure.nX (ED (p.aF.getD i co).types (by omega))) Z Z Z Z Z Z Z Z Z Z Z Z (by(repeat' (first|exact ac|exact rfl|exact ae.refl _|exact ae.bk (by assumption)|apply WN))<;>first|omega|(simp only[WV];omega)|(simp;done)|(simp;omega)) Z (by(repeat' (first|exact ac|exact rfl|exact ae.refl _|exact ae.bk (by assumption)|apply WN))<;>first|omega|(simp only[WV];omega)|(simp;done)|(simp;omega)) ?_);refine gA Z ⟨h1,ac,[8],wk Z Z Z (bi (bi (bi (bi (bi (bi ac)))))) (hC Z Z Z ⟨⟨_,rfl,.of_eq Z⟩,WL Z,rfl,⟨⟨_,rfl,.of_eq Z⟩,WL Z,rfl,hR Z Z Z (hR Z (by rw[x,W4,W4];rfl) Z ac)⟩⟩) Z⟩
 .have h1:p.aF.length<=i:=by simpa using h1
  have u:i=p.aF.length:=by omega
  subst u;rw[W9 (WY _)];refine gA Z ?_;refine aM 0 p.rules.length (W2 _) (fun i=>⟨[(1,.ptr 0 0),(2,.ptr 1 0),(3,.ptr 2 0),(28,.iv (aW 5 p.rules aw.c)),(29,pI p.rules.length),(30,pI i)],[(0,io (aG p.c)),(1,io (.cells [.iv (.v (.slice is 0 0)),.iv (.v (.slice is 0 0))])),(2,io (.cells [.sl 5 0 p.aF.length 4,.sl 6 0 i 5])),(5,io (aX 4 (p.aF.map Decl.bare) Decl.c)),(6,io (aX 5 ((p.rules.take i).map aw.bare) aw.c))],7⟩) (fun _=>True) [4] ac
   (wk Z Z Z (bi (bi (bi (bi (bi (bi trivial)))))) (hC Z Z Z ⟨⟨_,rfl,.of_eq Z⟩,WL Z,rfl,⟨⟨_,rfl,.of_eq Z⟩,WL Z,rfl,hR Z Z Z (hR Z Z Z trivial)⟩⟩) Z) fun i hi _=>?_
  refine gA Z ?_;refine WN (fun j=>?_) (fun j=>?_)
  .have j:i<p.rules.length:=by simpa using j
   have y:((p.rules.take i).map aw.bare).length=i:=by rw[Xk,Xv];omega
   have x:=bS (l:=p.rules) j;have A:=pe aw.size p.rules i j;have B:(p.rules.getD i co).size=(p.rules.getD i co).head.an.length+Lit.aD (p.rules.getD i co).body:=rfl;refine gA Z (bg ab [] (Pure.nX (uA (p.rules.getD i co).head.an (by omega))) Z Z Z Z Z Z Z Z Z Z Z Z (by(repeat' (first|exact ac|exact rfl|exact ae.refl _|exact ae.bk (by assumption)|apply WN))<;>first|omega|(simp only[WV];omega)|(simp;done)|(simp;omega)) Z (by(repeat' (first|exact ac|exact rfl|exact ae.refl _|exact ae.bk (by assumption)|apply WN))<;>first|omega|(simp only[WV];omega)|(simp;done)|(simp;omega)) ?_);refine gA Z (bg ab [] (Pure.nX (Mz (p.rules.getD i co).body (by omega))) Z Z Z Z Z Z Z Z Z Z Z Z (by(repeat' (first|exact ac|exact rfl|exact ae.refl _|exact ae.bk (by assumption)|apply WN))<;>first|omega|(simp only[WV];omega)|(simp;done)|(simp;omega)) Z (by(repeat' (first|exact ac|exact rfl|exact ae.refl _|exact ae.bk (by assumption)|apply WN))<;>first|omega|(simp only[WV];omega)|(simp;done)|(simp;omega)) ?_);refine gA Z ⟨j,ac,[9],wk Z Z Z (bi (bi (bi (bi (bi (bi ac)))))) (hC Z Z Z ⟨⟨_,rfl,.of_eq Z⟩,WL Z,rfl,⟨⟨_,rfl,.of_eq Z⟩,WL Z,rfl,hR Z Z Z (hR Z (by rw[x,W4,W4];rfl) Z ac)⟩⟩) Z⟩
  .have j:p.rules.length<=i:=by simpa using j
   have u:i=p.rules.length:=by omega
   subst u;rw[W9 (WY _)];refine gA Z (gz (r0:= .agg [.sl 5 0 p.aF.length 4,.sl 6 0 p.rules.length 5]) (.inr Z) Z (fH.gu 5 (p.aF.map Decl.bare) Decl.c Z Z (by simp[PV.bb,a8]) (fH.gu 6 (p.rules.map aw.bare) aw.c Z Z (by simp[PV.bb,a8,PV.dF,n9,show Xj 6 5=kw from rfl]) (.done (.of_eq (by simp only[PV.dF,n9,Xd,show Xj 6 5=kw from rfl,show Xj 5 5=jp from rfl,show Xj 6 6=jp from rfl,cond_true,cond_false];show _=PV.agg [PV.iv (.bL 4 (p.aF.map Decl.bare).length fun k=>((List.map Decl.bare p.aF).getD k co).c),PV.iv (.bL 5 (p.rules.map aw.bare).length fun k=>((List.map aw.bare p.rules).getD k co).c)];rw[Xk,Xk]))))))
end Go.Proofs.YtlmhfgbkchnfbaaGreatDoor
namespace Go.En
def iu:Nat->Nat->List UInt8
 |0,n=> [UInt8.ofNat n]
 |f+1,n=>if n<128 then[UInt8.ofNat n] else UInt8.ofNat (n % 128+128)::iu f (n/128)
def enc(n:Nat):List UInt8:=iu 10 n
inductive Res where
 |ok (n k:Nat)
 |short
 |form
def dec:Nat->Nat->List UInt8->Res
 |_,_,[]=> .short
 |i,a,c::r=>if(i=9∧1<c.toNat)∨(0<i∧c.toNat=0) then .form else if c.toNat<128 then .ok (a+c.toNat % 128*128 ^ i) (i+1) else dec (i+1) (a+c.toNat % 128*128 ^ i) r
theorem u5{n:Nat}(h:n<256):(UInt8.ofNat n).toNat=n:=by simp;omega
theorem wz: ∀f n,1<=(iu f n).length∧(iu f n).length<=f+1
 |0,_=>by simp[iu]
 |f+1,n=>by
  unfold iu;split
  .simp
  .have:=wz f (n/128);simp;omega
theorem Cv: ∀(f i n a:Nat) (r:List UInt8),i+f=9->(0<i->0<n)->n<2*128 ^ f->dec i a (iu f n++r)= .ok (a+n*128 ^ i) (i+(iu f n).length)
 |0,i,n,a,r,hi,h0,hn=>by
  have x:n<2:=by simpa using hn
  have ht:=u5 (n:=n) (by omega);have h1: ¬((i=9∧1<n)∨(0<i∧n=0)):=by
   rintro(⟨_,h⟩|⟨h,u⟩)
   .omega
   .have:=h0 h;omega
  simp only[iu,Xe,Xg,dec,ht,be h1,am (show n<128 by omega),Y6 (show n<128 by omega),Xn,X8]
 |f+1,i,n,a,r,hi,h0,hn=>by
  unfold iu;split
  .rename_i h;have ht:=u5 (n:=n) (by omega);have h1: ¬((i=9∧1<n)∨(0<i∧n=0)):=by
    rintro(⟨h3,_⟩|⟨h,u⟩)
    .omega
    .have:=h0 h;omega
   simp only[Xe,Xg,dec,ht,be h1,am h,Y6 h,Xn,X8]
  .rename_i h;have y:=Nat.mod_lt n (show 0<128 by decide);have ht:=u5 (n:=n % 128+128) (by omega);have h1: ¬((i=9∧1<n % 128+128)∨(0<i∧n % 128+128=0)):=by rintro(⟨h3,_⟩|⟨_,u⟩)<;>omega
   have j:n/128<2*128 ^ f:=by
    rw[Z5 (by decide)]
    calc n<2*128 ^ (f+1):=hn
     _=2*128 ^ f*128:=by rw[ZB,aae]
   simp only[Xe,dec,ht,be h1,be (show¬n % 128+128<128 by omega),Xn];rw[Cv f (i+1) (n/128) _ r (by omega) (fun _=>by omega) j];have e:(n % 128+128) % 128=n % 128:=by omega
   rw[e];congr 1
   .have u:n=n % 128+n/128*128:=by omega
    rw[ZB]
    calc a+n % 128*128 ^ i+n/128*(128 ^ i*128)=a+(n % 128+n/128*128)*128 ^ i:=by rw[XG,aae (n/128) 128,Zy (128 ^ i) 128,X3]
     _=a+n*128 ^ i:=by rw[<-u]
   .omega
theorem Ak{n:Nat}(h:n<2 ^ 64)(r:List UInt8):dec 0 0 (iu 9 n++r)= .ok n (iu 9 n).length:=by
 have:=Cv 9 0 n 0 r Z (fun h=>absurd h (by decide)) (by rw[show 2*128 ^ 9=2 ^ 64 by decide];exact h);simpa using this
theorem yF: ∀(f n:Nat),n<128 ^ (f+1)->iu (f+1) n=iu f n
 |0,n,h=>by
  have:n<128:=by simpa using h
  simp[iu,this]
 |f+1,n,h=>by
  rw[iu]
  conv=>rhs;rw[iu]
  split
  .rfl
  .rw[yF f];rw[Z5 (by decide)];rwa[ZB]at h
theorem wx{n:Nat}(h:n<2 ^ 64):enc n=iu 9 n:=yF 9 n (Yu h (by decide))
theorem Ct: ∀(l:List UInt8) {i a n k:Nat},i<=9->dec i a l= .ok n k-> ∃m,n=a+m*128 ^ i∧l.take (k-i)=iu (9-i) m∧k-i<=l.length∧i<k∧m<2*128 ^ (9-i)∧(0<i->0<m)
 | [],_,_,_,_,_,h=>by cases h
 |c::l,i,a,n,k,hi,h=>by
  unfold dec at h;split at h
  .cases h
  .rename_i h1;have G:=c.toNat_lt;split at h
   .rename_i j;cases h;rw[Y6 j];refine⟨c.toNat,rfl,?_,by simp,by omega,?_,fun u=>?_⟩
    .rw[show i+1-i=1 by omega,Ye,Zz];cases hf:9-i with
     |zero=>simp[iu]
     |succ f=>rw[iu,am j];simp
    .rcases XO i 9 with g|g
     .calc c.toNat<128:=j
       _<=2*128 ^ (9-i):=by
        have:128 ^ 1<=128 ^ (9-i):=Z9 (by decide) (by omega);omega
     .have:i=9:=by omega
      subst this;have: ¬1<c.toNat:=fun h=>h1 (.inl ⟨rfl,h⟩);simp;omega
    .rcases Nat.eq_zero_or_pos c.toNat with e|e
     .exact absurd (.inr ⟨u,e⟩) h1
     .exact e
   .rename_i j;have y:i<9:=by
     rcases XO i 9 with g|g
     .exact g
     .exact absurd (Or.inl ⟨by omega,by omega⟩) h1
    obtain⟨m,B,C,I,J,Y,D⟩:=Ct l (by omega) h;have A:=D (by omega);have x:c.toNat % 128=c.toNat-128:=by omega
    refine⟨c.toNat % 128+m*128,?_,?_,by simp;omega,by omega,?_,fun _=>by omega⟩
    .rw[B,ZB,XG,aae m 128,Zy 128 (128 ^ i),X3]
    .rw[show k-i=(k-(i+1))+1 by omega,Ye,C,show 9-i=(9-(i+1))+1 by omega,iu,be (by omega)];congr 1
     .rw[show(c.toNat % 128+m*128) % 128+128=c.toNat by omega];simp
     .rw[show(c.toNat % 128+m*128)/128=m by omega]
    .rw[show 9-i=(9-(i+1))+1 by omega,ZB];omega
theorem Cu{l:List UInt8}{n k:Nat}(h:dec 0 0 l= .ok n k):n<2 ^ 64∧l.take k=iu 9 n∧k<=l.length∧0<k:=by
 obtain⟨m,j,u,x,y,A,_⟩:=Ct l (W2 _) h;have e:n=m:=by simpa using j
 subst e;refine⟨by rw[<-show 2*128 ^ 9=2 ^ 64 by decide];exact A,by simpa using u,by simpa using x,y⟩
abbrev By:=List UInt8
structure RS where
 p:Nat
 f:Int
def zz(n:Int):Nat:=if n<0 then(-2*n-1).toNat else(2*n).toNat
def Az(u:Nat):Int:=if u % 2=0 then((u/2:Nat):Int) else-((u/2:Nat):Int)-1
theorem Qx(n:Int):Az (zz n)=n:=by
 unfold zz Az;split<;>split<;>omega
def cM(b:By)(most:Nat)(s:RS):Nat×RS:=
 if s.f=0 then match dec 0 0 (b.drop s.p) with
  | .ok n k=>if n<=most then(n,⟨s.p+k,0⟩) else(0,⟨s.p,12⟩)
  | .short=>(0,⟨s.p,10⟩)
  | .form=>(0,⟨s.p,11⟩)
 else(0,s)
def nA(b:By)(j hi:Int)(s:RS):Int×RS:=
 if s.f=0 then match dec 0 0 (b.drop s.p) with
  | .ok n k=>if j<=Az n∧Az n<=hi then(Az n,⟨s.p+k,0⟩) else(0,⟨s.p,12⟩)
  | .short=>(0,⟨s.p,10⟩)
  | .form=>(0,⟨s.p,11⟩)
 else(0,s)
def eG(b:By)(most:Nat)(s:RS):By×RS:=
 if s.f=0 then match dec 0 0 (b.drop s.p) with
  | .ok n k=>if n<=most then(if n<=b.length-(s.p+k) then((b.drop (s.p+k)).take n,⟨s.p+k+n,0⟩) else([],⟨s.p,10⟩)) else([],⟨s.p,12⟩)
  | .short=>([],⟨s.p,10⟩)
  | .form=>([],⟨s.p,11⟩)
 else([],s)
structure At (b:By) (s:RS) (r:By):Prop where
 f:s.f=0
 le:s.p<=b.length
 r:b.drop s.p=r
theorem At.go{b:By}{s:RS}{x r:By}(h:At b s (x++r)):At b ⟨s.p+x.length,0⟩ r:=by
 have h1:=congrArg Y9 h.r;have j:=h.le;rw[XT,WO]at h1;refine⟨rfl,by show s.p+x.length<=_;omega,?_⟩;show b.drop (s.p+x.length)=r;rw[<-List.drop_drop,h.r];simp
theorem At.start(b:By):At b ⟨0,0⟩ b:=⟨rfl,W2 _,rfl⟩
theorem o8{b:By}{s:RS}{r:By}{n most:Nat}(h:At b s (enc n++r))(hm:n<=most)(hn:n<2 ^ 64):cM b most s=(n,⟨s.p+(enc n).length,0⟩):=by
 have h1:=Ak hn r;rw[<-wx hn]at h1;simp[cM,h.f,h.r,h1,hm]
theorem Jg{b:By}{s:RS}{r:By}{n j hi:Int}(h:At b s (enc (zz n)++r))(hl:j<=n)(hh:n<=hi)(hn:zz n<2 ^ 64):nA b j hi s=(n,⟨s.p+(enc (zz n)).length,0⟩):=by
 have h1:=Ak hn r;rw[<-wx hn]at h1;simp[nA,h.f,h.r,h1,Qx,hl,hh]
def gZ(t:By):By:=enc t.length++t
theorem pc{b:By}{s:RS}{t r:By}{most:Nat}(h:At b s (gZ t++r))(hm:t.length<=most)(hn:t.length<2 ^ 64):eG b most s=(t,⟨s.p+(gZ t).length,0⟩):=by
 unfold gZ at h;rw[W6]at h;have h1:=Ak hn (t++r);rw[<-wx hn]at h1;have j:=h.go;have u:=congrArg Y9 j.r;rw[XT,WO]at u;have x:t.length<=b.length-(s.p+(enc t.length).length):=by
  have:b.length-(s.p+(enc t.length).length)=t.length+r.length:=u;omega
 have y:b.drop (s.p+(enc t.length).length)=t++r:=j.r;simp[eG,h.f,h.r,h1,hm,x,y,gZ,X3]
end Go.En
namespace Go.Proofs.YtlmhfgbkchnfbaaGreatDoor
open Go Go.Al Go.Proofs.Tryz Go.En
abbrev iG(l:By):AO:=aX 1 l aO
abbrev oX(i:Nat)(l:By):AO:= .cells [.sl i 0 l.length 1]
abbrev wO(l:By):List AO:=[oX 1 l,iG l]
abbrev wH(l:By):AH:=[(0,io (oX 2 l)),(2,io (iG l))]
abbrev pU(n:Nat):PV:= .iv (.v (.int .u64 (n:Int)))
abbrev pY(n:Int):PV:= .iv (.v (.int .u8 n))
theorem aC(σ:Nat->Nat)(l:By):(iG l).b3 σ=iG l:=b5 σ
theorem ba(σ:Nat->Nat)(l:By):(AO.row 1 (db l)).b3 σ= .row 1 (db l):=b5 σ
theorem az(σ:Nat->Nat)(l:By):(l.map fun x=>(aO x).map PV.iv).map (dc σ)=l.map fun x=>(aO x).map PV.iv:=by
 rw[XX];exact X6 fun x _=>js _ _
theorem VT(l xs:By){es:List (List PV)}{n:Nat}(he:es=db xs)(hn:n=xs.length)(hb:l.length+xs.length<=100000000000000):bf prog 63 [.ptr 0 0,.sl 2 0 n 1] (wO l++ [.row 1 es]) (.aY []) [(0,io (oX 3 (l++xs))),(3,io (iG (l++xs)))] 4:=by
 subst he;subst hn;refine ak ab func63 Z (by decide) ntmps63 Z (by simp) ?_;refine gf Z ⟨ac,by simp,by simp,?_,by omega,by omega⟩ (ar [3] (by first|exact .inr Z|exact .inl Z) Z (wk Z Z Z (bi ac) ⟨⟨_,rfl,.of_eq ?_⟩,WL Z,rfl,hR Z ?_ Z ac⟩ Z))
 .rw[ZC,W9 (by simp)];exact fa (fun _=>rfl) xs
 .simp[AO.b3,dc,PV.b3,sg]
 .rw[ZC,W9 (by simp),W4]
theorem Ex(l:By)(x:UInt8){v:Int}(j:v=(x.toNat:Int))(hb:l.length<=90000000000000):bf prog 63 [.ptr 0 0,.sl 2 0 1 1] (wO l++ [.row 1 [[pY v]]]) (.aY []) [(0,io (oX 3 (l++ [x]))),(3,io (iG (l++ [x])))] 4:=
 VT l [x] (by rw[j];rfl) Z (by simp;omega)
theorem BV(m:Nat):IntKind.u8.wrap (m:Int)=((UInt8.ofNat m).toNat:Int):=by
 have e:IntKind.u8.wrap (m:Int)=(m:Int) % 256:=rfl;rw[e];simp
theorem orB(m:Nat):IntKind.u8.wrap ((BitVec.ofInt IntKind.u8.bits (IntKind.u8.wrap (m:Int))|||BitVec.ofInt IntKind.u8.bits 128).toNat:Int)=((UInt8.ofNat (m % 128+128)).toNat:Int):=by
 have j:IntKind.u8.wrap (m:Int)=((m % 256:Nat):Int):=by
  have e:IntKind.u8.wrap (m:Int)=(m:Int) % 256:=rfl;rw[e];omega
 have u: ∀k:Fin 256,(BitVec.ofInt 8 ((k.val:Nat):Int)|||BitVec.ofInt 8 128).toNat=k.val % 128+128:=by decide+kernel
 have x:=u ⟨m % 256,by omega⟩;rw[j];have y:(BitVec.ofInt IntKind.u8.bits ((m % 256:Nat):Int)|||BitVec.ofInt IntKind.u8.bits 128).toNat=m % 256 % 128+128:=x;have A:m % 256 % 128+128=m % 128+128:=by omega
 rw[y,A];exact BV _
theorem VS(m:Nat):((m:Int)).fdiv (2 ^ min ((7:Int)).toNat IntKind.u64.bits)=((m/128:Nat):Int):=by
 have e:(2:Int) ^ min ((7:Int)).toNat IntKind.u64.bits=128:=by decide
 rw[e,Yd _ (by decide)];rfl
theorem JR{f m:Nat}(h: ¬m<128):iu (f+1) m=UInt8.ofNat (m % 128+128)::iu f (m/128):=by rw[iu,be h]
theorem C5(l:By)(n:Nat)(hb:l.length<=80000000000000):bf prog 74 [.ptr 0 0,pU n] (wO l) (.aY []) (wH (l++enc n)) 3:=by
 refine ak ab func74 Z (by decide) ntmps74 Z (by simp) ?_;refine gA Z ?_;refine jv 0 10 (W2 _) (fun i (x:Nat×By)=>⟨[(0,.ptr 0 0),(1,pU x.1),(4,pI i)],[(0,io (oX 2 x.2)),(2,io (iG x.2))],3⟩) (fun i x=>x.2.length=l.length+i∧x.2++iu (10-i) x.1=l++enc n) (n,l) [1] ⟨rfl,rfl⟩
  (wk Z Z Z (bi (bi (bi trivial))) ⟨⟨_,rfl,.of_eq Z⟩,WL Z,rfl,hR Z Z Z trivial⟩ Z) fun i x hi D=>?_
 obtain⟨m,y⟩:=x;obtain⟨B,A⟩:=D;have j: ∀(g:m<128∨i=10),y++ [UInt8.ofNat m]=l++enc n:=fun g=>by
  rw[<-A];congr 1;cases hf:10-i with
  |zero=>rw[iu]
  |succ f=>
   rw[iu,am];rcases g with g|g
   .exact g
   .omega
 have C:y.length=l.length+i:=B;refine gA Z ?_;refine WN (fun h1=>?_) (fun h1=>?_)
 .have h1:i<10:=by have:(i:Int)<10:=of_decide_eq_true h1;omega
  refine gA Z ?_;refine WN (fun u=>?_) (fun u=>?_)
  .have u:m<128:=by have:(m:Int)<128:=of_decide_eq_true u;omega
   refine gA Z (ai [0,2,3] (Ex y (UInt8.ofNat m) (BV m) (by omega)) Z Z Z Z Z (by simp only[WW,W7,Xe,Xg,aC,ba];rfl) Z Z ?_);rw[j (.inl u)];refine gA Z (ar [4] (by first|exact .inr Z|exact .inl Z) Z (wk Z Z Z (bi ac) ⟨⟨_,rfl,.of_eq Z⟩,WL Z,rfl,hR Z (by first|rfl|exact az _ _) Z ac⟩ Z))
  .have u: ¬m<128:=by have: ¬(m:Int)<128:=of_decide_eq_false u;omega
   refine gA Z (ai [0,2,3] (Ex y (UInt8.ofNat (m % 128+128)) (orB m) (by omega)) Z Z Z Z Z (by simp only[WW,W7,Xe,Xg,aC,ba];rfl) Z Z ?_);refine gA Z ?_;refine⟨h1,(m/128,y++ [UInt8.ofNat (m % 128+128)]),[4],⟨by simp;omega,?_⟩,wk Z Z Z (bi ⟨.of_eq ?_,rfl,bi ac⟩) ⟨⟨_,rfl,.of_eq Z⟩,WL Z,rfl,hR Z (by first|rfl|exact az _ _) Z ac⟩ Z⟩
   .show(y++ [UInt8.ofNat (m % 128+128)])++iu (10-(i+1)) (m/128)=l++enc n;rw[<-A,W6];have e:10-i=(10-(i+1))+1:=by omega
    show _=y++iu (10-i) m;rw[e,JR u];rfl
   .show PV.iv (.v (.int .u64 _))=_;rw[VS];rfl
 .have h1:10<=i:=by have: ¬(i:Int)<10:=of_decide_eq_false h1;omega
  refine gA Z (ai [0,2,3] (Ex y (UInt8.ofNat m) (BV m) (by omega)) Z Z Z Z Z (by simp only[WW,W7,Xe,Xg,aC,ba];rfl) Z Z ?_);rw[j (.inr (by omega))];refine gA Z (ar [4] (by first|exact .inr Z|exact .inl Z) Z (wk Z Z Z (bi ac) ⟨⟨_,rfl,.of_eq Z⟩,WL Z,rfl,hR Z (by first|rfl|exact az _ _) Z ac⟩ Z))
theorem xN(l:By)(x:UInt8)(hb:l.length<=80000000000000):bf prog 36 [.ptr 0 0,pY (x.toNat:Int)] (wO l) (.aY []) (wH (l++ [x])) 3:=by
 refine ak ab func36 Z (by decide) ntmps36 Z (by simp) ?_;refine gA Z ?_;refine WN (fun zz=>?_) (fun zz=>?_)<;>(try(exact absurd zz (by decide)))
 refine gA Z (ai [0,1,2] (Ex l x Z (by omega)) Z Z Z Z Z (by simp only[WW,W7,Xe,Xg,aC,ba];rfl) Z Z ?_);refine gA Z (ar [3] (by first|exact .inr Z|exact .inl Z) Z (wk Z Z Z (bi ac) ⟨⟨_,rfl,.of_eq Z⟩,WL Z,rfl,hR Z (by first|rfl|exact az _ _) Z ac⟩ Z))
theorem Ud(l:By)(n:Nat)(hb:l.length<=70000000000000):bf prog 41 [.ptr 0 0,pU n] (wO l) (.aY []) (wH (l++enc n)) 3:=by
 refine ak ab func41 Z (by decide) ntmps41 Z (by simp) ?_;refine gA Z ?_;refine WN (fun zz=>?_) (fun zz=>?_)<;>(try(exact absurd zz (by decide)))
 refine gA Z (ai [0,1] (C5 l n (by omega)) Z Z Z Z Z (by simp only[WW,W7,Xe,Xg,aC,ba];rfl) Z Z ?_);refine gA Z (ar [2] (by first|exact .inr Z|exact .inl Z) Z (wk Z Z Z (bi ac) ⟨⟨_,rfl,.of_eq Z⟩,WL Z,rfl,hR Z (by first|rfl|exact az _ _) Z ac⟩ Z))
theorem Qo{a b:By}{i n:Nat}{σ:Nat->Nat}{j:Nat}(h:b=a)(hn:n=a.length)(hi:σ i=j):eR (.cells [.sl j 0 n 1]) ((oX i b).b3 σ):=by
 subst h;subst hn;subst hi;exact .of_eq Z
theorem VL(m:Nat)(h:m<9223372036854775808):IntKind.u64.wrap (m:Int)=(m:Int):=by
 have e:IntKind.u64.wrap (m:Int)=(m:Int) % 18446744073709551616:=rfl;rw[e];omega
theorem Et(l:By)(s:aq)(hs:s.size<=10000000000)(hb:l.length<=60000000000000):bf prog 42 [.ptr 0 0,pS s] (wO l) (.aY []) (wH (l++gZ s.data.toList)) 3:=by
 have j:s.data.toList.length=s.size:=by simp
 have x:=wz 10 s.size;have u:l++gZ s.data.toList=l++enc s.size++s.data.toList:=by rw[gZ,j,W6]
 refine ak ab func42 Z (by decide) ntmps42 Z (by simp) ?_;refine gA Z ?_;refine WN (fun zz=>?_) (fun zz=>?_)<;>(try(exact absurd zz (by decide)))
 refine gA Z (ai [0,1] (bf.le (aa:=[.ptr 0 0,.iv (.v (.int .u64 (IntKind.u64.wrap (s.size:Int))))]) (C5 l s.size (by omega)) ⟨.refl _,.of_eq (congrArg (fun z:Int=>PV.iv (.v (.int .u64 z))) (VL s.size (by omega))),ac⟩) Z Z Z Z Z (by simp only[WW,W7,Xe,Xg,aC,ba];rfl) Z Z ?_);refine gM 9 Z (bB Z (Ms (l:=l++enc s.size) ab Z Z Z Z Z Z Z (by exact congrArg io (aC _ _)) Z Z Z Z Z (by simp only[WO,enc];omega) Z) ?_);rintro t rfl;refine gA Z (ar [3] (by first|exact .inr Z|exact .inl Z) Z (wk Z Z Z (bi ac) ⟨⟨_,rfl,Qo u (by simp[X3]) Z⟩,WL Z,rfl,hR Z (by rw[u,W4]) Z ac⟩ Z))
theorem Ea(x:Nat)(h:x<18446744073709551616):(BitVec.ofInt 64 ((x:Nat):Int) ^^^ BitVec.ofInt 64 18446744073709551615).toNat=18446744073709551615-x:=by
 have j:BitVec.ofInt 64 18446744073709551615=BitVec.allOnes 64:=by decide
 have u:BitVec.ofInt 64 ((x:Nat):Int)=BitVec.ofNat 64 x:=by simp[BitVec.ofInt_natCast]
 rw[j,u,BitVec.xor_allOnes,BitVec.toNat_not,BitVec.toNat_ofNat];omega
theorem D9(x:Nat)(h:x<18446744073709551616):(BitVec.ofInt 64 ((x:Nat):Int) ^^^ BitVec.ofInt 64 0).toNat=x:=by
 have j:BitVec.ofInt 64 0=0#64:=by decide
 have u:BitVec.ofInt 64 ((x:Nat):Int)=BitVec.ofNat 64 x:=by simp[BitVec.ofInt_natCast]
 rw[j,u,BitVec.xor_zero,BitVec.toNat_ofNat];omega
theorem zzB{n:Int}(h1: -2147483647<=n)(A:n<=2147483647):IntKind.u64.wrap ((BitVec.ofInt IntKind.u64.bits (IntKind.u64.wrap (IntKind.u64.wrap n*2 ^ min (1:Int).toNat IntKind.u64.bits)) ^^^ BitVec.ofInt IntKind.u64.bits (IntKind.u64.wrap (n.fdiv (2 ^ min (63:Int).toNat IntKind.i64.bits)))).toNat:Int)=(zz n:Int):=by
 have w: ∀z:Int,IntKind.u64.wrap z=z % 18446744073709551616:=fun _=>rfl;have x:(2:Int) ^ min (1:Int).toNat IntKind.u64.bits=2:=by decide
 have y:(2:Int) ^ min (63:Int).toNat IntKind.i64.bits=9223372036854775808:=by decide
 rw[x,y,Yd _ (by decide),w,w n,w (n/9223372036854775808),w ((n % 18446744073709551616)*2)];show(((BitVec.ofInt 64 _ ^^^ BitVec.ofInt 64 _).toNat:Nat):Int) % _=_;unfold zz;by_cases h:n<0
 .rw[am h];have j:n/9223372036854775808 % 18446744073709551616=18446744073709551615:=by omega
  have u:n % 18446744073709551616*2 % 18446744073709551616=(((2*n+18446744073709551616).toNat:Nat):Int):=by omega
  rw[j,u,Ea _ (by omega)];omega
 .rw[be h];have j:n/9223372036854775808 % 18446744073709551616=0:=by omega
  have u:n % 18446744073709551616*2 % 18446744073709551616=(((2*n).toNat:Nat):Int):=by omega
  rw[j,u,D9 _ (by omega)];omega
theorem VW(l:By)(n:Int)(h1: -2147483647<=n)(j:n<=2147483647)(hb:l.length<=60000000000000):bf prog 113 [.ptr 0 0,pI n] (wO l) (.aY []) (wH (l++enc (zz n))) 3:=by
 refine ak ab func113 Z (by decide) ntmps113 Z (by simp) ?_;refine gA Z (WN (fun g=>?_) (fun g=>absurd g (by decide)));refine gA Z (ai [0,1] (bf.le (aa:=[.ptr 0 0,.iv (.v (.int .u64 (IntKind.u64.wrap ((BitVec.ofInt IntKind.u64.bits (IntKind.u64.wrap (IntKind.u64.wrap n*2 ^ min (1:Int).toNat IntKind.u64.bits)) ^^^ BitVec.ofInt IntKind.u64.bits (IntKind.u64.wrap (n.fdiv (2 ^ min (63:Int).toNat IntKind.i64.bits)))).toNat:Int))))]) (C5 l (zz n) (by omega)) ⟨.refl _,.of_eq (congrArg (fun z:Int=>PV.iv (.v (.int .u64 z))) (zzB h1 j)),ac⟩) Z Z Z Z Z (by simp only[WW,W7,Xe,Xg,aC,ba];rfl) Z Z ?_);refine gA Z (ar [2] (by first|exact .inr Z|exact .inl Z) Z (wk Z Z Z (bi ac) ⟨⟨_,rfl,.of_eq Z⟩,WL Z,rfl,hR Z (by first|rfl|exact az _ _) Z ac⟩ Z))
theorem T9{h:AH}(l:By){j n:Nat}(hj:h.get j=io (iG l))(hn:n=l.length):xh h 1 (.sl j 0 n 1)=io (db l):=by
 subst hn;have e:Xj 1 1=jp:=rfl;unfold xh;simp only[e,hj,iG,aX,Xd,Xk,Nat.ble_eq,WY,ZC];rw[show YR l.length l.length=jp from XN (WY _)];show io _=_;rw[W9 (by simp)]
theorem UE(l:By)(hb:l.length<=60000000000000):bf prog 64 [.ptr 0 0] (wO l) (.sl 2 0 l.length 1) [(0,io (oX 1 l)),(1,io (iG l)),(2,io (iG l))] 3:=by
 refine ak ab func64 Z (by decide) ntmps64 Z (by simp) ?_;refine gA Z (bB Z (uV (news:=db l) (eu:=Rk) (sz:=1) ab Z Z Z Z Z Z Z (by decide) (by exact T9 l Z Z) (gm (fa (fun _=>rfl) l)) (by show(db l).length*1<=_;simp;omega) (by simp;omega) Z) ?_);rintro t rfl;refine gA Z (ar [3] (by first|exact .inr Z|exact .inl Z) Z (wk Z Z Z ⟨.row (by simp),rfl,ac⟩ ⟨⟨_,rfl,.of_eq Z⟩,WL Z,rfl,hR Z (by first|rfl|exact az _ _) Z (hR Z (by first|rfl|exact az _ _) Z ac)⟩ Z))
abbrev pV(n:Int):PV:= .iv (.v (.int .u32 n))
def SR(s:Int):Int:=IntKind.u32.wrap ((BitVec.ofInt IntKind.u32.bits s&&&BitVec.ofInt IntKind.u32.bits 1).toNat:Int)
def Uc(s:Int):Int:=s.fdiv (2 ^ min (1:Int).toNat IntKind.u32.bits)
def FJ(a b:Int):Int:=IntKind.u32.wrap ((BitVec.ofInt IntKind.u32.bits a ^^^ BitVec.ofInt IntKind.u32.bits b).toNat:Int)
def Oi(s:Int):Int:=if SR s=1 then FJ (Uc s) 2197175160 else Uc s
def yQ(s:Int):Nat->Int
 |0=>s
 |k+1=>Oi (yQ s k)
def FA(s:Int)(c:UInt8):Int:=yQ (FJ s (IntKind.u32.wrap (c.toNat:Int))) 8
def qv(l:By):Int:=IntKind.u32.wrap ((BitVec.ofInt IntKind.u32.bits (if IntKind.u32.signed then-1 else IntKind.u32.max) ^^^ BitVec.ofInt IntKind.u32.bits (l.foldl FA 4294967295)).toNat:Int)
theorem RD(l:By)(hb:l.length<=1000000000):Pure prog 34 [.iv (aW 1 l aO)] (pV (qv l)):=by
 refine ah ab func34 Z (by decide) ntmps34 Z (by simp) Z ?_;refine gA Z ?_;refine aM 0 l.length (W2 _) (fun i=>⟨[(3,pV ((l.take i).foldl FA 4294967295)),(7,.iv (aW 1 l aO)),(8,pI l.length),(9,pI i)],[],0⟩) (fun _=>True) [] ac
  (wk Z Z Z (bi (bi (bi (bi trivial)))) trivial Z) fun i hi _=>?_
 refine gA Z ?_;refine WN (fun h1=>?_) (fun h1=>?_)
 .have h1:i<l.length:=by simpa using h1
  have y:=iD (g:=FA) (b:=4294967295) h1;generalize(l.take i).foldl FA 4294967295=s at*
  refine gA Z ?_;refine aM 0 8 (W2 _) (fun k=>⟨[(3,pV (yQ (FJ s (IntKind.u32.wrap ((l.getD i co).toNat:Int))) k)),(7,.iv (aW 1 l aO)),(8,pI l.length),(9,pI i),(17,pI k)],[],0⟩) (fun _=>True) [] ac
   (wk Z Z Z (bi (bi (bi (bi (bi trivial))))) trivial Z) fun k hk _=>?_
  have j:yQ (FJ s (IntKind.u32.wrap ((l.getD i co).toNat:Int))) (k+1)=Oi (yQ (FJ s (IntKind.u32.wrap ((l.getD i co).toNat:Int))) k):=rfl;refine gA Z ?_;refine WN (fun u=>?_) (fun u=>?_)
  .have u:k<8:=by have:(k:Int)<8:=of_decide_eq_true u;omega
   generalize yQ (FJ s (IntKind.u32.wrap ((l.getD i co).toNat:Int))) k=z at*
   refine gA Z ?_;refine WN (fun x=>?_) (fun x=>?_)
   .have x:SR z=1:=of_decide_eq_true x;rw[Oi,am x]at j;refine gA Z ⟨u,ac,[],wk Z Z Z ⟨.of_eq (by rw[j];rfl),rfl,bi (bi (bi (bi ac)))⟩ ac Z⟩
   .have x: ¬SR z=1:=of_decide_eq_false x;rw[Oi,be x]at j;refine gA Z ⟨u,ac,[],wk Z Z Z ⟨.of_eq (by rw[j];rfl),rfl,bi (bi (bi (bi ac)))⟩ ac Z⟩
  .have u:k=8:=by have: ¬(k:Int)<8:=of_decide_eq_false u;omega
   subst u;refine gA Z ⟨h1,ac,[],wk Z Z Z ⟨.of_eq (by rw[y];rfl),rfl,bi (bi (bi ac))⟩ ac Z⟩
 .have h1:l.length<=i:=by simpa using h1
  rw[W9 h1];refine gA Z (bB Z (lL (NV Z Z) Z) ?_);rintro t rfl;refine gA Z (aH (by first|exact .inr Z|exact .inl Z) Z (.of_eq ?_));rfl
def vQ(p:Prog):aq:=if(rG p.bare).bad=jp then⟨#[]⟩ else⟨(rG p.bare).l.toArray⟩
def vR(p:Prog):Int:=qv (vQ p).data.toList
def yf(p:Prog):Int×Int:=if(gP p).1=0 then(vR p,0) else(0,4)
theorem Gl(p:Prog):(rG p).l.length<=p.ts:=by
 have h1:=q8 p.aF WS.o p.aF.length (WY _);have j:=qD p.rules (gk p.aF WS.o p.aF.length) p.rules.length (WY _);have u:WS.o.l.length=0:=rfl;rw[X7]at h1 j;rw[rG,Prog.ts];omega
mutual
theorem Lit.uT: ∀l:Lit,l.bare.ts=l.ts
 | .mk k a op l r f v o b x=>by rw[Lit.bare,Lit.ts,Lit.ts,Lit.wL b]
theorem Lit.wL: ∀l:List Lit,Lit.lf (Lit.jb l)=Lit.lf l
 | []=>rfl
 |x::r=>by rw[Lit.jb,Lit.lf,Lit.lf,Lit.uT x,Lit.wL r]
end
mutual
theorem Lit.tv: ∀l:Lit,l.bare.size=l.size
 | .mk k a op l r f v o b x=>by rw[Lit.bare,Lit.size,Lit.size,Lit.rh b]
theorem Lit.rh: ∀l:List Lit,Lit.aD (Lit.jb l)=Lit.aD l
 | []=>rfl
 |x::r=>by rw[Lit.jb,Lit.aD,Lit.aD,Lit.tv x,Lit.rh r]
end
theorem Prog.uT(p:Prog):p.bare.ts=p.ts:=by
 unfold Prog.ts;show((p.aF.map Decl.bare).map Decl.ts).sum+((p.rules.map aw.bare).map aw.ts).sum=_;rw[XX,XX];congr 2
 .refine X6 fun r _=>?_
  show r.head.ts+Lit.lf (Lit.jb r.body)+30=_;rw[Lit.wL];rfl
theorem Prog.tv(p:Prog):p.bare.size=p.size:=by
 unfold Prog.size;show(p.aF.map Decl.bare).length+((p.aF.map Decl.bare).map fun d=>d.types.length).sum+(p.rules.map aw.bare).length+((p.rules.map aw.bare).map aw.size).sum=_;rw[XX,XX,Xk,Xk];congr 2;refine X6 fun r _=>?_;show r.head.an.length+Lit.aD (Lit.jb r.body)=_;rw[Lit.rh];rfl
theorem P6(hS:fy)(p:Prog)(hf:p.fit)(hs:p.size<=10000000)(ht:p.ts<=800000000):Pure prog 30 [ag p.c] (.aY [pV (yf p).1,pI (yf p).2]):=by
 have hl:=Gl p.bare;rw[p.uT]at hl;refine ah ab func30 Z (by decide) ntmps30 Z (by simp) Z ?_;refine gA Z (aE (Ih hS p hf hs) Z Z Z Z Z Z ?_);refine gA Z ?_;refine WN (fun g=>?_) (fun g=>?_)
 .have g: ¬(gP p).1=0:=by
   intro h;have g:(!lc ((gP p).1=0))=jp:=g;rw[h]at g;simp at g
  rw[yf,be g];refine gA Z (aH (by first|exact .inr Z|exact .inl Z) Z (.of_eq ?_));rfl
 .have g:(gP p).1=0:=by
   have g:(!lc ((gP p).1=0))=kw:=g;simpa using g
  rw[yf,am g];refine gA Z (aE (UD p (by omega)) Z Z Z Z Z Z ?_);refine gA Z (aE (RJ p.bare (by rw[p.tv];omega) (by rw[p.uT];exact ht)) Z Z Z Z Z Z ?_)
  refine gA Z (pq (b:=vQ p) ab Z Z Z Z Z Z Z Z Z Z Z (by
   show(vQ p).size<=_;unfold vQ;split
   .decide
   .show(rG p.bare).l.toArray.size<=_
    rw[Y1];omega) ?_)
  have hT:(vQ p).data.toList.length<=1000000000:=by
   unfold vQ;split
   .decide
   .simp;omega
  refine gA Z (aE (RD (vQ p).data.toList hT) Z Z Z Z Z Z ?_);refine gA Z (aH (by first|exact .inr Z|exact .inl Z) Z (.of_eq ?_));rfl
end Go.Proofs.YtlmhfgbkchnfbaaGreatDoor
namespace Go.Proofs.YtlmhfgbkchnfbaaGreatDoor
open Go Go.Al
inductive Tree where
 |mk (fact:Fact) (Gc:Int) (kids:List Tree)
instance:Inhabited Tree:=⟨.mk co 0 []⟩
def Tree.fact:Tree->Fact| .mk f _ _=>f
def Tree.Gc:Tree->Int| .mk _ r _=>r
def Tree.kids:Tree->List Tree| .mk _ _ k=>k
structure Vt where
 fact:Fact
 Gc:Int
 kids:List Int
 deriving Inhabited
structure Nod where
 fact:Fact
 Gc:Int
 kids:Int
 up:List Int
 deriving Inhabited
mutual
def Tree.cr:Tree->List IV
 | .mk f r ks=> [iS f.rel,aW 3 f.args cS.c,iI r,.bL 4 ks.length (fun j=>(Tree.wA ks).getD j [])]
def Tree.wA:List Tree->List (List IV)
 | []=> []
 |e::r=>e.cr::Tree.wA r
end
def Tree.c(t:Tree):List IV:=[iS t.fact.rel,aW 3 t.fact.args cS.c,iI t.Gc,.bL 4 t.kids.length (fun j=>(Tree.wA t.kids).getD j [])]
def Vt.c(l:Vt):List IV:=[iS l.fact.rel,aW 3 l.fact.args cS.c,iI l.Gc,aW 1 l.kids kj]
def Nod.c(n:Nod):List IV:=[iS n.fact.rel,aW 3 n.fact.args cS.c,iI n.Gc,iI n.kids,aW 1 n.up kj]
mutual
def Tree.size:Tree->Nat
 | .mk _ _ ks=>1+Tree.aD ks
def Tree.aD:List Tree->Nat
 | []=>0
 |e::r=>e.size+Tree.aD r
end
end Go.Proofs.YtlmhfgbkchnfbaaGreatDoor
namespace Go.Proofs.YtlmhfgbkchnfbaaGreatDoor
open Go Go.Al Go.En
def Br(b:By)(n:Nat)(s:RS):RS:=if s.f=0 then(if n<=b.length-s.p then⟨s.p+n,0⟩ else⟨s.p,10⟩) else s
def qw(t:By):aq:=⟨t.toArray⟩
end Go.Proofs.YtlmhfgbkchnfbaaGreatDoor
namespace Go.Proofs.YtlmhfgbkchnfbaaGreatDoor
open Go Go.Al Go.Proofs.Tryz Go.En
abbrev rO:PV:= .iv (.v (.slice is 0 0))
def lM(v:cS):By:=[UInt8.ofNat v.kind.toNat]++(if v.kind=1 then enc (zz v.num) else gZ v.sym.data.toList)
def j6(l:List cS):By:=enc l.length++l.flatMap lM
abbrev Sa(l:List cS):Bool:=l.all fun v=>lc (bV v=0)
def R7(l:List cS):PV:=if l.length>8 then .aY [rO,pI 2] else if Sa l=kw then .aY [rO,pI 20] else .aY [.iv (aW 1 (j6 l) aO),pI 0]
theorem Qc{v:cS}(h:bV v=0):v.kind=1∨v.kind=2:=by
 unfold bV at h
 repeat' split at h
 all_goals first|omega|(simp at h;done)
theorem wy(n:Nat):(enc n).length<=11:=(wz 10 n).2
theorem Eg{v:cS}(h:bV v=0):(lM v).length<=100:=by
 unfold lM;split
 .have:=wy (zz v.num);simp only[WO,Xn,X8];omega
 .rename_i h1;have j:=mQ h h1;have:=wy v.sym.data.toList.length;simp only[gZ,WO,Xn,X8];have u:v.sym.data.toList.length=v.sym.size:=rfl;omega
theorem Bc:bf prog 31 [] [] (.ptr 0 0) [(0,io (oX 1 [])),(1,io (iG []))] 2:=by
 refine ak ab func31 Z (by decide) ntmps31 Z (by simp) ?_;refine gM 10 Z (kM 0 0 1 Z Z ?_);refine gA Z (ar [0,1] (by first|exact .inr Z|exact .inl Z) Z (wk Z Z Z (bi ac) ⟨⟨_,rfl,.of_eq Z⟩,WL Z,rfl,hR Z Z Z ac⟩ Z))
theorem Ch{α:Type}[Inhabited α]{l:List α}{i:Nat}(h:i<l.length):l.getD i co∈l:=by
 rw[WQ,WU h];exact XF h
theorem RT(l:By)(v:Int)(h:0<=v)(hb:l.length<=80000000000000):bf prog 36 [.ptr 0 0,.iv (.v (.int .u8 (IntKind.u8.wrap v)))] (wO l) (.aY []) (wH (l++ [UInt8.ofNat v.toNat])) 3:=by
 have e:IntKind.u8.wrap v=((UInt8.ofNat v.toNat).toNat:Int):=by
  have:=BV v.toNat;rwa[Y5 h]at this
 rw[e];exact xN l _ hb
theorem VO{v:Int}(h:0<=v∧v<=1000000000000):PV.iv (.v (.int .u64 (IntKind.u64.wrap v)))=pU v.toNat:=by
 have h1:=VL v.toNat (by omega);have j:((v.toNat:Nat):Int)=v:=by omega
 rw[j]at h1;show _=PV.iv (.v (.int .u64 ((v.toNat:Nat):Int)));rw[j,h1]
theorem ze(l:By)(v:Int)(h:0<=v∧v<=1000000000000)(hb:l.length<=70000000000000):bf prog 41 [.ptr 0 0,.iv (.v (.int .u64 (IntKind.u64.wrap v)))] (wO l) (.aY []) (wH (l++enc v.toNat)) 3:=by
 rw[VO h];exact Ud l v.toNat hb
theorem vm(l:By)(hb:l.length<=60000000000000):bf prog 35 [.ptr 0 0] (wO l) (.sl 2 0 l.length 1) [(0,io (oX 1 l)),(1,io (iG l)),(2,io (iG l))] 3:=by
 refine ak ab func35 Z (by decide) ntmps35 Z (by simp) ?_;refine gA Z (WN (fun g=>absurd g (by decide)) (fun g=>?_));refine gA Z (ai [0,1] (UE l hb) Z Z Z Z Z (by simp only[WW,W7,Xe,Xg,aC,ba];rfl) Z Z ?_);refine gA Z (ar [2] (by first|exact .inr Z|exact .inl Z) Z (wk Z Z Z ⟨.row Z,rfl,ac⟩ ⟨⟨_,rfl,.of_eq Z⟩,WL Z,rfl,hR Z (by first|rfl|exact az _ _) Z (hR Z (by first|rfl|exact az _ _) Z ac)⟩ Z))
theorem y7{α:Type}(f:α->By){m:Nat}(l:List α)(h: ∀x∈l,(f x).length<=m):(l.flatMap f).length<=m*l.length:=by
 induction l with
 |nil=>simp
 |cons x l ih=>
  have h1:=h x (by simp);have u:=ih fun y j=>h y (by simp[j]);rw[XS,WO,Xn,Nat.mul_succ];omega
theorem Un(l:List cS):Pure prog 75 [.iv (aW 3 l cS.c)] (R7 l):=by
 unfold R7;refine ah ab func75 Z (by decide) ntmps75 Z (by simp) (by split<;>first|rfl|(split<;>rfl)) ?_;refine gA Z ?_;refine WN (fun g1=>?_) (fun g1=>?_)
 .have g1:l.length>8:=by have:=of_decide_eq_true g1;omega
  refine gA Z (aH (by first|exact .inr Z|exact .inl Z) Z (.of_eq ?_));rw[am g1];rfl
 have g1: ¬l.length>8:=by have:=of_decide_eq_false g1;omega
 rw[be g1];refine gA Z (aE (c98 l) Z Z Z Z Z Z ?_);refine gA Z ?_;refine WN (fun g2=>?_) (fun g2=>?_)
 .have g2:Sa l=kw:=by simpa using g2
  refine gA Z (aH (by first|exact .inr Z|exact .inl Z) Z (.of_eq ?_));rw[am g2];rfl
 have g2:Sa l=jp:=by simpa using g2
 rw[be (by rw[g2];decide)];have D: ∀v∈l,bV v=0:=fun v D=>of_decide_eq_true (XC.1 g2 v D);refine gA Z (ai [] (Bc) Z Z Z Z Z Z Z Z ?_);refine gA Z (ai [0,1] (ze [] l.length ⟨by omega,by omega⟩ (by decide)) Z Z Z Z Z (by simp only[WW,W7,Xe,Xg,aC,ba];rfl) Z Z ?_);refine gA Z ?_;obtain⟨B,u⟩: ∃B:Nat->By,∀i,B i=enc l.length++(l.take i).flatMap lM:=⟨_,fun _=>rfl⟩
 have I:([]:By)++enc ((l.length:Int)).toNat=B 0:=by rw[u,Zz,ZW,XA];rfl
 have A:B l.length=j6 l:=by rw[u,X7,j6]
 have y: ∀i,(B i).length<=1000:=fun i=>by
  have h1:=wy l.length;have h2:=y7 lM (m:=100) (l.take i) fun v a0=>Eg (D v (Yx a0));have j:(l.take i).length<=l.length:=by rw[Xv];omega
  rw[u,WO];omega
 rw[I];refine aM 0 l.length (W2 _) (fun i=>⟨[(4,.ptr 0 0),(21,.iv (aW 3 l cS.c)),(22,pI l.length),(23,pI i)],[(0,io (oX 3 (B i))),(3,io (iG (B i)))],4⟩) (fun _=>True) [2] ac
  (wk Z Z Z (bi (bi (bi (bi trivial)))) ⟨⟨_,rfl,.of_eq Z⟩,WL Z,rfl,hR Z (by first|rfl|exact az _ _) Z trivial⟩ Z) fun i hi _=>?_
 refine gA Z ?_;refine WN (fun h1=>?_) (fun h1=>?_)
 .have h1:i<l.length:=by simpa using h1
  have J:=D _ (Ch h1);have hk:=Qc J;have b0:=y i;have x:B (i+1)=B i++lM (l.getD i co):=by rw[u,u,bC h1,W6]
  refine gA Z (ai [0,3] (RT (B i) (l.getD i co).kind (by omega) (by omega)) Z Z Z Z Z (by simp only[WW,W7,Xe,Xg,aC,ba];rfl) Z Z ?_);refine gA Z ?_;refine WN (fun j=>?_) (fun j=>?_)
  .have j:(l.getD i co).kind=1:=of_decide_eq_true j;have C:=qp J j;have G:B i++ [UInt8.ofNat (l.getD i co).kind.toNat]++enc (zz (l.getD i co).num)=B (i+1):=by rw[x,lM,am j,W6]
   refine gA Z (ai [0,5] (VW (B i++ [UInt8.ofNat (l.getD i co).kind.toNat]) (l.getD i co).num C.1 C.2 (by rw[WO];simp;omega)) Z Z Z Z Z (by simp only[WW,W7,aC];exact congrArg (fun z=> [_,io z]) (aC _ _)) Z Z ?_);rw[G];refine gA Z ⟨h1,ac,[6],wk Z Z Z (bi (bi (bi (bi ac)))) ⟨⟨_,rfl,.of_eq Z⟩,WL Z,rfl,hR Z (by first|rfl|exact az _ _) Z ac⟩ Z⟩
  .have j: ¬(l.getD i co).kind=1:=of_decide_eq_false j;have hs:=mQ J j;have G:B i++ [UInt8.ofNat (l.getD i co).kind.toNat]++gZ (l.getD i co).sym.data.toList=B (i+1):=by rw[x,lM,be j,W6]
   refine gA Z (ai [0,5] (Et (B i++ [UInt8.ofNat (l.getD i co).kind.toNat]) (l.getD i co).sym (by omega) (by rw[WO];simp;omega)) Z Z Z Z Z (by simp only[WW,W7,aC];exact congrArg (fun z=> [_,io z]) (aC _ _)) Z Z ?_);rw[G];refine gA Z ⟨h1,ac,[6],wk Z Z Z (bi (bi (bi (bi ac)))) ⟨⟨_,rfl,.of_eq Z⟩,WL Z,rfl,hR Z (by first|rfl|exact az _ _) Z ac⟩ Z⟩
 .have h1:l.length<=i:=by simpa using h1
  have Y:i=l.length:=by omega
  subst Y;rw[A];have hT:(j6 l).length<=1000:=by rw[<-A];exact y _
  refine gA Z (ai [0,3] (vm (j6 l) (by omega)) Z Z Z Z Z (by simp only[WW,W7,Xe,Xg,aC,ba];rfl) Z Z ?_);refine gA Z (gz (r0:= .aY [.sl 4 0 (j6 l).length 1,pI 0]) (.inr Z) Z (fH.gu 4 (j6 l) aO Z (az _ _) (by simp[PV.bb,a8]) (.done (.aY ⟨.bL Z (fun k _=>by rw[Xd]),.refl _,ac⟩))))
end Go.Proofs.YtlmhfgbkchnfbaaGreatDoor
namespace Go.Proofs.YtlmhfgbkchnfbaaGreatDoor
open Go Go.Al Go.Proofs.Tryz Go.En Go.Bo
def eV(f:Fact):By:=gZ f.rel.data.toList++gZ (j6 f.args)
structure Qt (f:Fact):Prop where
 rel:f.rel.size<=100000
 len:f.args.length<=8
 args:Sa f.args=jp
theorem Qt.val{f:Fact}(h:Qt f): ∀v∈f.args,bV v=0:=fun v j=>of_decide_eq_true (XC.1 h.args v j)
theorem y3{l:List cS}(hl:l.length<=8)(h: ∀v∈l,bV v=0):(j6 l).length<=1000:=by
 have h1:=wy l.length;have u:=y7 lM (m:=100) l fun v j=>Eg (h v j);rw[j6,WO];omega
theorem jN(t:By):(gZ t).length<=11+t.length:=by
 have:=wy t.length;rw[gZ,WO];omega
theorem Cn{f:Fact}(h:Qt f):(eV f).length<=110000:=by
 have h1:=jN f.rel.data.toList;have j:=jN (j6 f.args);have u:=y3 h.len h.val;have x:=h.rel;have y:f.rel.data.toList.length=f.rel.size:=rfl;rw[eV,WO];omega
theorem vl(l:By)(f:Fact)(hf:Qt f)(hb:l.length<=50000000000000):bf prog 43 [.ptr 0 0,ag f.c] (wO l) (.aY []) (wH (l++eV f)) 3:=by
 have x:Pure prog 75 [.iv (aW 3 f.args cS.c)] (.aY [.iv (aW 1 (j6 f.args) aO),pI 0]):=by
  have:=Un f.args;rwa[R7,be (by have:=hf.len;omega),be (by rw[hf.args];decide)]at this
 have h1:=jN f.rel.data.toList;have y:=y3 hf.len hf.val;have A:=hf.rel;have B:f.rel.data.toList.length=f.rel.size:=rfl;refine ak ab func43 Z (by decide) ntmps43 Z (by simp) ?_;refine gA Z (ai [0,1] (Et l f.rel (by omega) (by omega)) Z Z Z Z Z (by simp only[WW,W7,Xe,Xg,aC,ba];rfl) Z Z ?_);refine gA Z (aE (x) Z Z Z Z Z Z ?_);refine gA Z (bB Z (lL (mI ab (j6 f.args) Z Z Z Z Z Z Z Z Z (fun j C=>rfl)) Z) ?_);rintro t rfl;refine gA Z (ai [0,3] (Et (l++gZ f.rel.data.toList) ⟨(j6 f.args).toArray⟩ (by show(j6 f.args).toArray.size<=_;simp;omega) (by rw[WO];omega)) Z Z Z Z Z (by simp only[WW,W7,aC];exact congrArg (fun z=> [_,io z]) (aC _ _)) Z Z ?_);have u:l++eV f=l++gZ f.rel.data.toList++gZ (j6 f.args):=by rw[eV,W6]
 refine gA Z (ar [4] (by first|exact .inr Z|exact .inl Z) Z (wk Z Z Z (bi ac) ⟨⟨_,rfl,Qo u Z Z⟩,WL Z,rfl,hR Z (by rw[u];exact az _ _) Z ac⟩ Z))
def pP(c:bZ Fact):By:=[if c.1=jp then 1 else 0]++eV c.2
def bA(l:List (bZ Fact)):By:=enc l.length++l.flatMap pP
def eC(l:List Fact):By:=enc l.length++l.flatMap eV
theorem Fv{c:bZ Fact}(h:Qt c.2):(pP c).length<=110001:=by
 have:=Cn h;rw[pP,WO,Xl];omega
theorem Dy{α:Type}(f:α->By){m k:Nat}{l:List α}(hl:l.length<=k)(h: ∀x∈l,(f x).length<=m)(i:Nat):(enc l.length++(l.take i).flatMap f).length<=11+m*k:=by
 have h1:=wy l.length;have y:=y7 f (m:=m) (l.take i) fun v u=>h v (Yx u);have j:(l.take i).length<=k:=by rw[Xv];omega
 have A:=Nat.mul_le_mul_left m j;rw[WO];omega
theorem Dd(l:List (bZ Fact))(hl:l.length<=100000000)(hF: ∀x∈l,Qt x.2):Pure prog 26 [.iv (aW 3 l fF)] (.iv (aW 1 (bA l) aO)):=by
 refine ah ab func26 Z (by decide) ntmps26 Z (by simp) Z ?_;refine gA Z (ai [] (Bc) Z Z Z Z Z Z Z Z ?_);refine gA Z (ai [0,1] (ze [] l.length ⟨by omega,by omega⟩ (by decide)) Z Z Z Z Z (by simp only[WW,W7,Xe,Xg,aC,ba];rfl) Z Z ?_);refine gA Z ?_;obtain⟨B,u⟩: ∃B:Nat->By,∀i,B i=enc l.length++(l.take i).flatMap pP:=⟨_,fun _=>rfl⟩
 have D:([]:By)++enc ((l.length:Int)).toNat=B 0:=by rw[u,Zz,ZW,XA];rfl
 have G:B l.length=bA l:=by rw[u,X7,bA]
 have A: ∀i,(B i).length<=11+110001*100000000:=fun i=>by rw[u];exact Dy pP hl (fun x Y=>Fv (hF x Y)) i
 rw[D];refine aM 0 l.length (W2 _) (fun i=>⟨[(3,.ptr 0 0),(12,.iv (aW 3 l fF)),(13,pI l.length),(14,pI i)],[(0,io (oX 3 (B i))),(3,io (iG (B i)))],4⟩) (fun _=>True) [2] ac
  (wk Z Z Z (bi (bi (bi (bi trivial)))) ⟨⟨_,rfl,.of_eq Z⟩,WL Z,rfl,hR Z (by first|rfl|exact az _ _) Z trivial⟩ Z) fun i hi _=>?_
 refine gA Z ?_;refine WN (fun h1=>?_) (fun h1=>?_)
 .have h1:i<l.length:=by simpa using h1
  have hf:=hF _ (Ch h1);have J:=A i;have y:B (i+1)=B i++pP (l.getD i co):=by rw[u,u,bC h1,W6]
  refine gA Z ?_;refine WN (fun j=>?_) (fun j=>?_)
  .have j:(l.getD i co).1=jp:=j;have C:B i++ [1]++eV (l.getD i co).2=B (i+1):=by rw[y,pP,am j,W6]
   refine gA Z (ai [0,3] (xN (B i) 1 (by omega)) Z Z Z Z Z (by simp only[WW,W7,Xe,Xg,aC,ba];rfl) Z Z ?_);refine gA Z (ai [0,5] (vl (B i++ [1]) (l.getD i co).2 hf (by rw[WO,Xl];omega)) Z Z Z Z Z (by simp only[WW,W7,aC];exact congrArg (fun z=> [_,io z]) (aC _ _)) Z Z ?_);rw[C];refine gA Z ⟨h1,ac,[6],wk Z Z Z (bi (bi (bi (bi ac)))) ⟨⟨_,rfl,.of_eq Z⟩,WL Z,rfl,hR Z (by first|rfl|exact az _ _) Z ac⟩ Z⟩
  .have j:(l.getD i co).1=kw:=j;have C:B i++ [0]++eV (l.getD i co).2=B (i+1):=by rw[y,pP,be (by rw[j];decide),W6]
   refine gA Z (ai [0,3] (xN (B i) 0 (by omega)) Z Z Z Z Z (by simp only[WW,W7,Xe,Xg,aC,ba];rfl) Z Z ?_);refine gA Z (ai [0,5] (vl (B i++ [0]) (l.getD i co).2 hf (by rw[WO,Xl];omega)) Z Z Z Z Z (by simp only[WW,W7,aC];exact congrArg (fun z=> [_,io z]) (aC _ _)) Z Z ?_);rw[C];refine gA Z ⟨h1,ac,[6],wk Z Z Z (bi (bi (bi (bi ac)))) ⟨⟨_,rfl,.of_eq Z⟩,WL Z,rfl,hR Z (by first|rfl|exact az _ _) Z ac⟩ Z⟩
 .have h1:l.length<=i:=by simpa using h1
  have I:i=l.length:=by omega
  subst I;have hT:=A l.length;rw[G] at*
  refine gA Z (ai [0,3] (vm (bA l) (by omega)) Z Z Z Z Z (by simp only[WW,W7,Xe,Xg,aC,ba];rfl) Z Z ?_);refine gA Z (gz (r0:= .sl 4 0 (bA l).length 1) (.inr Z) Z (fH.gu 4 (bA l) aO Z (az _ _) (by simp[PV.bb]) (.done (.bL Z (fun k _=>by rw[Xd])))))
theorem Gb(l:List Fact)(hl:l.length<=100000000)(hF: ∀x∈l,Qt x):Pure prog 22 [.iv (aW 2 l Fact.c)] (.iv (aW 1 (eC l) aO)):=by
 refine ah ab func22 Z (by decide) ntmps22 Z (by simp) Z ?_;refine gA Z (ai [] (Bc) Z Z Z Z Z Z Z Z ?_);refine gA Z (ai [0,1] (ze [] l.length ⟨by omega,by omega⟩ (by decide)) Z Z Z Z Z (by simp only[WW,W7,Xe,Xg,aC,ba];rfl) Z Z ?_);refine gA Z ?_;obtain⟨B,j⟩: ∃B:Nat->By,∀i,B i=enc l.length++(l.take i).flatMap eV:=⟨_,fun _=>rfl⟩
 have y:([]:By)++enc ((l.length:Int)).toNat=B 0:=by rw[j,Zz,ZW,XA];rfl
 have A:B l.length=eC l:=by rw[j,X7,eC]
 have u: ∀i,(B i).length<=11+110000*100000000:=fun i=>by rw[j];exact Dy eV hl (fun x I=>Cn (hF x I)) i
 rw[y];refine aM 0 l.length (W2 _) (fun i=>⟨[(3,.ptr 0 0),(12,.iv (aW 2 l Fact.c)),(13,pI l.length),(14,pI i)],[(0,io (oX 3 (B i))),(3,io (iG (B i)))],4⟩) (fun _=>True) [2] ac
  (wk Z Z Z (bi (bi (bi (bi trivial)))) ⟨⟨_,rfl,.of_eq Z⟩,WL Z,rfl,hR Z (by first|rfl|exact az _ _) Z trivial⟩ Z) fun i hi _=>?_
 refine gA Z ?_;refine WN (fun h1=>?_) (fun h1=>?_)
 .have h1:i<l.length:=by simpa using h1
  have hf:=hF _ (Ch h1);have G:=u i;have D:B i++eV (l.getD i co)=B (i+1):=by rw[j,j,bC h1,W6]
  refine gA Z (ai [0,3] (vl (B i) (l.getD i co) hf (by omega)) Z Z Z Z Z (by simp only[WW,W7,Xe,Xg,aC,ba];rfl) Z Z ?_);rw[D];refine gA Z ⟨h1,ac,[5],wk Z Z Z (bi (bi (bi (bi ac)))) ⟨⟨_,rfl,.of_eq Z⟩,WL Z,rfl,hR Z (by first|rfl|exact az _ _) Z ac⟩ Z⟩
 .have h1:l.length<=i:=by simpa using h1
  have C:i=l.length:=by omega
  subst C;have hT:=u l.length;rw[A] at*
  refine gA Z (ai [0,3] (vm (eC l) (by omega)) Z Z Z Z Z (by simp only[WW,W7,Xe,Xg,aC,ba];rfl) Z Z ?_);refine gA Z (gz (r0:= .sl 4 0 (eC l).length 1) (.inr Z) Z (fH.gu 4 (eC l) aO Z (az _ _) (by simp[PV.bb]) (.done (.bL Z (fun k _=>by rw[Xd])))))
end Go.Proofs.YtlmhfgbkchnfbaaGreatDoor
namespace Go.Proofs.YtlmhfgbkchnfbaaGreatDoor
open Go Go.Al Go.Proofs.Tryz Go.En
theorem cC(xs:By):(Xq xs.length).map (fun k=>(aO (xs.getD k co)).map PV.iv)=db xs:=by
 apply Zk
 .simp
 .intro i h1 u;have j:i<xs.length:=by simpa using h1
  simp[ZU,WU j]
theorem Uo(l xs:By)(hb:l.length+xs.length<=100000000000000):bf prog 63 [.ptr 0 0,.iv (aW 1 xs aO)] (wO l) (.aY []) (wH (l++xs)) 3:=by
 refine ak ab func63 Z (by decide) ntmps63 Z (by simp) ?_;refine gf Z ?_ (ar [2] (by first|exact .inr Z|exact .inl Z) Z (wk Z Z Z (bi ac) ⟨⟨_,rfl,.of_eq ?_⟩,WL Z,rfl,hR Z ?_ Z ac⟩ Z))
 .refine⟨ac,by simp,ac,?_,by omega,by omega⟩;rw[show(List.map (fun k=>List.map PV.iv ((fun k=>aO (xs.getD k co)) k)) (Xq xs.length))=db xs from cC xs];exact fa (fun _=>rfl) xs
 .rw[<-WO];rfl
 .rw[W4];exact congrArg _ (cC xs)
theorem Ew(l xs:By)(hb:l.length+xs.length<=80000000000000):bf prog 32 [.ptr 0 0,.iv (aW 1 xs aO)] (wO l) (.aY []) (wH (l++xs)) 3:=by
 refine ak ab func32 Z (by decide) ntmps32 Z (by simp) ?_;refine gA Z ?_;refine WN (fun zz=>?_) (fun zz=>?_)<;>(try(exact absurd zz (by decide)))
 refine gA Z (ai [0,1] (Uo l xs (by omega)) Z Z Z Z Z (by simp only[WW,W7,Xe,Xg,aC,ba];rfl) Z Z ?_);refine gA Z (ar [2] (by first|exact .inr Z|exact .inl Z) Z (wk Z Z Z (bi ac) ⟨⟨_,rfl,.of_eq Z⟩,WL Z,rfl,hR Z (by first|rfl|exact az _ _) Z ac⟩ Z))
abbrev mkE(m:Int):List (List PV):=[[pY (IntKind.u8.wrap (m.fdiv (2 ^ min (Ze 24) IntKind.u32.bits)))],[pY (IntKind.u8.wrap (m.fdiv (2 ^ min (Ze 16) IntKind.u32.bits)))],[pY (IntKind.u8.wrap (m.fdiv (2 ^ min (Ze 8) IntKind.u32.bits)))],[pY (IntKind.u8.wrap m)]]
abbrev EV(m:Nat):By:=[UInt8.ofNat (m/16777216),UInt8.ofNat (m/65536),UInt8.ofNat (m/256),UInt8.ofNat m]
theorem GB(m:Nat):mkE (m:Int)=db (EV m):=by
 have j:(2:Int) ^ min (Ze 24) IntKind.u32.bits=16777216:=by decide
 have u:(2:Int) ^ min (Ze 16) IntKind.u32.bits=65536:=by decide
 have x:(2:Int) ^ min (Ze 8) IntKind.u32.bits=256:=by decide
 unfold mkE;rw[j,u,x,Yd _ (by decide),Yd _ (by decide),Yd _ (by decide)];have h1:=BV (m/16777216);have y:=BV (m/65536);have A:=BV (m/256);rw[show((m:Int)/16777216)=((m/16777216:Nat):Int) from rfl,show((m:Int)/65536)=((m/65536:Nat):Int) from rfl,show((m:Int)/256)=((m/256:Nat):Int) from rfl,h1,y,A,BV];rfl
theorem qu(l:By):0<=qv l:=Int.emod_nonneg _ (by decide)
theorem H8(n:Int)(h:0<=n):Pure prog 33 [pV n] (.iv (aW 1 (EV n.toNat) aO)):=by
 obtain⟨m,rfl⟩: ∃m:Nat,n=(m:Int):=⟨n.toNat,by omega⟩
 refine ah ab func33 Z (by decide) ntmps33 Z (by simp) Z ?_;refine gf Z ?_ (dA (by first|exact .inr Z|exact .inl Z) Z Z (GB m) Z);trivial
def kC(a:By):By:=(Xq 4).map fun k=>a.getD (a.length-5+k) co
def sT(k:UInt8)(n:Nat)(body:By):By:=[k]++enc n++gZ body
def cV(a:By)(k:UInt8)(n:Nat)(body:By):By:=sT k n body++EV (qv (sT k n body++kC a)).toNat++ [90]
set_option maxHeartbeats 1000000 in
theorem zg(a body:By)(k:UInt8)(a0:Int)(J:5<=a.length)(ha:a.length<=1000000000)(hn:0<=a0∧a0<=1000000000000)(hb:body.length<=900000000):
  bf prog 21 [.iv (aW 1 a aO),pY (k.toNat:Int),pI a0,.iv (aW 1 body aO)] [] (.sl 0 0 (cV a k a0.toNat body).length 1) [(0,io (iG (cV a k a0.toNat body)))] 1:=by
 have Y:(sT k a0.toNat body).length<=900000100:=by
  have h1:=wy a0.toNat;have I:=jN body;rw[sT,WO,WO,Xl];omega
 refine ak ab func21 Z (by decide) ntmps21 Z (by simp) ?_;refine gA Z (ai [] (Bc) Z Z Z Z Z Z Z Z ?_);refine gA Z (ai [0,1] (xN [] k (by decide)) Z Z Z Z Z (by simp only[WW,W7,Xe,Xg,aC,ba];rfl) Z Z ?_);refine gA Z (ai [0,2] (ze ([]++ [k]) a0 hn (by simp)) Z Z Z Z Z (by simp only[WW,W7,aC];exact congrArg (fun z=> [_,io z]) (aC _ _)) Z Z ?_);refine gM 1 Z (cG [] (t:=⟨[(0,.iv (aW 1 a aO)),(3,.iv (aW 1 body aO)),(9,.ptr 0 0)],[(0,io (oX 3 ([]++ [k]++enc a0.toNat))),(3,io (iG ([]++ [k]++enc a0.toNat)))],4⟩) (wk Z Z Z (bi (bi (bi ac))) ⟨⟨_,rfl,.of_eq Z⟩,WL Z,rfl,hR Z (az _ _) Z ac⟩ Z) ?_);refine gA Z (bB Z (lL (mI ab body Z Z Z Z Z Z Z Z Z (fun j hj=>rfl)) Z) ?_);rintro t rfl;refine gA Z (ai [0,3] (Et ([]++ [k]++enc a0.toNat) ⟨body.toArray⟩ (by show body.toArray.size<=_;simp;omega) (by have:=wy a0.toNat;simp only[WO,X8,Xl];omega)) Z Z Z Z Z (by simp only[WW,W7,Xe,Xg,aC,ba];rfl) Z Z ?_);have e:([]:By)++ [k]++enc a0.toNat++gZ body=sT k a0.toNat body:=rfl;rw[show(⟨body.toArray⟩:aq).data.toList=body from rfl,e];rw[cV];generalize sT k a0.toNat body=W at*
 refine gA Z (ai [0,4] (vm W (by omega)) Z Z Z Z Z (by simp only[WW,W7,aC];exact congrArg (fun z=> [_,io z]) (aC _ _)) Z Z ?_);refine gM 2 Z (cG [] (t:=⟨[(0,.iv (aW 1 a aO)),(9,.ptr 0 0),(10,.sl 5 0 W.length 1)],[(0,io (oX 4 W)),(4,io (iG W)),(5,io (iG W))],6⟩) (wk Z Z Z (bi (bi (bi ac))) ⟨⟨_,rfl,.of_eq Z⟩,WL Z,rfl,hR Z (az _ _) Z (hR Z (az _ _) Z ac)⟩ Z) ?_);have D:((a.length:Int)-4-1).toNat=a.length-5:=by omega
 have y:((a.length:Int)-1).toNat-((a.length:Int)-4-1).toNat=4:=by omega
 have x:(Xq (((a.length:Int)-1).toNat-((a.length:Int)-4-1).toNat)).map (fun k=>(aO (a.getD (((a.length:Int)-4-1).toNat+k) co)).map PV.iv)=db (kC a):=by rw[y,D];rfl
 have G:(kC a).length=4:=by simp[kC]
 refine gM 15 Z (hC:=(by refine⟨⟨⟨⟨⟨ac,?_⟩,?_⟩,?_⟩,by omega,by omega,by omega⟩,by simp,ac,by rw[x];exact fa (fun _=>rfl) _,by omega,by omega⟩<;>exact⟨by omega,by omega⟩)) (km 6 (fun k=>aO ((W++kC a).getD k co)) Z (cU (by rw[W4];exact congrArg _ x)) ?_ ?_ ?_)
 .simp[AF.mg,PV.bb]
 .have C:db W++(Xq (((a.length:Int)-1).toNat-((a.length:Int)-4-1).toNat)).map (fun k=>(aO (a.getD (((a.length:Int)-4-1).toNat+k) co)).map PV.iv)=db (W++kC a):=by rw[x];exact W4.symm
  refine⟨fun k e j p A B=>?_,by simp[AO.mg,a8,PV.bb],fQ _ _ _ _ _ _,fQ _ _ _ _ _ _,ac⟩;have u:(db (W++kC a))[k]? =io e:=by rw[<-C];exact A
  exact fQ 6 1 0 1 (W++kC a) aO k e j p u B
 refine cG (L:=[]) (t:=⟨[(9,.ptr 0 0),(10,.iv (aW 1 (W++kC a) aO))],[(0,io (oX 4 W)),(4,io (iG W))],7⟩) (wk Z Z Z (bi ⟨.iv (.bL (by rw[WO,G,y]) (fun k _=>by rw[Xd])),rfl,ac⟩) ⟨⟨_,rfl,.of_eq Z⟩,WL Z,rfl,hR Z (by first|rfl|exact az _ _) Z ac⟩ Z) ?_;refine gA Z (aE (RD (W++kC a) (by rw[WO];omega)) Z Z Z Z Z Z ?_);refine gA Z (aE (H8 (qv (W++kC a)) (qu _)) Z Z Z Z Z Z ?_);refine gA Z (ai [0,4] (Ew W (EV (qv (W++kC a)).toNat) (by show W.length+4<=_;omega)) Z Z Z Z Z (by simp only[WW,W7,Xe,Xg,aC,ba];rfl) Z Z ?_);refine gA Z (ai [0,7] (xN (W++EV (qv (W++kC a)).toNat) 90 (by rw[WO];show W.length+4<=_;omega)) Z Z Z Z Z (by simp only[WW,W7,aC];exact congrArg (fun z=> [_,io z]) (aC _ _)) Z Z ?_);refine gA Z (ai [0,8] (vm (W++EV (qv (W++kC a)).toNat++ [90]) (by rw[WO,WO];show W.length+4+1<=_;omega)) Z Z Z Z Z (by simp only[WW,W7,aC];exact congrArg (fun z=> [_,io z]) (aC _ _)) Z Z ?_);refine gA Z (ar [9] (by first|exact .inr Z|exact .inl Z) Z (wk Z Z Z (bi ac) (hR Z (az _ _) Z ac) Z))
abbrev Si:By:=[80,68,74,49]
def yq(p:Prog):By:=Si++EV (vR p).toNat
def ck(p:Prog):By:=yq p++EV (qv (yq p)).toNat++ [90]
theorem fE(p:Prog):(ck p).length=13:=rfl
set_option maxHeartbeats 1000000 in
theorem Uy(hS:fy)(p:Prog)(hf:p.fit)(hs:p.size<=10000000)(ht:p.ts<=800000000)(hc:(gP p).1=0):bf prog 17 [ag p.c] [] (.aY [.sl 0 0 13 1,pI 0]) [(0,io (iG (ck p)))] 1:=by
 have hM:=P6 hS p hf hs ht
 replace hM:Pure prog 30 [ag p.c] (.aY [pV (vR p),pI 0]):=by rw[yf,am hc]at hM;exact hM
 have x:(yq p).length=8:=rfl;have B:0<=vR p:=qu _;refine ak ab func17 Z (by decide) ntmps17 Z (by simp) ?_;refine gA Z (aE (hM) Z Z Z Z Z Z ?_);refine gA Z ?_;refine WN (fun zz=>?_) (fun zz=>?_)<;>(try(exact absurd zz (by decide)))
 refine gA Z (ai [] (Bc) Z Z Z Z Z Z Z Z ?_);refine gA Z (bB Z (NS (es:=[[pY 80],[pY 68],[pY 74],[pY 49]]) ab Z Z Z Z Z (fun k=>aO (Si.getD k co)) Z Z ?_ Z (by decide) Z) ?_)
 .intro k e u
  match k,u with
  |0,u=>cases u;rfl
  |1,u=>cases u;rfl
  |2,u=>cases u;rfl
  |3,u=>cases u;rfl
 rintro t rfl;refine gA Z (ai [1,2] (bf.le (aa:=[.ptr 0 0,.iv (.bL 1 4 fun k=>(fun k=>aO (Si.getD k co)) (0+k))]) (Ew [] Si (by decide)) ⟨.refl _,.iv (.bL Z (fun k _=>by rw[Xd])),ac⟩) Z Z Z Z Z (by simp only[WW,W7,Xe,Xg,aC,ba];rfl) Z Z ?_);refine gM 1 Z (cG [] (t:=⟨[(4,pV (vR p)),(6,.ptr 1 0)],[(1,io (oX 4 Si)),(4,io (iG Si))],5⟩) (wk Z Z Z (bi (bi ac)) ⟨⟨_,rfl,.of_eq Z⟩,WL Z,rfl,hR Z (az _ _) Z ac⟩ Z) ?_);refine gA Z (aE (H8 (vR p) B) Z Z Z Z Z Z ?_);refine gA Z (ai [1,4] (Ew Si (EV (vR p).toNat) (by show 8<=_;decide)) Z Z Z Z Z (by simp only[WW,W7,Xe,Xg,aC,ba];rfl) Z Z ?_);refine gM 1 Z (cG [] (t:=⟨[(6,.ptr 1 0)],[(1,io (oX 5 (yq p))),(5,io (iG (yq p)))],6⟩) (wk Z Z Z (bi ac) ⟨⟨_,rfl,.of_eq Z⟩,WL Z,rfl,hR Z (az _ _) Z ac⟩ Z) ?_);rw[ck];generalize yq p=A at*
 refine gA Z (ai [1,5] (vm A (by omega)) Z Z Z Z Z (by simp only[WW,W7,Xe,Xg,aC,ba];rfl) Z Z ?_);refine gA Z (r9 (asv:=[.sl 6 0 A.length 1]) (Pure.nX (RD A (by omega))) Z Z Z Z Z (lG (i:=6) (sz:=1) (fun k=>aO (A.getD k co)) Z (cU (az _ _)) (by simp[a8,PV.bb]) ⟨.bL Z (fun k _=>by rw[Xd]),ac⟩) Z (fun j o y=>nomatch y) Z ?_);refine gA Z (aE (H8 (qv A) (qu _)) Z Z Z Z Z Z ?_);refine gA Z (ai [1,5] (Ew A (EV (qv A).toNat) (by show A.length+4<=_;omega)) Z Z Z Z Z (by simp only[WW,W7,aC];exact congrArg (fun z=> [_,io z]) (aC _ _)) Z Z ?_);refine gA Z (ai [1,7] (xN (A++EV (qv A).toNat) 90 (by rw[WO];show A.length+4<=_;omega)) Z Z Z Z Z (by simp only[WW,W7,aC];exact congrArg (fun z=> [_,io z]) (aC _ _)) Z Z ?_);refine gA Z (ai [1,8] (vm (A++EV (qv A).toNat++ [90]) (by rw[WO,WO];show A.length+4+1<=_;omega)) Z Z Z Z Z (by simp only[WW,W7,aC];exact congrArg (fun z=> [_,io z]) (aC _ _)) Z Z ?_);have hl:(A++EV (qv A).toNat++ [90]).length=13:=by rw[WO,WO,x];rfl
 refine gA Z (ar [9] (by first|exact .inr Z|exact .inl Z) Z (wk Z Z Z ⟨.aY ⟨.row hl,.refl _,ac⟩,rfl,ac⟩ (hR Z (az _ _) Z ac) Z))
theorem MA(hS:fy)(p:Prog)(hf:p.fit)(hs:p.size<=10000000)(ht:p.ts<=800000000)(hc: ¬(gP p).1=0):Pure prog 17 [ag p.c] (.aY [rO,pI 4]):=by
 have hM:=P6 hS p hf hs ht
 replace hM:Pure prog 30 [ag p.c] (.aY [pV 0,pI 4]):=by rw[yf,be hc]at hM;exact hM
 refine ah ab func17 Z (by decide) ntmps17 Z (by simp) Z ?_;refine gA Z (aE (hM) Z Z Z Z Z Z ?_);refine gA Z ?_;refine WN (fun zz=>?_) (fun zz=>?_)<;>(try(exact absurd zz (by decide)))
 refine gA Z (aH (by first|exact .inr Z|exact .inl Z) Z (.of_eq ?_));rfl
theorem Rx{h:AH}(l:By){j n:Nat}(hj:h.get j=io (iG l))(hn:n<=l.length):xh h 1 (.sl j 0 n 1)=io (db (l.take n)):=by
 have e:Xj 1 1=jp:=rfl;unfold xh;simp only[e,hj,iG,aX,Xd,Xk,Nat.ble_eq,ZC];rw[show YR n l.length=jp from XN hn];show io _=_;rw[db,List.map_take]
theorem C9(l:By)(n:Nat)(h0:0<n)(hn:n<=l.length)(hb:l.length<=1000000000):bf prog 20 [.sl 0 0 n 1] [iG l] (.sl 1 0 n 1) [(0,io (iG l)),(1,io (iG (l.take n)))] 2:=by
 have hl:(l.take n).length=n:=by rw[Xv];omega
 refine ak ab func20 Z (by decide) ntmps20 Z (by simp) ?_;refine gA Z (Jq ab n n Z Z Z Z Z Z Z Z Z h0 (by omega) (by show 1*n<=_;omega) Z (by decide) (z:=[pY 0]) Z (.inr ⟨rfl,rfl⟩) Z ?_);refine gA Z (bB Z (J9 (news:=db (l.take n)) (eu:=Rk) ab Z Z Z Z Z Z (by simp) Z (hZ (by exact Rx l Z hn)) (fun e j=>by obtain⟨k,_,rfl⟩:=Xw.1 j;rfl) (by rw[Xk,hl]) h0 Z) ?_);rintro t rfl;refine gA Z (ar [1] (by first|exact .inr Z|exact .inl Z) Z (wk Z Z Z (bi ac) (hR Z Z Z (hR Z Z Z ac)) Z))
end Go.Proofs.YtlmhfgbkchnfbaaGreatDoor
namespace Go.Proofs.YtlmhfgbkchnfbaaGreatDoor
open Go Go.Al Go.Proofs.Tryz Go.En Go.Bo
abbrev jC(i k:Nat)(a:By)(a0:Int):AO:= .cells [.ptr i 0,.sl k 0 a.length 1,pI a0]
abbrev jO(p:Prog)(n:Nat)(m:FM)(a:By)(a0:Int):List AO:=[bz m,cm p n 0,iG a,jC 1 2 a a0]
abbrev jH(p:Prog)(n:Nat)(m:FM)(a:By)(a0:Int):AH:=[(0,io (bz m)),(1,io (cm p n 0)),(2,io (iG a)),(3,io (jC 1 2 a a0))]
theorem vn(p:Prog)(n:Nat)(m:FM)(a:By)(a0:Int):bf prog 12 [.ptr 3 0] (jO p n m a a0) (pI a0) (jH p n m a a0) 4:=by
 refine ak ab func12 Z (by decide) ntmps12 Z (by simp) ?_;refine gA Z ?_;refine WN (fun zz=>?_) (fun zz=>?_)<;>(try(exact absurd zz (by decide)))
 refine gA Z (ar [] (by first|exact .inr Z|exact .inl Z) Z (wk Z Z Z (bi ac) (hM Z Z Z ⟨⟨_,rfl,.of_eq Z⟩,WL Z,rfl,hR Z (by first|rfl|exact az _ _) Z ⟨⟨_,rfl,.of_eq Z⟩,WL Z,rfl,ac⟩⟩) Z))
theorem EF(p:Prog)(n:Nat)(m:FM)(a:By)(a0:Int)(h0:0<a.length)(ha:a.length<=1000000000):bf prog 9 [.ptr 3 0] (jO p n m a a0) (.iv (aW 1 a aO)) (jH p n m a a0) 4:=by
 have hF:=C9 a a.length h0 (WY _) ha;rw[X7]at hF;refine ak ab func9 Z (by decide) ntmps9 Z (by simp) ?_;refine gA Z ?_;refine WN (fun zz=>?_) (fun zz=>?_)<;>(try(exact absurd zz (by decide)))
 refine gA Z (ai [2] (hF) Z Z Z Z Z (by simp only[WW,W7,Xe,Xg,aC,ba];rfl) Z Z ?_);refine gA Z ⟨.inr Z,.sl 4 0 a.length 1,rfl,fH.gu 4 a aO Z (by first|rfl|exact az _ _) (by simp[PV.bb]) (.done ⟨_,_,_,[],⟨rfl,rfl,rfl⟩,wk Z Z Z ⟨.iv (.bL Z (fun k _=>by rw[Xd])),rfl,ac⟩ (hM Z Z Z ⟨⟨_,rfl,.of_eq Z⟩,WL Z,rfl,hR Z (by first|rfl|exact az _ _) Z ⟨⟨_,rfl,.of_eq Z⟩,WL Z,rfl,ac⟩⟩) Z⟩)⟩
theorem zh(p:Prog)(n:Nat)(a:By)(a0:Int){m:FM}{S:List Fact}(hk:bY cA m S)(hs:rk aV S)(hF:xy S)(hl:S.length<=100000000):bf prog 8 [.ptr 3 0] (jO p n m a a0) (.iv (aW 2 S Fact.c)) (jH p n m a a0) 4:=by
 refine ak ab func8 Z (by decide) ntmps8 Z (by simp) ?_;refine gA Z ?_;refine WN (fun zz=>?_) (fun zz=>?_)<;>(try(exact absurd zz (by decide)))
 refine gA Z (ai [0,1] (H9 p n hk hs hF hl) Z Z Z Z Z Z Z Z ?_);refine gA Z (ar [] (by first|exact .inr Z|exact .inl Z) Z (wk Z Z Z (bi ac) (hM Z Z Z ⟨⟨_,rfl,.of_eq Z⟩,WL Z,rfl,hR Z (by first|rfl|exact az _ _) Z ⟨⟨_,rfl,.of_eq Z⟩,WL Z,rfl,ac⟩⟩) Z))
theorem F9(p:Prog)(n:Nat)(m:FM)(hb:p.size<=1000000000):bf prog 56 [.ptr 1 0] (bO p n m) (ag p.c) (bH p n m) 2:=by
 refine ak ab func56 Z (by decide) ntmps56 Z (by simp) ?_;refine gA Z ?_;refine WN (fun zz=>?_) (fun zz=>?_)<;>(try(exact absurd zz (by decide)))
 refine gA Z (aE (H4 p hb) Z Z Z Z Z Z ?_);refine gA Z (ar [] (by first|exact .inr Z|exact .inl Z) Z (wk Z Z Z (bi ac) (hM Z Z Z ⟨⟨_,rfl,.of_eq Z⟩,WL Z,rfl,ac⟩) Z))
section
section
variable (hS:fy) (p:Prog) (hf:p.fit) (hs:p.size<=10000000) (ht:p.ts<=800000000)
include hS hf hs ht
theorem zj(hc:(gP p).1=0):bf prog 7 [ag p.c] [] (.aY [.ptr 3 0,pI 0]) (jH p 0 [] (ck p) 0) 4:=by
 refine ak ab func7 Z (by decide) ntmps7 Z (by simp) ?_;refine gA Z (ai [] (Uy hS p hf hs ht hc) Z Z Z Z Z Z Z Z ?_);refine gA Z ?_;refine WN (fun zz=>?_) (fun zz=>?_)<;>(try(exact absurd zz (by decide)))
 refine gA Z (ai [] (VU hS p hf hs hc) Z Z Z Z Z Z Z Z ?_);refine gA Z ?_;refine WN (fun zz=>?_) (fun zz=>?_)<;>(try(exact absurd zz (by decide)))
 refine gA Z (ar [2,3,1,4] (by first|exact .inr Z|exact .inl Z) Z (wk Z Z Z ⟨.of_eq Z,rfl,ac⟩ (hM Z Z Z ⟨⟨_,rfl,.of_eq Z⟩,WL Z,rfl,hR Z (by first|rfl|exact az _ _) Z ⟨⟨_,rfl,.of_eq Z⟩,WL Z,rfl,ac⟩⟩) Z))
theorem xM(hc: ¬(gP p).1=0):Pure prog 7 [ag p.c] (.aY [UP,pI 4]):=by
 refine ah ab func7 Z (by decide) ntmps7 Z (by simp) Z ?_;refine gA Z (aE (MA hS p hf hs ht hc) Z Z Z Z Z Z ?_);refine gA Z ?_;refine WN (fun zz=>?_) (fun zz=>?_)<;>(try(exact absurd zz (by decide)))
 refine gA Z (aH (by first|exact .inr Z|exact .inl Z) Z (.of_eq ?_));rfl
end
theorem Mj(a b:By):lc ((⟨a.toArray⟩:aq)=⟨b.toArray⟩)=lc (a=b):=by
 refine decide_eq_decide.2 ⟨fun h=>?_,fun h=>by rw[h]⟩;have:=congrArg (fun x:aq=>x.data.toList) h;exact this
theorem EA(a b:By):Pure prog 48 [.iv (aW 1 a aO),.iv (aW 1 b aO)] (pB (lc (a=b))):=by
 refine ah ab func48 Z (by decide) ntmps48 Z (by simp) Z ?_;refine gM 7 Z (bB Z (lL (mI ab a Z Z Z Z Z Z Z Z Z (fun j u=>rfl)) Z) ?_);rintro t rfl;refine gM 1 Z (bB Z (lL (mI ab b Z Z Z Z Z Z Z Z Z (fun j u=>rfl)) Z) ?_);rintro t rfl;refine gA Z (aH (by first|exact .inr Z|exact .inl Z) Z (.of_eq ?_));exact congrArg pB (Mj a b)
theorem My(b a:By):Pure prog 27 [.iv (aW 1 b aO),.iv (aW 1 a aO)] (pB (lc (b.take a.length=a))):=by
 refine ah ab func27 Z (by decide) ntmps27 Z (by simp) Z ?_;refine gA Z ?_;refine WN (fun h1=>?_) (fun h1=>?_)
 .have h1:a.length<=b.length:=by have:=of_decide_eq_true h1;omega
  refine gM 6 Z (bB Z (lL (tk (m:=a.length) ab Z Z Z Z Z Z Z h1) Z) ?_);rintro t rfl;refine gA Z (aE (EA (b.take a.length) a) Z Z Z Z Z Z ?_);refine gA Z (aH (by first|exact .inr Z|exact .inl Z) Z (.of_eq ?_));rfl
 .have h1: ¬a.length<=b.length:=by have:=of_decide_eq_false h1;omega
  rw[decide_eq_false fun h=>h1 (by rw[<-h,Xv];omega)];refine gA Z (aH (by first|exact .inr Z|exact .inl Z) Z (.of_eq ?_));rfl
end
end Go.Proofs.YtlmhfgbkchnfbaaGreatDoor
namespace Go.Proofs.YtlmhfgbkchnfbaaGreatDoor
open Go Go.Al Go.En Go.Bo
structure LdJ (L:List Fact) (n:Nat) (i:Nat) (x:FM×Nat):Prop where
 keeps:bY cA x.1 (L.take (4096*i))
 num:x.2=n+i
theorem Gp{p:Prog}{A B:List Fact}(j:Go.Bo.dV aV (okF p) (A++B))(u:B.length<=4096):iU aV (okF p) A (B.map fun f=>(jp,f))=0:=by
 rw[kv,BP pb j.AA];refine⟨by rw[Xk];exact u,fun x y=>?_,j.KN⟩;obtain⟨f,hf,rfl⟩:=Xw.1 y;exact j.ok f (Yo _ hf)
theorem yC{p:Prog}{L:List Fact}(h:Go.Bo.dV aV (okF p) L)(j:Nat):Go.Bo.dV aV (okF p) (L.take j):=
 ⟨h.AA.sublist (List.take_sublist _ _),fun f hf=>h.ok f (Yx hf),by have:=h.KN;rw[Xv];omega⟩
theorem dV.U8{p:Prog}{L:List Fact}(h:Go.Bo.dV aV (okF p) L): ∀f∈L,f.args.length<=8:=fun f hf=>iR (h.ok f hf)
theorem Us(p:Prog)(n:Nat)(a:By)(a0:Int){m:FM}(L:List Fact)(hk:bY cA m [])(Y:Go.Bo.dV aV (okF p) L)(hr:p.aF.length<=1000000000)(hn:n<=100000000000):
  Al.Fn Tryz.prog 59 [.ptr 3 0,.iv (aW 2 L Fact.c)] (jO p n m a a0) fun r h k=> ∃m' n',n'<=n+17∧bY cA m' L∧r=pB jp∧h=jH p n' m' a a0∧k=4:=by
 have e0:=Y.KN;have h8:=dV.U8 Y;refine lU ab Tryz.func59 Z (by decide) Tryz.ntmps59 Z (by simp) ?_;refine gA Z ?_;refine jv 0 ((L.length+4095)/4096) (W2 _) (fun i (x:FM×Nat)=>⟨[(0,.ptr 3 0),(1,.iv (aW 2 (L.drop (4096*i)) Fact.c))],jH p x.2 x.1 a a0,4⟩) (LdJ L n) (m,n) [] ⟨hk,rfl⟩
  (wk Z Z Z (bi (bi trivial)) (hM Z Z Z ⟨⟨_,rfl,.of_eq Z⟩,WL Z,rfl,hR Z (by first|rfl|exact az _ _) Z ⟨⟨_,rfl,.of_eq Z⟩,WL Z,rfl,ac⟩⟩) Z) fun i x hi hJ=>?_
 obtain⟨m1,A⟩:=x;obtain⟨u,g0⟩:=hJ;dsimp only at u g0;have I:(L.drop (4096*i)).length=L.length-4096*i:=XT ..;obtain⟨D,J⟩: ∃D,D=L.drop (4096*i):=⟨_,rfl⟩
 rw[<-J]at I ⊢;refine gA Z ?_;refine WN (fun h1=>?_) (fun h1=>?_)
 .have h1:0<D.length:=by have:=of_decide_eq_true h1;omega
  have f0:i<(L.length+4095)/4096:=by omega
  obtain⟨c,hc⟩: ∃c,c=min D.length 4096:=⟨_,rfl⟩
  have c0:c<=D.length:=by omega
  have hB:(D.take c).length<=4096:=by rw[Xv];omega
  have G:L.take (4096*i)++D.take c=L.take (4096*(i+1)):=by
   rw[J,show 4096*(i+1)=4096*i+4096 by omega,List.take_add];congr 1;rw[hc,I];by_cases h:L.length-4096*i<=4096
   .rw[Nat.min_eq_left h,W9 (by rw[XT];exact WY _),W9 (by rw[XT];exact h)]
   .rw[Nat.min_eq_right (by omega)]
  have j:=yC Y (4096*(i+1));rw[<-G]at j;have y:=Gp j hB;have C: ∀f∈D,f.args.length<=8:=fun f hf=>h8 f (aaa (by rw[J]at hf;exact hf));have B:=Ii [] (D.take c) Y0 (YI.1 j.AA).2.1 (fun f hf=>nomatch hf) (fun f hf=>by have:=C f (Yx hf);omega) (by decide) (by omega);rw[mY]at B
  have hA:=De p A ((D.take c).map fun f=>(jp,f)) hr u (yC Y _) (fun x hx=>by
   obtain⟨f,hf,rfl⟩:=Xw.1 hx;have:=C f (Yx hf)
   show f.args.length<=_;omega) (by omega)
  rw[show j5 aV (okF p) (L.take (4096*i),A) ((D.take c).map fun f=>(jp,f))=(L.take (4096*(i+1)),A+1) by unfold j5;rw[am y,BP pb j.AA,G]]at hA;have b0:D.drop c=L.drop (4096*(i+1)):=by
   by_cases h:D.length<=4096
   .rw[Yg (by omega),Yg (by omega)]
   .rw[J,List.drop_drop];congr 1;omega
  have d0:ae (.iv (.bL 2 (D.length-c) fun k=>Fact.c (D.getD (c+k) co))) (.iv (aW 2 (L.drop (4096*(i+1))) Fact.c)):=by rw[<-b0];exact .iv (Cq Z)
  (refine gM 9 Z ?_;refine cG (L:=[]) (t:=⟨[(0,.ptr 3 0),(1,.iv (aW 2 D Fact.c)),(5,pI c)],jH p A m1 a a0,4⟩) (wk Z Z Z (bi (bi ⟨.of_eq (congrArg pI (by omega)),rfl,ac⟩)) (hM Z Z Z ⟨⟨_,rfl,.of_eq Z⟩,WL Z,rfl,hR Z Z Z ⟨⟨_,rfl,.of_eq Z⟩,WL Z,rfl,ac⟩⟩) Z) ?_)
  refine gA Z (kO (p:= .iv (aW 2 (D.take c) Fact.c)) 7 Z Z Z Z Z Z (tk (m:=c) ab Z Z Z Z Z Z Z c0) ?_);refine gA Z (bg ab [] (Pure.nX (Pure.le (aa:=[rO,.iv (aW 2 (D.take c) Fact.c)]) B ⟨.nil _ _,.refl _,ac⟩)) Z Z Z Z Z Z Z Z Z Z Z Z (by(repeat' (first|exact ac|exact rfl|exact ae.refl _|exact ae.bk (by assumption)|apply WN))<;>first|omega|(simp only[WV];omega)|(simp;done)|(simp;omega)) Z (by(repeat' (first|exact ac|exact rfl|exact ae.refl _|exact ae.bk (by assumption)|apply WN))<;>first|omega|(simp only[WV];omega)|(simp;done)|(simp;omega)) ?_);refine gA Z (Jw ab [0,1] hA Z Z Z Z Z Z Z Z Z Z Z (by(repeat' (first|exact ac|exact rfl|exact ae.refl _|exact ae.bk (by assumption)|apply WN))<;>first|omega|(simp only[WV];omega)|(simp;done)|(simp;omega)) ?_);rintro r h' n' ⟨m2,hk2,rfl,rfl,rfl⟩;refine⟨_,rfl,_,rfl,(by(repeat' (first|exact ac|exact rfl|exact ae.refl _|exact ae.bk (by assumption)|apply WN))<;>first|omega|(simp only[WV];omega)|(simp;done)|(simp;omega)),?_⟩;refine gA Z ?_;refine WN (fun zz=>?_) (fun zz=>?_)<;>(try(rw[y]at zz;exact absurd zz (by decide)))
  refine gA Z ⟨f0,(m2,A+1),[],⟨hk2,by dsimp only;omega⟩,wk Z Z Z (bi ⟨d0,rfl,ac⟩) (hM Z Z Z ⟨⟨_,rfl,.of_eq Z⟩,WL Z,rfl,hR Z (by first|rfl|exact az _ _) Z ⟨⟨_,rfl,.of_eq Z⟩,WL Z,rfl,ac⟩⟩) Z⟩
 .have h1:D.length=0:=by have:=of_decide_eq_false h1;omega
  rw[W9 (by omega)]at u;refine gA Z (dz (r:=pB jp) (h:=jH p A m1 a a0) (n:=4) [] (.inr Z) Z ⟨m1,A,by omega,u,rfl,rfl,rfl⟩ (wk Z Z Z (bi ac) (hM Z Z Z ⟨⟨_,rfl,.of_eq Z⟩,WL Z,rfl,hR Z (by first|rfl|exact az _ _) Z ⟨⟨_,rfl,.of_eq Z⟩,WL Z,rfl,ac⟩⟩) Z))
end Go.Proofs.YtlmhfgbkchnfbaaGreatDoor
namespace Go.Proofs.YtlmhfgbkchnfbaaGreatDoor
open Go Go.Al Go.Proofs.Tryz Go.En
abbrev oe(b:By)(s:RS):AO:= .cells [.iv (aW 1 b aO),pI s.p,pI s.f]
abbrev uD(b:By)(s:RS):AH:=[(0,io (oe b s))]
def gi(s:RS)(e:Int):RS:=if s.f=0 then⟨s.p,e⟩ else s
theorem rC(b:By)(s:RS)(e:Int):bf prog 87 [.ptr 0 0,pI e] [oe b s] (.aY []) (uD b (gi s e)) 1:=by
 refine ak ab func87 Z (by decide) ntmps87 Z (by simp) ?_;refine gA Z ?_;refine WN (fun g1=>?_) (fun g1=>?_)
 .have g1:s.f=0:=of_decide_eq_true g1;rw[gi,am g1];refine gA Z (ar [] (by first|exact .inr Z|exact .inl Z) Z (wk Z Z Z (bi ac) ⟨⟨_,rfl,.of_eq Z⟩,WL Z,rfl,ac⟩ Z))
 .have g1: ¬s.f=0:=of_decide_eq_false g1;rw[gi,be g1];refine gA Z (ar [] (by first|exact .inr Z|exact .inl Z) Z (wk Z Z Z (bi ac) ⟨⟨_,rfl,.of_eq Z⟩,WL Z,rfl,ac⟩ Z))
theorem vj(b:By)(s:RS):bf prog 84 [.ptr 0 0] [oe b s] (pB (lc (s.f=0))) (uD b s) 1:=by
 refine ak ab func84 Z (by decide) ntmps84 Z (by simp) ?_;refine gA Z ?_;refine WN (fun zz=>?_) (fun zz=>?_)<;>(try(exact absurd zz (by decide)))
 refine gA Z (ar [] (by first|exact .inr Z|exact .inl Z) Z (wk Z Z Z (bi ac) ⟨⟨_,rfl,.of_eq Z⟩,WL Z,rfl,ac⟩ Z))
theorem sK(b:By)(s:RS):bf prog 54 [.ptr 0 0] [oe b s] (pI s.f) (uD b s) 1:=by
 refine ak ab func54 Z (by decide) ntmps54 Z (by simp) ?_;refine gA Z ?_;refine WN (fun zz=>?_) (fun zz=>?_)<;>(try(exact absurd zz (by decide)))
 refine gA Z (ar [] (by first|exact .inr Z|exact .inl Z) Z (wk Z Z Z (bi ac) ⟨⟨_,rfl,.of_eq Z⟩,WL Z,rfl,ac⟩ Z))
def jm(b:By)(s:RS):Int:=if s.f=0∧s.p<b.length then 13 else s.f
theorem H3(b:By)(s:RS):bf prog 89 [.ptr 0 0] [oe b s] (pI (jm b s)) (uD b s) 1:=by
 refine ak ab func89 Z (by decide) ntmps89 Z (by simp) ?_;refine gA Z ?_;refine WN (fun zz=>?_) (fun zz=>?_)<;>(try(exact absurd zz (by decide)))
 refine gA Z ?_;refine WN (fun g1=>?_) (fun g1=>?_)
 .have g1:s.f=0:=of_decide_eq_true g1;refine gA Z ?_;refine WN (fun g2=>?_) (fun g2=>?_)
  .have g2:s.p<b.length:=by have:=of_decide_eq_true g2;omega
   rw[jm,am ⟨g1,g2⟩];refine gA Z (ar [] (by first|exact .inr Z|exact .inl Z) Z (wk Z Z Z (bi ac) ⟨⟨_,rfl,.of_eq Z⟩,WL Z,rfl,ac⟩ Z))
  .have g2: ¬s.p<b.length:=by have:=of_decide_eq_false g2;omega
   rw[jm,be fun h=>g2 h.2];refine gA Z (ar [] (by first|exact .inr Z|exact .inl Z) Z (wk Z Z Z (bi ac) ⟨⟨_,rfl,.of_eq Z⟩,WL Z,rfl,ac⟩ Z))
 .have g1: ¬s.f=0:=of_decide_eq_false (g1.trans Z);rw[jm,be fun h=>g1 h.1];refine gA Z (ar [] (by first|exact .inr Z|exact .inl Z) Z (wk Z Z Z (bi ac) ⟨⟨_,rfl,.of_eq Z⟩,WL Z,rfl,ac⟩ Z))
theorem SS: ∀c:Nat,c<256->(BitVec.ofInt IntKind.u8.bits (c:Int)&&&BitVec.ofInt IntKind.u8.bits 127).toNat=c % 128:=by
 intro c h;have j: ∀c:Fin 256,(BitVec.ofInt IntKind.u8.bits ((c.val:Nat):Int)&&&BitVec.ofInt IntKind.u8.bits 127).toNat=c.val % 128:=by decide+kernel
 exact j ⟨c,h⟩
theorem Th(n:Nat)(h:n<18446744073709551616):IntKind.u64.wrap (n:Int)=(n:Int):=by
 have e:IntKind.u64.wrap (n:Int)=(n:Int) % 18446744073709551616:=rfl;rw[e];omega
theorem w8(n:Nat)(h:n<256):IntKind.u8.wrap (n:Int)=(n:Int):=by
 have e:IntKind.u8.wrap (n:Int)=(n:Int) % 256:=rfl;rw[e];omega
theorem Sd(n:Nat)(h:n<18446744073709551616):(BitVec.ofInt 64 (n:Int)).toNat=n:=by
 rw[BitVec.toNat_ofInt];have:((n:Int) % ((2 ^ 64:Nat):Int))=(n:Int):=by
  show(n:Int) % 18446744073709551616=_;omega
 rw[this];rfl
theorem S5(x c i:Nat)(hi:i<=9)(C:x<128 ^ i)(hc:c<256)(I:i=9->c<=1):
  IntKind.u64.wrap ((BitVec.ofInt IntKind.u64.bits (x:Int)|||BitVec.ofInt IntKind.u64.bits (IntKind.u64.wrap (IntKind.u64.wrap (IntKind.u8.wrap ((BitVec.ofInt IntKind.u8.bits (c:Int)&&&BitVec.ofInt IntKind.u8.bits 127).toNat:Int))*2 ^ min ((7*(i:Int))).toNat IntKind.u64.bits))).toNat:Int)=((x+c % 128*128 ^ i:Nat):Int):=by
 rw[SS c hc,w8 _ (by omega),Th (c % 128) (by omega)];have A:(128:Nat) ^ i=2 ^ (7*i):=by rw[show(128:Nat)=2 ^ 7 from rfl,<-Nat.pow_mul]
 have J:min ((7*(i:Int))).toNat IntKind.u64.bits=7*i:=by
  show min _ 64=_;omega
 have u:c % 128*2 ^ (7*i)<18446744073709551616∧x+c % 128*2 ^ (7*i)<18446744073709551616:=by
  rw[A]at C;by_cases h:i=9
  .subst h;have:=I Z;have h1:c % 128<=1:=by omega
   have D:c % 128*2 ^ (7*9)<=1*2 ^ (7*9):=Xi _ h1;have G:(2:Nat) ^ (7*9)=9223372036854775808:=by decide
   omega
  .have h1:2 ^ (7*i)<=2 ^ 56:=Z9 (by decide) (by omega);have D:c % 128*2 ^ (7*i)<=127*2 ^ 56:=Nat.mul_le_mul (by omega) h1;have G:(2:Nat) ^ 56=72057594037927936:=by decide
   omega
 rw[J];have j:(((c % 128:Nat):Int))*2 ^ (7*i)=((c % 128*2 ^ (7*i):Nat):Int):=by push_cast;rfl
 rw[j,Th _ u.1];have B:x<2 ^ (7*i):=A▸C;have y:(BitVec.ofInt IntKind.u64.bits (x:Int)|||BitVec.ofInt IntKind.u64.bits ((c % 128*2 ^ (7*i):Nat):Int)).toNat=x+c % 128*2 ^ (7*i):=by
  show(BitVec.ofInt 64 (x:Int)|||BitVec.ofInt 64 ((c % 128*2 ^ (7*i):Nat):Int)).toNat=_;rw[BitVec.toNat_or,Sd x (by omega),Sd _ u.1,Nat.or_comm,Zy,<-Nat.two_pow_add_eq_or_of_lt B,Nat.add_comm]
 rw[y,Th _ u.2,A]
def kG(b:By)(s:RS):Nat×Nat×RS:=match dec 0 0 (b.drop s.p) with
 | .ok n k=>(n,k,s)
 | .short=>(0,0,gi s 10)
 | .form=>(0,0,gi s 11)
structure NxJ (b:By) (s:RS) (i x:Nat):Prop where
 le:i<=9
 eq:dec 0 0 (b.drop s.p)=dec i x (b.drop (s.p+i))
 lt:x<128 ^ i
theorem H5(b:By)(s:RS)(hb:b.length<=1000000000)(hp:s.p<=1000000000):bf prog 86 [.ptr 0 0] [oe b s] (.aY [pU (kG b s).1,pI (kG b s).2.1]) (uD b (kG b s).2.2) 1:=by
 refine ak ab func86 Z (by decide) ntmps86 Z (by simp) ?_;refine gA Z ?_;refine jv 0 10 (by decide) (fun i x=>⟨[(0,.ptr 0 0),(4,pU x),(7,pI i)],[(0,io (oe b s))],1⟩) (NxJ b s) 0 [] ⟨by decide,rfl,by decide⟩
  (wk Z Z Z (bi (bi (bi trivial))) ⟨⟨_,rfl,.of_eq Z⟩,WL Z,rfl,ac⟩ Z) fun i x hi G=>?_
 have B:=G.le;refine gA Z ?_;refine WN (fun zz=>?_) (fun zz=>?_)<;>(try(have h9:=of_decide_eq_false zz;omega))
 refine gA Z ?_;refine WN (fun g1=>?_) (fun g1=>?_)
 .have g1:b.length<=s.p+i:=by have:=of_decide_eq_true g1;omega
  have e:kG b s=(0,0,gi s 10):=by rw[kG,G.eq,Yg g1];cases i<;>rfl
  rw[e];refine gA Z (ai [0] (rC b s 10) Z Z Z Z Z Z Z Z ?_);refine gA Z (ar [] (by first|exact .inr Z|exact .inl Z) Z (wk Z Z Z (bi ac) ⟨⟨_,rfl,.of_eq Z⟩,WL Z,rfl,ac⟩ Z))
 have g1:s.p+i<b.length:=by have:=of_decide_eq_false g1;omega
 obtain⟨c,I⟩: ∃c,c=(b.getD (s.p+i) co).toNat:=⟨_,rfl⟩
 have u:c<256:=by rw[I];exact(b.getD (s.p+i) co).toNat_lt
 have j:((s.p:Int)+(i:Int)).toNat=s.p+i:=by omega
 have a0:b.drop (s.p+i)=b.getD (s.p+i) co::b.drop (s.p+i+1):=by
  rw[YC g1];simp[ZU,WU g1]
 have D:=G.eq;rw[a0,dec,<-I]at D;have A:(i=9∧1<c)∨(0<i∧c=0)->kG b s=(0,0,gi s 11):=fun h=>by rw[kG,D,am h]
 have Y:c<128-> ¬((i=9∧1<c)∨(0<i∧c=0))->kG b s=(x+c % 128*128 ^ i,i+1,s):=fun h1 h2=>by rw[kG,D,be h2,am h1]
 have e2: ¬c<128-> ¬((i=9∧1<c)∨(0<i∧c=0))->NxJ b s (i+1) (x+c % 128*128 ^ i):=fun h1 h2=>by
  rw[be h2,be h1]at D;refine⟨by omega,D,?_⟩;have h3:=G.lt;have h4:c % 128*128 ^ i<=127*128 ^ i:=Xi _ (by omega);rw[ZB];omega
 refine gA Z ?_;refine WN (fun J=>?_) (fun J=>?_)
 .have J:i=9:=by have:=of_decide_eq_true J;omega
  refine gA Z ?_;refine WN (fun a2=>?_) (fun a2=>?_)
  .have a2: ¬c>1:=by have:=of_decide_eq_false a2;rw[j]at this;omega
   refine gA Z ?_;refine WN (fun a3=>?_) (fun a3=>?_)
   .refine gA Z ?_;refine WN (fun a4=>?_) (fun a4=>?_)
    .have a4:c=0:=by have:=of_decide_eq_true a4;rw[j]at this;omega
     have e:kG b s=(0,0,gi s 11):=A (by omega);rw[e];refine gA Z (ai [0] (rC b s 11) Z Z Z Z Z Z Z Z ?_);refine gA Z (ar [] (by first|exact .inr Z|exact .inl Z) Z (wk Z Z Z (bi ac) ⟨⟨_,rfl,.of_eq Z⟩,WL Z,rfl,ac⟩ Z))
    .have a4: ¬c=0:=by have:=of_decide_eq_false a4;rw[j]at this;omega
     have y: ¬((i=9∧1<c)∨(0<i∧c=0)):=by omega
     refine gA Z ?_;refine WN (fun g3=>?_) (fun g3=>?_)
     .have g3:c<128:=by have:=of_decide_eq_true g3;rw[j]at this;omega
      rw[Y g3 y];refine gA Z (ar [] (by first|exact .inr Z|exact .inl Z) Z (wk Z Z Z ⟨.of_eq (congrArg (fun z=>PV.aY [PV.iv (.v (.int .u64 z)),pI ((i:Int)+1)]) (by rw[j,<-I];exact S5 x c i B G.lt u (by omega))),rfl,ac⟩ ⟨⟨_,rfl,.of_eq Z⟩,WL Z,rfl,ac⟩ Z))
     .have g3: ¬c<128:=by have:=of_decide_eq_false g3;rw[j]at this;omega
      have C:=e2 g3 y;refine gA Z ⟨by omega,_,[],C,wk Z Z Z (bi ⟨.of_eq (congrArg (fun z=>PV.iv (.v (.int .u64 z))) (by rw[j,<-I];exact S5 x c i B G.lt u (by omega))),rfl,bi ac⟩) ⟨⟨_,rfl,.of_eq Z⟩,WL Z,rfl,ac⟩ Z⟩
   .exact absurd (of_decide_eq_false (a3.trans Z)) (by omega)
  .have a2:c>1:=by have:=of_decide_eq_true (a2.trans Z);rw[j]at this;omega
   have e:kG b s=(0,0,gi s 11):=A (by omega);rw[e];refine gA Z (ai [0] (rC b s 11) Z Z Z Z Z Z Z Z ?_);refine gA Z (ar [] (by first|exact .inr Z|exact .inl Z) Z (wk Z Z Z (bi ac) ⟨⟨_,rfl,.of_eq Z⟩,WL Z,rfl,ac⟩ Z))
 .have J: ¬i=9:=by have:=of_decide_eq_false (J.trans Z);omega
  refine gA Z ?_;refine WN (fun a3=>?_) (fun a3=>?_)
  .have a3:0<i:=by have:=of_decide_eq_true a3;omega
   refine gA Z ?_;refine WN (fun a4=>?_) (fun a4=>?_)
   .have a4:c=0:=by have:=of_decide_eq_true a4;rw[j]at this;omega
    have e:kG b s=(0,0,gi s 11):=A (by omega);rw[e];refine gA Z (ai [0] (rC b s 11) Z Z Z Z Z Z Z Z ?_);refine gA Z (ar [] (by first|exact .inr Z|exact .inl Z) Z (wk Z Z Z (bi ac) ⟨⟨_,rfl,.of_eq Z⟩,WL Z,rfl,ac⟩ Z))
   .have a4: ¬c=0:=by have:=of_decide_eq_false a4;rw[j]at this;omega
    have y: ¬((i=9∧1<c)∨(0<i∧c=0)):=by omega
    refine gA Z ?_;refine WN (fun g3=>?_) (fun g3=>?_)
    .have g3:c<128:=by have:=of_decide_eq_true g3;rw[j]at this;omega
     rw[Y g3 y];refine gA Z (ar [] (by first|exact .inr Z|exact .inl Z) Z (wk Z Z Z ⟨.of_eq (congrArg (fun z=>PV.aY [PV.iv (.v (.int .u64 z)),pI ((i:Int)+1)]) (by rw[j,<-I];exact S5 x c i B G.lt u (by omega))),rfl,ac⟩ ⟨⟨_,rfl,.of_eq Z⟩,WL Z,rfl,ac⟩ Z))
    .have g3: ¬c<128:=by have:=of_decide_eq_false g3;rw[j]at this;omega
     have C:=e2 g3 y;refine gA Z ⟨by omega,_,[],C,wk Z Z Z (bi ⟨.of_eq (congrArg (fun z=>PV.iv (.v (.int .u64 z))) (by rw[j,<-I];exact S5 x c i B G.lt u (by omega))),rfl,bi ac⟩) ⟨⟨_,rfl,.of_eq Z⟩,WL Z,rfl,ac⟩ Z⟩
  .have a3: ¬0<i:=by have:=of_decide_eq_false (a3.trans Z);omega
   have y: ¬((i=9∧1<c)∨(0<i∧c=0)):=by omega
   refine gA Z ?_;refine WN (fun g3=>?_) (fun g3=>?_)
   .have g3:c<128:=by have:=of_decide_eq_true g3;rw[j]at this;omega
    rw[Y g3 y];refine gA Z (ar [] (by first|exact .inr Z|exact .inl Z) Z (wk Z Z Z ⟨.of_eq (congrArg (fun z=>PV.aY [PV.iv (.v (.int .u64 z)),pI ((i:Int)+1)]) (by rw[j,<-I];exact S5 x c i B G.lt u (by omega))),rfl,ac⟩ ⟨⟨_,rfl,.of_eq Z⟩,WL Z,rfl,ac⟩ Z))
   .have g3: ¬c<128:=by have:=of_decide_eq_false g3;rw[j]at this;omega
    have C:=e2 g3 y;refine gA Z ⟨by omega,_,[],C,wk Z Z Z (bi ⟨.of_eq (congrArg (fun z=>PV.iv (.v (.int .u64 z))) (by rw[j,<-I];exact S5 x c i B G.lt u (by omega))),rfl,bi ac⟩) ⟨⟨_,rfl,.of_eq Z⟩,WL Z,rfl,ac⟩ Z⟩
theorem sr: ∀(l:By) (i a n k:Nat),dec i a l= .ok n k->i+1<=k∧k<=i+l.length
 | [],_,_,_,_,h=>by rw[dec]at h;cases h
 |c::r,i,a,n,k,h=>by
  rw[dec]at h;split at h
  .cases h
  .split at h
   .cases h;rw[Xn];omega
   .have:=sr r _ _ _ _ h;rw[Xn];omega
theorem oz(b:By)(s:RS)(hf:s.f=0)(hp:s.p<=b.length):(∃n k,dec 0 0 (b.drop s.p)= .ok n k∧kG b s=(n,k,s)∧1<=k∧s.p+k<=b.length)∨(∃e:Int,(e=10∨e=11)∧kG b s=(0,0,⟨s.p,e⟩)∧(∀n k,dec 0 0 (b.drop s.p)≠ .ok n k)∧(dec 0 0 (b.drop s.p)= .short->e=10)∧(dec 0 0 (b.drop s.p)= .form->e=11)):=by
 unfold kG;cases h:dec 0 0 (b.drop s.p) with
 |ok n k=>
  have:=sr _ _ _ _ _ h;rw[XT]at this;exact .inl ⟨n,k,rfl,rfl,by omega,by omega⟩
 |short=>exact .inr ⟨10,.inl Z,(by show(0,0,gi s 10)=_;rw[gi,am hf]),(fun _ _ h=>nomatch h),(fun _=>rfl),(fun h=>nomatch h)⟩
 |form=>exact .inr ⟨11,.inr Z,(by show(0,0,gi s 11)=_;rw[gi,am hf]),(fun _ _ h=>nomatch h),(fun h=>nomatch h),(fun _=>rfl)⟩
theorem zc(b:By)(s:RS)(most:Nat)(hb:b.length<=1000000000)(hp:s.p<=b.length):bf prog 51 [.ptr 0 0,pU most] [oe b s] (pU (cM b most s).1) (uD b (cM b most s).2) 1:=by
 have x:=H5 b s hb (by omega);refine ak ab func51 Z (by decide) ntmps51 Z (by simp) ?_;refine gA Z (ai [0] (vj b s) Z Z Z Z Z Z Z Z ?_);refine gA Z ?_;refine WN (fun g1=>?_) (fun g1=>?_)
 .have g1: ¬s.f=0:=by simpa using g1
  rw[cM,be g1];refine gA Z (ar [] (by first|exact .inr Z|exact .inl Z) Z (wk Z Z Z (bi ac) ⟨⟨_,rfl,.of_eq Z⟩,WL Z,rfl,ac⟩ Z))
 have g1:s.f=0:=by simpa using g1
 rcases oz b s g1 hp with⟨n,k,hd,A,B,C⟩|⟨e,D,A,hd,j,u⟩
 .rw[A]at x;refine gA Z (ai [0] (x) Z Z Z Z Z Z Z Z ?_);refine gA Z ?_;refine WN (fun zz=>?_) (fun zz=>?_)<;>(try(simp at zz;omega))
  refine gA Z ?_;refine WN (fun g2=>?_) (fun g2=>?_)
  .have g2: ¬n<=most:=by have:=of_decide_eq_true g2;omega
   rw[cM,am g1,hd];simp only[be g2];refine gA Z (ai [0] (rC b s 12) Z Z Z Z Z Z Z Z ?_);rw[show gi s 12=⟨s.p,12⟩ from am g1];refine gA Z ?_;refine WN (fun zz=>?_) (fun zz=>?_)<;>(try(simp at zz;done))
   refine gA Z (ar [] (by first|exact .inr Z|exact .inl Z) Z (wk Z Z Z (bi ac) ⟨⟨_,rfl,.of_eq Z⟩,WL Z,rfl,ac⟩ Z))
  .have g2:n<=most:=by have:=of_decide_eq_false g2;omega
   rw[cM,am g1,hd];simp only[am g2];refine gA Z ?_;refine WN (fun zz=>?_) (fun zz=>?_)<;>(try(exact absurd g1 (by simpa using zz)))
   refine gA Z (ar [] (by first|exact .inr Z|exact .inl Z) Z (wk Z Z Z (bi ac) ⟨⟨_,rfl,.of_eq (by simp only[g1];rfl)⟩,WL Z,rfl,ac⟩ Z))
 .rw[A]at x;refine gA Z (ai [0] (x) Z Z Z Z Z Z Z Z ?_);have hu:cM b most s=(0,⟨s.p,e⟩):=by
   rw[cM,am g1];cases h:dec 0 0 (b.drop s.p) with
   |ok n k=>exact absurd h (hd n k)
   |short=>rw[j h]
   |form=>rw[u h]
  rw[hu];have y:e≠0:=by omega
  refine gA Z ?_;refine WN (fun zz=>?_) (fun zz=>?_)<;>(try(simp at zz;done))
  refine gA Z ?_;refine WN (fun zz=>?_) (fun zz=>?_)<;>(try(simp at zz;exact absurd zz y))
  refine gA Z (ar [] (by first|exact .inr Z|exact .inl Z) Z (wk Z Z Z (bi ac) ⟨⟨_,rfl,.of_eq Z⟩,WL Z,rfl,ac⟩ Z))
theorem VQ{h:AH}(l:By):xh h 1 (.iv (aW 1 l aO))=io (db l):=by
 unfold xh;have e:Xj 1 1=jp:=rfl;simp only[e];exact congrArg io (cC l)
theorem RP(b:By)(s:RS)(n:Nat)(hb:b.length<=1000000000)(hp:s.p<=b.length)(hn:n<=b.length-s.p):bf prog 85 [.ptr 0 0,pI n] [oe b s] (.iv (.bL 1 n fun k=>aO (b.getD (s.p+k) co))) (uD b ⟨s.p+n,s.f⟩) 1:=by
 refine ak ab func85 Z (by decide) ntmps85 Z (by simp) ?_;refine gA Z ?_;refine WN (fun g1=>?_) (fun g1=>?_)
 .exact absurd (of_decide_eq_true g1) (by omega)
 have h1:((s.p:Int)+(n:Int)).toNat=s.p+n:=by omega
 have j:((s.p:Int)+(n:Int)-(n:Int)).toNat=s.p:=by omega
 have e:s.p+n-s.p=n:=by omega
 refine gA Z (ar [] (by first|exact .inr Z|exact .inl Z) Z (wk Z Z Z ⟨.of_eq (by show PV.iv (.bL 1 (((s.p:Int)+(n:Int)).toNat-((s.p:Int)+(n:Int)-(n:Int)).toNat) fun k=>aO (b.getD (((s.p:Int)+(n:Int)-(n:Int)).toNat+k) co))=_;rw[h1,j,e];rfl),rfl,ac⟩ ⟨⟨_,rfl,.of_eq Z⟩,WL Z,rfl,ac⟩ Z))
theorem Uk(b:By)(s:RS)(n:Nat)(hb:b.length<=1000000000)(hp:s.p<=b.length)(hf:s.f=0)(hn:n<=b.length-s.p):bf prog 53 [.ptr 0 0,pI n] [oe b s] .any (uD b ⟨s.p+n,s.f⟩) 1:=by
 refine ak ab func53 Z (by decide) ntmps53 Z (by simp) ?_;refine gA Z (ai [0] (vj b s) Z Z Z Z Z Z Z Z ?_);refine gA Z ?_;refine WN (fun zz=>?_) (fun zz=>?_)<;>(try(simp[hf]at zz;done))
 refine gA Z ?_;refine WN (fun zz=>?_) (fun zz=>?_)<;>(try(have j:=of_decide_eq_true zz;omega))
 refine gA Z (ai [0] (RP b s n hb hp hn) Z Z Z Z Z Z Z Z ?_);refine gA Z (bB Z (uV (news:=(Xq n).map fun k=>(aO (b.getD (s.p+k) co)).map PV.iv) (eu:=Rk) (sz:=1) ab Z Z Z Z Z Z Z (by decide) Z (gm (fa (fun _=>rfl) _)) (by show((Xq n).map _).length*1<=_;simp;omega) (by simp;omega) Z) ?_);rintro t rfl;refine gA Z (ar [] (by first|exact .inr Z|exact .inl Z) Z (wk Z Z Z ⟨(fun M N U x h=> .any _),rfl,ac⟩ ⟨⟨_,rfl,.of_eq Z⟩,WL Z,rfl,ac⟩ Z))
theorem Ul(b:By)(s:RS)(n:Nat)(hf:s.f≠0):bf prog 53 [.ptr 0 0,pI n] [oe b s] .any (uD b s) 1:=by
 refine ak ab func53 Z (by decide) ntmps53 Z (by simp) ?_;refine gA Z (ai [0] (vj b s) Z Z Z Z Z Z Z Z ?_);refine gA Z ?_;refine WN (fun zz=>?_) (fun zz=>?_)<;>(try(simp[hf]at zz;done))
 refine gA Z (ar [] (by first|exact .inr Z|exact .inl Z) Z (wk Z Z Z ⟨(fun M N U x h=> .any _),rfl,ac⟩ ⟨⟨_,rfl,.of_eq Z⟩,WL Z,rfl,ac⟩ Z))
theorem FL(n:Int)(h1: -9223372036854775808<=n)(j:n<9223372036854775808):IntKind.i64.wrap n=n:=by
 show(if(jp&&lc (n % 18446744073709551616>=9223372036854775808))=jp then n % 18446744073709551616-18446744073709551616 else n % 18446744073709551616)=n;by_cases h:n % 18446744073709551616>=9223372036854775808
 .rw[am (by simpa using h)];omega
 .rw[be (by simpa using h)];omega
theorem VM(n:Int)(h1:9223372036854775808<=n)(j:n<18446744073709551616):IntKind.i64.wrap n=n-18446744073709551616:=by
 show(if(jp&&lc (n % 18446744073709551616>=9223372036854775808))=jp then n % 18446744073709551616-18446744073709551616 else n % 18446744073709551616)=_;rw[am (by simp;omega)];omega
theorem UR(n:Nat)(h:n<18446744073709551616):IntKind.i64.wrap (IntKind.u64.wrap ((BitVec.ofInt IntKind.u64.bits (n:Int)&&&BitVec.ofInt IntKind.u64.bits 1).toNat:Int))=((n % 2:Nat):Int):=by
 have e:(BitVec.ofInt IntKind.u64.bits (n:Int)&&&BitVec.ofInt IntKind.u64.bits 1).toNat=n % 2:=by
  show(BitVec.ofInt 64 (n:Int)&&&BitVec.ofInt 64 1).toNat=_;rw[BitVec.toNat_and,Sd n h,show(BitVec.ofInt 64 1).toNat=1 from rfl,Nat.and_one_is_mod]
 rw[e,Th _ (by omega),FL _ (by omega) (by omega)]
theorem UZ(n:Nat):((n:Int).fdiv (2 ^ min (1:Int).toNat IntKind.u64.bits))=((n/2:Nat):Int):=by
 rw[show(2:Int) ^ min (1:Int).toNat IntKind.u64.bits=2 from by decide,Yd _ (by decide)];omega
theorem VK(n:Nat)(h:n<18446744073709551616):IntKind.i64.wrap ((BitVec.ofInt IntKind.i64.bits (IntKind.i64.wrap ((n:Int).fdiv (2 ^ min (1:Int).toNat IntKind.u64.bits))) ^^^ BitVec.ofInt IntKind.i64.bits (-((n % 2:Nat):Int))).toNat:Int)=Az n:=by
 rw[UZ,FL ((n/2:Nat):Int) (by omega) (by omega)];show IntKind.i64.wrap ((BitVec.ofInt 64 ((n/2:Nat):Int) ^^^ BitVec.ofInt 64 (-((n % 2:Nat):Int))).toNat:Int)=Az n;unfold Az;by_cases j:n % 2=0
 .rw[am j,j,show(-((0:Nat):Int))=0 from rfl,D9 _ (by omega),FL _ (by omega) (by omega)]
 .rw[be j,show n % 2=1 by omega,show BitVec.ofInt 64 (-((1:Nat):Int))=BitVec.ofInt 64 18446744073709551615 from by decide,Ea _ (by omega),VM _ (by omega) (by omega)];omega
theorem Uv(b:By)(s:RS)(j hi:Int)(hb:b.length<=1000000000)(hp:s.p<=b.length):bf prog 162 [.ptr 0 0,pI j,pI hi] [oe b s] (pI (nA b j hi s).1) (uD b (nA b j hi s).2) 1:=by
 have B:=H5 b s hb (by omega);refine ak ab func162 Z (by decide) ntmps162 Z (by simp) ?_;refine gA Z (ai [0] (vj b s) Z Z Z Z Z Z Z Z ?_);refine gA Z ?_;refine WN (fun g1=>?_) (fun g1=>?_)
 .have g1: ¬s.f=0:=by simpa using g1
  rw[nA,be g1];refine gA Z (ar [] (by first|exact .inr Z|exact .inl Z) Z (wk Z Z Z (bi ac) ⟨⟨_,rfl,.of_eq Z⟩,WL Z,rfl,ac⟩ Z))
 have g1:s.f=0:=by simpa using g1
 rcases oz b s g1 hp with⟨n,k,hd,D,G,I⟩|⟨e,J,D,hd,x,y⟩
 .rw[D]at B;have u:n<18446744073709551616:=(Cu hd).1;refine gA Z (ai [0] (B) Z Z Z Z Z Z Z Z ?_);refine gA Z (Qf 25 (p:=pI ((n % 2:Nat):Int)) (.of_eq (congrArg pI (UR n u))) (go_neg Z Z Z (by omega) (by omega) Z ?_));have A:=VK n u;refine gA Z ?_;refine WN (fun zz=>?_) (fun zz=>?_)<;>(try(simp at zz;omega))
  refine gA Z ?_;refine WN (fun g2=>?_) (fun g2=>?_)
  .have g2: ¬Az n<j:=by have h:=of_decide_eq_false g2;rw[<-A];exact h
   refine gA Z ?_;refine WN (fun g3=>?_) (fun g3=>?_)
   .have g3:Az n>hi:=by have h:=of_decide_eq_true g3;rw[<-A];exact h
    rw[nA,am g1,hd];simp only[be (show¬(j<=Az n∧Az n<=hi) by omega)];refine gA Z (ai [0] (rC b s 12) Z Z Z Z Z Z Z Z ?_);rw[show gi s 12=⟨s.p,12⟩ from am g1];refine gA Z ?_;refine WN (fun zz=>?_) (fun zz=>?_)<;>(try(simp at zz;done))
    refine gA Z (ar [] (by first|exact .inr Z|exact .inl Z) Z (wk Z Z Z (bi ac) ⟨⟨_,rfl,.of_eq Z⟩,WL Z,rfl,ac⟩ Z))
   .have g3: ¬Az n>hi:=by have h:=of_decide_eq_false g3;rw[<-A];exact h
    rw[nA,am g1,hd];simp only[am (show j<=Az n∧Az n<=hi by omega)];refine gA Z ?_;refine WN (fun zz=>?_) (fun zz=>?_)<;>(try(exact absurd g1 (by simpa using zz)))
    refine gA Z (ar [] (by first|exact .inr Z|exact .inl Z) Z (wk Z Z Z ⟨.of_eq (congrArg pI A),rfl,ac⟩ ⟨⟨_,rfl,.of_eq (by simp only[g1];rfl)⟩,WL Z,rfl,ac⟩ Z))
  .have g2:Az n<j:=by have h:=of_decide_eq_true (g2.trans Z);rw[<-A];exact h
   rw[nA,am g1,hd];simp only[be (show¬(j<=Az n∧Az n<=hi) by omega)];refine gA Z (ai [0] (rC b s 12) Z Z Z Z Z Z Z Z ?_);rw[show gi s 12=⟨s.p,12⟩ from am g1];refine gA Z ?_;refine WN (fun zz=>?_) (fun zz=>?_)<;>(try(simp at zz;done))
   refine gA Z (ar [] (by first|exact .inr Z|exact .inl Z) Z (wk Z Z Z (bi ac) ⟨⟨_,rfl,.of_eq Z⟩,WL Z,rfl,ac⟩ Z))
 .rw[D]at B;refine gA Z (ai [0] (B) Z Z Z Z Z Z Z Z ?_);refine gA Z (Qf 25 (p:=pI ((0 % 2:Nat):Int)) (.of_eq (congrArg pI (UR 0 (by decide)))) (go_neg Z Z Z (by decide) (by decide) Z ?_));have hu:nA b j hi s=(0,⟨s.p,e⟩):=by
   rw[nA,am g1];cases h:dec 0 0 (b.drop s.p) with
   |ok n k=>exact absurd h (hd n k)
   |short=>rw[x h]
   |form=>rw[y h]
  rw[hu];have C:e≠0:=by omega
  refine gA Z ?_;refine WN (fun zz=>?_) (fun zz=>?_)<;>(try(simp at zz;done))
  refine gA Z ?_;refine WN (fun zz=>?_) (fun zz=>?_)<;>(try(simp at zz;exact absurd zz C))
  refine gA Z (ar [] (by first|exact .inr Z|exact .inl Z) Z (wk Z Z Z (bi ac) ⟨⟨_,rfl,.of_eq Z⟩,WL Z,rfl,ac⟩ Z))
theorem Ic(b:By)(s:RS)(n:Nat)(hb:b.length<=1000000000)(hp:s.p<=b.length)(hn:b.length-s.p<n):bf prog 85 [.ptr 0 0,pI n] [oe b s] (.iv (aW 1 ([]:By) aO)) (uD b (gi s 10)) 1:=by
 refine ak ab func85 Z (by decide) ntmps85 Z (by simp) ?_;refine gA Z ?_;refine WN (fun g1=>?_) (fun g1=>?_)
 .refine gA Z (ai [0] (rC b s 10) Z Z Z Z Z Z Z Z ?_);refine gA Z (ar [] (by first|exact .inr Z|exact .inl Z) Z (wk Z Z Z ⟨.nil _ _,rfl,ac⟩ ⟨⟨_,rfl,.of_eq Z⟩,WL Z,rfl,ac⟩ Z))
 .exact absurd (of_decide_eq_false g1) (by omega)
theorem Uj(b:By)(s:RS)(n:Nat)(hb:b.length<=1000000000)(hp:s.p<=b.length)(hf:s.f=0)(hn:b.length-s.p<n):bf prog 53 [.ptr 0 0,pI n] [oe b s] .any (uD b (gi s 10)) 1:=by
 refine ak ab func53 Z (by decide) ntmps53 Z (by simp) ?_;refine gA Z (ai [0] (vj b s) Z Z Z Z Z Z Z Z ?_);refine gA Z ?_;refine WN (fun zz=>?_) (fun zz=>?_)<;>(try(simp[hf]at zz;done))
 refine gA Z ?_;refine WN (fun zz=>?_) (fun zz=>?_)<;>(try(have j:=of_decide_eq_true zz;omega))
 refine gA Z (ai [0] (Ic b s n hb hp hn) Z Z Z Z Z Z Z Z ?_);refine gA Z (bB Z (uV (news:=[]) (eu:=Rk) (sz:=1) ab Z Z Z Z Z Z Z (by decide) Z (by simp) (by decide) (by decide) Z) ?_);rintro t rfl;refine gA Z (ar [] (by first|exact .inr Z|exact .inl Z) Z (wk Z Z Z ⟨(fun M N U x h=> .any _),rfl,ac⟩ ⟨⟨_,rfl,.of_eq Z⟩,WL Z,rfl,ac⟩ Z))
theorem Um(b:By)(s:RS)(n:Nat)(hb:b.length<=1000000000)(hp:s.p<=b.length):bf prog 53 [.ptr 0 0,pI n] [oe b s] .any (uD b (Br b n s)) 1:=by
 unfold Br;split
 .rename_i hf;split
  .rename_i j;have h:=Uk b s n hb hp hf j;rw[hf]at h;exact h
  .rename_i j;have h:=Uj b s n hb hp hf (by omega);rw[gi,am hf]at h;exact h
 .rename_i hf;exact Ul b s n hf
theorem HI(b:By)(q n k:Nat)(h:k<n):b.getD (q+k) co=((b.drop q).take n).getD k 0:=by
 simp[ZU,Xy,h,XK];rfl
theorem zf(b:By)(s:RS)(most:Nat)(hm:most<=1000000000)(hb:b.length<=1000000000)(hp:s.p<=b.length):bf prog 52 [.ptr 0 0,pI most] [oe b s] (pS (qw (eG b most s).1)) (uD b (eG b most s).2) 1:=by
 have B:=H5 b s hb (by omega);refine ak ab func52 Z (by decide) ntmps52 Z (by simp) ?_;refine gA Z (ai [0] (vj b s) Z Z Z Z Z Z Z Z ?_);refine gA Z ?_;refine WN (fun g1=>?_) (fun g1=>?_)
 .have g1: ¬s.f=0:=by simpa using g1
  rw[eG,be g1];refine gA Z (ar [] (by first|exact .inr Z|exact .inl Z) Z (wk Z Z Z (bi ac) ⟨⟨_,rfl,.of_eq Z⟩,WL Z,rfl,ac⟩ Z))
 have g1:s.f=0:=by simpa using g1
 rcases oz b s g1 hp with⟨n,k,hd,D,I,J⟩|⟨e,Y,D,hd,u,x⟩
 .rw[D]at B;have y:=Th most (by omega);refine gA Z (ai [0] (B) Z Z Z Z Z Z Z Z ?_);refine gA Z ?_;refine WN (fun zz=>?_) (fun zz=>?_)<;>(try(simp at zz;omega))
  refine gA Z ?_;refine WN (fun zz=>?_) (fun zz=>?_)<;>(try(simp at zz;omega))
  refine gA Z ?_;refine WN (fun g2=>?_) (fun g2=>?_)
  .have g2:n<=most:=by have h:=of_decide_eq_false g2;rw[y]at h;omega
   refine gA Z ?_;refine WN (fun zz=>?_) (fun zz=>?_)<;>(try(have h:=of_decide_eq_true zz;omega))
   refine gA Z ?_;refine WN (fun zz=>?_) (fun zz=>?_)<;>(try(exact absurd g1 (by simpa using zz)))
   have A:=FL n (by omega) (by omega);by_cases g3:n<=b.length-(s.p+k)
   .have ht:eG b most s=((b.drop (s.p+k)).take n,⟨s.p+k+n,0⟩):=by
     rw[eG,am g1,hd];simp only[am g2,am g3]
    rw[ht];refine gA Z (ai [0] (bf.le (aa:=[.ptr 0 0,pI (IntKind.i64.wrap (n:Int))]) (RP b ⟨s.p+k,s.f⟩ n hb (by show s.p+k<=_;omega) g3) ⟨.refl _,.of_eq (congrArg pI A),ac⟩) Z Z Z Z Z Z Z Z ?_);have hl:n=((b.drop (s.p+k)).take n).length:=by rw[Xv,XT];omega
    refine gA Z (bB Z (lL (mI ab ((b.drop (s.p+k)).take n) Z Z Z Z Z Z Z Z hl (fun j G=>?_)) Z) ?_)
    .exact congrArg aO (HI b (s.p+k) n j (by omega))
    rintro t rfl;refine gA Z ?_;refine WN (fun zz=>?_) (fun zz=>?_)<;>(try(exact absurd g1 (by simpa using zz)))
    refine gA Z (ar [] (by first|exact .inr Z|exact .inl Z) Z (wk Z Z Z (bi ac) ⟨⟨_,rfl,.of_eq (by simp only[g1];rfl)⟩,WL Z,rfl,ac⟩ Z))
   .have ht:eG b most s=([],⟨s.p,10⟩):=by
     rw[eG,am g1,hd];simp only[am g2,be g3]
    rw[ht];refine gA Z (ai [0] (bf.le (aa:=[.ptr 0 0,pI (IntKind.i64.wrap (n:Int))]) (Ic b ⟨s.p+k,s.f⟩ n hb (by show s.p+k<=_;omega) (by show b.length-(s.p+k)<_;omega)) ⟨.refl _,.of_eq (congrArg pI A),ac⟩) Z Z Z Z Z Z Z Z ?_);rw[show gi ⟨s.p+k,s.f⟩ 10=⟨s.p+k,10⟩ from am g1];refine gA Z (bB Z (lL (mI ab ([]:By) Z Z Z Z Z Z Z Z Z (fun j G=>absurd G (by simp))) Z) ?_);rintro t rfl;refine gA Z ?_;refine WN (fun zz=>?_) (fun zz=>?_)<;>(try(simp at zz;done))
    refine gA Z (ar [] (by first|exact .inr Z|exact .inl Z) Z (wk Z Z Z (bi ac) ⟨⟨_,rfl,.of_eq Z⟩,WL Z,rfl,ac⟩ Z))
  .have g2: ¬n<=most:=by have h:=of_decide_eq_true (g2.trans Z);rw[y]at h;omega
   rw[eG,am g1,hd];simp only[be g2];refine gA Z (ai [0] (rC b s 12) Z Z Z Z Z Z Z Z ?_);rw[show gi s 12=⟨s.p,12⟩ from am g1];refine gA Z ?_;refine WN (fun zz=>?_) (fun zz=>?_)<;>(try(simp at zz;done))
   refine gA Z (ar [] (by first|exact .inr Z|exact .inl Z) Z (wk Z Z Z (bi ac) ⟨⟨_,rfl,.of_eq Z⟩,WL Z,rfl,ac⟩ Z))
 .rw[D]at B;refine gA Z (ai [0] (B) Z Z Z Z Z Z Z Z ?_);have hu:eG b most s=([],⟨s.p,e⟩):=by
   rw[eG,am g1];cases h:dec 0 0 (b.drop s.p) with
   |ok n k=>exact absurd h (hd n k)
   |short=>rw[u h]
   |form=>rw[x h]
  rw[hu];have C:e≠0:=by omega
  refine gA Z ?_;refine WN (fun zz=>?_) (fun zz=>?_)<;>(try(simp at zz;done))
  refine gA Z ?_;refine WN (fun zz=>?_) (fun zz=>?_)<;>(try(simp at zz;exact absurd zz C))
  refine gA Z (ar [] (by first|exact .inr Z|exact .inl Z) Z (wk Z Z Z (bi ac) ⟨⟨_,rfl,.of_eq Z⟩,WL Z,rfl,ac⟩ Z))
theorem C7(b:By)(hb:b.length<=1000000000):bf prog 49 [.iv (aW 1 b aO)] [] (.ptr 0 0) (uD b ⟨0,0⟩) 1:=by
 refine ak ab func49 Z (by decide) ntmps49 Z (by simp) ?_;refine gA Z (bB Z (uV (news:=db b) (eu:=Rk) (sz:=1) ab Z Z Z Z Z Z Z (by decide) (by exact VQ b) (gm (fa (fun _=>rfl) b)) (by show(db b).length*1<=_;simp;omega) (by simp;omega) Z) ?_);rintro t rfl;have hl:(db b).length=b.length:=Xk ..;rw[hl];refine gM 5 Z (cG [] (t:=⟨[(2,.ptr 2 0)],[(1,io (iG b)),(2,io (.cells [.sl 1 0 b.length 1,pI 0,pI 0]))],3⟩) (wk Z Z Z (bi ac) (hR Z Z Z ⟨⟨_,rfl,.of_eq Z⟩,WL Z,rfl,ac⟩) Z) ?_);refine km 1 (fun k=>aO (b.getD k co)) Z (cU Z) (by simp[AF.mg,PV.bb]) ⟨fQ _ _ _ _ _ _,(by simp[AO.mg,a8,PV.bb]),ac⟩ ?_;refine gA Z (ar [2] (by first|exact .inr Z|exact .inl Z) Z (wk Z Z Z (bi ac) ⟨⟨_,rfl,.cells ⟨.iv (.bL Z (fun k _=>by rw[Xd])),.refl _,.refl _,ac⟩⟩,WL Z,rfl,ac⟩ Z))
def bj(b:By)(s:RS):UInt8×RS:=if s.f=0 then(if s.p<b.length then(b.getD s.p 0,⟨s.p+1,0⟩) else(0,⟨s.p,10⟩)) else(0,s)
theorem Dc(b:By)(s:RS)(hb:b.length<=1000000000)(hp:s.p<=b.length):bf prog 50 [.ptr 0 0] [oe b s] (pY ((bj b s).1.toNat:Int)) (uD b (bj b s).2) 1:=by
 unfold bj;refine ak ab func50 Z (by decide) ntmps50 Z (by simp) ?_;refine gA Z (ai [0] (vj b s) Z Z Z Z Z Z Z Z ?_);refine gA Z ?_;refine WN (fun g1=>?_) (fun g1=>?_)
 .have g1: ¬s.f=0:=by simpa using g1
  rw[be g1];refine gA Z (ar [] (by first|exact .inr Z|exact .inl Z) Z (wk Z Z Z (bi ac) ⟨⟨_,rfl,.of_eq Z⟩,WL Z,rfl,ac⟩ Z))
 have g1:s.f=0:=by simpa using g1
 rw[am g1];by_cases g2:s.p<b.length
 .rw[am g2];refine gA Z (ai [0] (RP b s 1 hb hp (by omega)) Z Z Z Z Z Z Z Z ?_);refine gA Z ?_;refine WN (fun zz=>?_) (fun zz=>?_)<;>(try(exact absurd zz (by decide)))
  refine gA Z (ar [] (by first|exact .inr Z|exact .inl Z) Z (wk Z Z Z (bi ac) ⟨⟨_,rfl,.of_eq (by rw[g1];rfl)⟩,WL Z,rfl,ac⟩ Z))
 .rw[be g2];refine gA Z (ai [0] (Ic b s 1 hb hp (by omega)) Z Z Z Z Z Z Z Z ?_);rw[show gi s 10=⟨s.p,10⟩ from am g1];refine gA Z ?_;refine WN (fun zz=>?_) (fun zz=>?_)<;>(try(exact absurd zz (by decide)))
  refine gA Z (ar [] (by first|exact .inr Z|exact .inl Z) Z (wk Z Z Z (bi ac) ⟨⟨_,rfl,.of_eq Z⟩,WL Z,rfl,ac⟩ Z))
theorem V0(b:By)(s:RS):bf prog 55 [.ptr 0 0] [oe b s] (pI s.p) (uD b s) 1:=by
 refine ak ab func55 Z (by decide) ntmps55 Z (by simp) ?_;refine gA Z ?_;refine WN (fun zz=>?_) (fun zz=>?_)<;>(try(exact absurd zz (by decide)))
 refine gA Z (ar [] (by first|exact .inr Z|exact .inl Z) Z (wk Z Z Z (bi ac) ⟨⟨_,rfl,.of_eq Z⟩,WL Z,rfl,ac⟩ Z))
end Go.Proofs.YtlmhfgbkchnfbaaGreatDoor
namespace Go.Proofs.YtlmhfgbkchnfbaaGreatDoor
open Go Go.Al Go.En
section
section
variable {b:By} {s:RS}
theorem ru{most:Nat}(h:s.p<=b.length):(cM b most s).2.p<=b.length:=by
 unfold cM;split
 .cases hd:dec 0 0 (b.drop s.p) with
  |ok n k=>
   have h1:=sr _ _ _ _ _ hd;rw[XT]at h1;dsimp only;split
   .show s.p+k<=_;omega
   .exact h
  |short=>exact h
  |form=>exact h
 .exact h
theorem ie{most:Nat}:(cM b most s).1<=most:=by
 unfold cM;split
 .cases hd:dec 0 0 (b.drop s.p) with
  |ok n k=>
   dsimp only;split
   .assumption
   .exact W2 _
  |short=>exact W2 _
  |form=>exact W2 _
 .exact W2 _
theorem Nw{j hi:Int}(h:s.p<=b.length):(nA b j hi s).2.p<=b.length:=by
 unfold nA;split
 .cases hd:dec 0 0 (b.drop s.p) with
  |ok n k=>
   have h1:=sr _ _ _ _ _ hd;rw[XT]at h1;dsimp only;split
   .show s.p+k<=_;omega
   .exact h
  |short=>exact h
  |form=>exact h
 .exact h
theorem oq{most:Nat}(h:s.p<=b.length):(eG b most s).2.p<=b.length:=by
 unfold eG;split
 .cases hd:dec 0 0 (b.drop s.p) with
  |ok n k=>
   have h1:=sr _ _ _ _ _ hd;rw[XT]at h1;dsimp only;split
   .split
    .rename_i j;show s.p+k+n<=_;omega
    .exact h
   .exact h
  |short=>exact h
  |form=>exact h
 .exact h
theorem MV{n:Nat}(h:s.p<=b.length):(Br b n s).p<=b.length:=by
 unfold Br;split
 .split
  .show s.p+n<=_;omega
  .exact h
 .exact h
end
end
end Go.Proofs.YtlmhfgbkchnfbaaGreatDoor
namespace Go.Proofs.YtlmhfgbkchnfbaaGreatDoor
open Go Go.Al Go.Proofs.Tryz Go.En
theorem sv{b:By}{s:RS}(h:s.p<=b.length):(bj b s).2.p<=b.length:=by
 unfold bj;split
 .split
  .show s.p+1<=_;omega
  .exact h
 .exact h
def dR(b:By)(s:RS):Int×cS×RS:=
 if(bj b s).2.f≠0 then((bj b s).2.f,co,(bj b s).2)
 else if(bj b s).1=1 then((nA b (-2147483647) 2147483647 (bj b s).2).2.f,⟨1,(nA b (-2147483647) 2147483647 (bj b s).2).1,W0⟩,(nA b (-2147483647) 2147483647 (bj b s).2).2)
 else if(bj b s).1=2 then((eG b 64 (bj b s).2).2.f,⟨2,0,qw (eG b 64 (bj b s).2).1⟩,(eG b 64 (bj b s).2).2)
 else(20,co,(bj b s).2)
def ir(b:By):Nat->RS->List cS->Int×List cS×RS
 |0,s,A=>(0,A,s)
 |n+1,s,A=>if(dR b s).1≠0 then((dR b s).1,[],(dR b s).2.2) else ir b n (dR b s).2.2 (A++ [(dR b s).2.1])
def n4(b:By):Int×List cS:=
 let x:=cM b 8 ⟨0,0⟩
 let y:=ir b x.1 x.2 []
 if y.1≠0 then(y.1,[]) else if jm b y.2.2≠0 then(jm b y.2.2,[]) else(0,y.2.1)
def Af(b:By):PV:=if(n4 b).1=0 then .aY [.iv (aW 3 (n4 b).2 cS.c),pI 0] else .aY [rO,pI (n4 b).1]
theorem Jd{b:By}{s:RS}(h:s.p<=b.length):(dR b s).2.2.p<=b.length:=by
 have h1:=sv h;unfold dR;split
 .exact h1
 .split
  .exact Nw h1
  .split
   .exact oq h1
   .exact h1
theorem CG(c:UInt8):((c.toNat:Int)=1↔c=1)∧((c.toNat:Int)=2↔c=2):=by
 constructor
 .constructor
  .intro h;exact UInt8.toNat_inj.1 (by show c.toNat=1;omega)
  .rintro rfl;rfl
 .constructor
  .intro h;exact UInt8.toNat_inj.1 (by show c.toNat=2;omega)
  .rintro rfl;rfl
structure GtJ (b:By) (n:Nat) (s0:RS) (i:Nat) (x:List cS×RS):Prop where
 le:x.2.p<=b.length
 len:x.1.length=i
 eq:ir b n s0 []=ir b (n-i) x.2 x.1
theorem AG(n i:Nat)(h:i<n)(hn:n<=1000000000):IntKind.u64.wrap (((n-i:Nat):Int)-1)=((n-(i+1):Nat):Int):=by
 have:=VL (n-(i+1)) (by omega);rw[<-this];congr 1;omega
theorem VX(b:By)(hb:b.length<=1000000000):Pure prog 117 [.iv (aW 1 b aO)] (Af b):=by
 refine ah ab func117 Z (by decide) ntmps117 Z (by simp) (by unfold Af;split<;>rfl) ?_;obtain⟨n,hn⟩: ∃n,n=(cM b 8 ⟨0,0⟩).1:=⟨_,rfl⟩
 obtain⟨s0,c0⟩: ∃s0,s0=(cM b 8 ⟨0,0⟩).2:=⟨_,rfl⟩
 have h0:s0.p<=b.length:=by rw[c0];exact ru (W2 _)
 have g0:n<=8:=by rw[hn];exact ie
 have hU:bf prog 51 [.ptr 0 0,pU 8] [oe b ⟨0,0⟩] (pU n) (uD b s0) 1:=by rw[hn,c0];exact zc b ⟨0,0⟩ 8 hb (W2 _)
 have hG:n4 b=(let y:=ir b n s0 [];if y.1≠0 then(y.1,[]) else if jm b y.2.2≠0 then(jm b y.2.2,[]) else(0,y.2.1)):=by rw[hn,c0];rfl
 clear hn c0;refine gA Z (ai [] (C7 b hb) Z Z Z Z Z Z Z Z ?_);refine gA Z (ai [0] (hU) Z Z Z Z Z Z Z Z ?_);refine gA Z ?_;refine ju 5 3 Z ?_;refine jv 0 n (W2 _) (fun i (x:List cS×RS)=>⟨[(4,.ptr 0 0),(5,.sl 2 0 i 3),(6,pU (n-i))],[(0,io (oe b x.2)),(2,io (aX 3 x.1 cS.c))],3⟩) (GtJ b n s0) ([],s0) [1] ⟨h0,rfl,rfl⟩
  (wk Z Z Z (bi (bi (bi trivial))) ⟨⟨_,rfl,.of_eq Z⟩,WL Z,rfl,hR Z Z Z trivial⟩ Z) fun i x hi hJ=>?_
 obtain⟨A,j⟩:=x;obtain⟨a0,b0,C⟩:=hJ;dsimp only at a0 b0 C;refine gA Z ?_;refine WN (fun h1=>?_) (fun h1=>?_)
 .have h1:i<n:=by simp at h1;omega
  have hB:=sv a0;have hI:=Jd a0;have Y:ir b (n-i) j A=if(dR b j).1≠0 then((dR b j).1,[],(dR b j).2.2) else ir b (n-(i+1)) (dR b j).2.2 (A++ [(dR b j).2.1]):=by
   rw[show n-i=(n-(i+1))+1 by omega,ir]
  have hk:=FL (bj b j).1.toNat (by have:=(bj b j).1.toNat_lt;omega) (by have:=(bj b j).1.toNat_lt;omega);have u:(dR b j).1≠0->Af b= .aY [rO,pI (dR b j).1]:=fun he=>by
   unfold Af;rw[hG,C,Y];simp only[he,ne_eq,not_false_eq_true,if_true,if_false]
  have D:(dR b j).1=0->GtJ b n s0 (i+1) (A++ [(dR b j).2.1],(dR b j).2.2):=fun he=>⟨hI,by simp[b0],by rw[C,Y,be (by rw[he];decide)]⟩
  refine gA Z (ai [0] (Dc b j hb a0) Z Z Z Z Z Z Z Z ?_);refine gA Z (ai [0] (sK b (bj b j).2) Z Z Z Z Z Z Z Z ?_);refine gA Z ?_;refine WN (fun I=>?_) (fun I=>?_)
  .have I:(bj b j).2.f≠0:=by simpa using I
   have e0:(dR b j).1=(bj b j).2.f:=by unfold dR;rw[am I]
   rw[u (by rw[e0];exact I),e0];refine gA Z (ai [0] (sK b (bj b j).2) Z Z Z Z Z Z Z Z ?_);refine gA Z ?_;refine WN (fun zz=>?_) (fun zz=>?_)<;>(try(exact absurd (by simpa using zz) I))
   refine gA Z (aH (by first|exact .inr Z|exact .inl Z) Z (.of_eq ?_));rfl
  have I:(bj b j).2.f=0:=by simpa using I
  refine gA Z ?_;refine WN (fun J=>?_) (fun J=>?_)
  .have J:(bj b j).1=1:=by rw[hk]at J;exact(CG _).1.1 (of_decide_eq_true J)
   have G:dR b j=((nA b (-2147483647) 2147483647 (bj b j).2).2.f,⟨1,(nA b (-2147483647) 2147483647 (bj b j).2).1,W0⟩,(nA b (-2147483647) 2147483647 (bj b j).2).2):=by
    unfold dR;rw[be (by rw[I];decide),am J]
   rw[G]at u D;dsimp only at u D;refine gA Z (ai [0] (Uv b (bj b j).2 (-2147483647) 2147483647 hb hB) Z Z Z Z Z Z Z Z ?_);generalize nA b (-2147483647) 2147483647 (bj b j).2=y at*
   refine gA Z (ai [0] (sK b y.2) Z Z Z Z Z Z Z Z ?_);refine gA Z ?_;refine WN (fun B=>?_) (fun B=>?_)
   .have B:y.2.f≠0:=by simpa using B
    rw[u B];refine gA Z (aH (by first|exact .inr Z|exact .inl Z) Z (.of_eq ?_));rfl
   have B:y.2.f=0:=by simpa using B
   have d0:IntKind.i64.wrap ((bj b j).1.toNat:Int)=1:=by rw[hk,J];rfl
   refine gA Z ⟨h1,_,[5],D B,wk Z Z Z (bi (bi ⟨.of_eq (congrArg (fun z:Int=>PV.iv (.v (.int .u64 z))) (AG n i h1 (by omega))),rfl,ac⟩)) ⟨⟨_,rfl,.of_eq Z⟩,WL Z,rfl,hR Z (by rw[W4,d0];rfl) Z ac⟩ Z⟩
  have J: ¬(bj b j).1=1:=fun e=>by rw[hk,e]at J;cases J
  refine gA Z ?_;refine WN (fun h5=>?_) (fun h5=>?_)
  .have h5:(bj b j).1=2:=by rw[hk]at h5;exact(CG _).2.1 (of_decide_eq_true h5)
   have G:dR b j=((eG b 64 (bj b j).2).2.f,⟨2,0,qw (eG b 64 (bj b j).2).1⟩,(eG b 64 (bj b j).2).2):=by
    unfold dR;rw[be (by rw[I];decide),be J,am h5]
   rw[G]at u D;dsimp only at u D;refine gA Z (ai [0] (zf b (bj b j).2 64 (by decide) hb hB) Z Z Z Z Z Z Z Z ?_);generalize eG b 64 (bj b j).2=y at*
   refine gA Z (ai [0] (sK b y.2) Z Z Z Z Z Z Z Z ?_);refine gA Z ?_;refine WN (fun B=>?_) (fun B=>?_)
   .have B:y.2.f≠0:=by simpa using B
    rw[u B];refine gA Z (aH (by first|exact .inr Z|exact .inl Z) Z (.of_eq ?_));rfl
   have B:y.2.f=0:=by simpa using B
   have d0:IntKind.i64.wrap ((bj b j).1.toNat:Int)=2:=by rw[hk,h5];rfl
   refine gA Z ⟨h1,_,[5],D B,wk Z Z Z (bi (bi ⟨.of_eq (congrArg (fun z:Int=>PV.iv (.v (.int .u64 z))) (AG n i h1 (by omega))),rfl,ac⟩)) ⟨⟨_,rfl,.of_eq Z⟩,WL Z,rfl,hR Z (by rw[W4,d0];rfl) Z ac⟩ Z⟩
  have h5: ¬(bj b j).1=2:=fun e=>by rw[hk,e]at h5;cases h5
  have G:dR b j=(20,co,(bj b j).2):=by
   unfold dR;rw[be (by rw[I];decide),be J,be h5]
  rw[u (by rw[G];show(20:Int)≠0;decide),G];refine gA Z (aH (by first|exact .inr Z|exact .inl Z) Z (.of_eq ?_));rfl
 .have h1:n<=i:=by simp at h1;omega
  have f0:i=n:=by omega
  subst f0;rw[Zv,ir]at C;refine gA Z (ai [0] (H3 b j) Z Z Z Z Z Z Z Z ?_);refine gA Z ?_;refine WN (fun B=>?_) (fun B=>?_)
  .have B:jm b j≠0:=by simpa using B
   have hP:Af b= .aY [rO,pI (jm b j)]:=by
    unfold Af;rw[hG,C];simp only[B,ne_eq,not_true_eq_false,not_false_eq_true,if_true,if_false]
   rw[hP];refine gA Z (aH (by first|exact .inr Z|exact .inl Z) Z (.of_eq ?_));rfl
  have B:jm b j=0:=by simpa using B
  have hP:Af b= .aY [.iv (aW 3 A cS.c),pI 0]:=by
   unfold Af;rw[hG,C];simp only[B,ne_eq,not_true_eq_false,if_true,if_false]
  rw[hP];refine gA Z (gz (r0:= .aY [.sl 2 0 i 3,pI 0]) (.inr Z) Z (fH.gu 2 A cS.c Z Z (by simp[PV.bb,a8,b0]) (.done (.aY ⟨.bL b0.symm (fun k _=>by rw[Xd]),.refl _,ac⟩))))
abbrev Qd(p:Prog):AO:= .cells [.ptr 1 0,.iv (aW 4 p.aF Decl.c),.iv (aW 5 p.rules aw.c)]
def KL(b:By)(s:RS):By×RS:=eG b 32 s
def nE(b:By)(s:RS):By×RS:=eG b 4194304 (KL b s).2
def tV(b:By)(s:RS):Fact:=⟨qw (KL b s).1,if(nE b s).2.f=0 then(n4 (nE b s).1).2 else[]⟩
def lT(p:Prog)(b:By)(s:RS):Bool:=lc ((nE b s).2.f=0)&&(lc ((n4 (nE b s).1).1=0)&&lc (nW p (tV b s)=0))
theorem vX(b:By): ∀(n:Nat) (s:RS) (A:List cS),(ir b n s A).2.1.length<=A.length+n
 |0,s,A=>WY _
 |n+1,s,A=>by
  rw[ir];split
  .exact W2 _
  .have:=vX b n (dR b s).2.2 (A++ [(dR b s).2.1]);rw[WO,Xl]at this;omega
theorem Cg(b:By):(n4 b).2.length<=8:=by
 have h1:=vX b (cM b 8 ⟨0,0⟩).1 (cM b 8 ⟨0,0⟩).2 [];have j:=ie (b:=b) (s:=⟨0,0⟩) (most:=8);unfold n4;dsimp only;split
 .exact W2 _
 .split
  .exact W2 _
  .simp only[X8]at h1;show(ir b (cM b 8 ⟨0,0⟩).1 (cM b 8 ⟨0,0⟩).2 []).2.1.length<=8;omega
theorem NJ{b:By}(h: ¬(n4 b).1=0):(n4 b).2=[]:=by
 unfold n4 at*
 dsimp only at*
 split
 .rfl
 .rename_i h1;rw[be h1]at h;split
  .rfl
  .rename_i j;rw[be j]at h;exact absurd Z h
theorem xE{b:By}{m:Nat}{s:RS}:(eG b m s).1.length<=b.length:=by
 unfold eG;split
 .split
  .split
   .split
    .rw[Xv,XT];omega
    .exact W2 _
   .exact W2 _
  .exact W2 _
  .exact W2 _
 .exact W2 _
theorem Ia(p:Prog)(b:By)(s:RS)(hb:b.length<=1000000000)(hp:s.p<=b.length)(hr:p.aF.length<=1000000000):bf prog 88 [.ptr 0 0] [Qd p,oe b s] (.aY [ag (tV b s).c,pB (lT p b s)]) [(0,io (Qd p)),(1,io (oe b (nE b s).2))] 2:=by
 have u:(KL b s).2.p<=b.length:=oq hp;have hT:(nE b s).1.length<=b.length:=xE;refine ak ab func88 Z (by decide) ntmps88 Z (by simp) ?_;refine gA Z (ai [1] (zf b s 32 (by decide) hb hp) Z Z Z Z Z Z Z Z ?_);refine gA Z (ai [1] (zf b (KL b s).2 4194304 (by decide) hb u) Z Z Z Z Z Z Z Z ?_);refine gA Z (ai [1] (sK b (nE b s).2) Z Z Z Z Z Z Z Z ?_);refine gA Z ?_;refine WN (fun g1=>?_) (fun g1=>?_)
 .have g1: ¬(nE b s).2.f=0:=by simpa using g1
  have hF:tV b s=⟨qw (KL b s).1,[]⟩:=by unfold tV;rw[be g1]
  have hO:lT p b s=kw:=by unfold lT;rw[decide_eq_false g1];rfl
  rw[hF,hO];refine gA Z (ar [] (by first|exact .inr Z|exact .inl Z) Z (wk Z Z Z ⟨.aY ⟨.agg ⟨.refl _,.nil _ _,ac⟩,.refl _,ac⟩,rfl,ac⟩ ⟨⟨_,rfl,.of_eq Z⟩,WL Z,rfl,⟨_,rfl,.of_eq Z⟩,WL Z,rfl,ac⟩ Z))
 have g1:(nE b s).2.f=0:=by simpa using g1
 refine gA Z (pq (b:=qw (nE b s).1) ab Z Z Z Z Z Z Z Z Z Z Z (by show(nE b s).1.toArray.size<=_;simp;omega) ?_);have j:=VX (nE b s).1 (by omega);unfold Af at j;by_cases g2:(n4 (nE b s).1).1=0
 .rw[am g2]at j;have hF:tV b s=⟨qw (KL b s).1,(n4 (nE b s).1).2⟩:=by unfold tV;rw[am g1]
  have hO:lT p b s=lc (nW p ⟨qw (KL b s).1,(n4 (nE b s).1).2⟩=0):=by unfold lT;rw[decide_eq_true g1,decide_eq_true g2,hF];rfl
  have hl:=Cg (nE b s).1;rw[hF,hO];refine gA Z (aE (j) Z Z Z Z Z Z ?_);refine gA Z ?_;refine WN (fun zz=>?_) (fun zz=>?_)<;>(try(exact absurd zz (by decide)))
  refine gA Z (bg ab [] (Pure.nX (c16 p ⟨qw (KL b s).1,(n4 (nE b s).1).2⟩ hr (by show(n4 (nE b s).1).2.length<=_;omega))) Z Z Z Z Z Z Z Z Z Z Z Z (by(repeat' (first|exact ac|exact rfl|exact ae.refl _|exact ae.bk (by assumption)|apply WN))<;>first|omega|(simp only[WV];omega)|(simp;done)|(simp;omega)) Z (by(repeat' (first|exact ac|exact rfl|exact ae.refl _|exact ae.bk (by assumption)|apply WN))<;>first|omega|(simp only[WV];omega)|(simp;done)|(simp;omega)) ?_);refine gA Z (ar [] (by first|exact .inr Z|exact .inl Z) Z (wk Z Z Z (bi ac) ⟨⟨_,rfl,.of_eq Z⟩,WL Z,rfl,⟨_,rfl,.of_eq Z⟩,WL Z,rfl,ac⟩ Z))
 .rw[be g2]at j;have hF:tV b s=⟨qw (KL b s).1,[]⟩:=by unfold tV;rw[am g1,NJ g2]
  have hO:lT p b s=kw:=by unfold lT;rw[decide_eq_true g1,decide_eq_false g2];rfl
  rw[hF,hO];refine gA Z (aE (j) Z Z Z Z Z Z ?_);refine gA Z ?_;refine WN (fun zz=>?_) (fun zz=>?_)<;>(try(exact absurd (of_decide_eq_true zz) g2))
  refine gA Z (ar [] (by first|exact .inr Z|exact .inl Z) Z (wk Z Z Z ⟨.aY ⟨.agg ⟨.refl _,.nil _ _,ac⟩,.refl _,ac⟩,rfl,ac⟩ ⟨⟨_,rfl,.of_eq Z⟩,WL Z,rfl,⟨_,rfl,.of_eq Z⟩,WL Z,rfl,ac⟩ Z))
end Go.Proofs.YtlmhfgbkchnfbaaGreatDoor
namespace Go.Proofs.YtlmhfgbkchnfbaaGreatDoor
open Go Go.Al Go.Proofs.Tryz Go.En Go.Bo
def Kf(b:By)(s:RS):bZ Fact:=(lc (((bj b s).1.toNat:Int)=1),tV b (bj b s).2)
def sx(p:Prog)(b:By):Nat->RS->List (bZ Fact)->Bool×List (bZ Fact)×RS
 |0,s,A=>(jp,A,s)
 |n+1,s,A=>if lT p b (bj b s).2=kw∨((bj b s).1.toNat:Int)>1 then(kw,[],(nE b (bj b s).2).2) else sx p b n (nE b (bj b s).2).2 (A++ [Kf b s])
def pQ(p:Prog)(b:By)(s:RS):Bool×List (bZ Fact)×RS:=sx p b (cM b 4096 s).1 (cM b 4096 s).2 []
def Hc(p:Prog)(b:By)(s:RS):PV:=if(pQ p b s).1=jp then .aY [.iv (aW 3 (pQ p b s).2.1 fF),pB (lc (jm b (pQ p b s).2.2=0))] else .aY [rO,pB kw]
theorem JF{b:By}{s:RS}(h:s.p<=b.length):(nE b s).2.p<=b.length:=oq (oq h)
structure BtJ (p:Prog) (b:By) (n:Nat) (s0:RS) (i:Nat) (x:List (bZ Fact)×RS):Prop where
 le:x.2.p<=b.length
 len:x.1.length=i
 eq:sx p b n s0 []=sx p b (n-i) x.2 x.1
theorem MH(p:Prog)(b:By)(s:RS)(hb:b.length<=1000000000)(hp:s.p<=b.length)(hr:p.aF.length<=1000000000):bf prog 57 [.ptr 0 0] [Qd p,oe b s] (Hc p b s) [(0,io (Qd p)),(1,io (oe b (pQ p b s).2.2))] 2:=by
 obtain⟨n,Y⟩: ∃n,n=(cM b 4096 s).1:=⟨_,rfl⟩
 obtain⟨s0,C⟩: ∃s0,s0=(cM b 4096 s).2:=⟨_,rfl⟩
 have h0:s0.p<=b.length:=by rw[C];exact ru hp
 have b0:n<=4096:=by rw[Y];exact ie
 have hU:bf prog 51 [.ptr 0 0,pU 4096] [oe b s] (pU n) (uD b s0) 1:=by rw[Y,C];exact zc b s 4096 hb hp
 have hY:pQ p b s=sx p b n s0 []:=by rw[Y,C];rfl
 clear Y C;refine ak ab func57 Z (by decide) ntmps57 Z (by simp) ?_;refine gA Z (ai [1] (hU) Z Z Z Z Z Z Z Z ?_);refine gA Z ?_;refine ju 4 3 Z ?_;refine jv 0 n (W2 _) (fun i (x:List (bZ Fact)×RS)=>⟨[(0,.ptr 0 0),(4,.sl 3 0 i 3),(5,pU (n-i))],[(0,io (Qd p)),(1,io (oe b x.2)),(3,io (aX 3 x.1 fF))],4⟩) (BtJ p b n s0) ([],s0) [2] ⟨h0,rfl,rfl⟩
  (wk Z Z Z (bi (bi (bi trivial))) ⟨⟨_,rfl,.of_eq Z⟩,WL Z,rfl,⟨_,rfl,.of_eq Z⟩,WL Z,rfl,hR Z Z Z trivial⟩ Z) fun i x hi hJ=>?_
 obtain⟨A,j⟩:=x;obtain⟨I,B,u⟩:=hJ;dsimp only at I B u;refine gA Z ?_;refine WN (fun h1=>?_) (fun h1=>?_)
 .have h1:i<n:=by simp at h1;omega
  have hB:=sv I;have hT:=JF hB;have y:sx p b (n-i) j A=if lT p b (bj b j).2=kw∨((bj b j).1.toNat:Int)>1 then(kw,[],(nE b (bj b j).2).2) else sx p b (n-(i+1)) (nE b (bj b j).2).2 (A++ [Kf b j]):=by
   rw[show n-i=(n-(i+1))+1 by omega,sx]
  have D:lT p b (bj b j).2=kw∨((bj b j).1.toNat:Int)>1->Hc p b s= .aY [rO,pB kw]∧(pQ p b s).2.2=(nE b (bj b j).2).2:=fun he=>by
   have:pQ p b s=(kw,[],(nE b (bj b j).2).2):=by rw[hY,u,y,am he]
   unfold Hc;rw[this];exact⟨rfl,rfl⟩
  have hF:=Ia p b (bj b j).2 hb hB hr;refine gA Z (ai [1] (Dc b j hb I) Z Z Z Z Z Z Z Z ?_);by_cases hok:lT p b (bj b j).2=jp
  .rw[hok]at hF;refine gA Z (ai [0,1] (hF) Z Z Z Z Z Z Z Z ?_);refine gA Z ?_;refine WN (fun zz=>?_) (fun zz=>?_)<;>(try(exact absurd zz (by decide)))
   refine gA Z ?_;refine WN (fun G=>?_) (fun G=>?_)
   .have G:((bj b j).1.toNat:Int)>1:=of_decide_eq_true G;obtain⟨e1,e2⟩:=D (.inr G);rw[e1,e2];refine gA Z (ar [] (by first|exact .inr Z|exact .inl Z) Z (wk Z Z Z (bi ac) ⟨⟨_,rfl,.of_eq Z⟩,WL Z,rfl,⟨_,rfl,.of_eq Z⟩,WL Z,rfl,ac⟩ Z))
   have G: ¬((bj b j).1.toNat:Int)>1:=of_decide_eq_false G;refine gA Z ⟨h1,(A++ [Kf b j],(nE b (bj b j).2).2),[6],⟨hT,by simp[B],by rw[u,y,be (by rw[hok];simp[G])]⟩,wk Z Z Z (bi (bi ⟨.of_eq (congrArg (fun z:Int=>PV.iv (.v (.int .u64 z))) (AG n i h1 (by omega))),rfl,ac⟩)) ⟨⟨_,rfl,.of_eq Z⟩,WL Z,rfl,⟨_,rfl,.of_eq Z⟩,WL Z,rfl,hR Z (by rw[W4];rfl) Z ac⟩ Z⟩
  .have hok:lT p b (bj b j).2=kw:=by simpa using hok
   rw[hok]at hF;obtain⟨e1,e2⟩:=D (.inl hok);rw[e1,e2];refine gA Z (ai [0,1] (hF) Z Z Z Z Z Z Z Z ?_);refine gA Z ?_;refine WN (fun zz=>?_) (fun zz=>?_)<;>(try(exact absurd zz (by decide)))
   refine gA Z (ar [] (by first|exact .inr Z|exact .inl Z) Z (wk Z Z Z (bi ac) ⟨⟨_,rfl,.of_eq Z⟩,WL Z,rfl,⟨_,rfl,.of_eq Z⟩,WL Z,rfl,ac⟩ Z))
 .have h1:n<=i:=by simp at h1;omega
  have a0:i=n:=by omega
  subst a0;rw[Zv,sx]at u;have J:pQ p b s=(jp,A,j):=hY.trans u;have hP:Hc p b s= .aY [.iv (aW 3 A fF),pB (lc (jm b j=0))]:=by
   unfold Hc;rw[J];rfl
  rw[hP,J];refine gA Z (ai [1] (H3 b j) Z Z Z Z Z Z Z Z ?_);refine gA Z ⟨.inr Z,.aY [.sl 3 0 i 3,pB (lc (jm b j=0))],rfl,fH.gu 3 A fF Z Z (by simp[PV.bb,a8,B]) (.done ⟨_,_,_,[],⟨rfl,rfl,rfl⟩,wk Z Z Z ⟨.aY ⟨.bL B.symm (fun k _=>by rw[Xd]),.refl _,ac⟩,rfl,ac⟩ ⟨⟨_,rfl,.of_eq Z⟩,WL Z,rfl,⟨_,rfl,.of_eq Z⟩,WL Z,rfl,ac⟩ Z⟩)⟩
def wQ(p:Prog)(b:By)(s:RS)(A:List Fact):Prop:=lT p b s=kw∨(0<A.length∧aV (A.getD (A.length-1) co) (tV b s)>=0)
instance (p:Prog)(b:By)(s:RS)(A:List Fact):Decidable (wQ p b s A):=by unfold wQ;infer_instance
def ob(p:Prog)(b:By):Nat->RS->List Fact->Bool×List Fact×RS
 |0,s,A=>(jp,A,s)
 |n+1,s,A=>if wQ p b s A then(kw,[],(nE b s).2) else ob p b n (nE b s).2 (A++ [tV b s])
def pR(p:Prog)(b:By)(s:RS):Bool×List Fact×RS:=ob p b (cM b 65536 s).1 (cM b 65536 s).2 []
def Hd(p:Prog)(b:By)(s:RS):PV:=if(pR p b s).1=jp then .aY [.iv (aW 2 (pR p b s).2.1 Fact.c),pB (lc (jm b (pR p b s).2.2=0))] else .aY [rO,pB kw]
structure BsJ (p:Prog) (b:By) (n:Nat) (s0:RS) (i:Nat) (x:List Fact×RS):Prop where
 le:x.2.p<=b.length
 len:x.1.length=i
 args: ∀f∈x.1,f.args.length<=8
 eq:ob p b n s0 []=ob p b (n-i) x.2 x.1
theorem Cl(b:By)(s:RS):(tV b s).args.length<=8:=by
 unfold tV;dsimp only;split
 .exact Cg _
 .exact W2 _
theorem RU(p:Prog)(b:By)(s:RS)(hb:b.length<=1000000000)(hp:s.p<=b.length)(hr:p.aF.length<=1000000000):bf prog 58 [.ptr 0 0] [Qd p,oe b s] (Hd p b s) [(0,io (Qd p)),(1,io (oe b (pR p b s).2.2))] 2:=by
 obtain⟨n,hn⟩: ∃n,n=(cM b 65536 s).1:=⟨_,rfl⟩
 obtain⟨s0,D⟩: ∃s0,s0=(cM b 65536 s).2:=⟨_,rfl⟩
 have h0:s0.p<=b.length:=by rw[D];exact ru hp
 have f0:n<=65536:=by rw[hn];exact ie
 have hU:bf prog 51 [.ptr 0 0,pU 65536] [oe b s] (pU n) (uD b s0) 1:=by rw[hn,D];exact zc b s 65536 hb hp
 have hY:pR p b s=ob p b n s0 []:=by rw[hn,D];rfl
 clear hn D;refine ak ab func58 Z (by decide) ntmps58 Z (by simp) ?_;refine gA Z (ai [1] (hU) Z Z Z Z Z Z Z Z ?_);refine gA Z ?_;refine ju 4 2 Z ?_;refine jv 0 n (W2 _) (fun i (x:List Fact×RS)=>⟨[(0,.ptr 0 0),(4,.sl 3 0 i 2),(5,pU (n-i))],[(0,io (Qd p)),(1,io (oe b x.2)),(3,io (aX 2 x.1 Fact.c))],4⟩) (BsJ p b n s0) ([],s0) [2] ⟨h0,rfl,by simp,rfl⟩
  (wk Z Z Z (bi (bi (bi trivial))) ⟨⟨_,rfl,.of_eq Z⟩,WL Z,rfl,⟨_,rfl,.of_eq Z⟩,WL Z,rfl,hR Z Z Z trivial⟩ Z) fun i x hi hJ=>?_
 obtain⟨A,j⟩:=x;obtain⟨J,u,Y,y⟩:=hJ;dsimp only at J u y Y;refine gA Z ?_;refine WN (fun h1=>?_) (fun h1=>?_)
 .have h1:i<n:=by simp at h1;omega
  have hT:=JF J;have d0:=Cl b j;have C:ob p b (n-i) j A=if wQ p b j A then(kw,[],(nE b j).2) else ob p b (n-(i+1)) (nE b j).2 (A++ [tV b j]):=by
   rw[show n-i=(n-(i+1))+1 by omega,ob]
  have G:wQ p b j A->Hd p b s= .aY [rO,pB kw]∧(pR p b s).2.2=(nE b j).2:=fun he=>by
   have:pR p b s=(kw,[],(nE b j).2):=by rw[hY,y,C,am he]
   unfold Hd;rw[this];exact⟨rfl,rfl⟩
  have a0: ¬wQ p b j A->BsJ p b n s0 (i+1) (A++ [tV b j],(nE b j).2):=fun he=>⟨hT,by simp[u],fun f hf=>by
   rcases Xf.1 hf with hf|hf
   .exact Y f hf
   .rw[W1.1 hf];exact d0,by rw[y,C,be he]⟩
  have hF:=Ia p b j hb J hr;by_cases hok:lT p b j=jp
  .rw[hok]at hF;refine gA Z (ai [0,1] (hF) Z Z Z Z Z Z Z Z ?_);refine gA Z ?_;refine WN (fun zz=>?_) (fun zz=>?_)<;>(try(exact absurd zz (by decide)))
   refine gA Z ?_;refine WN (fun h2=>?_) (fun h2=>?_)
   .have h2:0<i:=by have:=of_decide_eq_true h2;omega
    have c0:(A.map fun x=>(Fact.c x).map PV.iv)[0+((i:Int)-1).toNat]? =io ((A.getD (i-1) co).c.map PV.iv):=by
     rw[Xd,show((i:Int)-1).toNat=i-1 by omega,WX,WU (by omega)];simp[ZU,WU (show i-1<A.length by omega)]
    refine gM 5 Z (kO (p:=ag (A.getD (i-1) co).c) 12 Z Z Z Z Z Z (dm ab Z Z Z Z c0 Z) ?_);refine gA Z (bg ab [] (Pure.nX (pZ (A.getD (i-1) co) (tV b j) (by have:=Y _ (Ch (show i-1<A.length by omega));omega) (by omega))) Z Z Z Z Z Z Z Z Z Z Z Z (by(repeat' (first|exact ac|exact rfl|exact ae.refl _|exact ae.bk (by assumption)|apply WN))<;>first|omega|(simp only[WV];omega)|(simp;done)|(simp;omega)) Z (by(repeat' (first|exact ac|exact rfl|exact ae.refl _|exact ae.bk (by assumption)|apply WN))<;>first|omega|(simp only[WV];omega)|(simp;done)|(simp;omega)) ?_);refine gA Z ?_;refine WN (fun I=>?_) (fun I=>?_)
    .have I:aV (A.getD (i-1) co) (tV b j)>=0:=of_decide_eq_true I;obtain⟨e1,e2⟩:=G (.inr ⟨by omega,by rw[u];exact I⟩);rw[e1,e2];refine gA Z (ar [] (by first|exact .inr Z|exact .inl Z) Z (wk Z Z Z (bi ac) ⟨⟨_,rfl,.of_eq Z⟩,WL Z,rfl,⟨_,rfl,.of_eq Z⟩,WL Z,rfl,ac⟩ Z))
    .have I: ¬aV (A.getD (i-1) co) (tV b j)>=0:=of_decide_eq_false I;have B: ¬wQ p b j A:=by
      rintro(h|⟨_,h⟩)
      .rw[hok]at h;cases h
      .rw[u]at h;exact I h
     refine gA Z ⟨h1,(A++ [tV b j],(nE b j).2),[6],a0 B,wk Z Z Z (bi (bi ⟨.of_eq (congrArg (fun z:Int=>PV.iv (.v (.int .u64 z))) (AG n i h1 (by omega))),rfl,ac⟩)) ⟨⟨_,rfl,.of_eq Z⟩,WL Z,rfl,⟨_,rfl,.of_eq Z⟩,WL Z,rfl,hR Z (by rw[W4];rfl) Z ac⟩ Z⟩
   .have h2:i=0:=by have:=of_decide_eq_false h2;omega
    have B: ¬wQ p b j A:=by
     rintro(h|⟨h,_⟩)
     .rw[hok]at h;cases h
     .omega
    refine gA Z ⟨h1,(A++ [tV b j],(nE b j).2),[6],a0 B,wk Z Z Z (bi (bi ⟨.of_eq (congrArg (fun z:Int=>PV.iv (.v (.int .u64 z))) (AG n i h1 (by omega))),rfl,ac⟩)) ⟨⟨_,rfl,.of_eq Z⟩,WL Z,rfl,⟨_,rfl,.of_eq Z⟩,WL Z,rfl,hR Z (by rw[W4];rfl) Z ac⟩ Z⟩
  .have hok:lT p b j=kw:=by simpa using hok
   rw[hok]at hF;obtain⟨e1,e2⟩:=G (.inl hok);rw[e1,e2];refine gA Z (ai [0,1] (hF) Z Z Z Z Z Z Z Z ?_);refine gA Z ?_;refine WN (fun zz=>?_) (fun zz=>?_)<;>(try(exact absurd zz (by decide)))
   refine gA Z (ar [] (by first|exact .inr Z|exact .inl Z) Z (wk Z Z Z (bi ac) ⟨⟨_,rfl,.of_eq Z⟩,WL Z,rfl,⟨_,rfl,.of_eq Z⟩,WL Z,rfl,ac⟩ Z))
 .have h1:n<=i:=by simp at h1;omega
  have e0:i=n:=by omega
  subst e0;rw[Zv,ob]at y;have b0:pR p b s=(jp,A,j):=hY.trans y;have hP:Hd p b s= .aY [.iv (aW 2 A Fact.c),pB (lc (jm b j=0))]:=by
   unfold Hd;rw[b0];rfl
  rw[hP,b0];refine gA Z (ai [1] (H3 b j) Z Z Z Z Z Z Z Z ?_);refine gA Z ⟨.inr Z,.aY [.sl 3 0 i 2,pB (lc (jm b j=0))],rfl,fH.gu 3 A Fact.c Z Z (by simp[PV.bb,a8,u]) (.done ⟨_,_,_,[],⟨rfl,rfl,rfl⟩,wk Z Z Z ⟨.aY ⟨.bL u.symm (fun k _=>by rw[Xd]),.refl _,ac⟩,rfl,ac⟩ ⟨⟨_,rfl,.of_eq Z⟩,WL Z,rfl,⟨_,rfl,.of_eq Z⟩,WL Z,rfl,ac⟩ Z⟩)⟩
structure JS where
 S:List Fact
 a:By
 k:Nat
def pX(p:Prog)(s:JS)(b:By)(k:UInt8)(u:Nat)(t:By)(w:RS):Option JS:=
 if w.f=0∧b.take w.p=cV s.a k u t then
  if k=165∧u=s.k+1 then
   if(pQ p t ⟨0,0⟩).1=jp∧jm t (pQ p t ⟨0,0⟩).2.2=0∧iU aV (okF p) s.S (pQ p t ⟨0,0⟩).2.1=0 then io ⟨fX aV s.S (pQ p t ⟨0,0⟩).2.1,s.a++b.take w.p,u⟩ else is
  else if k=166∧s.a.length=13 then
   if(pR p t ⟨0,0⟩).1=jp∧jm t (pR p t ⟨0,0⟩).2.2=0 then io ⟨(pR p t ⟨0,0⟩).2.1,s.a++b.take w.p,u⟩ else is
  else is
 else is
def Rn(b:By):UInt8×RS:=bj b ⟨0,0⟩
def HF(b:By):Nat×RS:=cM b 2147483647 (Rn b).2
def KJ(b:By):By×RS:=eG b 4194304 (HF b).2
def Mh(b:By):RS:=Br b 5 (KJ b).2
def kB(p:Prog)(s:JS)(b:By):Option JS:=pX p s b (Rn b).1 (HF b).1 (KJ b).1 (Mh b)
def tkR(p:Prog)(n:Nat)(s:JS)(o:Option JS)(r:PV)(h:AH)(k:Nat):Prop:=match o with
 |none=> ∃m,bY cA m s.S∧r=pB kw∧h=jH p n m s.a s.k∧k=4
 |some u=> ∃m j,j<=n+17∧bY cA m u.S∧r=pB jp∧h=[(0,io (bz m)),(1,io (cm p j 0)),(3,io (jC 1 4 u.a u.k)),(4,io (iG u.a))]∧k=5
theorem HT{A:List Fact}{f:Fact}(j:rk aV A)(h:0<A.length->aV (A.getD (A.length-1) co) f<0):rk aV (A++ [f]):=by
 refine YI.2 ⟨j,Y8 _ _,fun x u y B=>?_⟩;rw[W1.1 B];obtain⟨i,hi,rfl⟩:=List.getElem_of_mem u;have h:=h (by omega);rw[WQ,WU (by omega)]at h;by_cases e:i=A.length-1
 .subst e;exact h
 .exact pb.tr _ _ _ ((X9.1 j) i (A.length-1) hi (by omega) (by omega)) h
theorem NO{p:Prog}{b:By}{s:RS}(h:lT p b s=jp):okF p (tV b s)=jp:=by
 unfold lT at h;simp only[XE]at h;exact h.2.2
theorem yT{p:Prog}{b:By}: ∀(n:Nat) (s:RS) (A:List Fact),rk aV A->(∀f∈A,okF p f=jp)->(ob p b n s A).1=jp->rk aV (ob p b n s A).2.1∧(∀f∈(ob p b n s A).2.1,okF p f=jp)∧(ob p b n s A).2.1.length=A.length+n
 |0,s,A,hA,ho,_=>⟨hA,ho,rfl⟩
 |n+1,s,A,hA,ho,h=>by
  rw[ob]at h ⊢;by_cases hb:wQ p b s A
  .rw[am hb]at h;cases h
  .rw[be hb]at h ⊢;unfold wQ at hb;have h1:lT p b s=jp:=by
    cases e:lT p b s with
    |true=>rfl
    |false=>exact absurd (.inl e) hb
   have:=yT n (nE b s).2 (A++ [tV b s]) (HT hA fun j=>by
    have: ¬aV (A.getD (A.length-1) co) (tV b s)>=0:=fun e=>hb (.inr ⟨j,e⟩)
    omega) (fun f hf=>by
    rcases Xf.1 hf with hf|hf
    .exact ho f hf
    .rw[W1.1 hf];exact NO h1) h
   rw[WO,Xl]at this;exact⟨this.1,this.2.1,by omega⟩
theorem yS{p:Prog}{b:By}{s:RS}(h:(pR p b s).1=jp):Go.Bo.dV aV (okF p) (pR p b s).2.1:=by
 have h1:=yT (p:=p) (b:=b) (cM b 65536 s).1 (cM b 65536 s).2 [] Y0 (fun f hf=>nomatch hf) h;have j:(cM b 65536 s).1<=65536:=ie;exact⟨h1.1,h1.2.1,by have:=h1.2.2;show(ob p b (cM b 65536 s).1 (cM b 65536 s).2 []).2.1.length<=_;rw[this,X8];omega⟩
theorem CI{p:Prog}{b:By}: ∀(n:Nat) (s:RS) (A:List (bZ Fact)),(∀x∈A,x.2.args.length<=8)-> ∀x∈(sx p b n s A).2.1,x.2.args.length<=8
 |0,s,A,hA=>hA
 |n+1,s,A,hA=>by
  rw[sx];split
  .intro x hx;cases hx
  .exact CI n _ _ fun x hx=>by
    rcases Xf.1 hx with hx|hx
    .exact hA x hx
    .rw[W1.1 hx];exact Cl _ _
theorem Ap(l:By): ∀e∈db l,∃v:List Value,e=v.map fun v=> .iv (.v v):=fun e j=>by
 obtain⟨x,_,rfl⟩:=Xw.1 j;exact⟨[_],rfl⟩
abbrev Vy(p:Prog)(n:Nat)(m:FM)(s:JS)(b:By)(W:RS):AH:=[(0,io (bz m)),(1,io (cm p n 0)),(2,io (iG s.a)),(3,io (jC 1 2 s.a s.k)),(4,io (oe b W))]
set_option maxHeartbeats 2000000 in
theorem Uf(p:Prog)(n:Nat)(s:JS){m:FM}(b:By)(hk:bY cA m s.S)(hf:Go.Bo.dV aV (okF p) s.S)(hb:b.length<=10000000)(ha:s.a.length<=10000000)(h5:5<=s.a.length)(hr:p.aF.length<=1000000000)(hs:p.size<=10000000)(hn:n<=90000000000)(s0:s.k<=10000000000)(f0:s.a.length=13->s.S=[]):
  Al.Fn prog 28 [.ptr 3 0,.iv (aW 1 b aO)] (jO p n m s.a s.k) (tkR p n s (kB p s b)):=by
 obtain⟨K,J⟩: ∃K,K=Rn b:=⟨_,rfl⟩
 obtain⟨U,I⟩: ∃U,U=HF b:=⟨_,rfl⟩
 obtain⟨T,G⟩: ∃T,T=KJ b:=⟨_,rfl⟩
 obtain⟨W,eW⟩: ∃W,W=Mh b:=⟨_,rfl⟩
 have b0:K.2.p<=b.length:=by rw[J];exact sv (W2 _)
 have d0:U.2.p<=b.length:=by rw[I];exact ru (by rw[<-J];exact b0)
 have c0:T.2.p<=b.length:=by rw[G];exact oq (by rw[<-I];exact d0)
 have g0:W.p<=b.length:=by rw[eW];exact MV (by rw[<-G];exact c0)
 have r0:U.1<=2147483647:=by rw[I];exact ie
 have q0:T.1.length<=b.length:=by rw[G];exact xE
 have j0:bf prog 50 [.ptr 0 0] [oe b ⟨0,0⟩] (pY (K.1.toNat:Int)) (uD b K.2) 1:=by rw[J];exact Dc b ⟨0,0⟩ (by omega) (W2 _)
 have n0:bf prog 51 [.ptr 0 0,pU 2147483647] [oe b K.2] (pU U.1) (uD b U.2) 1:=by rw[I];unfold HF;rw[<-J];exact zc b K.2 2147483647 (by omega) b0
 have m0:bf prog 52 [.ptr 0 0,pI 4194304] [oe b U.2] (pS (qw T.1)) (uD b T.2) 1:=by rw[G];unfold KJ;rw[<-I];exact zf b U.2 4194304 (by decide) (by omega) d0
 have o0:bf prog 53 [.ptr 0 0,pI 5] [oe b T.2] .any (uD b W) 1:=by rw[eW];unfold Mh;rw[<-G];exact Um b T.2 5 (by omega) c0
 have hR:kB p s b=pX p s b K.1 U.1 T.1 W:=by rw[J,I,G,eW];rfl
 rw[hR];clear hR J I G eW;have u:pX p s b K.1 U.1 T.1 W=is-> ∀m1,bY cA m1 s.S->tkR p n s (pX p s b K.1 U.1 T.1 W) (pB kw) (jH p n m1 s.a s.k) 4:=fun e m1 h=>by rw[e];exact⟨m1,h,rfl,rfl,rfl⟩
 obtain⟨E,hE⟩: ∃E,E=pX p s b K.1 U.1 T.1 W:=⟨_,rfl⟩
 rw[<-hE]at u ⊢;unfold pX at hE;have p0:=FL (U.1:Int) (by omega) (by omega);obtain⟨B,a0⟩: ∃B,B=cV s.a K.1 U.1 T.1:=⟨_,rfl⟩
 have k0:bf prog 21 [.iv (aW 1 s.a aO),pY (K.1.toNat:Int),pI U.1,.iv (aW 1 T.1 aO)] [] (.sl 0 0 B.length 1) [(0,io (iG B))] 1:=by
  rw[a0];exact zg s.a T.1 K.1 (U.1:Int) h5 (by omega) ⟨by omega,by omega⟩ (by omega)
 rw[<-a0]at hE;refine lU ab func28 Z (by decide) ntmps28 Z (by simp) ?_;refine gA Z (ai [] (C7 b (by omega)) Z Z Z Z Z Z Z Z ?_)
 (refine gM 2 Z ?_;refine cG (L:=[]) (t:=⟨[(0,.ptr 3 0),(1,.iv (aW 1 b aO)),(5,.ptr 4 0)],Vy p n m s b ⟨0,0⟩,5⟩) ?_ ?_;refine wk Z Z Z ?_ ?_ ?_;exact(bi (bi (bi ac)));exact(hM Z Z Z ⟨⟨_,rfl,.of_eq Z⟩,WL Z,rfl,hR Z Z Z ⟨⟨_,rfl,.of_eq Z⟩,WL Z,rfl,⟨_,rfl,.of_eq Z⟩,WL Z,rfl,ac⟩⟩);exact rfl)
 refine gA Z (ai [4] (j0) Z Z Z Z Z Z Z Z ?_);refine gA Z (ai [4] (n0) Z Z Z Z Z Z Z Z ?_)
 (refine gM 3 Z ?_;refine cG (L:=[]) (t:=⟨[(0,.ptr 3 0),(1,.iv (aW 1 b aO)),(5,.ptr 4 0),(6,pY (K.1.toNat:Int)),(7,pI U.1)],Vy p n m s b U.2,5⟩) ?_ ?_;refine wk Z Z Z ?_ ?_ ?_;exact(bi (bi (bi (bi ⟨.of_eq (congrArg pI p0),rfl,ac⟩))));exact(hM Z Z Z ⟨⟨_,rfl,.of_eq Z⟩,WL Z,rfl,hR Z Z Z ⟨⟨_,rfl,.of_eq Z⟩,WL Z,rfl,⟨_,rfl,.of_eq Z⟩,WL Z,rfl,ac⟩⟩);exact rfl)
 refine gA Z (ai [4] (m0) Z Z Z Z Z Z Z Z ?_);refine gA Z (pq (b:=qw T.1) ab Z Z Z Z Z Z Z Z Z Z Z (by show T.1.toArray.size<=_;simp;omega) ?_)
 (refine gM 2 Z ?_;refine cG (L:=[]) (t:=⟨[(0,.ptr 3 0),(1,.iv (aW 1 b aO)),(5,.ptr 4 0),(6,pY (K.1.toNat:Int)),(7,pI U.1),(8,.iv (aW 1 T.1 aO))],Vy p n m s b T.2,5⟩) ?_ ?_;refine wk Z Z Z ?_ ?_ ?_;exact(bi (bi (bi (bi (bi (bi ac))))));exact(hM Z Z Z ⟨⟨_,rfl,.of_eq Z⟩,WL Z,rfl,hR Z Z Z ⟨⟨_,rfl,.of_eq Z⟩,WL Z,rfl,⟨_,rfl,.of_eq Z⟩,WL Z,rfl,ac⟩⟩);exact rfl)
 refine gA Z (ai [4] (o0) Z Z Z Z Z Z Z Z ?_);refine gA Z (ai [4] (sK b W) Z Z Z Z Z Z Z Z ?_);refine gA Z ?_;refine WN (fun g1=>?_) (fun g1=>?_)
 .have g1: ¬W.f=0:=by simpa using g1
  rw[be fun h=>g1 h.1]at hE;refine gA Z (dz [] (.inr Z) Z (u hE m hk) (wk Z Z Z (bi ac) (hM Z Z Z ⟨⟨_,rfl,.of_eq Z⟩,WL Z,rfl,hR Z (by first|rfl|exact az _ _) Z ⟨⟨_,rfl,.of_eq Z⟩,WL Z,rfl,ac⟩⟩) Z))
 have g1:W.f=0:=by simpa using g1
 (refine gM 1 Z ?_;refine cG (L:=[]) (t:=⟨[(0,.ptr 3 0),(1,.iv (aW 1 b aO)),(5,.ptr 4 0),(6,pY (K.1.toNat:Int)),(7,pI U.1),(8,.iv (aW 1 T.1 aO))],Vy p n m s b W,5⟩) ?_ ?_;refine wk Z Z Z ?_ ?_ ?_;exact(bi (bi (bi (bi (bi (bi ac))))));exact(hM Z Z Z ⟨⟨_,rfl,.of_eq Z⟩,WL Z,rfl,hR Z Z Z ⟨⟨_,rfl,.of_eq Z⟩,WL Z,rfl,⟨_,rfl,.of_eq Z⟩,WL Z,rfl,ac⟩⟩);exact rfl)
 refine gA Z (ai [4] (V0 b W) Z Z Z Z Z Z Z Z ?_);refine gM 1 Z (bB Z (lL (tk (m:=W.p) ab Z Z Z Z Z Z Z g0) Z) ?_);rintro t rfl;refine gA Z (r9 (asv:=[.sl 2 0 s.a.length 1,pY (K.1.toNat:Int),pI U.1,.iv (aW 1 T.1 aO)]) k0 Z Z Z Z Z (lG (i:=2) (sz:=1) (fun k=>aO (s.a.getD k co)) Z (cU Z) (by simp[a8,PV.bb]) ⟨.bL Z (fun k _=>by rw[Xd]),.refl _,.refl _,.refl _,ac⟩) Z (wM (Ap B)) Z ?_);refine gA Z (r9 (asv:=[.iv (aW 1 (b.take W.p) aO),.sl 5 0 B.length 1]) (Pure.nX (EA (b.take W.p) B)) Z Z Z Z Z (lG (i:=5) (sz:=1) (fun k=>aO (B.getD k co)) Z (cU (az _ _)) (by simp[a8,PV.bb]) ⟨.refl _,.bL Z (fun k _=>by rw[Xd]),ac⟩) Z (fun j o hj=>nomatch hj) Z ?_);refine gA Z ?_;refine WN (fun g2=>?_) (fun g2=>?_)
 .have g2: ¬b.take W.p=B:=by simpa using g2
  rw[be fun h=>g2 h.2]at hE;refine gA Z (dz [] (.inr Z) Z (u hE m hk) (wk Z Z Z (bi ac) (hM Z Z Z ⟨⟨_,rfl,.of_eq Z⟩,WL Z,rfl,hR Z (by first|rfl|exact az _ _) Z ⟨⟨_,rfl,.of_eq Z⟩,WL Z,rfl,ac⟩⟩) Z))
 have g2:b.take W.p=B:=by simpa using g2
 rw[am ⟨g1,g2⟩]at hE;have i0:(b.take W.p).length=W.p:=by rw[Xv];omega
 obtain⟨w,ew⟩: ∃w,w=b.take W.p:=⟨_,rfl⟩
 rw[<-ew]at hE i0 ⊢;refine gA Z (bg ab [] (C7 T.1 (by omega)) Z Z Z Z Z Z Z Z Z Z Z Z (by(repeat' (first|exact ac|exact rfl|exact ae.refl _|exact ae.bk (by assumption)|apply WN))<;>first|omega|(simp only[WV];omega)|(simp;done)|(simp;omega)) Z (by(repeat' (first|exact ac|exact rfl|exact ae.refl _|exact ae.bk (by assumption)|apply WN))<;>first|omega|(simp only[WV];omega)|(simp;done)|(simp;omega)) ?_);refine gA Z (bg ab [0,1] (F9 p n m (by omega)) Z Z Z Z Z Z Z Z Z Z Z Z (by(repeat' (first|exact ac|exact rfl|exact ae.refl _|exact ae.bk (by assumption)|apply WN))<;>first|omega|(simp only[WV];omega)|(simp;done)|(simp;omega)) Z (by(repeat' (first|exact ac|exact rfl|exact ae.refl _|exact ae.bk (by assumption)|apply WN))<;>first|omega|(simp only[WV];omega)|(simp;done)|(simp;omega)) ?_)
 (refine gM 4 Z ?_;refine cG (L:=[]) (t:=⟨[(0,.ptr 3 0),(6,pY (K.1.toNat:Int)),(7,pI U.1),(9,.iv (aW 1 w aO)),(10,.ptr 7 0)],[(0,io (bz m)),(1,io (cm p n 0)),(2,io (iG s.a)),(3,io (jC 1 2 s.a s.k)),(6,io (oe T.1 ⟨0,0⟩)),(7,io (.cells [.ptr 6 0,.iv (aW 4 p.aF Decl.c),.iv (aW 5 p.rules aw.c)]))],8⟩) (wk Z Z Z (bi (bi (bi (bi (bi ac))))) (hM Z Z Z ⟨⟨_,rfl,.of_eq Z⟩,WL Z,rfl,hR Z Z Z ⟨⟨_,rfl,.of_eq Z⟩,WL Z,rfl,⟨_,rfl,.of_eq Z⟩,WL Z,rfl,⟨_,rfl,.of_eq Z⟩,WL Z,rfl,ac⟩⟩) Z) ?_)
 have hw:w.length<=10000000:=by omega
 refine gA Z ?_;refine WN (fun g3=>?_) (fun g3=>?_)
 .have g3:K.1=165:=UInt8.toNat_inj.1 (by have:=of_decide_eq_true g3;show K.1.toNat=165;omega);refine gA Z ?_;refine WN (fun g4=>?_) (fun g4=>?_)
  .have g4:U.1=s.k+1:=by have:=of_decide_eq_true g4;omega
   rw[am ⟨g3,g4⟩]at hE;have A:=MH p T.1 ⟨0,0⟩ (by omega) (W2 _) hr;have h8:=CI (p:=p) (b:=T.1) (cM T.1 4096 ⟨0,0⟩).1 (cM T.1 4096 ⟨0,0⟩).2 [] (fun x hx=>nomatch hx);have h8: ∀x∈(pQ p T.1 ⟨0,0⟩).2.1,x.2.args.length<=8:=h8;unfold Hc at A;obtain⟨Y,eY⟩: ∃Y,Y=pQ p T.1 ⟨0,0⟩:=⟨_,rfl⟩
   rw[<-eY]at A hE h8;by_cases C:Y.1=jp
   .rw[am C]at A;refine gA Z (ai [7,6] (A) Z Z Z Z Z Z Z Z ?_);refine gA Z ?_;refine WN (fun g5=>?_) (fun g5=>?_)
    .have g5: ¬jm T.1 Y.2.2=0:=by simpa using g5
     rw[be fun h=>g5 h.2.1]at hE;refine gA Z (dz [] (.inr Z) Z (u hE m hk) (wk Z Z Z (bi ac) (hM Z Z Z ⟨⟨_,rfl,.of_eq Z⟩,WL Z,rfl,hR Z Z Z ⟨⟨_,rfl,.of_eq Z⟩,WL Z,rfl,ac⟩⟩) Z))
    have g5:jm T.1 Y.2.2=0:=by simpa using g5
    have D:=De p n Y.2.1 hr hk hf (fun x hx=>by have:=h8 x hx;omega) (by omega);by_cases h0:iU aV (okF p) s.S Y.2.1=0
    .rw[am ⟨C,g5,h0⟩]at hE;rw[show j5 aV (okF p) (s.S,n) Y.2.1=(fX aV s.S Y.2.1,n+1) by unfold j5;rw[am h0]]at D;refine gA Z (lD [0,1] D Z Z Z Z Z Z Z ?_);rintro r h' n' ⟨m1,hk1,rfl,rfl,rfl⟩;refine⟨_,rfl,?_⟩;refine gA Z ?_;refine WN (fun zz=>?_) (fun zz=>?_)<;>(try(simp[h0]at zz;done))
     refine gA Z (dz (r:=pB jp) (h:=[(0,io (bz m1)),(1,io (cm p (n+1) 0)),(3,io (jC 1 4 (s.a++w) U.1)),(4,io (iG (s.a++w)))]) (n:=5) [8] (.inr Z) Z (by rw[hE];exact⟨m1,(n+1),by omega,hk1,rfl,rfl,rfl⟩) (wk Z Z Z (bi ac) (hM Z Z Z ⟨⟨_,rfl,.of_eq Z⟩,WL Z,rfl,⟨_,rfl,.cells ⟨.refl _,.row (by simp),.refl _,ac⟩⟩,WL Z,rfl,hR Z (by rw[W4];exact congrArg _ (cC w)) Z ac⟩) Z))
    .rw[be fun h=>h0 h.2.2]at hE;rw[show j5 aV (okF p) (s.S,n) Y.2.1=(s.S,n) by unfold j5;rw[be h0]]at D;refine gA Z (lD [0,1] D Z Z Z Z Z Z Z ?_);rintro r h' n' ⟨m1,hk1,rfl,rfl,rfl⟩;refine⟨_,rfl,?_⟩;refine gA Z ?_;refine WN (fun zz=>?_) (fun zz=>?_)<;>(try(exact absurd (by simpa using zz) h0))
     refine gA Z (dz [] (.inr Z) Z (u hE m1 hk1) (wk Z Z Z (bi ac) (hM Z Z Z ⟨⟨_,rfl,.of_eq Z⟩,WL Z,rfl,hR Z Z Z ⟨⟨_,rfl,.of_eq Z⟩,WL Z,rfl,ac⟩⟩) Z))
   .rw[be C]at A;rw[be fun h=>C h.1]at hE;refine gA Z (ai [7,6] (A) Z Z Z Z Z Z Z Z ?_);refine gA Z ?_;refine WN (fun zz=>?_) (fun zz=>?_)<;>(try(exact absurd zz (by decide)))
    refine gA Z (dz [] (.inr Z) Z (u hE m hk) (wk Z Z Z (bi ac) (hM Z Z Z ⟨⟨_,rfl,.of_eq Z⟩,WL Z,rfl,hR Z Z Z ⟨⟨_,rfl,.of_eq Z⟩,WL Z,rfl,ac⟩⟩) Z))
  .have g4: ¬U.1=s.k+1:=by have:=of_decide_eq_false g4;omega
   rw[be fun h=>g4 h.2,be fun h=>absurd (g3.symm.trans h.1) (by decide)]at hE;refine gA Z ?_;refine WN (fun zz=>?_) (fun zz=>?_)<;>(try(exact absurd (of_decide_eq_true zz) (by rw[g3];decide)))
   refine gA Z (dz [] (.inr Z) Z (u hE m hk) (wk Z Z Z (bi ac) (hM Z Z Z ⟨⟨_,rfl,.of_eq Z⟩,WL Z,rfl,hR Z Z Z ⟨⟨_,rfl,.of_eq Z⟩,WL Z,rfl,ac⟩⟩) Z))
 .have g3: ¬K.1=165:=fun h=>by rw[h]at g3;exact absurd g3 (by decide)
  rw[be fun h=>g3 h.1]at hE;refine gA Z ?_;refine WN (fun g6=>?_) (fun g6=>?_)
  .have g6:K.1=166:=UInt8.toNat_inj.1 (by have:=of_decide_eq_true g6;show K.1.toNat=166;omega);refine gA Z ?_;refine WN (fun g7=>?_) (fun g7=>?_)
   .have g7:s.a.length=13:=by have:=of_decide_eq_true g7;omega
    rw[am ⟨g6,g7⟩]at hE;have y:=RU p T.1 ⟨0,0⟩ (by omega) (W2 _) hr;have e0:=yS (p:=p) (b:=T.1) (s:=⟨0,0⟩);unfold Hd at y;obtain⟨Y,eY⟩: ∃Y,Y=pR p T.1 ⟨0,0⟩:=⟨_,rfl⟩
    rw[<-eY]at y hE e0;by_cases C:Y.1=jp
    .rw[am C]at y;refine gA Z (ai [7,6] (y) Z Z Z Z Z Z Z Z ?_);refine gA Z ?_;refine WN (fun g5=>?_) (fun g5=>?_)
     .have g5:jm T.1 Y.2.2=0:=by simpa using g5
      rw[am ⟨C,g5⟩]at hE;refine gA Z (lD [0,1,2,3] (Us p n s.a s.k Y.2.1 (f0 g7▸hk) (e0 C) hr (by omega)) Z Z Z Z Z (by simp only[WW,W7,aC];rfl) Z ?_);rintro r h' k' ⟨m1,n1,hn1,hk1,rfl,rfl,rfl⟩;refine⟨_,rfl,?_⟩;refine gA Z ?_;refine WN (fun zz=>?_) (fun zz=>?_)<;>(try(exact absurd zz (by decide)))
      refine gA Z (dz (r:=pB jp) (h:=[(0,io (bz m1)),(1,io (cm p n1 0)),(3,io (jC 1 4 (s.a++w) U.1)),(4,io (iG (s.a++w)))]) (n:=5) [8] (.inr Z) Z (by rw[hE];exact⟨m1,n1,by omega,hk1,rfl,rfl,rfl⟩) (wk Z Z Z (bi ac) (hM Z Z Z ⟨⟨_,rfl,.of_eq Z⟩,WL Z,rfl,⟨_,rfl,.cells ⟨.refl _,.row (by simp),.refl _,ac⟩⟩,WL Z,rfl,hR Z (by rw[W4];exact congr (congrArg (· ++ ·) (az _ _)) (cC w)) Z ac⟩) Z))
     have g5: ¬jm T.1 Y.2.2=0:=by simpa using g5
     rw[be fun h=>g5 h.2]at hE;refine gA Z (dz [] (.inr Z) Z (u hE m hk) (wk Z Z Z (bi ac) (hM Z Z Z ⟨⟨_,rfl,.of_eq Z⟩,WL Z,rfl,hR Z Z Z ⟨⟨_,rfl,.of_eq Z⟩,WL Z,rfl,ac⟩⟩) Z))
    .rw[be C]at y;rw[be fun h=>C h.1]at hE;refine gA Z (ai [7,6] (y) Z Z Z Z Z Z Z Z ?_);refine gA Z ?_;refine WN (fun zz=>?_) (fun zz=>?_)<;>(try(exact absurd zz (by decide)))
     refine gA Z (dz [] (.inr Z) Z (u hE m hk) (wk Z Z Z (bi ac) (hM Z Z Z ⟨⟨_,rfl,.of_eq Z⟩,WL Z,rfl,hR Z Z Z ⟨⟨_,rfl,.of_eq Z⟩,WL Z,rfl,ac⟩⟩) Z))
   .have g7: ¬s.a.length=13:=by have:=of_decide_eq_false g7;omega
    rw[be fun h=>g7 h.2]at hE;refine gA Z (dz [] (.inr Z) Z (u hE m hk) (wk Z Z Z (bi ac) (hM Z Z Z ⟨⟨_,rfl,.of_eq Z⟩,WL Z,rfl,hR Z Z Z ⟨⟨_,rfl,.of_eq Z⟩,WL Z,rfl,ac⟩⟩) Z))
  .have g6: ¬K.1=166:=fun h=>by rw[h]at g6;exact absurd g6 (by decide)
   rw[be fun h=>g6 h.1]at hE;refine gA Z (dz [] (.inr Z) Z (u hE m hk) (wk Z Z Z (bi ac) (hM Z Z Z ⟨⟨_,rfl,.of_eq Z⟩,WL Z,rfl,hR Z Z Z ⟨⟨_,rfl,.of_eq Z⟩,WL Z,rfl,ac⟩⟩) Z))
end Go.Proofs.YtlmhfgbkchnfbaaGreatDoor
namespace Go.Proofs.YtlmhfgbkchnfbaaGreatDoor
open Go Go.Al Go.En Go.Bo
section
def iz(p:Prog)(b:By):Nat->JS->JS
 |0,s=>s
 |f+1,s=>match kB p s (b.drop s.a.length) with
  |none=>s
  |some u=>iz p b f u
def rK(p:Prog)(b:By):JS:=iz p b (b.length+1) ⟨[],ck p,0⟩
structure nZ (p:Prog) (s:JS):Prop where
 iL:Go.Bo.dV aV (okF p) s.S
 len:13<=s.a.length
 num:s.k<=2147483647
 new:s.a.length=13->s.S=[]
theorem qW(p:Prog):nZ p ⟨[],ck p,0⟩:=⟨Go.Bo.dV.nil _ _,WY 13,W2 _,fun _=>rfl⟩
theorem vw(a:By)(k:UInt8)(n:Nat)(t:By):6<=(cV a k n t).length:=by
 rw[cV,sT];simp only[WO,Xl];show 6<=1+(enc n).length+(gZ t).length+4+1;omega
theorem u6{p:Prog}{s u:JS}{b:By}(h:kB p s b=io u)(hs:nZ p s):nZ p u∧s.a.length+6<=u.a.length∧u.a.length<=s.a.length+b.length:=by
 unfold kB pX at h;have x:(HF b).1<=2147483647:=ie;split at h
 .rename_i h1;have y:=vw s.a (Rn b).1 (HF b).1 (KJ b).1;rw[<-h1.2]at y;have hl:(b.take (Mh b).p).length<=b.length:=by rw[Xv];omega
  split at h
  .split at h
   .rename_i j;cases h;refine⟨⟨hs.iL.next pb j.2.2,?_,x,fun e=>?_⟩,?_,?_⟩<;>simp only[WO] at* <;>have:=hs.len<;>omega
   .cases h
  .split at h
   .split at h
    .rename_i j;cases h;refine⟨⟨yS j.1,?_,x,fun e=>?_⟩,?_,?_⟩<;>simp only[WO] at* <;>have:=hs.len<;>omega
    .cases h
   .cases h
 .cases h
theorem qM{p:Prog}{b:By}: ∀(f g:Nat) {s:JS},nZ p s->s.a.length<=b.length->b.length-s.a.length<f->f<=g->iz p b g s=iz p b f s
 |0,_,_,_,_,h,_=>absurd h (YM _)
 |f+1,0,_,_,_,_,h=>absurd h (Nat.not_succ_le_zero _)
 |f+1,g+1,s,hs,hl,h1,h2=>by
  rw[iz,iz];cases e:kB p s (b.drop s.a.length) with
  |none=>rfl
  |some u=>
   obtain⟨j,y,x⟩:=u6 e hs;rw[XT]at x;exact qM f g j (by omega) (by omega) (by omega)
def V2(p:Prog)(u:JS)(r:PV)(h:AH)(k:Nat):Prop:= ∃m n,n<=100000000∧bY cA m u.S∧r= .aY [.ptr 3 0,pI u.a.length,pI 0]∧h=jH p n m u.a u.k∧k=4
structure OpI (p:Prog) (b:By) (x:JS×FM×Nat):Prop where
 iL:nZ p x.1
 keeps:bY cA x.2.1 x.1.S
 len:x.1.a.length<=b.length
 num:x.2.2<=17*x.1.a.length
 eq:rK p b=iz p b (b.length+1) x.1
section
variable (hS:fy) (p:Prog) (hf:p.fit) (hs:p.size<=10000000) (ht:p.ts<=800000000) (b:By)
include hS hf hs ht
set_option maxHeartbeats 1000000 in
theorem P5(hr:p.aF.length<=1000000000)(hb:b.length<=4194304)(hc:(gP p).1=0)(hp:b.take 13=ck p):Al.Fn Tryz.prog 14 [ag p.c,.iv (aW 1 b aO)] [] (V2 p (rK p b)):=by
 have hC:=zj hS p hf hs ht hc;have I:rK p b=iz p b (b.length+1) ⟨[],ck p,0⟩:=rfl;have G:=qW p;have C:=fE p;generalize ck p=a0 at hC I G C hp;have b0:13<=b.length:=by
  have:=congrArg Y9 hp;rw[Xv,C]at this;omega
 have A:=My b a0;rw[decide_eq_true (show b.take a0.length=a0 by rw[C];exact hp)]at A;refine lU ab Tryz.func14 Z (by decide) Tryz.ntmps14 Z (by simp) ?_;refine gA Z ?_;refine WN (fun zz=>?_) (fun zz=>?_)<;>(try(have:=of_decide_eq_true zz;omega))
 refine gA Z (ai [] (hC) Z Z Z Z Z Z Z Z ?_);refine gA Z ?_;refine WN (fun zz=>?_) (fun zz=>?_)<;>(try(exact absurd zz (by decide)))
 refine gA Z (r9 (asv:=[.iv (aW 1 b aO),.sl 3 0 a0.length 1]) (Pure.nX A) Z Z Z Z Z (lG (i:=3) (sz:=1) (fun k=>aO (a0.getD k co)) Z (cU (az _ _)) (by simp[a8,PV.bb]) ⟨.refl _,.bL Z (fun k _=>by rw[Xd]),ac⟩) Z (fun j o hj=>nomatch hj) Z ?_);refine gA Z ?_;refine WN (fun zz=>?_) (fun zz=>?_)<;>(try(exact absurd zz (by decide)))
 refine gA Z ?_;refine iC (σ:={x:JS×FM×Nat//OpI p b x}) (fun x=>⟨[(1,.iv (aW 1 b aO)),(7,.ptr 4 0)],[(1,io (bz x.1.2.1)),(2,io (cm p x.1.2.2 1)),(4,io (jC 2 5 x.1.1.a x.1.1.k)),(5,io (iG x.1.1.a))],6⟩) (fun x=>b.length-x.1.1.a.length) ⟨(⟨[],a0,0⟩,[],0),G,bY.nil,by dsimp only;omega,W2 _,I⟩ [3]
  (wk Z Z Z (bi (bi trivial)) (hM Z Z Z ⟨⟨_,rfl,.of_eq Z⟩,WL Z,rfl,⟨_,rfl,.of_eq Z⟩,WL Z,rfl,hR Z (by first|rfl|exact az _ _) Z trivial⟩) Z) fun x=>?_
 obtain⟨⟨s,m,n⟩,D,Y,q3,q4,J⟩:=x;dsimp only at D Y q3 q4 J ⊢;have c0:=D.len;have hT:=Uf p n s (b.drop s.a.length) Y D.iL (by rw[XT];omega) (by omega) (by omega) hr hs (by omega) (by have:=D.num;omega) D.new;refine gA Z (lD [1,2,5,4] (Al.Fn.le (aa:=[.ptr 3 0,.iv (.bL 1 (b.length-s.a.length) fun k=>aO (b.getD (s.a.length+k) co))]) hT ⟨.refl _,.iv (Cq Z),ac⟩) Z Z Z Z Z (by simp only[WW,W7,aC];rfl) Z ?_);intro r h' n' y;rcases e:kB p s (b.drop s.a.length) with _|u
 .rw[e]at y;obtain⟨m1,B,rfl,rfl,rfl⟩:=y;refine⟨_,rfl,?_⟩;refine gA Z ?_;refine WN (fun zz=>?_) (fun zz=>?_)<;>(try(exact absurd zz (by decide)))
  have hu:rK p b=s:=by rw[J,iz,e]
  refine gA Z (dz (r:= .aY [.ptr 3 0,pI s.a.length,pI 0]) (h:=jH p n m1 s.a s.k) (n:=4) [1,2,5,4] (.inr Z) Z (by rw[hu];exact⟨m1,n,by omega,B,rfl,rfl,rfl⟩) (wk Z Z Z ⟨.of_eq Z,rfl,ac⟩ (hM Z Z Z ⟨⟨_,rfl,.of_eq Z⟩,WL Z,rfl,hR Z (by first|rfl|exact az _ _) Z ⟨⟨_,rfl,.of_eq Z⟩,WL Z,rfl,ac⟩⟩) Z))
 .rw[e]at y;obtain⟨m1,n1,d0,B,rfl,rfl,rfl⟩:=y;refine⟨_,rfl,?_⟩;obtain⟨w1,w2,w3⟩:=u6 e D;rw[XT]at w3;refine gA Z ?_;refine WN (fun zz=>?_) (fun zz=>?_)<;>(try(exact absurd zz (by decide)))
  refine gA Z ?_;refine⟨⟨(u,m1,n1),w1,B,by dsimp only;omega,by dsimp only;omega,?_⟩,[6],by dsimp only;omega,wk Z Z Z (bi (bi ac)) (hM Z Z Z ⟨⟨_,rfl,.of_eq Z⟩,WL Z,rfl,⟨_,rfl,.of_eq Z⟩,WL Z,rfl,hR Z (by first|rfl|exact az _ _) Z ac⟩) Z⟩;rw[J];show iz p b (b.length+1) s=iz p b (b.length+1) u;rw[iz,e];exact(qM b.length (b.length+1) w1 (by omega) (by omega) (by omega)).symm
end
end
end Go.Proofs.YtlmhfgbkchnfbaaGreatDoor
namespace Go.Proofs.YtlmhfgbkchnfbaaGreatDoor
open Go Go.Al Go.Proofs.Tryz Go.En Go.Bo
abbrev dO(p:Prog)(e:Int)(x:IV)(a:By)(a0:Int)(j u:Nat)(m1 m2:FM):List AO:=[.cells [pI e],.cells [.ptr 5 0],.cells [.ptr 4 0],.cells [.iv x],jC 6 7 a a0,cm p j 8,cm p u 9,iG a,bz m1,bz m2]
abbrev dH(p:Prog)(e:Int)(x:IV)(a:By)(a0:Int)(j u:Nat)(m1 m2:FM):AH:=cK 0 (dO p e x a a0 j u m1 m2)
theorem RV(p:Prog)(x:IV)(a:By)(a0:Int)(j u:Nat)(m1 m2:FM):Vw prog 24 [.ptr 0 0,.ptr 1 0,.ptr 2 0,.ptr 3 0] (dO p 0 x a a0 j u m1 m2) (dH p 0 x a a0 j u m1 m2) 10:=by
 refine tW ab func24 Z (by decide) ntmps24 Z (by simp) ?_;refine gA Z ?_;refine WN (fun zz=>?_) (fun zz=>?_)<;>(try(exact absurd zz (by decide)))
 refine gA Z ⟨.inl Z,_,rfl,rfl,rfl⟩
theorem Df(p:Prog)(e:Int)(he:e≠0)(x:IV)(a:By)(a0:Int)(j u:Nat)(m1 m2:FM):Vw prog 24 [.ptr 0 0,.ptr 1 0,.ptr 2 0,.ptr 3 0] (dO p e x a a0 j u m1 m2) ((3,io (.cells [rO]))::(4,io (.cells [.ptr 5 0,.sl 7 0 a.length 1,pI a0]))::dH p e x a a0 j u m1 m2) 10:=by
 refine tW ab func24 Z (by decide) ntmps24 Z (by simp) ?_;refine gA Z ?_;refine WN (fun zz=>?_) (fun zz=>?_)<;>(try(exact absurd (by simpa using zz) he))
 refine gA Z ⟨.inl Z,_,rfl,rfl,rfl⟩
theorem Hp{s:aq}{a z:Nat}(h:rm s a z=jp):s.size<=32:=by
 unfold rm at h;simp only[XE,decide_eq_true_eq]at h;omega
theorem rM{p:Prog}{f:Fact}(h:okF p f=jp):f.rel.size<=32∧f.args.length<=8∧Sa f.args=jp:=by
 have h:=of_decide_eq_true h;unfold nW at h;split at h
 .cases h
 .rename_i g;have g2: ¬jZ f=kw:=fun e=>g (.inr (.inl e));rw[Bool.not_eq_false]at g2;unfold jZ fY at g2;simp only[XE,decide_eq_true_eq]at g2;exact⟨Hp g2.1.2,g2.2.1,g2.2.2⟩
theorem rN{p:Prog}{f:Fact}(h:okF p f=jp):Qt f:=⟨by have:=(rM h).1;omega,(rM h).2.1,(rM h).2.2⟩
theorem Hb{p:Prog}{l:List (bZ Fact)}(hl:l.length<=4096)(h: ∀x∈l,okF p x.2=jp):(bA l).length<=900000000:=by
 have:=Dy pP hl (fun x j=>Fv (rN (h x j))) l.length;rw[X7]at this;rw[bA];omega
def gC(p:Prog)(s:JS)(l:List (bZ Fact)):Int×JS×By:=
 if iU aV (okF p) s.S l≠0 then(iU aV (okF p) s.S l,s,[])
 else if 2147483647<=s.k then(231,s,[])
 else if 4194304<s.a.length+(cV s.a 165 (s.k+1) (bA l)).length then(2,s,[])
 else(0,⟨fX aV s.S l,s.a++cV s.a 165 (s.k+1) (bA l),s.k+1⟩,cV s.a 165 (s.k+1) (bA l))
abbrev SQ(p:Prog)(n:Nat)(m:FM)(u:JS):AH:=[(3,io (jC 5 6 u.a u.k)),(4,io (bz m)),(5,io (cm p n 4)),(6,io (iG u.a))]
def apR(p:Prog)(n:Nat)(y:Int×JS×By)(r:PV)(h:AH)(k:Nat):Prop:= ∃m j,j<=n+1∧bY cA m y.2.1.S∧r= .aY [.iv (aW 1 y.2.2 aO),pI y.1]∧h=SQ p j m y.2.1∧k=7
noncomputable abbrev Tc:Code:=f11.body.getD .skip
abbrev WH(p:Prog)(j u:Nat)(m1 m2:FM)(a:By)(a0 e:Int)(x:IV):AH:=[(0,io (bz m1)),(1,io (cm p j 0)),(2,io (iG a)),(3,io (jC 9 2 a a0)),(4,io (.cells [.ptr 3 0])),(5,io (.cells [.iv x])),(6,io (.cells [pI e])),(7,io (.cells [.ptr 1 0])),(8,io (bz m2)),(9,io (cm p u 8))]
set_option maxHeartbeats 2000000 in
theorem EH(p:Prog)(n:Nat)(s:JS){m:FM}(l:List (bZ Fact))(hk:bY cA m s.S)(hf:Go.Bo.dV aV (okF p) s.S)(hF: ∀x∈l,x.2.args.length<=1000000000)(ha:s.a.length<=10000000)(h5:5<=s.a.length)(hr:p.aF.length<=1000000000)(hn:n<=90000000000)(d0:s.k<=10000000000):
  Al.Fn prog 11 [.ptr 3 0,.iv (aW 3 l fF)] (jO p n m s.a s.k) (apR p n (gC p s l)):=by
 obtain⟨y,u⟩: ∃y,y=gC p s l:=⟨_,rfl⟩
 rw[<-u];have G: ∀e:Int,y=(e,s,[])->apR p n y (.aY [.iv (aW 1 ([]:By) aO),pI e]) (SQ p n m s) 7:=fun e h=>by rw[h];exact⟨m,n,Yh _,hk,rfl,rfl,rfl⟩
 unfold gC at u;refine Fn.ended ?_;refine JG ab func11 (cs:=(jt Tc).1) (id:=(jt Tc).2.1) (ops:=(jt Tc).2.2.1) (T:=(jt Tc).2.2.2) (show _=io (Sm (jt Tc)) from rfl) (by decide) ntmps11 Z (by simp)
  ⟨[(1,.iv (aW 3 l fF)),(2,.ptr 4 0),(4,.ptr 5 0),(5,.ptr 6 0),(6,.ptr 7 0),(20,.cv (.func 24) [] [.ptr 6 0,.ptr 7 0,.ptr 4 0,.ptr 5 0])],WH p n n m m s.a s.k 0 (.v (.slice is 0 0)),10⟩
  (pre:=(jt Tc).2.2.1.toList.dropLast) (g:= .tmp 20) (caps:=[.ptr 6 0,.ptr 7 0,.ptr 4 0,.ptr 5 0]) Z Z Z Z Z (bc func24 Z (by decide)) ?_ ?_
 .refine gA Z ?_;refine WN (fun zz=>?_) (fun zz=>?_)<;>(try(exact absurd zz (by decide)))
  refine gA Z (bg ab [0,1] (RQ p n m) Z Z Z Z Z Z Z Z Z Z Z Z (by(repeat' (first|exact ac|exact rfl|exact ae.refl _|exact ae.bk (by assumption)|apply WN))<;>first|omega|(simp only[WV];omega)|(simp;done)|(simp;omega)) Z (by(repeat' (first|exact ac|exact rfl|exact ae.refl _|exact ae.bk (by assumption)|apply WN))<;>first|omega|(simp only[WV];omega)|(simp;done)|(simp;omega)) ?_);refine gA Z (.inl ⟨rfl,?_⟩);refine gA Z ⟨rfl,[],wk Z Z Z (bi (bi (bi (bi (bi (bi ac)))))) (hM Z Z Z ⟨⟨_,rfl,.of_eq Z⟩,WL Z,rfl,hR Z (by first|rfl|exact az _ _) Z ⟨⟨_,rfl,.of_eq Z⟩,WL Z,rfl,⟨_,rfl,.of_eq Z⟩,WL Z,rfl,⟨_,rfl,.of_eq Z⟩,WL Z,rfl,⟨_,rfl,.of_eq Z⟩,WL Z,rfl,⟨_,rfl,.of_eq Z⟩,WL Z,rfl,hM Z Z Z ⟨⟨_,rfl,.of_eq Z⟩,WL Z,rfl,ac⟩⟩⟩) Z⟩
 intro D;have B:=De p n l hr hk hf hF (by omega);by_cases A:iU aV (okF p) s.S l=0;rotate_left
 .rw[am A]at u;rw[show j5 aV (okF p) (s.S,n) l=(s.S,n) by unfold j5;rw[be A]]at B;refine gA Z (lD [8,9] B Z Z Z Z Z Z Z ?_);rintro r I Y ⟨m1,hk1,rfl,rfl,rfl⟩;refine⟨_,rfl,?_⟩;refine gA Z ?_;refine WN (fun zz=>?_) (fun zz=>?_)<;>(try(exact absurd (by simpa using zz) A))
  refine gA Z (uP [6,7,4,5,3,1,9,2,0,8] (.inr Z) (Df p (iU aV (okF p) s.S l) A (.v (.slice is 0 0)) s.a s.k n n m m1) Z Z (by simp only[WW,W7,aC];rfl) Z ?_);rintro r I Y ⟨rfl,rfl⟩;exact⟨_,rfl,.done ⟨_,SQ p n m s,7,[0,1,2],G _ u,wk Z Z Z ⟨.aY ⟨.nil _ _,.refl _,ac⟩,rfl,ac⟩ ⟨⟨_,rfl,.of_eq Z⟩,WL Z,rfl,hM Z Z Z ⟨⟨_,rfl,.of_eq Z⟩,WL Z,rfl,hR Z (by first|rfl|exact az _ _) Z ac⟩⟩ Z⟩⟩
 obtain⟨hl,hok,c0⟩:=kv.1 A;rw[be fun h=>h A]at u;have hP:Dw p s.S l= .aY [.iv (aW 3 (dI aV s.S l) fF),pI 0]:=by unfold Dw;rw[am A,A]
 have hD:j5 aV (okF p) (s.S,n) l=(fX aV s.S l,n+1):=by unfold j5;rw[am A]
 simp only[hP,hD]at B;have a0:=Dd l (by omega) fun x hx=>rN (hok x hx);have b0:=Hb hl hok;obtain⟨j,C⟩: ∃j,j=cV s.a 165 (s.k+1) (bA l):=⟨_,rfl⟩
 have J:bf prog 21 [.iv (aW 1 s.a aO),pY 165,pI ((s.k:Int)+1),.iv (aW 1 (bA l) aO)] [] (.sl 0 0 j.length 1) [(0,io (iG j))] 1:=by
  rw[C];exact zg s.a (bA l) 165 ((s.k:Int)+1) h5 (by omega) ⟨by omega,by omega⟩ b0
 have e0:j.length<=1000000000:=by
  have h1:=jN (bA l);have h2:=wy (s.k+1);rw[C,cV,sT];simp only[WO,Xl];show 1+_+_+4+1<=_;omega
 rw[<-C]at u;refine gA Z (lD [8,9] B Z Z Z Z Z Z Z ?_);rintro r I Y ⟨m1,hk1,rfl,rfl,rfl⟩;refine⟨_,rfl,?_⟩;refine gA Z ?_;refine WN (fun zz=>?_) (fun zz=>?_)<;>(try(exact absurd zz (by decide)))
 refine gA Z ?_;refine WN (fun g1=>?_) (fun g1=>?_)
 .have g1:2147483647<=s.k:=by have:=of_decide_eq_true g1;omega
  rw[am g1]at u;refine gA Z (uP [6,7,4,5,3,1,9,2,0,8] (.inr Z) (Df p 231 (by decide) (.v (.slice is 0 0)) s.a s.k n (n+1) m m1) Z Z (by simp only[WW,W7,aC];rfl) Z ?_);rintro r I Y ⟨rfl,rfl⟩;exact⟨_,rfl,.done ⟨_,SQ p n m s,7,[0,1,2],G 231 u,wk Z Z Z ⟨.aY ⟨.nil _ _,.refl _,ac⟩,rfl,ac⟩ ⟨⟨_,rfl,.of_eq Z⟩,WL Z,rfl,hM Z Z Z ⟨⟨_,rfl,.of_eq Z⟩,WL Z,rfl,hR Z (by first|rfl|exact az _ _) Z ac⟩⟩ Z⟩⟩
 have g1: ¬2147483647<=s.k:=by have:=of_decide_eq_false g1;omega
 rw[be g1]at u;refine gA Z (bg ab [] (Pure.nX (a0)) Z Z Z Z Z Z Z Z Z Z Z Z (by(repeat' (first|exact ac|exact rfl|exact ae.refl _|exact ae.bk (by assumption)|apply WN))<;>first|omega|(simp only[WV];omega)|(simp;done)|(simp;omega)) Z (by(repeat' (first|exact ac|exact rfl|exact ae.refl _|exact ae.bk (by assumption)|apply WN))<;>first|omega|(simp only[WV];omega)|(simp;done)|(simp;omega)) ?_);refine gA Z (r7 ab (asv:=[.sl 2 0 s.a.length 1,pY 165,pI ((s.k:Int)+1),.iv (aW 1 (bA l) aO)]) J Z Z Z Z Z (lG (i:=2) (sz:=1) (fun k=>aO (s.a.getD k co)) Z (cU Z) (by simp[a8,PV.bb]) ⟨.bL Z (fun k _=>by rw[Xd]),.refl _,.refl _,.refl _,ac⟩) Z (wM (Ap j)) Z Z Z Z Z (by(repeat' (first|exact ac|exact rfl|exact ae.refl _|exact ae.bk (by assumption)|apply WN))<;>first|omega|(simp only[WV];omega)|(simp;done)|(simp;omega)) Z (by(repeat' (first|exact ac|exact rfl|exact ae.refl _|exact ae.bk (by assumption)|apply WN))<;>first|omega|(simp only[WV];omega)|(simp;done)|(simp;omega)) ?_)
 (refine gM 2 Z ?_;refine cG (L:=[]) (t:=⟨[(2,.ptr 4 0),(4,.ptr 5 0),(5,.ptr 6 0)],[(0,io (bz m)),(1,io (cm p n 0)),(2,io (iG s.a)),(3,io (jC 9 2 s.a s.k)),(4,io (.cells [.ptr 3 0])),(5,io (.cells [.sl 10 0 j.length 1])),(6,io (.cells [pI 0])),(7,io (.cells [.ptr 1 0])),(8,io (bz m1)),(9,io (cm p (n+1) 8)),(10,io (iG j))],11⟩) ?_ ?_;refine wk Z Z Z ?_ ?_ ?_;exact(bi (bi (bi ac)));exact(hM Z Z Z ⟨⟨_,rfl,.of_eq Z⟩,WL Z,rfl,hR Z Z Z ⟨⟨_,rfl,.of_eq Z⟩,WL Z,rfl,⟨_,rfl,.of_eq Z⟩,WL Z,rfl,⟨_,rfl,.of_eq Z⟩,WL Z,rfl,⟨_,rfl,.of_eq Z⟩,WL Z,rfl,⟨_,rfl,.of_eq Z⟩,WL Z,rfl,hM Z Z Z ⟨⟨_,rfl,.of_eq Z⟩,WL Z,rfl,hR Z (az _ _) Z ac⟩⟩⟩);exact rfl)
 refine km 10 (fun k=>aO (j.getD k co)) Z (cU Z) (by simp[AF.mg,PV.bb]) ⟨ac,(by simp[AO.mg,a8,PV.bb]),fQ _ _ _ _ _ _,(by simp[AO.mg,a8,PV.bb]),(by simp[AO.mg,a8,PV.bb]),(by simp[AO.mg,a8,PV.bb]),(by simp[AO.mg,a8,PV.bb]),(by simp[AO.mg,a8,PV.bb]),ac,(by simp[AO.mg,a8,PV.bb]),fQ _ _ _ _ _ _,ac⟩ ?_;refine cG (L:=[]) (t:=⟨[(2,.ptr 4 0),(4,.ptr 5 0),(5,.ptr 6 0)],[(0,io (bz m)),(1,io (cm p n 0)),(2,io (iG s.a)),(3,io (jC 9 2 s.a s.k)),(4,io (.cells [.ptr 3 0])),(5,io (.cells [.iv (aW 1 j aO)])),(6,io (.cells [pI 0])),(7,io (.cells [.ptr 1 0])),(8,io (bz m1)),(9,io (cm p (n+1) 8))],11⟩) (wk Z Z Z (bi (bi (bi ac))) (hM Z Z Z ⟨⟨_,rfl,.of_eq Z⟩,WL Z,rfl,hR Z Z Z ⟨⟨_,rfl,.of_eq Z⟩,WL Z,rfl,⟨_,rfl,.of_eq Z⟩,WL Z,rfl,⟨_,rfl,.cells ⟨.bL Z (fun k _=>by rw[Xd]),ac⟩⟩,WL Z,rfl,⟨_,rfl,.of_eq Z⟩,WL Z,rfl,⟨_,rfl,.of_eq Z⟩,WL Z,rfl,hM Z Z Z ⟨⟨_,rfl,.of_eq Z⟩,WL Z,rfl,ac⟩⟩⟩) Z) ?_;refine gA Z ?_;refine WN (fun g2=>?_) (fun g2=>?_)
 .have g2:4194304<s.a.length+j.length:=by have:=of_decide_eq_true g2;omega
  rw[am g2]at u;refine gA Z (uP [6,7,4,5,3,1,9,2,0,8] (.inr Z) (Df p 2 (by decide) (.v (.slice is 0 0)) s.a s.k n (n+1) m m1) Z Z (by simp only[WW,W7,aC];rfl) Z ?_);rintro r I Y ⟨rfl,rfl⟩;exact⟨_,rfl,.done ⟨_,SQ p n m s,7,[0,1,2],G 2 u,wk Z Z Z ⟨.aY ⟨.nil _ _,.refl _,ac⟩,rfl,ac⟩ ⟨⟨_,rfl,.of_eq Z⟩,WL Z,rfl,hM Z Z Z ⟨⟨_,rfl,.of_eq Z⟩,WL Z,rfl,hR Z (by first|rfl|exact az _ _) Z ac⟩⟩ Z⟩⟩
 have g2: ¬4194304<s.a.length+j.length:=by have:=of_decide_eq_false g2;omega
 rw[be g2]at u
 (refine gM 25 Z ?_;refine cG (L:=[]) (t:=⟨[(4,.ptr 5 0),(5,.ptr 6 0)],[(0,io (bz m)),(1,io (cm p n 0)),(3,io (jC 9 11 (s.a++j) ((s.k+1:Nat):Int))),(4,io (.cells [.ptr 3 0])),(5,io (.cells [.iv (aW 1 j aO)])),(6,io (.cells [pI 0])),(7,io (.cells [.ptr 1 0])),(8,io (bz m1)),(9,io (cm p (n+1) 8)),(11,io (iG (s.a++j)))],12⟩) ?_ ?_;refine wk Z Z Z ?_ ?_ ?_;exact(bi (bi ac));exact(hM Z Z Z ⟨⟨_,rfl,.of_eq Z⟩,WL Z,rfl,⟨_,rfl,.cells ⟨.refl _,.row (by simp),.of_eq (congrArg pI (by omega)),ac⟩⟩,WL Z,rfl,⟨_,rfl,.of_eq Z⟩,WL Z,rfl,⟨_,rfl,.of_eq Z⟩,WL Z,rfl,⟨_,rfl,.of_eq Z⟩,WL Z,rfl,⟨_,rfl,.of_eq Z⟩,WL Z,rfl,hM Z Z Z ⟨⟨_,rfl,.of_eq Z⟩,WL Z,rfl,hR Z (by rw[W4];exact congrArg _ (cC j)) Z ac⟩⟩);exact rfl)
 refine gA Z (uP [6,7,4,5,3,1,9,11,0,8] (.inr Z) (RV p (aW 1 j aO) (s.a++j) ((s.k+1:Nat):Int) n (n+1) m m1) Z Z (by simp only[WW,W7,aC];rfl) Z ?_);rintro r I Y ⟨rfl,rfl⟩;exact⟨_,rfl,.done ⟨.aY [.iv (aW 1 j aO),pI 0],SQ p (n+1) m1 ⟨fX aV s.S l,s.a++j,s.k+1⟩,7,[8,9,11],by rw[u];exact⟨m1,n+1,WY _,hk1,rfl,rfl,rfl⟩,wk Z Z Z ⟨.of_eq Z,rfl,ac⟩ ⟨⟨_,rfl,.of_eq Z⟩,WL Z,rfl,hM Z Z Z ⟨⟨_,rfl,.of_eq Z⟩,WL Z,rfl,hR Z (az _ _) Z ac⟩⟩ Z⟩⟩
def fJ(s:JS):By:=s.a.take 13++cV (s.a.take 13) 166 s.k (eC s.S)
def jB(s:JS):Int×JS×By:=if(fJ s).length<=4194304 then(0,⟨s.S,fJ s,s.k⟩,fJ s) else(2,s,[])
abbrev pkH(p:Prog)(n:Nat)(m:FM)(u:JS):AH:=[(0,io (bz m)),(1,io (cm p n 0)),(3,io (jC 1 4 u.a u.k)),(4,io (iG u.a))]
theorem NP{p:Prog}{f:Fact}(h:okF p f=jp):(eV f).length<=1100:=by
 have hF:=rN h;have h1:=jN f.rel.data.toList;have j:=jN (j6 f.args);have u:=y3 hF.len hF.val;have x:=(rM h).1;have y:f.rel.data.toList.length=f.rel.size:=rfl;rw[eV,WO];omega
theorem Kq{p:Prog}{S:List Fact}(h:Go.Bo.dV aV (okF p) S):(eC S).length<=80000000:=by
 have h1:=wy S.length;have j:=y7 eV (m:=1100) S fun f hf=>NP (h.ok f hf);have u:=h.KN;rw[eC,WO];omega
theorem wV: ∀{l:List (List PV)},(∀e∈l,dy e=jp)->allOnes l=jp
 | [],_=>rfl
 |e::l,h=>by
  unfold allOnes;rw[h e (by simp)];exact wV fun x j=>h x (by simp[j])
theorem D5(σ:Nat->Nat)(l:By)(a n:Nat):allOnes ((((db l).map (dc σ)).drop a).take n)=jp:=by
 rw[az];refine wV fun e h=>?_;obtain⟨x,_,rfl⟩:=Xw.1 (aaa (Yx h));rfl
set_option maxHeartbeats 1000000 in
theorem P4(p:Prog)(n:Nat)(s:JS){m:FM}(hk:bY cA m s.S)(hf:Go.Bo.dV aV (okF p) s.S)(ha:s.a.length<=10000000)(G:13<=s.a.length)(a0:s.k<=10000000000):
  bf prog 10 [.ptr 3 0] (jO p n m s.a s.k) (.aY [.iv (aW 1 (jB s).2.2 aO),pI (jB s).1]) (pkH p n m (jB s).2.1) 5:=by
 have J:=hf.KN;have Y:=Kq hf;obtain⟨H,C⟩: ∃H,H=s.a.take 13:=⟨_,rfl⟩
 have hH:H.length=13:=by rw[C,Xv];omega
 obtain⟨u,j⟩: ∃u,u=cV H 166 s.k (eC s.S):=⟨_,rfl⟩
 obtain⟨P,D⟩: ∃P,P=fJ s:=⟨_,rfl⟩
 have x:P=H++u:=by rw[D,j,C];rfl
 have B:bf prog 21 [.iv (aW 1 H aO),pY 166,pI s.k,.iv (aW 1 (eC s.S) aO)] [] (.sl 0 0 u.length 1) [(0,io (iG u))] 1:=by
  rw[j];exact zg H (eC s.S) 166 (s.k:Int) (by omega) (by omega) ⟨by omega,by omega⟩ (by omega)
 have b0:u.length<=1000000000:=by
  have h1:=jN (eC s.S);have h2:=wy s.k;rw[j,cV,sT];simp only[WO,Xl];show 1+_+_+4+1<=_;omega
 have A:=C9 s.a 13 (by decide) G (by omega);rw[<-C]at A;unfold jB;rw[<-D];clear j D;have I:P.length=13+u.length:=by rw[x,WO,hH]
 refine ak ab func10 Z (by decide) ntmps10 Z (by simp) ?_;refine gA Z ?_;refine WN (fun zz=>?_) (fun zz=>?_)<;>(try(exact absurd zz (by decide)))
 refine gA Z (Ad ab 13 Z Z Z Z Z Z Z Z (by omega) (by omega) (.inr ⟨by decide,rfl⟩) Z ?_);refine gA Z (ai [2] (A) Z Z Z Z Z (by simp only[WW,W7,Xe,Xg,aC,ba];rfl) Z Z ?_);refine gA Z (bg ab [0,1] (H9 p n hk hf.AA (fun f h=>by have:=dV.U8 hf f h;omega) (by omega)) Z Z Z Z Z Z Z Z Z Z Z Z (by(repeat' (first|exact ac|exact rfl|exact ae.refl _|exact ae.bk (by assumption)|apply WN))<;>first|omega|(simp only[WV];omega)|(simp;done)|(simp;omega)) Z (by(repeat' (first|exact ac|exact rfl|exact ae.refl _|exact ae.bk (by assumption)|apply WN))<;>first|omega|(simp only[WV];omega)|(simp;done)|(simp;omega)) ?_);refine gA Z (bg ab [] (Pure.nX (Gb s.S (by omega) (fun f h=>rN (hf.ok f h)))) Z Z Z Z Z Z Z Z Z Z Z Z (by(repeat' (first|exact ac|exact rfl|exact ae.refl _|exact ae.bk (by assumption)|apply WN))<;>first|omega|(simp only[WV];omega)|(simp;done)|(simp;omega)) Z (by(repeat' (first|exact ac|exact rfl|exact ae.refl _|exact ae.bk (by assumption)|apply WN))<;>first|omega|(simp only[WV];omega)|(simp;done)|(simp;omega)) ?_);refine gA Z (r7 ab (asv:=[.sl 4 0 13 1,pY 166,pI s.k,.iv (aW 1 (eC s.S) aO)]) B Z Z Z Z Z (lG (i:=4) (sz:=1) (fun k=>aO (H.getD k co)) Z (cU (az _ _)) (by simp[a8,PV.bb];omega) ⟨.bL hH.symm (fun k _=>by rw[Xd]),.refl _,.refl _,.refl _,ac⟩) Z (wM (Ap u)) Z Z Z Z Z (by(repeat' (first|exact ac|exact rfl|exact ae.refl _|exact ae.bk (by assumption)|apply WN))<;>first|omega|(simp only[WV];omega)|(simp;done)|(simp;omega)) Z (by(repeat' (first|exact ac|exact rfl|exact ae.refl _|exact ae.bk (by assumption)|apply WN))<;>first|omega|(simp only[WV];omega)|(simp;done)|(simp;omega)) ?_)
 (refine gM 3 Z (hC:=(by(repeat' (apply WN))<;>first|exact ac|exact rfl|exact ae.refl _|exact D5 _ _ _ _|omega|(simp;done)|(simp;omega))) ?_;refine cG (L:=[]) (t:=⟨[(0,.ptr 3 0),(4,.sl 6 0 P.length 1)],[(0,io (bz m)),(1,io (cm p n 0)),(2,io (iG s.a)),(3,io (jC 1 2 s.a s.k)),(6,io (iG P))],7⟩) ?_ ?_;refine wk Z Z Z ?_ ?_ ?_;exact(bi ⟨.row (by rw[I]),rfl,ac⟩);exact(hM Z Z Z ⟨⟨_,rfl,.of_eq Z⟩,WL Z,rfl,hR Z (az _ _) Z ⟨⟨_,rfl,.of_eq Z⟩,WL Z,rfl,hR Z (by rw[x,W4];exact congr (congrArg (· ++ ·) (az _ _)) (by rw[ZC,az];exact W9 (by simp))) Z ac⟩⟩);exact rfl)
 refine gA Z ?_;refine WN (fun g1=>?_) (fun g1=>?_)
 .have g1: ¬P.length<=4194304:=by have:=of_decide_eq_true g1;omega
  rw[be g1];refine gA Z (ar [2] (by first|exact .inr Z|exact .inl Z) Z (wk Z Z Z ⟨.aY ⟨.nil _ _,.refl _,ac⟩,rfl,ac⟩ (hM Z Z Z ⟨⟨_,rfl,.of_eq Z⟩,WL Z,rfl,⟨_,rfl,.of_eq Z⟩,WL Z,rfl,hR Z (by first|rfl|exact az _ _) Z ac⟩) Z))
 have g1:P.length<=4194304:=by have:=of_decide_eq_false g1;omega
 rw[am g1];have y:=C9 P P.length (by omega) (WY _) (by omega);rw[X7]at y;refine gA Z (ai [6] (y) Z Z Z Z Z (by simp only[WW,W7,Xe,Xg,aC,ba];rfl) Z Z ?_);refine gA Z ⟨.inr Z,.aY [.sl 7 0 P.length 1,pI 0],rfl,fH.gu 7 P aO Z (by first|rfl|exact az _ _) (by simp[PV.bb,a8]) (.done ⟨_,_,_,[6],⟨rfl,rfl,rfl⟩,wk Z Z Z ⟨.aY ⟨.bL Z (fun k _=>by rw[Xd]),.refl _,ac⟩,rfl,ac⟩ (hM Z Z Z ⟨⟨_,rfl,.of_eq Z⟩,WL Z,rfl,⟨_,rfl,.of_eq Z⟩,WL Z,rfl,hR Z (by first|rfl|exact az _ _) Z ac⟩) Z⟩)⟩
end Go.Proofs.YtlmhfgbkchnfbaaGreatDoor
namespace Go.Proofs.YtlmhfgbkchnfbaaGreatDoor
open Go Go.Al Go.En Go.Bo
section
section
variable {b:By} {s:RS} {r:By}
theorem wG{k:UInt8}(h:At b s ([k]++r)):bj b s=(k,⟨s.p+1,0⟩):=by
 have h1:=congrArg Y9 h.r;rw[XT,WO,Xl]at h1;have j:b[s.p]? =io k:=by
  have:=congrArg (fun l=>l[0]?) h.r;simpa[XK]using this
 unfold bj;rw[am h.f,am (by omega),WQ,j];rfl
theorem MW{x:By}{n:Nat}(h:At b s (x++r))(hn:x.length=n):Br b n s=⟨s.p+n,0⟩:=by
 have h1:=congrArg Y9 h.r;rw[XT,WO]at h1;unfold Br;rw[am h.f,am (by omega)]
theorem Aq{x y:By}(h:At b s (x++y++r)):At b s (x++(y++r)):=by rwa[W6]at h
theorem VJ{n:Int}(h1: -2147483647<=n)(j:n<=2147483647):zz n<2 ^ 64:=by
 unfold zz;split<;>omega
theorem Je{v:cS}(j:bV v=0)(h:At b s (lM v++r)):dR b s=(0,v,⟨s.p+(lM v).length,0⟩):=by
 have hk:=Qc j;unfold lM at h ⊢;have B:=wG (Aq h);have y:=(Aq h).go;have A:(UInt8.ofNat v.kind.toNat=1↔v.kind=1)∧(UInt8.ofNat v.kind.toNat=2↔v.kind=2):=by
  rcases hk with e|e<;>rw[e]<;>decide
 unfold dR;rw[B];simp only[ne_eq,not_true_eq_false,if_false];unfold bV at j;by_cases h1:v.kind=1
 .rw[am h1]at y j ⊢;split at j;rotate_left
  .cases j
  rename_i hb;have u:=Jg y hb.2.1 hb.2.2 (VJ hb.2.1 hb.2.2);rw[am (A.1.2 h1)];rw[Xl]at u;rw[u];have:v=⟨1,v.num,W0⟩:=by cases v;simp_all
  simp only[WO,Xl,<-this,X3]
 .rw[be h1]at y j ⊢;have x:v.kind=2:=by omega
  rw[am x]at j;split at j;rotate_left
  .cases j
  rename_i hb;have C:v.sym.data.toList.length=v.sym.size:=rfl;have u:=pc (most:=64) y (by omega) (by omega);rw[be (fun e=>h1 (A.1.1 e)),am (A.2.2 x)];rw[Xl]at u;rw[u];have:v=⟨2,0,qw v.sym.data.toList⟩:=by cases v;simp_all [qw]
  simp only[WO,Xl,<-this,X3]
theorem yo: ∀(l:List cS) {s:RS} {r:By} (A:List cS),(∀v∈l,bV v=0)->At b s (l.flatMap lM++r)->ir b l.length s A=(0,A++l,⟨s.p+(l.flatMap lM).length,0⟩)
 | [],s,r,A,_,h=>by
  have:=h.f;cases s
  simp_all [ir]
 |v::l,s,r,A,hv,h=>by
  rw[XS,W6]at h;rw[Xn,ir,Je (hv v (by simp)) h];simp only[ne_eq,not_true_eq_false,if_false];rw[yo l (A++ [v]) (fun x j=>hv x (by simp[j])) h.go];simp[X3]
end
theorem Jy{l:List cS}(hl:l.length<=8)(y: ∀v∈l,bV v=0):n4 (j6 l)=(0,l):=by
 have j:=At.start (j6 l);have h1:At (j6 l) ⟨0,0⟩ (enc l.length++(l.flatMap lM++ [])):=by rw[XA];exact j
 have u:=yo l [] y h1.go;have hu:=o8 (most:=8) h1 hl (by omega);unfold n4;simp only[hu];rw[u];dsimp only;have x:jm (j6 l) ⟨0+(enc l.length).length+(l.flatMap lM).length,0⟩=0:=by
  unfold jm;rw[be];rintro⟨_,h⟩;rw[j6,WO]at h;have h:0+(enc l.length).length+(l.flatMap lM).length<_:=h;omega
 rw[be fun h=>h Z,be fun h=>h x,Xg]
structure FrA (p:Prog) (b:By) (s:RS) (f:Fact):Prop where
 ok:lT p b s=jp
 fact:tV b s=f
 next:(nE b s).2=⟨s.p+(eV f).length,0⟩
theorem Qg{p:Prog}{f:Fact}(hf:okF p f=jp){b:By}{s:RS}{r:By}(h:At b s (eV f++r)):FrA p b s f:=by
 have hF:=rN hf;have hr:f.rel.size<=32:=(rM hf).1;have y:f.rel.data.toList.length=f.rel.size:=rfl;have ht:=y3 hF.len hF.val;unfold eV at h;have h1:=Aq h;have u:KL b s=(f.rel.data.toList,⟨s.p+(gZ f.rel.data.toList).length,0⟩):=pc h1 (by omega) (by omega);have hT:nE b s=(j6 f.args,⟨s.p+(gZ f.rel.data.toList).length+(gZ (j6 f.args)).length,0⟩):=by
  unfold nE;rw[u];exact pc h1.go (by omega) (by omega)
 have x:=Jy hF.len hF.val;have j:tV b s=f:=by
  unfold tV;rw[hT,u,x];rw[am Z];show(⟨qw f.rel.data.toList,f.args⟩:Fact)=f;cases f;rfl
 refine⟨?_,j,by rw[hT,eV,WO,X3]⟩;unfold lT;rw[j,hT,x];rw[decide_eq_true Z];exact hf
theorem FC{p:Prog}{b:By}: ∀(l:List (bZ Fact)) {s:RS} {r:By} (A:List (bZ Fact)),(∀x∈l,okF p x.2=jp)->At b s (l.flatMap pP++r)->sx p b l.length s A=(jp,A++l,⟨s.p+(l.flatMap pP).length,0⟩)
 | [],s,r,A,_,h=>by
  have:=h.f;cases s
  simp_all [sx]
 |(c,f)::l,s,r,A,hl,h=>by
  rw[XS,W6]at h;have B:At b s ([if c=jp then 1 else 0]++(eV f++(l.flatMap pP++r))):=by
   have h:=h;unfold pP at h;exact Aq h
  have y:=wG B;have hR:=Qg (hl (c,f) (by simp)) (s:=⟨s.p+1,0⟩) B.go;have C:(pP (c,f)).length=1+(eV f).length:=by rw[pP,WO,Xl]
  have j: ¬(((if c=jp then 1 else 0:UInt8).toNat:Int)>1):=by cases c<;>decide
  have u:Kf b s=(c,f):=by
   unfold Kf;rw[y,hR.fact];cases c<;>rfl
  rw[Xn,sx,y,hR.ok,hR.next,u,be (by simp[j])];rw[FC l (A++ [(c,f)]) (fun x D=>hl x (by simp[D])) (s:=⟨s.p+1+(eV f).length,0⟩) (by have:=h.go;rw[C,<-X3]at this;exact this)];simp only[XS,WO,C,W6,ZD];congr 3;show s.p+1+(eV f).length+_=_;omega
theorem Fo{b:By}{n:Nat}(h:n=b.length):jm b ⟨n,0⟩=0:=by
 unfold jm;rw[be fun e=>by have:=e.2;dsimp only at this;omega]
theorem Ol{p:Prog}{l:List (bZ Fact)}(hl:l.length<=4096)(ho: ∀x∈l,okF p x.2=jp):pQ p (bA l) ⟨0,0⟩=(jp,l,⟨(bA l).length,0⟩):=by
 have j:=At.start (bA l);have h1:At (bA l) ⟨0,0⟩ (enc l.length++(l.flatMap pP++ [])):=by rw[XA];exact j
 have hu:=o8 (most:=4096) h1 hl (by omega);have u:=FC (p:=p) l [] ho h1.go;unfold pQ;rw[hu,u];rw[bA,WO];simp
theorem It{a body r:By}{k:UInt8}{n:Nat}(hn:n<=2147483647)(hb:body.length<=4194304):Rn (cV a k n body++r)=(k,⟨1,0⟩)∧(HF (cV a k n body++r)).1=n∧(KJ (cV a k n body++r)).1=body∧Mh (cV a k n body++r)=⟨(cV a k n body).length,0⟩:=by
 obtain⟨b,j⟩: ∃b,b=cV a k n body++r:=⟨_,rfl⟩
 obtain⟨q,C⟩: ∃q,q=EV (qv (sT k n body++kC a)).toNat:=⟨_,rfl⟩
 have u:q.length=4:=by rw[C];rfl
 have hR:cV a k n body=[k]++(enc n++(gZ body++(q++ [90]))):=by
  rw[cV,<-C,sT];simp only[W6]
 have x:At b ⟨0,0⟩ ([k]++(enc n++(gZ body++(q++ [90]++r)))):=by
  have:=At.start b;rw[j,hR]at this;rw[j,hR];simpa only[W6]using this
 have A:Rn b=(k,⟨0+1,0⟩):=wG x;have h1:At b ⟨0+1,0⟩ (enc n++(gZ body++(q++ [90]++r))):=x.go;have B:HF b=(n,⟨0+1+(enc n).length,0⟩):=by unfold HF;rw[A];exact o8 h1 hn (by omega)
 have y:=h1.go;have hT:KJ b=(body,⟨0+1+(enc n).length+(gZ body).length,0⟩):=by unfold KJ;rw[B];exact pc y hb (by omega)
 have D:Mh b=⟨0+1+(enc n).length+(gZ body).length+5,0⟩:=by
  unfold Mh;rw[hT];exact MW y.go (by rw[WO,u];rfl)
 rw[<-j];refine⟨by rw[A],by rw[B],by rw[hT],?_⟩;rw[D,hR];simp only[WO,Xl,u];congr 1;omega
theorem CY{p:Prog}{s:JS}{l:List (bZ Fact)}(hk:s.k+1<=2147483647)(h0:iU aV (okF p) s.S l=0)(hb:(bA l).length<=4194304)(r:By):
  kB p s (cV s.a 165 (s.k+1) (bA l)++r)=io ⟨fX aV s.S l,s.a++cV s.a 165 (s.k+1) (bA l),s.k+1⟩:=by
 obtain⟨h1,j,u,x⟩:=It (a:=s.a) (r:=r) (k:=165) hk hb;obtain⟨hl,hok,_⟩:=kv.1 h0;unfold kB;rw[h1,j,u,x];unfold pX;rw[ZJ Z,am ⟨rfl,rfl⟩,am ⟨rfl,rfl⟩,Ol hl hok,am ⟨rfl,Fo Z,h0⟩]
theorem take_nil(p:Prog)(s:JS):kB p s []=is:=by
 have h1:Rn []=(0,⟨0,10⟩):=rfl;have j:HF []=(0,⟨0,10⟩):=by unfold HF cM;rw[h1];rfl
 have u:KJ []=([],⟨0,10⟩):=by unfold KJ eG;rw[j];rfl
 have x:Mh []=⟨0,10⟩:=by unfold Mh Br;rw[u];rfl
 unfold kB pX;rw[x,be fun h=>absurd h.1 (by decide)]
end
abbrev Nc:aq:=⟨#[97]⟩
abbrev vA:cS:=⟨1,1,W0⟩
def fA:Fact:=⟨Nc,[vA]⟩
def pA:Prog:=⟨[⟨Nc,[1],⟨0,0⟩⟩],[]⟩
def l1:List (bZ Fact):=[(jp,fA)]
theorem IF:pA.fit:=⟨by decide,by decide,fun r h=>nomatch h⟩
theorem BF:(gP pA).1=0:=by decide+kernel
theorem Va:okF pA fA=jp:=by decide+kernel
theorem Jc:iU aV (okF pA) [] l1=0:=by decide+kernel
theorem E1:fX aV [] l1=[fA]:=by decide+kernel
theorem JK:Go.Bo.dV aV (okF pA) [fA]:=⟨Y8 _ _,fun f h=>by rw[W1.1 h];exact Va,by decide⟩
theorem Bp(a:By)(k:UInt8)(n:Nat)(t:By):(cV a k n t).length=1+(enc n).length+(gZ t).length+5:=by
 rw[cV,sT];simp only[WO,Xl];rfl
theorem Iu(a:By):(cV a 165 1 (bA l1)).length=16:=by rw[Bp];decide+kernel
theorem UJ(a:By):(cV a 166 1 (eC [fA])).length=15:=by rw[Bp];decide+kernel
theorem Is(a:By)(k:UInt8)(n:Nat)(t:By):(cV a k n t).getD ((cV a k n t).length-1) co=90:=by
 rw[cV,WO,Xl,Nat.add_sub_cancel,WQ,Xc (WY _),Zv];rfl
theorem WG(a:By)(ha:a.length=13):gC pA ⟨[],a,0⟩ l1=(0,⟨[fA],a++cV a 165 1 (bA l1),1⟩,cV a 165 1 (bA l1)):=by
 have h:=Iu a;unfold gC;rw[be (fun e=>e Jc),be (by show¬2147483647<=0;decide),be (by show¬4194304<a.length+(cV a 165 1 (bA l1)).length;omega)];dsimp only;rw[E1]
theorem UN:rK pA (ck pA++cV (ck pA) 165 1 (bA l1))=⟨[fA],ck pA++cV (ck pA) 165 1 (bA l1),1⟩:=by
 have hl:=fE pA;unfold rK;generalize ck pA=a at hl ⊢;have j:=Iu a;have hb:(bA l1).length<=4194304:=by decide+kernel
 have h1:=CY (p:=pA) (s:=⟨[],a,0⟩) (l:=l1) (by show 0+1<=_;decide) Jc hb [];rw[E1,XA]at h1;dsimp only at h1;rw[show(a++cV a 165 1 (bA l1)).length+1=28+1+1 by rw[WO];omega,iz,aas Z];rw[h1];dsimp only;rw[iz,Yg (WY _),take_nil]
theorem UL(a:By)(ha:13<=a.length):(fJ ⟨[fA],a,1⟩).length=28:=by
 unfold fJ;rw[WO,Xv,UJ];show min 13 a.length+15=28;omega
theorem yc{i sz n j:Nat}{es:List (List PV)}(h: ∀e∈es,a8 i sz n e):(AO.row j es).vH i sz n:=h
theorem po{α:Type}(i sz n j:Nat)(l:List α)(f:α->List IV):(aX j l f).vH i sz n:=yc fun e u=>by
 obtain⟨x,_,rfl⟩:=Xw.1 u;exact IM _ _ _ _
theorem Oe{i sz:Nat}{el:Nat->List IV}(l:By):(db l).map (n9 i sz el)=db l:=by rw[XX];exact X6 fun _ _=>rfl
theorem pD{i sz n:Nat}{cs:List PV}{T:Option TypeId}(h:a8 i sz n cs):(AO.cells cs T).vH i sz n:=h
set_option maxHeartbeats 2000000 in
theorem EG(hS:fy):Pure Tryz.prog 6 [] (pB jp):=by
 have hC:=zj hS pA IF (by decide) (by decide) BF;have hy:=WG (ck pA) (fE pA);have ho:=UN;have y:=Iu (ck pA);have Y:=fE pA;have u:(cV (ck pA) 165 1 (bA l1)).getD 0 co=165:=rfl;have B:=Is (ck pA) 165 1 (bA l1);rw[y]at B;have b0:(ck pA++cV (ck pA) 165 1 (bA l1)).take 13=ck pA:=ZJ Y;have J:=P5 hS pA IF (by decide) (by decide) (ck pA++cV (ck pA) 165 1 (bA l1)) (by decide) (by rw[WO,Y,y];decide) BF b0;rw[ho]at J;generalize ck pA=a0 at*
 generalize cV a0 165 1 (bA l1)=rc at*
 have I:=EH pA 0 ⟨[],a0,0⟩ (m:=[]) l1 bY.nil (Go.Bo.dV.nil _ _) (fun x hx=>by rw[W1.1 hx];show 1<=_;decide) (by dsimp only;omega) (by dsimp only;omega) (by decide) (by decide) (by show 0<=_;decide);rw[hy]at I;have D:(a0++rc).length=29:=by rw[WO];omega
 generalize eA:a0++rc=A at*
 have C:=UL A (by omega);have G:=vk [fA] [fA] (by decide) (fun f h=>by rw[W1.1 h];show 1<=_;decide);rw[decide_eq_true Z]at G;refine ah ab Tryz.func6 Z (by decide) Tryz.ntmps6 Z (by simp) Z ?_
 (refine gM 21 Z ?_;refine cG (L:=[]) (t:=⟨[(1,.ptr 2 0),(2,.ptr 4 0)],[(0,io (aX 1 [(1:Int)] kj)),(1,io (.row 4 [[pS Nc,.sl 0 0 1 1,pI 0,pI 0]])),(2,io (.cells [.sl 1 0 1 4,rO])),(3,io (aX 3 [vA] cS.c)),(4,io (.cells [pS Nc,.sl 3 0 1 3]))],5⟩) ?_ ?_;refine wk Z Z Z ?_ ?_ ?_;exact(bi (bi ac));exact(hR Z Z Z ⟨⟨_,rfl,.of_eq Z⟩,WL Z,MI Z,⟨_,rfl,.of_eq Z⟩,WL Z,rfl,hR Z Z Z ⟨⟨_,rfl,.of_eq Z⟩,WL Z,rfl,ac⟩⟩);exact rfl)
 refine Jt 0 (fun k=>kj ([(1:Int)].getD k co)) Z (cU Z) (by simp[AF.mg,PV.bb]) ⟨po _ _ _ _ _ _,yc (by simp[PV.bb,a8]),pD (by simp[PV.bb,a8]),po _ _ _ _ _ _,pD (by simp[PV.bb,a8]),ac⟩ ?_;refine cG (L:=[]) (t:=⟨[(1,.ptr 2 0),(2,.ptr 4 0)],[(1,io (aX 4 pA.aF Decl.c)),(2,io (.cells [.sl 1 0 1 4,rO])),(3,io (aX 3 [vA] cS.c)),(4,io (.cells [pS Nc,.sl 3 0 1 3]))],5⟩) (wk Z Z Z (bi (bi ac)) (Ta Z (show dC [[pS Nc,.iv (.bL 1 1 fun k=>kj ([(1:Int)].getD (0+k) co)),pI 0,pI 0]] [[pS Nc,.iv (aW 1 [(1:Int)] kj),pI 0,pI 0]] from⟨⟨.refl _,.bL Z fun k _=>by rw[Xd],.refl _,.refl _,ac⟩,ac⟩) Z ⟨⟨_,rfl,.of_eq Z⟩,WL Z,rfl,hR Z Z Z ⟨⟨_,rfl,.of_eq Z⟩,WL Z,rfl,ac⟩⟩) Z) ?_;refine km 1 (fun k=>Decl.c (pA.aF.getD k co)) Z (cU Z) (by simp[AF.mg,PV.bb]) ⟨fQ _ _ _ _ _ _,(by simp[AO.mg,a8,PV.bb,pA]),fQ _ _ _ _ _ _,(by simp[AO.mg,a8,PV.bb]),ac⟩ ?_;refine cG (L:=[]) (t:=⟨[(1,.ptr 2 0),(2,.ptr 4 0)],[(2,io (aG pA.c)),(3,io (aX 3 [vA] cS.c)),(4,io (.cells [pS Nc,.sl 3 0 1 3]))],5⟩) (wk Z Z Z (bi (bi ac)) ⟨⟨_,rfl,.cells ⟨.bL Z (fun k _=>by rw[Xd]),.nil _ _,ac⟩⟩,WL Z,rfl,hR Z Z Z ⟨⟨_,rfl,.of_eq Z⟩,WL Z,rfl,ac⟩⟩ Z) ?_;refine km 3 (fun k=>cS.c ([vA].getD k co)) Z (cU Z) (by simp[AF.mg,PV.bb]) ⟨(by simp[AO.mg,a8,PV.bb,aG,Prog.c]),fQ _ _ _ _ _ _,(by simp[AO.mg,a8,PV.bb]),ac⟩ ?_;refine cG (L:=[]) (t:=⟨[(1,.ptr 2 0),(2,.ptr 4 0)],[(2,io (aG pA.c)),(4,io (aG fA.c))],5⟩) (wk Z Z Z (bi (bi ac)) ⟨⟨_,rfl,.of_eq Z⟩,WL Z,rfl,⟨_,rfl,.cells ⟨.refl _,.bL Z (fun k _=>by rw[Xd];rfl),ac⟩⟩,WL Z,rfl,ac⟩ Z) ?_;refine gA Z (ai [] (hC) Z Z Z Z Z Z Z Z ?_);refine gA Z ?_;refine WN (fun zz=>?_) (fun zz=>?_)<;>(try(exact absurd zz (by decide)))
 refine gA Z ?_;refine WN (fun zz=>?_) (fun zz=>?_)<;>(try(exact absurd zz (by decide)))
 (refine gM 1 Z ?_;refine cG (L:=[]) (t:=⟨[(1,.ptr 2 0),(2,.ptr 4 0),(3,.ptr 8 0)],[(2,io (aG pA.c)),(4,io (aG fA.c)),(5,io (bz [])),(6,io (cm pA 0 5)),(7,io (iG a0)),(8,io (jC 6 7 a0 0))],9⟩) ?_ ?_;refine wk Z Z Z ?_ ?_ ?_;exact(bi (bi (bi ac)));exact⟨⟨_,rfl,.of_eq Z⟩,WL Z,rfl,⟨_,rfl,.of_eq Z⟩,WL Z,rfl,hM Z Z Z ⟨⟨_,rfl,.of_eq Z⟩,WL Z,rfl,hR Z (az _ _) Z ⟨⟨_,rfl,.of_eq Z⟩,WL Z,rfl,ac⟩⟩⟩;exact rfl)
 refine gA Z (Sv (t:=⟨[(1,.ptr 2 0),(2,.ptr 4 0),(3,.ptr 8 0),(32,.ptr 8 0),(35,.iv (aW 3 l1 fF))],[(2,io (aG pA.c)),(4,io (aG fA.c)),(5,io (bz [])),(6,io (cm pA 0 5)),(7,io (iG a0)),(8,io (jC 6 7 a0 0))],10⟩) (((To.wk (L:=[]) (t:=⟨[(1,.ptr 2 0),(2,.ptr 4 0),(3,.ptr 8 0),(32,.ptr 8 0),(35,.sl 9 0 1 3)],[(2,io (aG pA.c)),(4,io (aG fA.c)),(5,io (bz [])),(6,io (cm pA 0 5)),(7,io (iG a0)),(8,io (jC 6 7 a0 0)),(9,io (aX 3 l1 fF))],10⟩) (wk Z Z Z (bi (bi (bi (bi (bi ac))))) ⟨⟨_,rfl,.of_eq Z⟩,WL Z,rfl,⟨_,rfl,.of_eq Z⟩,WL Z,rfl,hM Z Z Z ⟨⟨_,rfl,.of_eq Z⟩,WL Z,rfl,hR Z Z Z ⟨⟨_,rfl,.of_eq Z⟩,WL Z,rfl,(Ta Z (show dC [[PV.kb jp,.iv (iS Nc),.iv (aW 3 [vA] cS.c)]] [[pB jp,.iv (iS fA.rel),.iv (aW 3 fA.args cS.c)]] from⟨⟨.kb _,.refl _,.refl _,ac⟩,ac⟩) Z ac)⟩⟩⟩ Z)).trans
  (To.row (s:=⟨[(1,.ptr 2 0),(2,.ptr 4 0),(3,.ptr 8 0),(32,.ptr 8 0),(35,.sl 9 0 1 3)],[(2,io (aG pA.c)),(4,io (aG fA.c)),(5,io (bz [])),(6,io (cm pA 0 5)),(7,io (iG a0)),(8,io (jC 6 7 a0 0)),(9,io (aX 3 l1 fF))],10⟩) 9 (fun k=>fF (l1.getD k co)) Z (cU Z) (by simp[AF.mg,PV.bb,l1]) ⟨pD (by simp[PV.bb,a8,Prog.c]),pD (by simp[PV.bb,a8,Fact.c]),ac,pD (by simp[PV.bb,a8]),po _ _ _ _ _ _,pD (by simp[PV.bb,a8]),po _ _ _ _ _ _,ac⟩)).trans
  (To.wk (L:=[]) (wk Z Z Z (bi (bi (bi (bi ⟨.bL Z (fun k _=>by rw[Xd]),rfl,ac⟩)))) ⟨⟨_,rfl,.of_eq Z⟩,WL Z,rfl,⟨_,rfl,.of_eq Z⟩,WL Z,rfl,hM Z Z Z ⟨⟨_,rfl,.of_eq Z⟩,WL Z,rfl,hR Z (Oe _) Z ⟨⟨_,rfl,.of_eq Z⟩,WL Z,rfl,ac⟩⟩⟩ Z))) ?_)
 refine gA Z (lD [5,6,7,8] I Z Z Z Z Z (by simp only[WW,W7,aC];rfl) Z ?_);rintro r h' n' ⟨m1,n1,hn1,hk1,rfl,rfl,rfl⟩;refine⟨_,rfl,?_⟩
 (refine gM 6 Z ?_;refine cG (L:=[]) (t:=⟨[(1,.ptr 2 0),(2,.ptr 4 0),(3,.ptr 8 0),(5,.iv (aW 1 rc aO)),(6,pI 0)],[(2,io (aG pA.c)),(4,io (aG fA.c)),(8,io (jC 11 12 A 1)),(10,io (bz m1)),(11,io (cm pA n1 10)),(12,io (iG A))],13⟩) ?_ ?_;refine wk Z Z Z ?_ ?_ ?_;exact(bi (bi (bi (bi (bi ac)))));exact⟨⟨_,rfl,.of_eq Z⟩,WL Z,rfl,⟨_,rfl,.of_eq Z⟩,WL Z,rfl,⟨_,rfl,.of_eq Z⟩,WL Z,rfl,hM Z Z Z ⟨⟨_,rfl,.of_eq Z⟩,WL Z,rfl,hR Z (az _ _) Z ac⟩⟩;exact rfl)
 refine gA Z (bg ab [10,11,12,8] (EF pA n1 m1 A 1 (by omega) (by omega)) Z Z Z Z Z (by simp only[WW,W7,Xe,Xg,aC,ba];rfl) Z Z Z Z Z Z (by(repeat' (first|exact ac|exact rfl|exact ae.refl _|exact ae.bk (by assumption)|apply WN))<;>first|omega|(simp only[WV];omega)|(simp;done)|(simp;omega)) Z (by(repeat' (first|exact ac|exact rfl|exact ae.refl _|exact ae.bk (by assumption)|apply WN))<;>first|omega|(simp only[WV];omega)|(simp;done)|(simp;omega)) ?_);refine gA Z (Jw ab [] J Z Z Z Z Z Z Z Z Z Z Z (by(repeat' (first|exact ac|exact rfl|exact ae.refl _|exact ae.bk (by assumption)|apply WN))<;>first|omega|(simp only[WV];omega)|(simp;done)|(simp;omega)) ?_);rintro r h' n' ⟨m2,n2,hn2,hk2,rfl,rfl,rfl⟩;refine⟨_,rfl,_,rfl,(by(repeat' (first|exact ac|exact rfl|exact ae.refl _|exact ae.bk (by assumption)|apply WN))<;>first|omega|(simp only[WV];omega)|(simp;done)|(simp;omega)),?_⟩
 (refine gM 8 Z ?_;refine cG (L:=[]) (t:=⟨[(2,.ptr 4 0),(5,.iv (aW 1 rc aO)),(6,pI 0),(7,.ptr 16 0),(8,pI A.length),(9,pI 0)],[(4,io (aG fA.c)),(13,io (bz m2)),(14,io (cm pA n2 13)),(15,io (iG A)),(16,io (jC 14 15 A 1))],17⟩) ?_ ?_;refine wk Z Z Z ?_ ?_ ?_;exact(bi (bi (bi (bi (bi (bi ac))))));exact⟨⟨_,rfl,.of_eq Z⟩,WL Z,rfl,hM Z Z Z ⟨⟨_,rfl,.of_eq Z⟩,WL Z,rfl,hR Z (az _ _) Z ⟨⟨_,rfl,.of_eq Z⟩,WL Z,rfl,ac⟩⟩⟩;exact rfl)
 refine gA Z ?_;refine WN (fun zz=>?_) (fun zz=>?_)<;>(try(first|exact absurd zz (by decide)|(simp[y,D,u,B,C]at zz;done)))
 refine gA Z ?_;refine WN (fun zz=>?_) (fun zz=>?_)<;>(try(first|exact absurd zz (by decide)|(simp[y,D,u,B,C]at zz;done)))
 refine gA Z ?_;refine WN (fun zz=>?_) (fun zz=>?_)<;>(try(first|exact absurd zz (by decide)|(simp[y,D,u,B,C]at zz;done)))
 refine gA Z ?_;refine WN (fun zz=>?_) (fun zz=>?_)<;>(try(first|exact absurd zz (by decide)|(simp[y,D,u,B,C]at zz;done)))
 refine gA Z ?_;refine WN (fun zz=>?_) (fun zz=>?_)<;>(try(first|exact absurd zz (by decide)|(simp[y,D,u,B,C]at zz;done)))
 refine gM 1 Z (go_cut 1 (fun(_:Unit)=>⟨[(5,.iv (aW 1 rc aO)),(7,.ptr 16 0),(10,pB jp)],[(13,io (bz m2)),(14,io (cm pA n2 13)),(15,io (iG A)),(16,io (jC 14 15 A 1))],17⟩) Z ?_ ?_)
 .refine gA Z (Su ab Z Z Z (by(repeat' (first|exact ac|exact rfl|exact ae.refl _|exact ae.bk (by assumption)|apply WN))<;>first|omega|(simp only[WV];omega)|(simp;done)|(simp;omega)) Z Z (Aj [13,14,15,16] (zh pA n2 A 1 hk2 JK.AA (fun f h=>by rw[W1.1 h];show 1<=_;decide) (by show 1<=_;decide)) Z Z Z Z (by simp only[WW,W7,aC];rfl) Z Z) Z (by(repeat' (first|exact ac|exact rfl|exact ae.refl _|exact ae.bk (by assumption)|apply WN))<;>first|omega|(simp only[WV];omega)|(simp;done)|(simp;omega)) Z Z (Dx ab Z Z) Z (by(repeat' (first|exact ac|exact rfl|exact ae.refl _|exact ae.bk (by assumption)|apply WN))<;>first|omega|(simp only[WV];omega)|(simp;done)|(simp;omega)) ?_ ?_)
  .refine gA Z (r7 ab (asv:=[.iv (aW 2 [fA] Fact.c),.sl 17 0 1 2]) (Pure.nX G) Z Z Z Z Z (lG (i:=17) (sz:=2) (fun k=>Fact.c ([fA].getD k co)) Z (cU Z) (by simp[a8,PV.bb]) ⟨.refl _,.bL Z (fun k _=>by rw[Xd]),ac⟩) Z (fun j o hj=>nomatch hj) Z Z Z Z Z (by(repeat' (first|exact ac|exact rfl|exact ae.refl _|exact ae.bk (by assumption)|apply WN))<;>first|omega|(simp only[WV];omega)|(simp;done)|(simp;omega)) Z (by(repeat' (first|exact ac|exact rfl|exact ae.refl _|exact ae.bk (by assumption)|apply WN))<;>first|omega|(simp only[WV];omega)|(simp;done)|(simp;omega)) ?_);refine gA Z (oQ () [] ?_);exact wk Z Z Z (bi (bi (bi ac))) (hM Z Z Z ⟨⟨_,rfl,.of_eq Z⟩,WL Z,rfl,hR Z (az _ _) Z ⟨⟨_,rfl,.of_eq Z⟩,WL Z,rfl,ac⟩⟩) Z
  .refine gA Z (bg ab [13,14,15,16] (zh pA n2 A 1 hk2 JK.AA (fun f h=>by rw[W1.1 h];show 1<=_;decide) (by show 1<=_;decide)) Z Z Z Z Z (by simp only[WW,W7,Xe,Xg,aC,ba];rfl) Z Z Z Z Z Z (by(repeat' (first|exact ac|exact rfl|exact ae.refl _|exact ae.bk (by assumption)|apply WN))<;>first|omega|(simp only[WV];omega)|(simp;done)|(simp;omega)) Z (by(repeat' (first|exact ac|exact rfl|exact ae.refl _|exact ae.bk (by assumption)|apply WN))<;>first|omega|(simp only[WV];omega)|(simp;done)|(simp;omega)) ?_);refine gA Z (r7 ab (asv:=[.iv (aW 2 [fA] Fact.c),.sl 17 0 1 2]) (Pure.nX G) Z Z Z Z Z (lG (i:=17) (sz:=2) (fun k=>Fact.c ([fA].getD k co)) Z (cU Z) (by simp[a8,PV.bb]) ⟨.refl _,.bL Z (fun k _=>by rw[Xd]),ac⟩) Z (fun j o hj=>nomatch hj) Z Z Z Z Z (by(repeat' (first|exact ac|exact rfl|exact ae.refl _|exact ae.bk (by assumption)|apply WN))<;>first|omega|(simp only[WV];omega)|(simp;done)|(simp;omega)) Z (by(repeat' (first|exact ac|exact rfl|exact ae.refl _|exact ae.bk (by assumption)|apply WN))<;>first|omega|(simp only[WV];omega)|(simp;done)|(simp;omega)) ?_);refine gA Z (oQ () [] ?_);exact wk Z Z Z (bi (bi (bi ac))) (hM Z Z Z ⟨⟨_,rfl,.of_eq Z⟩,WL Z,rfl,hR Z (az _ _) Z ⟨⟨_,rfl,.of_eq Z⟩,WL Z,rfl,ac⟩⟩) Z
 intro _;have hP:=P4 pA n2 ⟨[fA],A,1⟩ hk2 JK (by show A.length<=_;omega) (by show 13<=A.length;omega) (by show 1<=_;decide);rw[show jB ⟨[fA],A,1⟩=(0,⟨[fA],fJ ⟨[fA],A,1⟩,1⟩,fJ ⟨[fA],A,1⟩) from am (by rw[C];decide)]at hP;generalize fJ ⟨[fA],A,1⟩=P at hP C;refine gA Z (ai [13,14,15,16] (hP) Z Z Z Z Z (by simp only[WW,W7,Xe,Xg,aC,ba];rfl) Z Z ?_)
 (refine gM 6 Z ?_;refine cG (L:=[]) (t:=⟨[(5,.iv (aW 1 rc aO)),(7,.ptr 16 0),(10,pB jp),(11,.iv (aW 1 P aO)),(12,pI 0)],[(13,io (bz m2)),(14,io (cm pA n2 13)),(16,io (jC 14 17 P 1)),(17,io (iG P))],18⟩) ?_ ?_;refine wk Z Z Z ?_ ?_ ?_;exact(bi (bi (bi (bi (bi ac)))));exact(hM Z Z Z ⟨⟨_,rfl,.of_eq Z⟩,WL Z,rfl,⟨_,rfl,.of_eq Z⟩,WL Z,rfl,hR Z (az _ _) Z ac⟩);exact rfl)
 refine gA Z ?_;refine WN (fun zz=>?_) (fun zz=>?_)<;>(try(first|exact absurd zz (by decide)|(simp[y,D,u,B,C]at zz;done)))
 refine gA Z ?_;refine WN (fun zz=>?_) (fun zz=>?_)<;>(try(first|exact absurd zz (by decide)|(simp[y,D,u,B,C]at zz;done)))
 refine gA Z ?_;refine WN (fun zz=>?_) (fun zz=>?_)<;>(try(first|exact absurd zz (by decide)|(simp[y,D,u,B,C]at zz;done)))
 refine gA Z (ai [13,14,17,16] (vn pA n2 m2 P 1) Z Z Z Z Z (by simp only[WW,W7,Xe,Xg,aC,ba];rfl) Z Z ?_);refine gA Z ?_;refine WN (fun zz=>?_) (fun zz=>?_)<;>(try(exact absurd zz (by decide)))
 refine gA Z ?_;refine WN (fun zz=>?_) (fun zz=>?_)<;>(try(rw[show rc.getD (Ze 0) co=165 from u]at zz;exact absurd zz (by decide)))
 refine gA Z (aH (by first|exact .inr Z|exact .inl Z) Z (.of_eq ?_));show pB (lc (((rc.getD 15 co).toNat:Int)=90))=_;rw[show rc.getD 15 co=90 from B];rfl
theorem FD{p:Prog}{b:By}: ∀(l:List Fact) {s:RS} {r:By} (A:List Fact),rk aV (A++l)->(∀f∈l,okF p f=jp)->At b s (l.flatMap eV++r)->ob p b l.length s A=(jp,A++l,⟨s.p+(l.flatMap eV).length,0⟩)
 | [],s,r,A,_,_,h=>by
  have:=h.f;cases s
  simp_all [ob]
 |f::l,s,r,A,hs,hl,h=>by
  rw[XS,W6]at h;have hR:=Qg (hl f (by simp)) h;have j: ¬wQ p b s A:=by
   rintro(e|⟨e1,e2⟩)
   .rw[hR.ok]at e;cases e
   .rw[hR.fact]at e2;have h1:=(YI.1 hs).2.2 (A.getD (A.length-1) co) (by rw[WQ,WU (by omega)];exact XF _) f (by simp);omega
  rw[Xn,ob,be j,hR.next,hR.fact];rw[FD l (A++ [f]) (by rw[W6];exact hs) (fun x u=>hl x (by simp[u])) h.go];simp[X3]
theorem Om{p:Prog}{S:List Fact}(hS:Go.Bo.dV aV (okF p) S):pR p (eC S) ⟨0,0⟩=(jp,S,⟨(eC S).length,0⟩):=by
 have j:=At.start (eC S);have h1:At (eC S) ⟨0,0⟩ (enc S.length++(S.flatMap eV++ [])):=by rw[XA];exact j
 have hu:=o8 (most:=65536) h1 hS.KN (by have:=hS.KN;omega);have u:=FD (p:=p) S [] hS.AA hS.ok h1.go;unfold pR;rw[hu,u];rw[eC,WO];simp
theorem FQ{p:Prog}{a:By}{S:List Fact}{k:Nat}{j:List Fact}{k0:Nat}(ha:a.length=13)(hk:k<=2147483647)(hS:Go.Bo.dV aV (okF p) S)(hb:(eC S).length<=4194304)(r:By):
  kB p ⟨j,a,k0⟩ (cV a 166 k (eC S)++r)=io ⟨S,a++cV a 166 k (eC S),k⟩:=by
 obtain⟨h1,u,x,y⟩:=It (a:=a) (r:=r) (k:=166) hk hb;unfold kB;rw[h1,u,x,y];unfold pX;rw[ZJ Z,am ⟨rfl,rfl⟩,be fun h=>absurd h.1 (by decide),am ⟨rfl,ha⟩,Om hS,am ⟨rfl,Fo Z⟩]
abbrev Vz(p:Prog)(b:By)(s:JS):JS:=iz p b (b.length+1) s
theorem IJ{p:Prog}{b:By}{s u:JS}(hs:nZ p s)(hl:s.a.length<=b.length)(h:kB p s (b.drop s.a.length)=io u):Vz p b s=Vz p b u:=by
 obtain⟨j,y,x⟩:=u6 h hs;rw[XT]at x;show iz p b (b.length+1) s=iz p b (b.length+1) u;rw[iz,h];exact(qM b.length (b.length+1) j (by omega) (by omega) (by omega)).symm
theorem II{p:Prog}{b:By}{s:JS}(h:kB p s (b.drop s.a.length)=is):Vz p b s=s:=by
 show iz p b (b.length+1) s=s;rw[iz,h]
theorem JQ(t:By):t.length<=(gZ t).length:=by rw[gZ,WO];omega
theorem R1(a:By)(k:UInt8)(n:Nat)(t:By):(cV a k n t).length=1+(enc n).length+(gZ t).length+5:=by
 rw[cV,sT];simp only[WO,Xl];rfl
theorem Og{a:By}{k:UInt8}{n:Nat}{t:By}{m:Nat}(h:(cV a k n t).length<=m):t.length<=m:=by
 have h1:=R1 a k n t;have j:=JQ t;omega
theorem Gv{p:Prog}{S:List Fact}{k:Nat}(hS:Go.Bo.dV aV (okF p) S)(hk:k<=2147483647)(hl:(ck p++cV (ck p) 166 k (eC S)).length<=4194304)(r:By):
  rK p (ck p++cV (ck p) 166 k (eC S)++r)=Vz p (ck p++cV (ck p) 166 k (eC S)++r) ⟨S,ck p++cV (ck p) 166 k (eC S),k⟩:=by
 have hf:=qW p;have j:=fE p;unfold rK;generalize ck p=a at*
 rw[WO]at hl;refine IJ hf (by simp only[WO];omega) ?_;dsimp only;rw[W6,aas Z];exact FQ j hk hS (Og (a:=a) (k:=166) (n:=k) (m:=4194304) (by omega)) r
theorem Gu{p:Prog}{s:JS}(hs:nZ p s)(j:s.a.take 13=ck p)(hl:(fJ s).length<=4194304):rK p (fJ s)=⟨s.S,fJ s,s.k⟩:=by
 unfold fJ at hl ⊢;rw[j]at hl ⊢;have:=Gv hs.iL hs.num hl [];rw[XA]at this;rw[this];refine II ?_;dsimp only;rw[Yg (WY _)];exact take_nil p _
theorem ID{p:Prog}{s:JS}(hs:nZ p s)(j:s.a.take 13=ck p)(hl:s.a.length<=4194304):nZ p (jB s).2.1∧(jB s).2.1.a.take 13=ck p∧(jB s).2.1.a.length<=4194304∧(jB s).2.1.S=s.S∧(jB s).2.1.k=s.k:=by
 unfold jB;split
 .rename_i h;have u:(fJ s).take 13=ck p:=by
   unfold fJ;rw[j];exact ZJ (fE p)
  refine⟨⟨hs.iL,?_,hs.num,fun e=>?_⟩,u,h,rfl,rfl⟩
  .have:=congrArg Y9 u;rw[Xv,fE]at this;show 13<=(fJ s).length;omega
  .have h1:=vw (s.a.take 13) 166 s.k (eC s.S);have e:(fJ s).length=13:=e;unfold fJ at e;rw[WO,j,fE]at e;rw[j]at h1;omega
 .exact⟨hs,j,hl,rfl,rfl⟩
theorem Ox{p:Prog}{s:JS}(l:List (bZ Fact))(hs:nZ p s)(hl:s.a.length<=4194304):nZ p (gC p s l).2.1∧(gC p s l).2.1.a.take 13=s.a.take 13∧(gC p s l).2.1.a.length<=4194304:=by
 unfold gC;split
 .exact⟨hs,rfl,hl⟩
 .rename_i j;split
  .exact⟨hs,rfl,hl⟩
  .rename_i h1;split
   .exact⟨hs,rfl,hl⟩
   .rename_i x;have u:=hs.len;have y:=vw s.a 165 (s.k+1) (bA l);refine⟨⟨hs.iL.next pb (by simpa using j),?_,?_,fun e=>?_⟩,?_,?_⟩
    .show 13<=(s.a++_).length;rw[WO];omega
    .show s.k+1<=_;omega
    .have e:(s.a++cV s.a 165 (s.k+1) (bA l)).length=13:=e;rw[WO]at e;omega
    .exact List.take_append_of_le_length u
    .show(s.a++_).length<=_;rw[WO];omega
theorem Ot(p:Prog)(s t:JS)(l:List (bZ Fact))(hS:s.S=t.S)(hk:s.k=t.k):
  ((gC p s l).1=(gC p t l).1∧(gC p s l).2.1.S=(gC p t l).2.1.S∧(gC p s l).2.1.k=(gC p t l).2.1.k)∨
  ((gC p s l).1≠(gC p t l).1∧((gC p s l).1=2∨(gC p t l).1=2)∧(1000000<(gC p s l).2.1.a.length∨1000000<(gC p t l).2.1.a.length)):=by
 obtain⟨S,a,k⟩:=s;obtain⟨A,b,B⟩:=t;obtain rfl:S=A:=hS;obtain rfl:k=B:=hk;have h1:=R1 a 165 (k+1) (bA l);have C:=R1 b 165 (k+1) (bA l);unfold gC;by_cases j:iU aV (okF p) S l≠0
 .rw[am j,am j];exact .inl ⟨rfl,rfl,rfl⟩
 .rw[be j,be j];by_cases u:2147483647<=k
  .rw[am u,am u];exact .inl ⟨rfl,rfl,rfl⟩
  .rw[be u,be u];dsimp only;by_cases x:4194304<a.length+(cV a 165 (k+1) (bA l)).length<;>by_cases y:4194304<b.length+(cV b 165 (k+1) (bA l)).length
   .rw[am x,am y];exact .inl ⟨rfl,rfl,rfl⟩
   .rw[am x,be y];refine .inr ⟨by show(2:Int)≠0;decide,.inl Z,?_⟩;dsimp only;rw[WO];omega
   .rw[be x,am y];refine .inr ⟨by show(0:Int)≠2;decide,.inr Z,?_⟩;dsimp only;rw[WO];omega
   .rw[be x,be y];exact .inl ⟨rfl,rfl,rfl⟩
end Go.Proofs.YtlmhfgbkchnfbaaGreatDoor
namespace Go.Proofs.YtlmhfgbkchnfbaaGreatDoor
open Go Go.Al Go.Proofs.Tryz Go.En Go.Bo
section
abbrev ug(b:Bool):List IV:=[.v (.bool b)]
abbrev UT(p:Prog)(n:Nat)(m:FM)(s:JS)(i:Nat):AH:=[(i,io (bz m)),(i+1,io (cm p n i)),(i+2,io (iG s.a)),(i+3,io (jC (i+1) (i+2) s.a s.k))]
abbrev Vq(p:Prog)(n:Nat)(m:FM)(s:JS)(J i:Nat):AH:=[(J,io (jC (i+1) (i+2) s.a s.k)),(i,io (bz m)),(i+1,io (cm p n i)),(i+2,io (iG s.a))]
structure JI (p:Prog) (s:JS) (m:FM) (n i:Nat):Prop where
 iL:nZ p s
 keeps:bY cA m s.S
 len:s.a.length<=4194304
 num:n<=100000000+i
 head:s.a.take 13=ck p
theorem JI.new(p:Prog)(i:Nat):JI p ⟨[],ck p,0⟩ [] 0 i:=⟨qW p,bY.nil,by show(ck p).length<=_;rw[fE];decide,W2 _,by show(ck p).take 13=_;rw[W9 (by rw[fE];decide)]⟩
section
variable {p:Prog} {s:JS} {m:FM} {n i:Nat} (h:JI p s m n i) (hi:i<=10000000000) (hr:p.aF.length<=1000000000)
include h hi hr
theorem JI.append(l:List (bZ Fact))(hF: ∀x∈l,x.2.args.length<=1000000000):Al.Fn prog 11 [.ptr 3 0,.iv (aW 3 l fF)] (jO p n m s.a s.k) fun r h k=> ∃j u,JI p (gC p s l).2.1 j u (i+1)∧r= .aY [.iv (aW 1 (gC p s l).2.2 aO),pI (gC p s l).1]∧h=SQ p u j (gC p s l).2.1∧k=7:=by
 have h1:=h.iL.len;have D:=h.iL.num;have G:=h.num;have I:=h.len;obtain⟨y,A,B⟩:=Ox l h.iL h.len;refine(EH p n s l h.keeps h.iL.iL hF (by omega) (by omega) hr (by omega) (by omega)).mono ?_;rintro r C k ⟨j,u,e1,e2,e3,e4,e5⟩;exact⟨j,u,⟨y,e2,B,by omega,by rw[A];exact h.head⟩,e3,e4,e5⟩
omit hi hr
theorem JI.pack:bf prog 10 [.ptr 3 0] (jO p n m s.a s.k) (.aY [.iv (aW 1 (jB s).2.2 aO),pI (jB s).1]) (pkH p n m (jB s).2.1) 5∧JI p (jB s).2.1 m n i:=by
 have h1:=h.iL.len;have A:=h.iL.num;have B:=h.len;obtain⟨j,u,x,y,C⟩:=ID h.iL h.head h.len;exact⟨P4 p n s h.keeps h.iL.iL (by omega) h1 (by omega),j,by rw[y];exact h.keeps,x,h.num,u⟩
theorem JI.bytes:bf prog 9 [.ptr 3 0] (jO p n m s.a s.k) (.iv (aW 1 s.a aO)) (jH p n m s.a s.k) 4:=by
 have h1:=h.iL.len;have j:=h.len;exact EF p n m s.a s.k (by omega) (by omega)
theorem JI.facts:bf prog 8 [.ptr 3 0] (jO p n m s.a s.k) (.iv (aW 2 s.S Fact.c)) (jH p n m s.a s.k) 4:=
 zh p n s.a s.k h.keeps h.iL.iL.AA (Cm h.iL.iL) (by have:=h.iL.iL.KN;omega)
end
theorem IE{s:JS}(h:(fJ s).length<=4194304):jB s=(0,⟨s.S,fJ s,s.k⟩,fJ s):=am h
structure PkS where
 j:JS
 k:JS
 fj:FM
 fk:FM
 nj:Nat
 nk:Nat
structure PkJ (p:Prog) (i:Nat) (x:PkS):Prop where
 j:JI p x.j x.fj x.nj i
 k:JI p x.k x.fk x.nk i
 S:x.j.S=x.k.S
 n:x.j.k=x.k.k
set_option maxHeartbeats 4000000 in
theorem xi(hS:fy)(p:Prog)(bs:List (List (bZ Fact)))(pk:List Bool)(hf:p.fit)(hs:p.size<=10000000)(ht:p.ts<=800000000)(hl:bs.length<=1000000000)(hF: ∀l∈bs,∀x∈l,x.2.args.length<=1000000000)(f0:pk.length<=1000000000):
  Pure prog 4 [ag p.c,.iv (aW 1 bs xu),.iv (aW 1 pk ug)] (pB jp):=by
 have hr:=hf.1;by_cases hc:(gP p).1=0;rotate_left
 .refine ah ab func4 Z (by decide) ntmps4 Z (by simp) Z ?_;refine gA Z (aE (EG hS) Z Z Z Z Z Z ?_);refine gA Z (aE (xM hS p hf hs ht hc) Z Z Z Z Z Z ?_);refine gA Z (aE (xM hS p hf hs ht hc) Z Z Z Z Z Z ?_);refine gA Z ?_;refine WN (fun zz=>?_) (fun zz=>?_)<;>(try(exact absurd zz (by decide)))
  refine gA Z ?_;refine WN (fun zz=>?_) (fun zz=>?_)<;>(try(exact absurd zz (by decide)))
  refine gA Z ?_;refine WN (fun zz=>?_) (fun zz=>?_)<;>(try(exact absurd zz (by decide)))
  refine gA Z ?_;refine WN (fun zz=>?_) (fun zz=>?_)<;>(try(exact absurd zz (by decide)))
  refine gA Z ?_;refine jv 0 0 (WY _) (fun i (_:Unit)=>⟨[(1,.iv (aW 1 bs xu)),(8,UP),(12,pI 0)],[],1⟩) (fun _ _=>True) () [] ac
   (wk Z Z Z (bi (bi (bi trivial))) trivial Z) fun i _ hi _=>?_
  refine gA Z ?_;refine WN (fun h1=>?_) (fun h1=>?_)
  .refine gA Z ?_;refine WN (fun zz=>?_) (fun zz=>?_)<;>(try(exact absurd zz (by decide)))
   refine gA Z (aH (by first|exact .inr Z|exact .inl Z) Z (.of_eq ?_));rfl
  .refine gA Z (aH (by first|exact .inr Z|exact .inl Z) Z (.of_eq ?_));rfl
 have hC:=zj hS p hf hs ht hc;have hnew:=JI.new p 0;have C:=fun(b:By) h1 I=>P5 hS p hf hs ht b hr h1 hc I;refine ah ab func4 Z (by decide) ntmps4 Z (by simp) Z ?_;refine gA Z (aE (EG hS) Z Z Z Z Z Z ?_);refine gA Z (ai [] (hC) Z Z Z Z Z Z Z Z ?_);refine gA Z (ai [] (hC) Z Z Z Z Z Z Z Z ?_);refine gA Z ?_;refine WN (fun zz=>?_) (fun zz=>?_)<;>(try(exact absurd zz (by decide)))
 refine gA Z ?_;refine WN (fun zz=>?_) (fun zz=>?_)<;>(try(exact absurd zz (by decide)))
 refine gA Z ?_;refine WN (fun zz=>?_) (fun zz=>?_)<;>(try(exact absurd zz (by decide)))
 refine gA Z ?_;refine WN (fun zz=>?_) (fun zz=>?_)<;>(try(exact absurd zz (by decide)))
 refine gA Z ?_;refine jv 0 bs.length (W2 _) (fun i (x:PkS)=>⟨[(1,.iv (aW 1 bs xu)),(2,.iv (aW 1 pk ug)),(3,.ptr 0 0),(8,.ptr 12 0),(10,.ptr 16 0),(12,pI i)],(0,io (aG p.c))::(UT p x.nj x.fj x.j 9++UT p x.nk x.fk x.k 13),17⟩) (PkJ p) ⟨⟨[],ck p,0⟩,⟨[],ck p,0⟩,[],[],0,0⟩ [1,2,3,4,5,6,7,8] ⟨hnew,hnew,rfl,rfl⟩
  (wk Z Z Z (bi (bi (bi (bi (bi (bi trivial)))))) ⟨⟨_,rfl,.of_eq Z⟩,WL Z,rfl,hM Z Z Z ⟨⟨_,rfl,.of_eq Z⟩,WL Z,rfl,hR Z (az _ _) Z ⟨⟨_,rfl,.of_eq Z⟩,WL Z,rfl,hM Z Z Z ⟨⟨_,rfl,.of_eq Z⟩,WL Z,rfl,hR Z (az _ _) Z ⟨⟨_,rfl,.of_eq Z⟩,WL Z,rfl,ac⟩⟩⟩⟩⟩ Z) fun i x hi hJ=>?_
 obtain⟨hj,hk,b0,d0⟩:=hJ;refine gA Z ?_;refine WN (fun h1=>?_) (fun h1=>?_)
 .have h1:i<bs.length:=by have:=of_decide_eq_true h1;omega
  refine gA Z ?_;refine WN (fun zz=>?_) (fun zz=>?_)<;>(try(exact absurd zz (by decide)))
  have J:=hF _ (Ch h1);refine gM 3 Z (go_cut 1 (fun(y:{y:JS×FM×Nat//JI p y.1 y.2.1 y.2.2 i∧y.1.S=x.k.S∧y.1.k=x.k.k})=>⟨[(1,.iv (aW 1 bs xu)),(2,.iv (aW 1 pk ug)),(3,.ptr 0 0),(8,.ptr 12 0),(10,.ptr 20 0),(12,pI i)],(0,io (aG p.c))::(UT p x.nj x.fj x.j 9++UT p y.1.2.2 y.1.2.1 y.1.1 17),21⟩) Z ?_ ?_)
  .refine gA Z ?_;refine WN (fun I=>?_) (fun I=>?_)
   .have I:i<pk.length:=by have:=of_decide_eq_true I;omega
    refine gA Z ?_;refine WN (fun h3=>?_) (fun h3=>?_)
    .by_cases hz:(fJ x.k).length<=4194304
     .have A:=hk.pack;rw[IE hz]at A;have hO:=C (fJ x.k) hz A.2.head;rw[Gu hk.iL hk.head hz]at hO;obtain⟨A,B⟩:=A;dsimp only at A B;generalize fJ x.k=W at*
      refine gA Z (ai [13,14,15,16] (A) Z Z Z Z Z (by simp only[WW,W7,Xe,Xg,aC,ba];rfl) Z Z ?_);refine gA Z ?_;refine WN (fun zz=>?_) (fun zz=>?_)<;>(try(exact absurd zz (by decide)))
      refine gA Z (lD [] hO Z Z Z Z Z Z Z ?_);rintro r h' n' ⟨m2,n2,hn2,hk2,rfl,rfl,rfl⟩;refine⟨_,rfl,?_⟩;refine gA Z ?_;refine WN (fun zz=>?_) (fun zz=>?_)<;>(try(exact absurd zz (by decide)))
      refine gA Z ?_;refine WN (fun zz=>?_) (fun zz=>?_)<;>(try(exact absurd zz (by decide)))
      refine gA Z ?_;refine WN (fun zz=>?_) (fun zz=>?_)<;>(try(simp at zz;done))
      refine gA Z (oQ ⟨(⟨x.k.S,W,x.k.k⟩,m2,n2),⟨B.iL,hk2,B.len,XR hn2 (Zl _ _),B.head⟩,rfl,rfl⟩ [18,19,20,21] ?_);exact wk Z Z Z (bi (bi (bi (bi (bi (bi ac)))))) ⟨⟨_,rfl,.of_eq Z⟩,WL Z,rfl,hM Z Z Z ⟨⟨_,rfl,.of_eq Z⟩,WL Z,rfl,hR Z (by first|rfl|exact az _ _) Z ⟨⟨_,rfl,.of_eq Z⟩,WL Z,rfl,hM Z Z Z ⟨⟨_,rfl,.of_eq Z⟩,WL Z,rfl,hR Z (by first|rfl|exact az _ _) Z ⟨⟨_,rfl,.of_eq Z⟩,WL Z,rfl,ac⟩⟩⟩⟩⟩ Z
     .have A:=hk.pack.1;rw[show jB x.k=(2,x.k,[]) from be hz]at A;dsimp only at A;refine gA Z (ai [13,14,15,16] (A) Z Z Z Z Z (by simp only[WW,W7,Xe,Xg,aC,ba];rfl) Z Z ?_);refine gA Z ?_;refine WN (fun zz=>?_) (fun zz=>?_)<;>(try(exact absurd zz (by decide)))
      refine gA Z (oQ ⟨(x.k,x.fk,x.nk),hk,rfl,rfl⟩ [13,14,17,16] ?_);exact wk Z Z Z (bi (bi (bi (bi (bi (bi ac)))))) ⟨⟨_,rfl,.of_eq Z⟩,WL Z,rfl,hM Z Z Z ⟨⟨_,rfl,.of_eq Z⟩,WL Z,rfl,hR Z (by first|rfl|exact az _ _) Z ⟨⟨_,rfl,.of_eq Z⟩,WL Z,rfl,hM Z Z Z ⟨⟨_,rfl,.of_eq Z⟩,WL Z,rfl,hR Z (by first|rfl|exact az _ _) Z ⟨⟨_,rfl,.of_eq Z⟩,WL Z,rfl,ac⟩⟩⟩⟩⟩ Z
    .refine gA Z (oQ ⟨(x.k,x.fk,x.nk),hk,rfl,rfl⟩ [13,14,15,16] ?_);exact wk Z Z Z (bi (bi (bi (bi (bi (bi ac)))))) ⟨⟨_,rfl,.of_eq Z⟩,WL Z,rfl,hM Z Z Z ⟨⟨_,rfl,.of_eq Z⟩,WL Z,rfl,hR Z (by first|rfl|exact az _ _) Z ⟨⟨_,rfl,.of_eq Z⟩,WL Z,rfl,hM Z Z Z ⟨⟨_,rfl,.of_eq Z⟩,WL Z,rfl,hR Z (by first|rfl|exact az _ _) Z ⟨⟨_,rfl,.of_eq Z⟩,WL Z,rfl,ac⟩⟩⟩⟩⟩ Z
   .refine gA Z (oQ ⟨(x.k,x.fk,x.nk),hk,rfl,rfl⟩ [13,14,15,16] ?_);exact wk Z Z Z (bi (bi (bi (bi (bi (bi ac)))))) ⟨⟨_,rfl,.of_eq Z⟩,WL Z,rfl,hM Z Z Z ⟨⟨_,rfl,.of_eq Z⟩,WL Z,rfl,hR Z (by first|rfl|exact az _ _) Z ⟨⟨_,rfl,.of_eq Z⟩,WL Z,rfl,hM Z Z Z ⟨⟨_,rfl,.of_eq Z⟩,WL Z,rfl,hR Z (by first|rfl|exact az _ _) Z ⟨⟨_,rfl,.of_eq Z⟩,WL Z,rfl,ac⟩⟩⟩⟩⟩ Z
  rintro⟨⟨u,mu,nu⟩,hu,hu2,hu3⟩;dsimp only at hu hu2 hu3 ⊢;have a0:=Ot p x.j u (bs.getD i co) (b0.trans hu2.symm) (d0.trans hu3.symm);refine gA Z (lD [9,10,11,12] (hj.append (by omega) hr (bs.getD i co) J) Z Z Z Z Z (by simp only[WW,W7,aC];rfl) Z ?_);rintro r h' n' ⟨m1,n1,hj1,rfl,rfl,rfl⟩;refine⟨_,rfl,?_⟩
  (refine gM 6 Z ?_;refine cG (L:=[]) (t:=⟨[(1,.iv (aW 1 bs xu)),(2,.iv (aW 1 pk ug)),(3,.ptr 0 0),(8,.ptr 12 0),(10,.ptr 20 0),(12,pI i),(19,pI (gC p x.j (bs.getD i co)).1)],(0,io (aG p.c))::(Vq p n1 m1 (gC p x.j (bs.getD i co)).2.1 12 21++UT p nu mu u 17),24⟩) ?_ ?_;refine wk Z Z Z ?_ ?_ ?_;exact(bi (bi (bi (bi (bi (bi (bi ac)))))));exact⟨⟨_,rfl,.of_eq Z⟩,WL Z,rfl,⟨⟨_,rfl,.of_eq Z⟩,WL Z,rfl,hM Z Z Z ⟨⟨_,rfl,.of_eq Z⟩,WL Z,rfl,hR Z (az _ _) Z (hM Z Z Z ⟨⟨_,rfl,.of_eq Z⟩,WL Z,rfl,hR Z Z Z ⟨⟨_,rfl,.of_eq Z⟩,WL Z,rfl,ac⟩⟩)⟩⟩⟩;exact rfl)
  refine gA Z (lD [17,18,19,20] (hu.append (by omega) hr (bs.getD i co) J) Z Z Z Z Z (by simp only[WW,W7,aC];rfl) Z ?_);rintro r h' n' ⟨m2,n2,hk1,rfl,rfl,rfl⟩;refine⟨_,rfl,?_⟩
  (refine gM 6 Z ?_;refine cG (L:=[]) (t:=⟨[(1,.iv (aW 1 bs xu)),(2,.iv (aW 1 pk ug)),(3,.ptr 0 0),(8,.ptr 12 0),(10,.ptr 20 0),(12,pI i),(19,pI (gC p x.j (bs.getD i co)).1),(21,pI (gC p u (bs.getD i co)).1)],(0,io (aG p.c))::(Vq p n1 m1 (gC p x.j (bs.getD i co)).2.1 12 21++Vq p n2 m2 (gC p u (bs.getD i co)).2.1 20 24),27⟩) ?_ ?_;refine wk Z Z Z ?_ ?_ ?_;exact(bi (bi (bi (bi (bi (bi (bi (bi ac))))))));exact⟨⟨_,rfl,.of_eq Z⟩,WL Z,rfl,⟨⟨_,rfl,.of_eq Z⟩,WL Z,rfl,hM Z Z Z ⟨⟨_,rfl,.of_eq Z⟩,WL Z,rfl,hR Z Z Z ⟨⟨_,rfl,.of_eq Z⟩,WL Z,rfl,hM Z Z Z ⟨⟨_,rfl,.of_eq Z⟩,WL Z,rfl,hR Z (az _ _) Z ac⟩⟩⟩⟩⟩;exact rfl)
  generalize gC p x.j (bs.getD i co)=v at*
  generalize gC p u (bs.getD i co)=z at*
  rcases a0 with⟨e1,e2,e3⟩|⟨ne,e0,c0⟩
  .have Y:=vk v.2.1.S z.2.1.S (by have:=hj1.iL.iL.KN;omega) (Cm hj1.iL.iL);rw[decide_eq_true e2]at Y;refine gA Z ?_;refine WN (fun zz=>?_) (fun zz=>?_)<;>(try(rw[e1]at zz;simp at zz;done))
   refine gA Z (ai [21,22,23,12] (hj1.facts) Z Z Z Z Z (by simp only[WW,W7,Xe,Xg,aC,ba];rfl) Z Z ?_);refine gA Z (ai [24,25,26,20] (hk1.facts) Z Z Z Z Z (by simp only[WW,W7,Xe,Xg,aC,ba];rfl) Z Z ?_);refine gA Z (aE (Y) Z Z Z Z Z Z ?_)
   (refine gM 2 Z ?_;refine cG (L:=[]) (t:=⟨[(1,.iv (aW 1 bs xu)),(2,.iv (aW 1 pk ug)),(3,.ptr 0 0),(8,.ptr 12 0),(10,.ptr 20 0),(12,pI i),(19,pI v.1),(21,pI z.1),(22,pB jp)],(0,io (aG p.c))::(Vq p n1 m1 v.2.1 12 21++Vq p n2 m2 z.2.1 20 24),27⟩) ?_ ?_;refine wk Z Z Z ?_ ?_ ?_;exact(bi (bi (bi (bi (bi (bi (bi (bi (bi ac)))))))));exact⟨⟨_,rfl,.of_eq Z⟩,WL Z,rfl,⟨⟨_,rfl,.of_eq Z⟩,WL Z,rfl,hM Z Z Z ⟨⟨_,rfl,.of_eq Z⟩,WL Z,rfl,hR Z (az _ _) Z ⟨⟨_,rfl,.of_eq Z⟩,WL Z,rfl,hM Z Z Z ⟨⟨_,rfl,.of_eq Z⟩,WL Z,rfl,hR Z (az _ _) Z ac⟩⟩⟩⟩⟩;exact rfl)
   refine gA Z ?_;refine WN (fun zz=>?_) (fun zz=>?_)<;>(try(rw[e1]at zz;simp at zz;done))
   refine gA Z ?_;refine WN (fun zz=>?_) (fun zz=>?_)<;>(try(exact absurd zz (by decide)))
   refine gA Z (ai [21,22,23,12] (vn p n1 m1 v.2.1.a v.2.1.k) Z Z Z Z Z (by simp only[WW,W7,Xe,Xg,aC,ba];rfl) Z Z ?_);refine gA Z (ai [24,25,26,20] (vn p n2 m2 z.2.1.a z.2.1.k) Z Z Z Z Z (by simp only[WW,W7,Xe,Xg,aC,ba];rfl) Z Z ?_);refine gA Z ?_;refine WN (fun zz=>?_) (fun zz=>?_)<;>(try(simp[e3]at zz;done))
   refine gA Z ⟨h1,⟨v.2.1,z.2.1,m1,m2,n1,n2⟩,[21,22,23,12,24,25,26,20],⟨hj1,hk1,e2,e3⟩,wk Z Z Z (bi (bi (bi (bi (bi (bi ac)))))) ⟨⟨_,rfl,.of_eq Z⟩,WL Z,rfl,hM Z Z Z ⟨⟨_,rfl,.of_eq Z⟩,WL Z,rfl,hR Z (by first|rfl|exact az _ _) Z ⟨⟨_,rfl,.of_eq Z⟩,WL Z,rfl,hM Z Z Z ⟨⟨_,rfl,.of_eq Z⟩,WL Z,rfl,hR Z (by first|rfl|exact az _ _) Z ⟨⟨_,rfl,.of_eq Z⟩,WL Z,rfl,ac⟩⟩⟩⟩⟩ Z⟩
  .refine gA Z ?_;refine WN (fun zz=>?_) (fun zz=>?_)<;>(try(simp[ne]at zz;done))
   refine gA Z ?_;refine WN (fun G=>?_) (fun G=>?_)
   .have G: ¬v.1=2:=of_decide_eq_false G;have q3:z.1=2:=e0.resolve_left G;refine gA Z ?_;refine WN (fun zz=>?_) (fun zz=>?_)<;>(try(simp[q3]at zz;done))
    refine gA Z (ai [21,22,23,12] (hj1.bytes) Z Z Z Z Z (by simp only[WW,W7,Xe,Xg,aC,ba];rfl) Z Z ?_);refine gA Z ?_;refine WN (fun D=>?_) (fun D=>?_)
    .have D: ¬1000000<v.2.1.a.length:=by have:=of_decide_eq_false D;omega
     refine gA Z (ai [24,25,26,20] (hk1.bytes) Z Z Z Z Z (by simp only[WW,W7,Xe,Xg,aC,ba];rfl) Z Z ?_);refine gA Z ?_;refine WN (fun zz=>?_) (fun zz=>?_)<;>(try(have:=of_decide_eq_false zz;omega))
     refine gA Z (aH (by first|exact .inr Z|exact .inl Z) Z (.of_eq ?_));rfl
    .refine gA Z (aH (by first|exact .inr Z|exact .inl Z) Z (.of_eq ?_));rfl
   .have G:=G;refine gA Z (ai [21,22,23,12] (hj1.bytes) Z Z Z Z Z (by simp only[WW,W7,Xe,Xg,aC,ba];rfl) Z Z ?_);refine gA Z ?_;refine WN (fun D=>?_) (fun D=>?_)
    .have D: ¬1000000<v.2.1.a.length:=by have:=of_decide_eq_false D;omega
     refine gA Z (ai [24,25,26,20] (hk1.bytes) Z Z Z Z Z (by simp only[WW,W7,Xe,Xg,aC,ba];rfl) Z Z ?_);refine gA Z ?_;refine WN (fun zz=>?_) (fun zz=>?_)<;>(try(have:=of_decide_eq_false zz;omega))
     refine gA Z (aH (by first|exact .inr Z|exact .inl Z) Z (.of_eq ?_));rfl
    .refine gA Z (aH (by first|exact .inr Z|exact .inl Z) Z (.of_eq ?_));rfl
 .have h1:bs.length<=i:=by have:=of_decide_eq_false h1;omega
  refine gA Z (aH (by first|exact .inr Z|exact .inl Z) Z (.of_eq ?_));rfl
end
end Go.Proofs.YtlmhfgbkchnfbaaGreatDoor
namespace Go.Proofs.YtlmhfgbkchnfbaaGreatDoor
open Go Go.Al Go.Proofs.Tryz Go.Bo Go.ChangeShapes Go.WideShapes Go.RowKit
section
theorem T2{H:Type}{p:Prog}{d:DataW H}(h:VF p d)(hb:bk d<=1048576):p.ts<=800000000:=by
 have:=h.1.2;omega
section
variable {H:Type} {enc:TypeId×Value->H} {W:World} {hT:lK W} {sp:Nat->Bool} {held:Bool}
theorem Iy(n:Nat):Rd enc prog W hT sp held 50 (fun l:List Bool=> [aW 1 l ug]) (QL (fun _ _=>True)) n:=
 (fR (hT:=hT) underlying50 Kh (by decide) (fun _=>rfl) (EL n)).mono (Yh n)
end
theorem He{H:Type}{enc:TypeId×Value->H}{W:World}(hT:lK W){v:Value}{d:DataW H}{p:List MemPlace}(j: ∃base,Value.okWide prog W .any base 50 v)(h:DataW.Trod enc prog W 0 (fun _=>jp) jp 50 v d p):
  ∃x:List Bool,QL (fun _ _=>True) x d∧VR (Mem.qN W hT) S6 (· <0) (.iv (aW 1 x ug)) v:=by
 obtain⟨base,j⟩:=j;obtain⟨a,len,a0,rfl⟩:=okWide_slice underlying50 j;obtain⟨n,y⟩:=h;obtain⟨r,h1,u⟩:=Iy (hT:=hT) n n (WY _) _ _ y;exact⟨r,u,Hs h1⟩
end
end Go.Proofs.YtlmhfgbkchnfbaaGreatDoor
namespace Go.Proofs.YtlmhfgbkchnfbaaGreatDoor
open Go Go.Al Go.Proofs.Tryz Go.ChangeShapes Go.WideShapes Go.RowKit
theorem iQ:prog.closure 4=[4,6,7,17,30,37,65,66,98,97,127,173,214,174,121,168,207,242,259,208,114,128,175,123,120,92,122,169,209,170,171,210,153,243,260,267,268,269,270,147,273,274,271,272,275,276,277,278,261,94,125,176,172,211,244,212,245,246,263,262,264,213,124,177,192,215,247,178,216,221,179,181,182,180,217,183,184,185,186,218,248,219,135,194,220,187,222,249,223,225,250,224,226,188,189,227,251,252,130,193,228,253,190,96,67,99,100,129,108,146,191,229,235,257,230,254,231,196,197,232,255,256,265,233,234,236,237,101,68,102,131,132,133,103,134,104,136,62,69,70,95,105,126,137,61,91,93,34,31,32,63,33,35,64,36,18,38,71,106,11,23,44,76,24,25,45,77,115,112,151,202,152,78,80,79,46,81,47,82,116,154,155,203,156,157,204,205,240,158,159,160,161,83,73,110,148,200,111,149,150,201,239,109,26,41,74,43,42,75,113,21,9,20,14,27,48,28,49,50,84,85,87,51,86,52,53,54,55,56,57,88,117,162,89,58,59,90,118,163,164,206,138,241,258,266,167,166,165,119,8,19,39,40,72,107,139,195,140,141,198,199,238,142,143,144,145,15,29,60,10,22,12]:=by kernel_rfl
theorem rb:joinedFacts prog 4 f4 (Rows.OpenSpec.upto Rows.journalPacksSpec).bare Rows.journalPacksUptoRow=jp:=by
 have h1:prog.inPlace 4=Rows.journalPacksUptoRow.inPlace:=by unfold Program.inPlace;rw[iQ];kernel_rfl
 have j:prog.unfollowed 4=jp:=by unfold Program.unfollowed;rw[iQ];kernel_rfl
 have u:prog.varsNamed 4=Rows.journalPacksUptoRow.named:=by unfold Program.varsNamed;rw[iQ];kernel_rfl
 have x:prog.recurses 4=jp:=by unfold Program.recurses;rw[j];rfl
 unfold joinedFacts;rw[h1,j,u,x];show(_:Bool)=jp
 kernel_rfl
end Go.Proofs.YtlmhfgbkchnfbaaGreatDoor
