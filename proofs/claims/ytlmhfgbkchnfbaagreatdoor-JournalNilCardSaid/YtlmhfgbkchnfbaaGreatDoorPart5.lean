/-
  What the proofs of the claims need: part 5 of 5.
-/
import Derived.Test.YtlmhfgbkchnfbaaGreatDoorPart4
open And renaming intro→Vo
open Bool renaming and_eq_true→Wf,and_false→XV,eq_iff_iff→WR,false_and→Xj,false_eq_true→Xe,not_eq_false'→Xf,true_and→X4
open ByteArray renaming empty→Vx
open Classical renaming byContradiction→WV
open Int renaming fdiv_eq_ediv_of_nonneg→WL,le_refl→XL,ofNat_lt→YE,toNat→XP,toNat_natCast→Vu,toNat_of_nonneg→XG
open List.Nodup renaming length_le_of_subset→WK
open List.Pairwise renaming imp→Yw,nil→XB
open List renaming all_eq_true→Wc,any_eq_true→WN,append_assoc→VF,append_nil→We,cons_append→VT,drop_eq_getElem_cons→Xc,drop_of_length_le→WW,drop_zero→Yh,eq_nil_of_length_eq_zero→V9,ext_getElem→XX,flatMap_cons→Wt,flatMap_nil→YB,getD→Yz,getD_eq_getElem?_getD→Vr,getElem?_append_right→VK,getElem?_drop→Wl,getElem?_eq_getElem→Vt,getElem?_eq_some_iff→Vs,getElem?_map→Vv,getElem?_of_mem→Wh,getElem?_set→Xd,getElem?_take→V8,getElem_map→Xb,getElem_mem→Wj,length→XS,length_append→Vp,length_cons→VX,length_drop→Wu,length_eq_zero_iff→WT,length_filter_le→WO,length_map→VS,length_nil→WH,length_singleton→VW,length_take→V7,map_append→VD,map_congr_left→WE,map_cons→Vy,map_map→Wx,map_nil→VQ,mem_append→VM,mem_append_right→WY,mem_cons→VH,mem_cons_of_mem→VE,mem_cons_self→VG,mem_filter→V4,mem_map→V5,mem_of_getElem?→V2,mem_of_mem_drop→YR,mem_of_mem_take→W7,mem_singleton→Vz,mem_singleton_self→Xt,nil_append→VU,nodup_append→W3,nodup_cons→Wb,nodup_nil→Wn,pairwise_append→Xq,pairwise_iff_getElem→WI,pairwise_singleton→XK,perm_ext_iff_of_nodup→W6,range→V0,singleton_append→Yi,size_toArray→XC,sum_cons→WU,take_left'→Y9,take_length→WG,take_of_length_le→VI,take_succ_cons→WM,take_zero→Ye
open Nat renaming add_assoc→WB,add_mul→Wg,beq→VP,ble→Xr,ble_eq_true_of_le→Wo,blt→VV,div_lt_iff_lt_mul→YK,le_of_ble_eq_true→Vm,le_of_not_lt→W9,le_refl→VA,le_succ→Xx,le_trans→Wr,lt_of_lt_of_le→W4,lt_or_ge→Wp,lt_succ_iff_lt_or_eq→Xo,lt_trichotomy→XA,mod_eq_of_lt→XH,mul_assoc→YV,mul_comm→Yd,mul_le_mul_right→VO,not_lt_zero→Xl,pow_le_pow_right→YQ,pow_succ→Yg,sub_self→Ya,zero_add→VL,zero_le→VB
open Option.some renaming inj→Wq
open Prod renaming fst→Wy
set_option maxRecDepth 100000
open Bool renaming false→jp,true→is
open Decidable renaming decide→kw
open Inhabited renaming default→ci
open Option renaming none→io,some→co
open Array renaming getD_eq_getD_getElem?→Vn
open Option.some renaming injEq→Vq
open Array renaming range→Yu
open Array renaming getElem?_map→X6
open Option renaming map_some→Ww
open Option renaming getD_some→Wv
open Array renaming getElem?_eq_getElem→V6
open Array renaming append_assoc→X7
open Array renaming getElem?_append_left→V3
open Nat renaming sub_mul→YM
open Array renaming getElem?_append_right→Xi
open Array renaming getElem?_toList→VY
open List renaming getElem?_toArray→Wd
open List renaming getElem?_append_left→VJ
namespace Go.Proofs.YtlmhfgbkchnfbaaGreatDoor
open Go Go.Al Go.Proofs.Tryz Go.Tj
def pP(e:Option aq)(i:Nat)(l:List aq):PV:=match e,l with
 |some _,[]=> .sl i 1 0 1
 |_,l=> .sl i 0 l.length 1
def pQ(e:Option aq)(l:List aq):AO:=match e,l with
 |some y,[]=> .row 1 [[pS y]]
 |_,l=>aV 1 l c9
theorem lI(σ:Nat->Nat)(e:Option aq)(i:Nat)(l:List aq):(pP e i l).bY σ=pP e (σ i) l:=by cases e<;>cases l<;>rfl
theorem lJ(σ:Nat->Nat)(e:Option aq)(l:List aq):(pQ e l).bY σ=pQ e l:=by
 cases e<;>cases l<;>first|rfl|exact b3 σ
theorem zY{n i:Nat}(h:VV i n=is)(e:Option aq)(l:List aq):(pP e i l).low n=is:=by cases e<;>cases l<;>exact h
theorem z7(n:Nat)(e:Option aq)(l:List aq):(pQ e l).low n:=by
 cases e with
 |none=>exact eC n
 |some y=>
  cases l with
  |nil=>
   intro k e j;cases k with
   |zero=>cases j;rfl
   |succ k=>cases j
  |cons=>exact eC n
theorem zX{e:Option aq}{i:Nat}{l:List aq}(h:e=io∨l≠ []):pP e i l= .sl i 0 l.length 1:=by
 cases e with
 |none=>rfl
 |some y=>cases l with
  |nil=>exact absurd Z (h.resolve_left (by simp))
  |cons=>rfl
theorem zZ{e:Option aq}{l:List aq}(h:e=io∨l≠ []):pQ e l=aV 1 l c9:=by
 cases e with
 |none=>rfl
 |some y=>cases l with
  |nil=>exact absurd Z (h.resolve_left (by simp))
  |cons=>rfl
structure TW where
 low:NM
 on:NM
 ring:NM
 stack:List aq
 tD:Option aq
def TW.st(w:TW):St aq:=⟨fun a=>dQ .str w.low a 0,fun a=>dQ .str w.on a 0,fun a=>dQ .str w.ring a 0,w.low.length,w.stack⟩
structure TW.Ok (V:List aq) (w:TW):Prop where
 nz: ∀a∈w.low.map Wy,dQ .str w.low a 0≠0
 nd:(w.low.map Wy).Nodup
 sub: ∀a∈w.low.map Wy,a∈V
abbrev zx:PV:= .cm (.func 99) [] [.ptr 0 0,.ptr 1 0,.ptr 2 0,.ptr 3 0,.ptr 4 0,.ptr 5 0]
abbrev tO(G:IV)(w:TW):List AO:=[.cells [.mp 6],.cells [.mp 7],.cells [pP w.tD 9 w.stack],.cells [.iv G],.cells [zx],.cells [.mp 8],cS w.low,cS w.on,cS w.ring,pQ w.tD w.stack]
abbrev tH(G:IV)(w:TW)(k:Nat):AH:=[(0,co (.cells [.mp 6])),(1,co (.cells [.mp 7])),(2,co (.cells [pP w.tD k w.stack])),(3,co (.cells [.iv G])),(4,co (.cells [zx])),(5,co (.cells [.mp 8])),
 (6,co (cS w.low)),(7,co (cS w.on)),(8,co (cS w.ring)),(k,co (pQ w.tD w.stack))]
theorem uk{n k:Nat}{σ:Nat->Nat}{h:AH}{G:IV}{w:TW}{C:PV}{y A B:NM}{o:AO}(b:Xr 9 n=is)(bk:VV k n=is)(hs: ∀i,i<9->σ i=i)
  (g0:h.get 0=co (.cells [.mp 6])) (g1:h.get 1=co (.cells [.mp 7])) (g2:h.get 2=co (.cells [C])) (g3:h.get 3=co (.cells [.iv G])) (g4:h.get 4=co (.cells [zx])) (g5:h.get 5=co (.cells [.mp 8]))
  (g6:h.get 6=co (cS y)) (g7:h.get 7=co (cS A)) (g8:h.get 8=co (cS B)) (g9:h.get (σ k)=co o)
  (D:C=pP w.tD (σ k) w.stack) (I:y=w.low) (J:A=w.on) (Y:B=w.ring) (e9:eJ o (pQ w.tD w.stack)):oC n σ h (tH G w k):=by
 have b9:=Vm b;have bk:=Vm bk;have hb: ∀i,i<9->VV i n=is:=fun i j=>Wo (by omega);subst D I J Y;have r: ∀i,i<9->PV.mp (σ i)=PV.mp i:=fun i j=>by rw[hs i j]
 have u: ∀i,i<9->PV.ptr (σ i) 0=PV.ptr i 0:=fun i j=>by rw[hs i j]
 have x: ∀i,i<9->bp n [PV.mp i]=is:=fun i j=>by simp only[bp,PV.low,hb i j]
 refine⟨⟨_,by rw[hs 0 (by omega)];exact g0,.of_eq (by simp only[AO.bY,c7,PV.bY,r 6 (by omega)])⟩,by omega,x 6 (by omega),
  ⟨_,by rw[hs 1 (by omega)];exact g1,.of_eq (by simp only[AO.bY,c7,PV.bY,r 7 (by omega)])⟩,by omega,x 7 (by omega),
  ⟨_,by rw[hs 2 (by omega)];exact g2,.of_eq (by simp only[AO.bY,c7,lI])⟩,by omega,by simp only[AO.low,bp,zY (Wo bk)],
  ⟨_,by rw[hs 3 (by omega)];exact g3,.of_eq Z⟩,by omega,rfl,
  ⟨_,by rw[hs 4 (by omega)];exact g4,.of_eq (by simp only[AO.bY,c7,PV.bY,u 0 (by omega),u 1 (by omega),u 2 (by omega),u 3 (by omega),u 4 (by omega),u 5 (by omega)])⟩,by omega,by simp only[AO.low,bp,PV.low,hb 0 (by omega),hb 1 (by omega),hb 2 (by omega),hb 3 (by omega),hb 4 (by omega),hb 5 (by omega)],
  ⟨_,by rw[hs 5 (by omega)];exact g5,.of_eq (by simp only[AO.bY,c7,PV.bY,r 8 (by omega)])⟩,by omega,x 8 (by omega),
  ⟨_,by rw[hs 6 (by omega)];exact g6,.of_eq Z⟩,by omega,ac,
  ⟨_,by rw[hs 7 (by omega)];exact g7,.of_eq Z⟩,by omega,ac,
  ⟨_,by rw[hs 8 (by omega)];exact g8,.of_eq Z⟩,by omega,ac,
  ⟨_,g9,by rw[lJ];exact e9⟩,bk,z7 _ _ _,ac⟩
theorem yp(m:NM)(b:aq)(v:Int):(fun x=>dQ .str (cJ .str m b v) x 0)=yi (fun x=>dQ .str m x 0) b v:=by
 funext x
 rw[lW,yi];by_cases h:b=x
 .rw[am h,am h.symm]
 .rw[be h,be fun e=>h e.symm]
def TW.push(w:TW)(a:aq):TW:=⟨cJ .str w.low a ((w.low.length:Int)+1),cJ .str w.on a 1,w.ring,w.stack++ [a],io⟩
theorem TW.key{V:List aq}{w:TW}(h:w.Ok V){a:aq}(h0:w.st.low a=0):a∉w.low.map Wy:=fun g=>h.nz a g h0
theorem sV{m:NM}{a:aq}{v:Int}(h:a∉m.map Wy):(cJ .str m a v).length=m.length+1:=by
 have:=congrArg XS (dV (v:=v) h);simpa using this
theorem TW.LU{V:List aq}{w:TW}(h:w.Ok V){a:aq}(h0:w.st.low a=0):(w.push a).st=Go.Tj.push w.st a:=
 St.eq (yp _ _ _) (yp _ _ _) Z (sV (TW.key h h0)) Z
theorem TW.LV{V:List aq}{w:TW}(h:w.Ok V){a:aq}(h0:w.st.low a=0)(ha:a∈V):(w.push a).Ok V:=by
 have hk:=TW.key h h0;refine⟨fun x j=>?_,?_,fun x j=>?_⟩
 .show dQ .str (cJ .str w.low a _) x 0≠0;rw[lW];split
  .omega
  .rename_i y;have j:x∈(cJ .str w.low a ((w.low.length:Int)+1)).map Wy:=j;rw[dV hk,VM,Vz]at j;exact h.nz x (j.resolve_right fun e=>y e.symm)
 .show((cJ .str w.low a _).map Wy).Nodup;rw[dV hk,W3];exact⟨h.nd,by simp,fun u hu v A e=>hk (by rw[Vz]at A;subst e;subst A;exact hu)⟩
 .have j:x∈(cJ .str w.low a ((w.low.length:Int)+1)).map Wy:=j;rw[dV hk,VM,Vz]at j;rcases j with j|rfl
  .exact h.sub x j
  .exact ha
theorem TW.len{V:List aq}{w:TW}(h:w.Ok V):w.low.length<=V.length:=by
 have:=WK h.nd (l₂:=V) h.sub;simpa using this
theorem TW.wV{V:List aq}{w:TW}(h:w.Ok V){succ:aq->List aq}{path:List aq}(hI:Inv succ path w.st):w.stack.length<=V.length:=by
 refine WK (l₂:=V) ?_ fun y B=>?_
 .refine Yw ?_ hI.BY;intro x y A e;subst e;omega
 .have h1:=(hI.wV y).2 B;have j:w.st.low y≠0:=uV hI h1;refine h.sub y (WV fun u=>j (CF u))
def TW.pop(w:TW)(u:List aq)(b:aq)(j:Int):TW:=⟨w.low,cJ .str w.on b 2,cJ .str w.ring b j,u,co b⟩
theorem TW.HA{w:TW}{u:List aq}{b:aq}(h:w.stack=u++ [b])(j:Int):(w.pop u b j).st=yF j w.st:=by
 have h1:w.st.stack.getLast? =co b:=by show w.stack.getLast? =_;rw[h];simp
 have x:w.st.stack.dropLast=u:=by show w.stack.dropLast=_;rw[h];simp
 unfold yF;rw[h1];exact St.eq Z (yp _ _ _) (yp _ _ _) Z x.symm
theorem TW.Qy{V:List aq}{w:TW}(h:w.Ok V)(u:List aq)(b:aq)(j:Int):(w.pop u b j).Ok V:=⟨h.nz,h.nd,h.sub⟩
theorem SI(hS:fx){p:Prog}(hf:eM p)(hl:(cU p).length<=100000000)(a:aq):Pure prog 100 [.iv (A1 (jM (cU p) a))] (.iv (strs (bq p a))):=by
 rw[<-zR hf];exact G3 hS _ (Wr (Hm _ _) hl)
abbrev RR(a:aq):List PV:=[pS a,.ptr 0 0,.ptr 1 0,.ptr 2 0,.ptr 3 0,.ptr 4 0,.ptr 5 0]
abbrev vF(a:aq):AF:=[(0,pS a),(1,.ptr 0 0),(2,.ptr 1 0),(3,.ptr 2 0),(4,.ptr 3 0),(5,.ptr 4 0),(6,.ptr 5 0)]
def Ru(p:Prog)(f:Nat):Prop:= ∀(path:List aq) (a:aq) (w:TW),w.Ok (ns p)->Inv (bq p) path w.st->w.st.low a=0->a∈ns p->(∀g∈path,nF (bq p) g a)->j3 (ns p) w.st<=f->
 Go.Al.Fn prog 99 (RR a) (tO (xH (ck p (cU p))) w) fun r h n=> ∃j:TW,j.Ok (ns p)∧j.st=(ep (bq p) f a w.st).2∧r=pI (ep (bq p) f a w.st).1∧h=tH (xH (ck p (cU p))) j 10∧n=11
theorem Ij(p:Prog)(hs:List (aq×aq×Nat)){a:aq}(h:a∈p.aD.map Decl.name):(Fu (dQ .str (ck p hs) a io)).pv= .iv (A1 (jM hs a)):=by rw[Ik p hs h];rfl
theorem PR(G:IV)(w:TW){n:Nat}:[co (AO.cells [PV.mp 6]),co (.cells [.mp 7]),co (.cells [pP w.tD 11 w.stack]),co (.cells [.iv G]),co (.cells [zx]),co (.cells [.mp 8]),co (cS w.low),co (cS w.on),co (cS w.ring),co (pQ w.tD w.stack)]=
  (tO G w).map fun o=>co (o.bY (sig [0,1,2,3,4,5,6,7,8,11] n)):=by
 have h1:=lI (sig [0,1,2,3,4,5,6,7,8,11] n) w.tD 9 w.stack;have j:=lJ (sig [0,1,2,3,4,5,6,7,8,11] n) w.tD w.stack;show _=[co (AO.cells [PV.mp 6]),co (.cells [.mp 7]),co (.cells [(pP w.tD 9 w.stack).bY (sig [0,1,2,3,4,5,6,7,8,11] n)]),co (.cells [.iv G]),co (.cells [zx]),co (.cells [.mp 8]),co (cS w.low),co (cS w.on),co (cS w.ring),co ((pQ w.tD w.stack).bY (sig [0,1,2,3,4,5,6,7,8,11] n))]
 rw[h1,j];rfl
theorem GP(u:List aq)(b:aq):((u++ [b]).map fun x=>(c9 x).map PV.iv)[0+((((u.length+1:Nat):Int)-1).toNat)]? =co [pS b]:=by
 rw[VL,show(((u.length+1:Nat):Int)-1).toNat=u.length by omega];simp[c9]
theorem GQ(i:Nat)(u:List aq)(b:aq):(u.length=0∧pP (co b) i u= .sl i 1 0 1)∨(0<u.length∧pP (co b) i u= .sl i 0 u.length 1):=by
 cases u with
 |nil=>exact .inl ⟨rfl,rfl⟩
 |cons x r=>exact .inr ⟨by simp,rfl⟩
theorem z6(u:List aq)(b:aq):eJ (aV 1 (u++ [b]) c9) (pQ (co b) u):=by
 cases u with
 |nil=>exact .of_eq Z
 |cons x r=>
  have e:pQ (co b) (x::r)= .row 1 (((x::r++ [b]).map fun y=>(c9 y).map PV.iv).take (x::r).length):=by
   rw[<-List.map_take,List.take_left];rfl
  rw[e];exact .take
theorem tK{p:Prog}: ∀a∈ns p,∀b∈bq p a,b∈ns p:=fun _ _ _ h=>(V4.1 h).1
theorem HK{p:Prog}(hf:eM p):(ns p).length<=64:=by
 have:=hf.len;rw[ns,jW,VS];exact this
theorem Gs(hS:fx){p:Prog}(hf:eM p)(hl:(cU p).length<=100000000)(f:Nat)(ih:Ru p f):Ru p (f+1):=by
 intro path a w hok hI h0 Y hp hw;have i0:=HK hf;have e1:=kM hI.nn Y h0;have m1:=TW.len hok;have p1:=TW.wV hok hI;have q0:a∈p.aD.map Decl.name:=by rw[ns,lS]at Y;exact Y
 have D:=TW.LU hok h0;have t0:=TW.LV hok h0 Y;have o1:=WO (eg p a) (ns p);refine kv ab func99 Z (by decide) ntmps99 Z (by simp) ?_;refine go_cut 6 (fun _:Unit=>⟨(9,pI ((w.low.length:Int)+1))::(10,pI ((w.low.length:Int)+1))::vF a,tH (xH (ck p (cU p))) (w.push a) 10,11⟩) Z ?_ ?_
 .have o0:dQ .str (cJ .str w.low a ((w.low.length:Int)+1)) a 0=(w.low.length:Int)+1:=by rw[lW,am Z]
  by_cases hu:w.tD=io∨w.stack≠ []
  .rw[show tO (xH (ck p (cU p))) w=[.cells [.mp 6],.cells [.mp 7],.cells [.sl 9 0 w.stack.length 1],.cells [.iv (xH (ck p (cU p)))],.cells [zx],.cells [.mp 8],cS w.low,cS w.on,cS w.ring,aV 1 w.stack c9] by
    unfold tO;rw[zX hu,zZ hu]]
   refine gA Z (y7 () [11] ?_);exact wk Z Z Z ⟨.of_eq (congrArg pI o0),rfl,.of_eq (congrArg pI o0),rfl,bi (bi (bi (bi (bi (bi (bi ac))))))⟩
    (uk (w:=w.push a) Z Z (fun i hi=>gm (by show i<10;omega)) Z Z Z Z Z Z Z Z Z Z (by show _=PV.sl 11 0 (w.stack++ [a]).length 1;rw[Vp];rfl) Z Z Z (.of_eq (by show _=aV 1 (w.stack++ [a]) c9;rw[aV,VD];rfl))) Z
  .obtain⟨y,hy,v0⟩: ∃y,w.tD=co y∧w.stack=[]:=by
    cases hg:w.tD with
    |none=>exact absurd (.inl hg) hu
    |some y=>exact⟨y,rfl,WV fun h=>hu (.inr h)⟩
   rw[show tO (xH (ck p (cU p))) w=[.cells [.mp 6],.cells [.mp 7],.cells [.sl 9 1 0 1],.cells [.iv (xH (ck p (cU p)))],.cells [zx],.cells [.mp 8],cS w.low,cS w.on,cS w.ring,.row 1 [[pS y]]] by
    unfold tO;rw[hy,v0];rfl]
   refine gA Z (y0 ab Z Z Z Z Z Z Z Z Z (by simp) (by simp) (fW Z) Z ?_);refine gA Z (y7 () [11] ?_);exact wk Z Z Z ⟨.of_eq (congrArg pI o0),rfl,.of_eq (congrArg pI o0),rfl,bi (bi (bi (bi (bi (bi (bi ac))))))⟩
    (uk (w:=w.push a) Z Z (fun i hi=>gm (by show i<10;omega)) Z Z Z Z Z Z Z Z Z Z (by show _=PV.sl 11 0 (w.stack++ [a]).length 1;rw[v0];rfl) Z Z Z (.of_eq (by show _=aV 1 (w.stack++ [a]) c9;rw[v0];rfl))) Z
 intro _;have hi:=AD hI h0 hp;rw[<-D]at e1 hi;have hm:((w.push a).low.length:Int)=(w.low.length:Int)+1:=by
  have:=sV (v:=(w.low.length:Int)+1) (TW.key hok h0);show(((cJ .str w.low a _).length:Nat):Int)=_;rw[this];omega
 have la:(w.push a).st.low a=(w.st.n:Int)+1:=by rw[D];exact j4 _ _ _
 have oa:(w.push a).st.on a=1:=by rw[D];exact j4 _ _ _
 have g1:fy (bq p) path a w.st [] ((w.st.n:Int)+1,Go.Tj.push w.st a) []:=
  ⟨D▸hi,.refl _,rfl,fun y hy=>(nomatch hy),XL _,fun y hy=>(nomatch hy),fun z hz=>(nomatch hz),fun z hz=>(nomatch hz),⟨a,D▸oa,D▸la,.refl _⟩⟩
 have k0:=fun pa b s=>pG (succ:=bq p) tK f pa b s
 let I:Nat->Int×St aq:=fun i=>((bq p a).take i).foldl (Go.Tj.sN (ep (bq p) f)) ((w.st.n:Int)+1,Go.Tj.push w.st a)
 have g0: ∀i,∃t,fy (bq p) path a w.st ((bq p a).take i) (I i) t:=fun i=>by
  have:=sb tK k0 hI h0 Y (by rw[<-D];omega) ((bq p a).take i) [] _ [] g1 fun b hb=>W7 hb;rwa[VU]at this
 refine gM 5 Z (Mq ab (.iv (A1 (jM (cU p) a))) Z Z Z Z (Ij p _ q0) Z ?_);refine gA Z (zp (SI hS hf hl a) ?_);refine gA Z ?_;refine kY 0 (bq p a).length (VB _) (fun i B=>⟨(9,pI ((w.low.length:Int)+1))::(10,pI (I i).1)::(32,.iv (strs (bq p a)))::(33,pI (bq p a).length)::(34,pI i)::vF a,tH (xH (ck p (cU p))) B 11,12⟩)
  (fun i B=>B.Ok (ns p)∧B.st=(I i).2) (w.push a) [10] ⟨t0,D⟩
  (wk Z Z Z (bi (bi (bi (bi (bi (bi (bi (bi (bi (bi (bi (bi trivial))))))))))))
   (uk Z Z (fun i hi=>gm (by show i<11;omega)) Z Z Z Z Z Z Z Z Z Z Z Z Z Z (.refl _)) Z) fun i B s1 hJ=>?_
 obtain⟨C,A⟩:=hJ;obtain⟨t2,x⟩:=g0 i;have n1:(bq p a).length<=64:=Wr o1 i0;refine zJ Z Z (fun h1=>?_) fun h1=>?_
 .have h1:i<(bq p a).length:=by simpa using h1
  have d0:I (i+1)=Go.Tj.sN (ep (bq p) f) (I i) ((bq p a).getD i ci):=ie h1;have hb:((bq p a).getD i ci)∈bq p a:=l0 h1;have j:Go.Tj.sN (ep (bq p) f) (I i) ((bq p a).getD i ci)=if B.st.low ((bq p a).getD i ci)=0 then(min (I i).1 (ep (bq p) f ((bq p a).getD i ci) B.st).1,(ep (bq p) f ((bq p a).getD i ci) B.st).2)
    else if B.st.on ((bq p a).getD i ci)=1 then(min (I i).1 (B.st.low ((bq p a).getD i ci)),B.st) else(I i):=by rw[A];rfl
  refine zJ Z Z (fun h2=>?_) fun h2=>?_
  .have h2:B.st.low ((bq p a).getD i ci)=0:=zT h2;rw[am h2]at j;have b0: ∀g∈path++ [a],nF (bq p) g ((bq p a).getD i ci):=by
    intro g hg;have G:(I i).2.on a=1:=(x.inv.wV a).2 (by rw[x.stack];simp);refine .step (x.inv.dn g hg a G ?_) hb;rcases VM.1 hg with e|e
    .have:=x.pa hI h0 g e;omega
    .rw[Vz]at e;rw[e];exact XL _
   have r1:j3 (ns p) B.st<=f:=by
    have:=wK (V:=ns p) x.le;rw[A];rw[D]at e1;omega
   refine gA Z (nr [0,1,2,3,4,5,6,7,8,11] (ih (path++ [a]) ((bq p a).getD i ci) B C (A▸x.inv) h2 (tK a Y ((bq p a).getD i ci) hb) b0 r1) Z Z Z Z Z (PR _ _) Z ?_);rintro r h' n' ⟨w3,hok3,hst3,rfl,rfl,rfl⟩;refine⟨_,rfl,?_⟩;refine gA Z ⟨h1,w3,[12],⟨hok3,by rw[d0,j];exact hst3⟩,zM (bi ⟨.of_eq (by rw[d0,j];rfl),rfl,bi (bi (bi (bi (bi (bi (bi (bi (bi (bi ac)))))))))⟩) (uk Z Z (fun i hi=>gm (by show i<11;omega)) Z Z Z Z Z Z Z Z Z Z (lI _ _ _ _) Z Z Z (.of_eq (lJ _ _ _)))⟩
  .have h2: ¬B.st.low ((bq p a).getD i ci)=0:=zF h2;rw[be h2]at j;refine zJ Z Z (fun h3=>?_) fun h3=>?_
   .have h3:B.st.on ((bq p a).getD i ci)=1:=zT h3;rw[am h3]at j;refine gA Z ⟨h1,B,[11],⟨C,by rw[d0,j]⟩,zM (bi ⟨.of_eq (by rw[d0,j];rfl),rfl,bi (bi (bi (bi (bi (bi (bi (bi (bi (bi ac)))))))))⟩) (uk Z Z (fun i hi=>gm (by show i<11;omega)) Z Z Z Z Z Z Z Z Z Z Z Z Z Z (.refl _))⟩
   .have h3: ¬B.st.on ((bq p a).getD i ci)=1:=zF h3;rw[be h3]at j;refine gA Z ⟨h1,B,[11],⟨C,by rw[d0,j];exact A⟩,zM (bi ⟨.of_eq (by rw[d0,j];rfl),rfl,bi (bi (bi (bi (bi (bi (bi (bi (bi (bi ac)))))))))⟩) (uk Z Z (fun i hi=>gm (by show i<11;omega)) Z Z Z Z Z Z Z Z Z Z Z Z Z Z (.refl _))⟩
 .have h1:(bq p a).length<=i:=by simpa using h1
  have j1:i=(bq p a).length:=by omega
  subst j1;have n0:ep (bq p) (f+1) a w.st=tJ a ((w.st.n:Int)+1) (I (bq p a).length):=by
   show tJ a _ ((bq p a).foldl _ _)=tJ a _ (((bq p a).take (bq p a).length).foldl _ _);rw[WG]
  have a0: ∀(w':TW) (k:Nat) (u:AS) (e:Exit),e= .normal∨e= .ret->10<=k->k<u.nx->iL pJ u f99.results.toList=co (pI (I (bq p a).length).1)->w'.Ok (ns p)->w'.st=(tJ a ((w.st.n:Int)+1) (I (bq p a).length)).2->
    oC 11 (sg 10 [k]) u.h (tH (xH (ck p (cU p))) w' 10)->Nh pJ f99.results.toList 10 (fun r h n=> ∃w':TW,w'.Ok (ns p)∧w'.st=(ep (bq p) (f+1) a w.st).2∧r=pI (ep (bq p) (f+1) a w.st).1∧h=tH (xH (ck p (cU p))) w' 10∧n=11) e u:=by
   intro w' k u e he hk k1 hr s0 w0 hh;refine db [k] he hr ⟨w',s0,by rw[n0];exact w0,rfl,rfl,rfl⟩ ⟨rfl,by show 10<=u.nx;omega,by simpa using k1,⟨.of_eq ?_,rfl,ac⟩,hh,?_⟩
   .show pI (I (bq p a).length).1=pI (ep (bq p) (f+1) a w.st).1;rw[n0];unfold tJ;split<;>rfl
   .show[0,1,2,3,4,5,6,7,8,k].Nodup;simp;omega
  generalize I (bq p a).length=q at*
  refine zE Z Z (fun h4=>?_) fun h4=>?_
  .have h4: ¬q.1=(w.st.n:Int)+1:=zF h4;refine gA Z (a0 B 11 _ _ (.inr Z) (by omega) (by show 11<12;omega) Z C (by rw[tJ,be h4];exact A) ?_);exact uk Z Z (fun i hi=>gm (by omega)) Z Z Z Z Z Z Z Z Z Z Z Z Z Z (.refl _)
  have h4:q.1=(w.st.n:Int)+1:=zT h4;have hE:(tJ a ((w.st.n:Int)+1) q).2=fL a ((w.st.n:Int)+1) q.2.stack.length q.2:=by rw[tJ,am h4]
  have G:q.2.on a=1:=(x.inv.wV a).2 (by rw[x.stack];simp);have hF:fL a ((w.st.n:Int)+1) (t2.length+1) q.2=(tJ a ((w.st.n:Int)+1) q).2:=by
   rw[hE,rZ (by omega) x.stack x.at_ G,rZ (by rw[x.stack];simp;omega) x.stack x.at_ G]
  generalize(tJ a ((w.st.n:Int)+1) q).2=F at hF a0;refine gA Z ?_;refine ic (σ:={v:TW//v.Ok (ns p)∧((∃t,v.stack=w.stack++a::t∧a∉t∧v.stack.length<=64∧v.st.on a=1∧fL a ((w.st.n:Int)+1) (t.length+1) v.st=F)∨(v.st.on a≠1∧v.st=F))})
   (fun v=>⟨(9,pI ((w.low.length:Int)+1))::(10,pI q.1)::vF a,tH (xH (ck p (cU p))) v.1 12,13⟩) (fun v=>v.1.stack.length) ⟨B,C,.inl ⟨t2,by rw[show B.stack=B.st.stack from rfl,A];exact x.stack,x.at_,Wr (TW.wV C (A▸x.inv)) i0,by rw[A];exact G,by rw[A];exact hF⟩⟩ [11]
   (zW (uk Z Z (fun i hi=>gm (by show i<12;omega)) Z Z Z Z Z Z Z Z Z Z Z Z Z Z (.refl _))) fun v=>?_
  obtain⟨v,j0,hJ⟩:=v;rcases hJ with⟨t,hs,a1,m0,c0,J⟩|⟨c0,f1⟩
  rotate_left
  .refine zJ Z Z (fun h5=>?_) fun h5=>?_
   .exact absurd (zT h5) c0
   refine gA Z (a0 v 12 _ _ (.inr Z) (by omega) (by show 12<13;omega) Z j0 f1 ?_);exact uk Z Z (fun i hi=>gm (by omega)) Z Z Z Z Z Z Z Z Z Z Z Z Z Z (.refl _)
  have key: ∃u b,v.stack=u++ [b]∧((b=a∧yF ((w.st.n:Int)+1) v.st=F)∨ ∃t',u=w.stack++a::t'∧a∉t'∧b≠a∧fL a ((w.st.n:Int)+1) (t'.length+1) (yF ((w.st.n:Int)+1) v.st)=F):=by
   rcases t.eq_nil_or_concat with e|⟨t',b,e⟩
   .subst e;refine⟨w.stack,a,hs,.inl ⟨rfl,?_⟩⟩;rw[WH,fL,am c0]at J;exact J
   .rw[List.concat_eq_append]at e;subst e;refine⟨w.stack++a::t',b,by rw[hs];simp,.inr ⟨t',rfl,fun h=>a1 (by simp[h]),fun h=>a1 (by simp[h]),?_⟩⟩;rw[fL,am c0,Vp]at J;exact J
  obtain⟨u,b,e0,f0⟩:=key;have t1:u.length+1<=64:=by rw[e0,Vp]at m0;exact m0
  have d1:v.stack≠ []:=by rw[e0];simp
  have x0:v.stack.length=u.length+1:=by rw[e0,Vp];rfl
  have q1:tH (xH (ck p (cU p))) v 12=[(0,co (.cells [.mp 6])),(1,co (.cells [.mp 7])),(2,co (.cells [.sl 12 0 (u.length+1) 1])),(3,co (.cells [.iv (xH (ck p (cU p)))])),(4,co (.cells [zx])),(5,co (.cells [.mp 8])),
    (6,co (cS v.low)),(7,co (cS v.on)),(8,co (cS v.ring)),(12,co (aV 1 (u++ [b]) c9))]:=by
   unfold tH;rw[zX (.inr d1),zZ (.inr d1),x0,e0]
  show GO prog _ _ _ ⟨_,tH (xH (ck p (cU p))) v 12,_⟩;rw[q1];refine zE Z Z (fun h5=>?_) fun h5=>?_
  .exact absurd c0 (zF h5)
  refine gM 9 Z (kn ab Z Z Z Z Z (GP u b) Z Z ?_);have z0:(v.pop u b ((w.st.n:Int)+1)).Ok (ns p)∧((∃t,(v.pop u b ((w.st.n:Int)+1)).stack=w.stack++a::t∧a∉t∧(v.pop u b ((w.st.n:Int)+1)).stack.length<=64∧(v.pop u b ((w.st.n:Int)+1)).st.on a=1∧fL a ((w.st.n:Int)+1) (t.length+1) (v.pop u b ((w.st.n:Int)+1)).st=F)∨((v.pop u b ((w.st.n:Int)+1)).st.on a≠1∧(v.pop u b ((w.st.n:Int)+1)).st=F)):=by
   refine⟨TW.Qy j0 u b _,?_⟩;rcases f0 with⟨rfl,p0⟩|⟨t',hu,r0,i1,p0⟩
   .refine .inr ⟨?_,by rw[TW.HA e0];exact p0⟩;show dQ .str (cJ .str v.on b 2) b 0≠1;rw[lW,am Z];decide
   .refine .inl ⟨t',hu,r0,by show u.length<=64;omega,?_,by rw[TW.HA e0];exact p0⟩;show dQ .str (cJ .str v.on b 2) a 0=1;rw[lW,be i1];exact c0
  have b1:(v.pop u b ((w.st.n:Int)+1)).stack.length<v.stack.length:=by show u.length<v.stack.length;omega
  rcases GQ 12 u b with hc|hc
  .refine gA Z (yZ ab u.length Z Z Z Z Z Z Z (by omega) (by omega) (by omega) (.inl ⟨hc.1,rfl⟩) Z ?_);refine gA Z ⟨⟨v.pop u b ((w.st.n:Int)+1),z0⟩,[12],b1,zW (uk Z Z (fun i hi=>gm (by show i<12;omega)) Z Z Z Z Z Z Z Z Z Z hc.2.symm Z Z Z (z6 u b))⟩
  .refine gA Z (yZ ab u.length Z Z Z Z Z Z Z (by omega) (by omega) (by omega) (.inr ⟨hc.1,rfl⟩) Z ?_);refine gA Z ⟨⟨v.pop u b ((w.st.n:Int)+1),z0⟩,[12],b1,zW (uk Z Z (fun i hi=>gm (by show i<12;omega)) Z Z Z Z Z Z Z Z Z Z hc.2.symm Z Z Z (z6 u b))⟩
theorem RQ(hS:fx){p:Prog}(hf:eM p)(hl:(cU p).length<=100000000): ∀f,Ru p f
 |0=>fun path a w hok hI u j x y=>by
  have:=kM hI.nn j u;omega
 |f+1=>Gs hS hf hl f (RQ hS hf hl f)
theorem E6(hS:fx){p:Prog}(hf:eM p)(hs:List (aq×aq×Nat)):Pure prog 101 [.iv (xH (ck p hs))] (.iv (strs (ns p))):=by
 have h:=G4 hS (ck p hs) (by have:=hf.len;simp[ck];omega);rw[show(ck p hs).map (·.1)=p.aD.map Decl.name from CV p hs]at h;exact h
abbrev LQ:PV:= .cm (.func 99) [] [.ptr 4 0,.ptr 5 0,.ptr 7 0,.ptr 0 0,.ptr 8 0,.ptr 6 0]
abbrev rH(G:IV)(w:TW)(k:Nat):AH:=[(0,co (.cells [.iv G])),(1,co (cS w.low)),(2,co (cS w.on)),(3,co (cS w.ring)),(4,co (.cells [.mp 1])),(5,co (.cells [.mp 2])),(6,co (.cells [.mp 3])),(7,co (.cells [pP w.tD k w.stack])),(8,co (.cells [LQ])),(k,co (pQ w.tD w.stack))]
theorem Pb{n k:Nat}{σ:Nat->Nat}{h:AH}{G:IV}{w:TW}{C:PV}{y A B o:AO}(b:Xr 9 n=is)(bk:VV k n=is)(hs: ∀i,i<9->σ i=i)
  (g0:h.get 0=co (.cells [.iv G])) (g1:h.get 1=co y) (g2:h.get 2=co A) (g3:h.get 3=co B)
  (g4:h.get 4=co (.cells [.mp 1])) (g5:h.get 5=co (.cells [.mp 2])) (g6:h.get 6=co (.cells [.mp 3])) (g7:h.get 7=co (.cells [C])) (g8:h.get 8=co (.cells [LQ])) (g9:h.get (σ k)=co o)
  (D:eJ y (cS w.low)) (I:eJ A (cS w.on)) (J:eJ B (cS w.ring)) (Y:C=pP w.tD (σ k) w.stack) (e9:eJ o (pQ w.tD w.stack)):oC n σ h (rH G w k):=by
 have b9:=Vm b;have bk:=Vm bk;have hb: ∀i,i<9->VV i n=is:=fun i j=>Wo (by omega);subst Y;have r: ∀i,i<9->PV.mp (σ i)=PV.mp i:=fun i j=>by rw[hs i j]
 have u: ∀i,i<9->PV.ptr (σ i) 0=PV.ptr i 0:=fun i j=>by rw[hs i j]
 have x: ∀i,i<9->bp n [PV.mp i]=is:=fun i j=>by simp only[bp,PV.low,hb i j]
 refine⟨⟨_,by rw[hs 0 (by omega)];exact g0,.of_eq Z⟩,by omega,rfl,
  ⟨_,by rw[hs 1 (by omega)];exact g1,D⟩,by omega,ac,
  ⟨_,by rw[hs 2 (by omega)];exact g2,I⟩,by omega,ac,
  ⟨_,by rw[hs 3 (by omega)];exact g3,J⟩,by omega,ac,
  ⟨_,by rw[hs 4 (by omega)];exact g4,.of_eq (by simp only[AO.bY,c7,PV.bY,r 1 (by omega)])⟩,by omega,x 1 (by omega),
  ⟨_,by rw[hs 5 (by omega)];exact g5,.of_eq (by simp only[AO.bY,c7,PV.bY,r 2 (by omega)])⟩,by omega,x 2 (by omega),
  ⟨_,by rw[hs 6 (by omega)];exact g6,.of_eq (by simp only[AO.bY,c7,PV.bY,r 3 (by omega)])⟩,by omega,x 3 (by omega),
  ⟨_,by rw[hs 7 (by omega)];exact g7,.of_eq (by simp only[AO.bY,c7,lI])⟩,by omega,by simp only[AO.low,bp,zY (Wo bk)],
  ⟨_,by rw[hs 8 (by omega)];exact g8,.of_eq (by simp only[AO.bY,c7,PV.bY,u 0 (by omega),u 4 (by omega),u 5 (by omega),u 6 (by omega),u 7 (by omega),u 8 (by omega)])⟩,by omega,by simp only[AO.low,bp,PV.low,hb 0 (by omega),hb 4 (by omega),hb 5 (by omega),hb 6 (by omega),hb 7 (by omega),hb 8 (by omega)],
  ⟨_,g9,by rw[lJ];exact e9⟩,bk,z7 _ _ _,ac⟩
theorem u7{V:Type}{kc:KC}{ev:V->IV}{z:V}{u:Value}{x:PV->V}(A: ∀M,IR M (ev z) u):eJ .fh (.map kc ev z u x []):=
 ⟨id,fun M N U w j y=>⟨#[],0,y,⟨rfl,by simp,by simp,by simp,by simp⟩,A M⟩⟩
def TW.o:TW:=⟨[],[],[],[],io⟩
theorem Qu(G:IV)(w:TW){n:Nat}:[co (AO.cells [PV.mp 1]),co (.cells [.mp 2]),co (.cells [pP w.tD 10 w.stack]),co (.cells [.iv G]),co (.cells [LQ]),co (.cells [.mp 3]),co (cS w.low),co (cS w.on),co (cS w.ring),co (pQ w.tD w.stack)]=
  (tO G w).map fun o=>co (o.bY (sig [4,5,7,0,8,6,1,2,3,10] n)):=by
 have h1:=lI (sig [4,5,7,0,8,6,1,2,3,10] n) w.tD 9 w.stack;have j:=lJ (sig [4,5,7,0,8,6,1,2,3,10] n) w.tD w.stack;show _=[co (AO.cells [PV.mp 1]),co (.cells [.mp 2]),co (.cells [(pP w.tD 9 w.stack).bY (sig [4,5,7,0,8,6,1,2,3,10] n)]),co (.cells [.iv G]),co (.cells [LQ]),co (.cells [.mp 3]),co (cS w.low),co (cS w.on),co (cS w.ring),co ((pQ w.tD w.stack).bY (sig [4,5,7,0,8,6,1,2,3,10] n))]
 rw[h1,j];rfl
theorem P8(hS:fx){p:Prog}(hf:eM p)(hl:(cU p).length<=100000000):Go.Al.Fn prog 67 [.iv (xH (ck p (cU p)))] [] fun r h n=> ∃m:NM,Go.Rg.v8 (ns p) (eg p) (fun a=>dQ .str m a 0)∧r= .iv (A1 m)∧h=[]∧n=0:=by
 have C:=HK hf;refine kv ab func67 Z (by decide) ntmps67 Z (by simp) ?_;refine gA Z (zp (E6 hS hf (cU p)) ?_);refine gA Z ?_;refine km 7 0 1 Z Z ?_
 let y:Nat->St aq:=fun i=>gT (bq p) (ns p).length ((ns p).take i) St.o
 have A: ∀i,Inv (bq p) [] (y i):=fun i=>(rW tK (VA _) ((ns p).take i) St.o (fun a h=>W7 h) (OP _)).1
 refine kY 0 (ns p).length (VB _) (fun i w=>⟨[(3,.ptr 4 0),(4,.ptr 5 0),(5,.ptr 6 0),(6,.ptr 7 0),(7,.ptr 8 0),(15,.iv (strs (ns p))),(16,pI (ns p).length),(17,pI i)],rH (xH (ck p (cU p))) w 10,11⟩)
  (fun i w=>w.Ok (ns p)∧w.st=y i) TW.o [9] ⟨⟨fun a h=>(nomatch h),Wn,fun a h=>(nomatch h)⟩,rfl⟩
  (wk Z Z Z (bi (bi (bi (bi (bi (bi (bi (bi trivial))))))))
   (Pb Z Z (fun i B=>gm (by show i<10;omega)) Z Z Z Z Z Z Z Z Z Z (u7 fT) (u7 fT) (u7 fT) Z (.of_eq Z)) Z) fun i w B I=>?_
 obtain⟨hok,x⟩:=I;refine zJ Z Z (fun h1=>?_) fun h1=>?_
 .have h1:i<(ns p).length:=by simpa using h1
  have u:y (i+1)=if(y i).low ((ns p).getD i ci)=0 then(ep (bq p) (ns p).length ((ns p).getD i ci) (y i)).2 else y i:=ie h1;refine zJ Z Z (fun j=>?_) fun j=>?_
  .have j:w.st.low ((ns p).getD i ci)=0:=zT j;rw[<-x,am j]at u;refine gA Z (nr [4,5,7,0,8,6,1,2,3,10] (RQ hS hf hl (ns p).length [] ((ns p).getD i ci) w hok (x▸A i) j (l0 h1) (fun g J=>nomatch J) (WO _ _)) Z Z Z Z Z (Qu _ _) Z ?_);rintro r h' n' ⟨w3,hok3,hst3,rfl,rfl,rfl⟩;refine⟨_,rfl,?_⟩;refine gA Z ?_
   exact⟨h1,w3,[11],⟨hok3,by rw[u];exact hst3⟩,wk Z Z Z (bi (bi (bi (bi (bi (bi (bi (bi ac))))))))
    (Pb Z Z (fun i B=>gm (by show i<10;omega)) Z Z Z Z Z Z Z Z Z Z (.refl _) (.refl _) (.refl _) (lI _ _ _ _) (.of_eq (lJ _ _ _))) Z⟩
  .have j: ¬w.st.low ((ns p).getD i ci)=0:=zF j;rw[<-x,be j]at u;refine gA Z ?_
   exact⟨h1,w,[10],⟨hok,u.symm⟩,wk Z Z Z (bi (bi (bi (bi (bi (bi (bi (bi ac))))))))
    (Pb Z Z (fun i B=>gm (by show i<10;omega)) Z Z Z Z Z Z Z Z Z Z (.refl _) (.refl _) (.refl _) Z (.refl _)) Z⟩
 .have h1:(ns p).length<=i:=by simpa using h1
  have Y:Go.Rg.v8 (ns p) (eg p) (fun a=>dQ .str w.ring a 0):=by
   have j:=Hp hf.nodup (VA (ns p).length);have D:y i=gT (bq p) (ns p).length (ns p) St.o:=by show gT _ _ ((ns p).take i) _=_;rw[VI h1]
   have G:(fun a=>dQ .str w.ring a 0)=(gT (bq p) (ns p).length (ns p) St.o).ring:=by rw[<-D,<-x];rfl
   rw[G];exact j
  refine gA Z ⟨.inr Z,_,rfl,ft.map 3 Z (.done ⟨.iv (A1 w.ring),[],0,[],⟨w.ring,Y,rfl,rfl,rfl⟩,?_⟩)⟩;exact⟨rfl,VB _,by simp,⟨.of_eq Z,rfl,ac⟩,ac,Wn⟩
end Go.Proofs.YtlmhfgbkchnfbaaGreatDoor
namespace Go.Proofs.YtlmhfgbkchnfbaaGreatDoor
open Go Go.Al Go.Proofs.Tryz
theorem Qf(l:List aq)(s:aq):Pure prog 134 [.iv (strs l),pS s] (pI (qk (fun x:aq=>kw (s=x)) l)):=by
 refine Hz (bb func134 Z (by decide)) ⟨_,_,VG⟩ fun u=>?_;simp only[maxLen]at u;refine ah ab func134 Z (by decide) ntmps134 Z (by simp) Z ?_;refine gA Z ?_
 refine aM 0 l.length (VB _) (fun i=>⟨[(0,.iv (strs l)),(1,pS s),(7,pI l.length),(8,pI i)],[],0⟩) (fun i=>(l.take i).any (fun x:aq=>kw (s=x))=jp) [] (by simp)
  (wk0 Z Z (bi (bi (bi (bi trivial)))) Z) fun i A y=>?_
 refine zJ Z Z (fun h1=>?_) fun h1=>?_
 .have h1:i<l.length:=by simpa using h1
  refine zJ Z Z (fun j=>?_) fun j=>?_
  .have j:(fun x:aq=>kw (s=x)) (l.getD i ci)=is:=j;rw[iz y h1 j];exact zU Z
  .have j:(fun x:aq=>kw (s=x)) (l.getD i ci)=jp:=j;refine gA Z ⟨h1,(cW y h1).2 j,[],wk0 Z Z (bi (bi (bi (bi ac)))) Z⟩
 .have h1:l.length<=i:=by simpa using h1
  rw[gi (any_none y h1)];exact zU Z
theorem Nb(l:List aq)(s:aq):(l.any fun x=>kw (s=x))=dR l s:=by
 rw[WR,bJ,WN];constructor
 .rintro⟨x,hx,h⟩;exact(zT h)▸hx
 .exact fun h=>⟨s,h,decide_eq_true Z⟩
theorem Fa(l:List aq)(s:aq):Pure prog 103 [.iv (strs l),pS s] (pB (dR l s)):=by
 refine ah ab func103 Z (by decide) ntmps103 Z (by simp) Z ?_;refine gA Z (zp (Qf l s) ?_);refine gA Z (zL (.of_eq ?_));exact nV (by rw[<-Nb];exact iA _ l)
def o7(m:NM)(r:aw)(l:Lit):Bool:=kw (l.kind=1)&&kw (dQ .str m l.atom.rel 0=dQ .str m r.head.rel 0)
abbrev Qq(m:NM)(r:aw):List AO:=[.cells [.iv (A1 m)],aG r.c]
abbrev LJ(m:NM)(r:aw):AH:=[(0,co (.cells [.iv (A1 m)])),(1,co (aG r.c))]
theorem Lq(m:NM)(r:aw)(l:Lit):bg prog 136 [ag l.c,.ptr 0 0,.ptr 1 0] (Qq m r) (pB (o7 m r l)) (LJ m r) 2:=by
 refine aj ab func136 Z (by decide) ntmps136 Z (by simp) ?_;refine zJ Z Z (fun h1=>?_) fun h1=>?_
 .have h1:l.kind=1:=zT h1;refine gA Z (zD [] Z (zM ⟨.of_eq (nV (by rw[o7,decide_eq_true h1,X4])),rfl,ac⟩ ((zO (zK ac)))))
 .have h1: ¬l.kind=1:=zF h1;refine gA Z (zD [] Z (zM ⟨.of_eq (nV (by rw[o7,decide_eq_false h1,Xj])),rfl,ac⟩ ((zO (zK ac)))))
abbrev Hn:PV:= .cm (.func 136) [] [.ptr 0 0,.ptr 1 0]
theorem Lo(m:NM)(r:aw)(l:List Lit):bg prog 194 [.iv (a7 30 l Lit.c),Hn] (Qq m r) (pI (qk (o7 m r) l)) (LJ m r) 2:=by
 refine qn (bb func194 Z (by decide)) ⟨_,_,VG⟩ fun u=>?_;simp only[maxLen]at u;refine aj ab func194 Z (by decide) ntmps194 Z (by simp) ?_;refine gA Z ?_
 refine aM 0 l.length (VB _) (fun i=>⟨[(0,.iv (a7 30 l Lit.c)),(1,Hn),(7,pI l.length),(8,pI i)],LJ m r,2⟩) (fun i=>(l.take i).any (o7 m r)=jp) [] (by simp)
  (zW ((zO (zK trivial)))) fun i y x=>?_
 refine zJ Z Z (fun h1=>?_) fun h1=>?_
 .have h1:i<l.length:=by simpa using h1
  refine gA Z (zq [0,1] (Lq m r (l.getD i ci)) ?_);refine zJ Z Z (fun j=>?_) fun j=>?_
  .have j:o7 m r (l.getD i ci)=is:=j;rw[iz x h1 j];refine gA Z (zD [] Z (zW ((zO (zK ac)))))
  .have j:o7 m r (l.getD i ci)=jp:=j;refine gA Z ⟨h1,(cW x h1).2 j,[],zW ((zO (zK ac)))⟩
 .have h1:l.length<=i:=by simpa using h1
  rw[gi (any_none x h1)];refine gA Z (zD [] Z (zW ((zO (zK ac)))))
theorem Lp(m:NM)(r:aw)(l:List Lit):bg prog 135 [.iv (a7 30 l Lit.c),Hn] (Qq m r) (pB (l.any (o7 m r))) (LJ m r) 2:=by
 refine aj ab func135 Z (by decide) ntmps135 Z (by simp) ?_;refine gA Z (zq [0,1] (Lo m r l) ?_);refine gA Z (zD [] Z (zM ⟨.of_eq (nV (iA _ l)),rfl,ac⟩ ((zO (zK ac)))))
theorem P7(m:NM)(r:aw):Pure prog 104 [ag r.c,.iv (A1 m)] (pB (r.body.any (o7 m r))):=by
 refine ah ab func104 Z (by decide) ntmps104 Z (by simp) Z ?_;refine gA Z (zq [1,0] (Lp m r r.body) ?_);exact zU Z
def wm(m:NM)(r:aw)(l:Lit):Bool:=kw (l.kind≠1)&&(named l).any fun t=>kw (dQ .str m t 0=dQ .str m r.head.rel 0)
def wD(m:NM)(r:aw)(t:Term):Bool:=kw (t.kind=1)&&!dR (lu r) t.var&&r.body.any (o7 m r)
def jx(m:NM)(r:aw):gl:=match r.body.find? (wm m r) with
 |some l=>(70,l.at)
 |none=>if r.head.an.any (wD m r)=is then(71,r.at_) else gl.z
theorem P3(m:NM)(r:aw)(hb:r.size<=10000000):Pure prog 68 [ag r.c,.iv (A1 m)] (ag (jx m r).c):=by
 have C:r.body.length<=10000000:=by have:=Lit.aJ r.body;unfold aw.size at hb;omega
 have I:r.head.an.length<=10000000:=by unfold aw.size at hb;omega
 refine ah ab func68 Z (by decide) ntmps68 Z (by simp) Z ?_;refine gA Z ?_;refine aM 0 r.body.length (VB _) (fun i=>⟨[(1,.iv (A1 m)),(2,.ptr 0 0),(4,.ptr 1 0),(13,.iv (lits r.body)),(14,pI r.body.length),(15,pI i)],[(0,co (aG r.c)),(1,co (aG gl.z.c))],2⟩) (fun i=>(r.body.take i).any (wm m r)=jp) [] (by simp)
  (zW (zK (zK trivial))) fun i J A=>?_
 refine zJ Z Z (fun h1=>?_) fun h1=>?_
 .have h1:i<r.body.length:=by simpa using h1
  have G:(r.body.getD i ci).size<=10000000:=by have:=Lit.bT r.body i h1;unfold aw.size at hb;omega
  have D:=lR (r.body.getD i ci);refine gA Z (zp (DH (r.body.getD i ci) (by omega)) ?_);refine gA Z ?_;refine aM 0 (named (r.body.getD i ci)).length (VB _) (fun k=>⟨[(1,.iv (A1 m)),(2,.ptr 0 0),(4,.ptr 1 0),(6,.ptr 2 0),(13,.iv (lits r.body)),(14,pI r.body.length),(15,pI i),(20,.iv (strs (named (r.body.getD i ci)))),(21,pI (named (r.body.getD i ci)).length),(22,pI k)],[(0,co (aG r.c)),(1,co (aG gl.z.c)),(2,co (aG (r.body.getD i ci).c))],3⟩)
   (fun k=>kw ((r.body.getD i ci).kind≠1)=jp∨((named (r.body.getD i ci)).take k).any (fun t=>kw (dQ .str m t 0=dQ .str m r.head.rel 0))=jp) [] (.inr (by simp))
   (zW (zK (zK (zK trivial)))) fun k hk hK=>?_
  refine zJ Z Z (fun j=>?_) fun j=>?_
  .have j:k<(named (r.body.getD i ci)).length:=by simpa using j
   refine zJ Z Z (fun u=>?_) fun u=>?_
   .have u: ¬(r.body.getD i ci).kind=1:=by simpa using u
    have hK:=hK.resolve_left (by simpa using u);refine zJ Z Z (fun x=>?_) fun x=>?_
    .have x:dQ .str m ((named (r.body.getD i ci)).getD k ci) 0=dQ .str m r.head.rel 0:=zT x;have hs:wm m r (r.body.getD i ci)=is:=by
      rw[wm,decide_eq_true u,X4];exact EK j (decide_eq_true x)
     rw[jx,oj A h1 hs];exact zU Z
    .have x: ¬dQ .str m ((named (r.body.getD i ci)).getD k ci) 0=dQ .str m r.head.rel 0:=zF x;refine gA Z ⟨j,.inr ((cW hK j).2 (decide_eq_false x)),[],zW (zK (zK (zK ac)))⟩
   .have u:(r.body.getD i ci).kind=1:=by simpa using u
    refine gA Z ⟨j,.inl (decide_eq_false fun h=>h u),[],zW (zK (zK (zK ac)))⟩
  .have j:(named (r.body.getD i ci)).length<=k:=by simpa using j
   have hs:wm m r (r.body.getD i ci)=jp:=by
    rcases hK with hK|hK
    .rw[wm,hK,Xj]
    .rw[wm,any_none hK j,XV]
   refine gA Z ⟨h1,(cW A h1).2 hs,[],zW (zK (zK ac))⟩
 have h1:r.body.length<=i:=by simpa using h1
 have B:r.body.find? (wm m r)=io:=l3 (any_none A h1);rw[jx,B];refine gA Z (zp (UT r hb) ?_);refine gA Z ?_;refine aM 0 r.head.an.length (VB _) (fun k=>⟨[(1,.iv (A1 m)),(2,.ptr 0 0),(4,.ptr 1 0),(9,.iv (strs (lu r))),(49,.iv (a7 5 r.head.an Term.c)),(50,pI r.head.an.length),(51,pI k)],[(0,co (aG r.c)),(1,co (aG gl.z.c))],2⟩) (fun k=>(r.head.an.take k).any (wD m r)=jp) [] (by simp)
  (zW (zK (zK trivial))) fun k hk hK=>?_
 refine zJ Z Z (fun j=>?_) fun j=>?_
 .have j:k<r.head.an.length:=by simpa using j
  have no:wD m r (r.head.an.getD k ci)=jp->(r.head.an.take (k+1)).any (wD m r)=jp:=(cW hK j).2;refine zJ Z Z (fun u=>?_) fun u=>?_
  .have u:(r.head.an.getD k ci).kind=1:=zT u;refine gA Z (zp (Fa (lu r) (r.head.an.getD k ci).var) ?_);refine zJ Z Z (fun x=>?_) fun x=>?_
   .have x:(!dR (lu r) (r.head.an.getD k ci).var)=is:=x;refine gA Z (zp (P7 m r) ?_);refine zJ Z Z (fun y=>?_) fun y=>?_
    .have y:r.body.any (o7 m r)=is:=y;rw[am (EK j (by rw[wD,decide_eq_true u,x,y];rfl))];exact zU Z
    .have y:r.body.any (o7 m r)=jp:=y;refine gA Z ⟨j,no (by rw[wD,y,XV]),[],zW (zK (zK ac))⟩
   .have x:(!dR (lu r) (r.head.an.getD k ci).var)=jp:=x;refine gA Z ⟨j,no (by rw[wD,x,XV,Xj]),[],zW (zK (zK ac))⟩
  .have u: ¬(r.head.an.getD k ci).kind=1:=zF u;refine gA Z ⟨j,no (by rw[wD,decide_eq_false u,Xj,Xj]),[],zW (zK (zK ac))⟩
 .have j:r.head.an.length<=k:=by simpa using j
  rw[be (by rw[any_none hK j];decide)];exact zU Z
theorem find_congr{α:Type}{f g:α->Bool}: ∀{l:List α},(∀x∈l,f x=g x)->l.find? f=l.find? g
 | [],_=>rfl
 |x::l,h=>by
  rw[List.find?_cons,List.find?_cons,h x VG,find_congr fun y j=>h y (VE _ j)]
theorem vT{α:Type}{f g:α->Bool}{l:List α}(h: ∀x∈l,f x=g x):l.any f=l.any g:=by
 rw[WR,WN,WN];exact⟨fun⟨x,hx,h1⟩=>⟨x,hx,by rw[<-h x hx];exact h1⟩,fun⟨x,hx,h1⟩=>⟨x,hx,by rw[h x hx];exact h1⟩⟩
theorem yM{p:Prog}{a:aq}(h:a∈p.aD.map Decl.name):a∈ns p:=by rw[ns,lS];exact h
theorem Qp{p:Prog}(hf:eM p){m:NM}(hR:Go.Rg.v8 (ns p) (eg p) (fun a=>dQ .str m a 0)){r:aw}(hr:r∈p.rules):r.body.any (o7 m r)=Cp p r:=by
 refine vT fun l hl=>?_;rw[o7];by_cases hk:l.kind=1
 .have j:l.atom.rel∈named l:=by rw[qW,am (.inl hk)];exact Xt _
  rw[sR hR (yM (hf.lits r hr l hl _ j)) (yM (hf.Eg r hr))]
 .rw[decide_eq_false hk];rfl
theorem Gn{p:Prog}(hf:eM p){m:NM}(hR:Go.Rg.v8 (ns p) (eg p) (fun a=>dQ .str m a 0)){r:aw}(hr:r∈p.rules):jx m r=yf p r:=by
 have h1:r.body.find? (wm m r)=yo p r:=find_congr fun l hl=>by
  rw[wm];congr 1;exact vT fun t ht=>(sR hR (yM (hf.lits r hr l hl t ht)) (yM (hf.Eg r hr))).symm
 have j:r.head.an.any (wD m r)=(sE r&&Cp p r):=by
  rw[<-Qp hf hR hr,sE];have:wD m r=fun t=>(kw (t.kind=1)&&!dR (lu r) t.var)&&r.body.any (o7 m r):=rfl;rw[this];generalize r.body.any (o7 m r)=c;cases c<;>simp
 rw[jx,yf,h1];cases yo p r with
 |some l=>rfl
 |none=>
  simp only[j,Wf]
theorem Qa(hS:fx){p:Prog}(hb:p.fit)(h: ¬(eI p).1=0):Pure prog 65 [ag p.c] (.aZ [.iv (.v (.map io)),pB jp]):=by
 have:=OM hS p hb;rwa[vk,be h,decide_eq_false h]at this
theorem P9(hS:fx){p:Prog}(hb:p.fit)(h:(eI p).1=0):Pure prog 65 [ag p.c] (.aZ [.iv (xH (ck p (cU p))),pB is]):=by
 have:=OM hS p hb;rwa[vk,am h,decide_eq_true h]at this
theorem ux{α β:Type}(f:α->List β)(g:α->Nat)(h: ∀a,(f a).length<=g a): ∀l:List α,(l.flatMap f).length<=(l.map g).sum
 | []=>VA _
 |a::l=>by
  have h1:=ux f g h l;have j:=h a;rw[Wt,Vp,Vy,WU];omega
theorem wY: ∀l:List Lit,Lit.aC l=(l.map Lit.size).sum
 | []=>rfl
 |x::l=>by rw[Lit.aC,wY l,Vy,WU]
theorem FV{p:Prog}(hs:p.size<=10000000):(cU p).length<=100000000:=by
 have h1:=ux (fun r:aw=>r.body.flatMap fun l=>(named l).map fun t=>(r.head.rel,t,mQ l)) aw.size (fun r=>by
  have:=ux (fun l=>(named l).map fun t=>(r.head.rel,t,mQ l)) Lit.size (fun l=>by rw[VS];exact lR l) r.body;rw[<-wY]at this
  unfold aw.size;omega) p.rules
 unfold Prog.size at hs;show(p.rules.flatMap _).length<=_;omega
theorem Hi(hS:fx)(p:Prog)(hb:p.fit)(hs:p.size<=10000000):Pure prog 37 [ag p.c] (ag (iW p).c):=by
 by_cases A:(eI p).1=0;rotate_left
 .rw[iW,am A];refine ah ab func37 Z (by decide) ntmps37 Z (by simp) Z ?_;refine gA Z (zp (Qa hS hb A) ?_);refine zE Z Z (fun B=>?_) fun B=>?_
  .cases B
  refine gA Z (zp (c24 p hb) ?_);exact zU Z
 have hf:=Er A;have Y:p.rules.length<=1000000000:=hb.2.1;rw[iW,be (by simpa using A)];refine ah ab func37 Z (by decide) ntmps37 Z (by simp) Z ?_;refine gA Z (zp (P9 hS hb A) ?_);refine zJ Z Z (fun B=>?_) fun B=>?_
 .cases B
 refine gA Z (nr [] (P8 hS hf (FV hs)) Z Z Z Z Z Z Z ?_);rintro r h' n' ⟨m,hR,rfl,rfl,rfl⟩;refine⟨_,rfl,?_⟩;have I:p.rules.map (jx m)=p.rules.map (yf p):=WE fun r J=>Gn hf hR J;rw[<-I]
 have y: ∀i,i<p.rules.length->(p.rules.map (jx m)).getD i ci=jx m (p.rules.getD i ci):=fun i G=>by
  rw[Vr,Vv,Vt G,Vr,Vt G];rfl
 have j:(p.rules.map (jx m)).length=p.rules.length:=VS _;refine gA Z ?_;refine aM 0 p.rules.length (VB _) (fun i=>⟨[(1,.ptr 0 0),(2,.ptr 1 0),(5,.iv (A1 m)),(21,.iv (a7 5 p.rules aw.c)),(22,pI p.rules.length),(23,pI i)],[(0,co (aG p.c)),(1,co (aG gl.z.c))],2⟩) (fun i=>((p.rules.map (jx m)).take i).any (fun d=>kw (d.1≠0))=jp) [] (by simp)
  (zW (zK (zK trivial))) fun i G C=>?_
 refine zJ Z Z (fun h1=>?_) fun h1=>?_
 .have h1:i<p.rules.length:=by simpa using h1
  have x:=hb.2.2 _ (l0 h1);have D:=y i h1;refine gA Z (zp (P3 m (p.rules.getD i ci) x.1) ?_);refine zJ Z Z (fun u=>?_) fun u=>?_
  .have u: ¬(jx m (p.rules.getD i ci)).1=0:=by simpa using u
   rw[oj C (by rw[j];exact h1) (by rw[D];exact decide_eq_true u),D];exact zU Z
  .have u:(jx m (p.rules.getD i ci)).1=0:=by simpa using u
   refine gA Z ⟨h1,(cW C (by rw[j];exact h1)).2 (by rw[D];simpa using u),[],zW (zK (zK ac))⟩
 .have h1:p.rules.length<=i:=by simpa using h1
  rw[l3 (any_none C (by rw[j];exact h1))];exact zU Z
end Go.Proofs.YtlmhfgbkchnfbaaGreatDoor
namespace Go.Proofs.YtlmhfgbkchnfbaaGreatDoor
open Go Go.Al Go.Proofs.Tryz Go.Bo
section
theorem Ur(hS:fx)(p:Prog)(hb:p.fit)(hs:p.size<=10000000)(h0:(iW p).1=0):bg prog 18 [ag p.c] [] (.aZ [.ptr 1 0,pI 0]) (bH p 0 []) 2:=by
 refine aj ab func18 Z (by decide) ntmps18 Z (by simp) ?_;refine gA Z (aB (Hi hS p hb hs) Z Z Z Z Z Z ?_);refine gA Z ?_;refine Vo (fun j=>?_) (fun j=>?_)
 .exact absurd h0 (by simpa using j)
 refine gA Z (aB (G6 p (by omega)) Z Z Z Z Z Z ?_);refine gA Z (ar [1,2] (by first|exact .inr Z|exact .inl Z) Z (wk Z Z Z ⟨.of_eq Z,rfl,ac⟩ (QU Z IJ Z ⟨⟨_,rfl,.of_eq Z⟩,Vm Z,rfl,ac⟩) Z))
abbrev CC(p:Prog)(S:List Fact)(l:List (b6 Fact)):PV:= .aZ [.iv (a7 3 (if iM aY (okF p) S l=0 then dC aY S l else[]) fb),pI (iM aY (okF p) S l)]
theorem Fg{p:Prog}{S:List Fact}{l:List (b6 Fact)}(h:iM aY (okF p) S l=0):(((mapOf (cd S l)).map (·.2)).Perm (dC aY S l))∧v7 aY (dC aY S l)∧(∀x∈dC aY S l,x.2.args.length<=1000000000)∧(dC aY S l).length<=100000000:=by
 have j:=jY.1 h;refine⟨?_,oH o6 S l,fun x u=>?_,by have:=GD (c:=aY) S l;omega⟩
 .rw[Wx];have:(Prod.snd ∘ fun x:b6 Fact=>(cv x.2,x))=id:=rfl;rw[this,List.map_id];exact mM o6 S l
 .have:x.2.args.length<=8:=ji (j.2.1 _ (ia ((jk o6 (a:=x.1) (f:=x.2)).1 u).1));omega
section
variable (p:Prog) (n:Nat) {m:FM} {S:List Fact} (l:List (b6 Fact)) (hb:p.aD.length<=1000000000) (hk:b8 cv m S) (hS:Go.Bo.eM aY (okF p) S) (hF: ∀x∈l,x.2.args.length<=1000000000)
include hb hk hS hF
end
theorem Qh(p:Prog)(n:Nat)(m:FM):bg prog 23 [.ptr 1 0] (bO p n m) (.ptr 3 0) [(0,co (bx m)),(1,co (ch p n 0)),(2,co (bx m)),(3,co (ch p n 2))] 4:=by
 refine aj ab func23 Z (by decide) ntmps23 Z (by simp) ?_;refine gA Z ?_;refine Vo (fun j=>?_) (fun j=>?_)
 .exact absurd j (by decide)
 refine gA Z (bc ab [0] (Jb (o:=bx m) Rk (bb func44 Z (by decide)) Z) Z Z Z Z Z Z Z Z Z Z Z Z (by(repeat' (first|exact ac|exact rfl|exact ae.refl _|exact ae.bk (by assumption)|apply Vo))<;>first|omega|(simp only[Vu];omega)|(simp;done)|(simp;omega)) Z (by(repeat' (first|exact ac|exact rfl|exact ae.refl _|exact ae.bk (by assumption)|apply Vo))<;>first|omega|(simp only[Vu];omega)|(simp;done)|(simp;omega)) ?_);refine gA Z (ar [2,3] (by first|exact .inr Z|exact .inl Z) Z (wk Z Z Z ⟨.of_eq Z,rfl,ac⟩ (hM Z Z Z ⟨⟨_,rfl,.of_eq Z⟩,Vm Z,rfl,hM Z Z Z ⟨⟨_,rfl,.of_eq Z⟩,Vm Z,rfl,ac⟩⟩) Z))
end
section
def z8(m:FM)(x:b6 Fact):FM:=if x.1=is then cJ kF m (cv x.2) x.2 else kL kF m (cv x.2)
def GU(S:List Fact)(x:b6 Fact):List Fact:=if x.1=is then x.2::S else S.erase x.2
def nh(m:FM)(M:CM):List Nat->FM
 | []=>m
 |j::vs=>z8 (nh m M vs) (ma M j)
def lE(S:List Fact)(M:CM):List Nat->List Fact
 | []=>S
 |j::vs=>GU (lE S M vs) (ma M j)
section
variable {S:List Fact} {T:List (b6 Fact)}
theorem C8{j:Nat}(hj:j<T.length): ∃x,T[j]? =co x∧ma (mapOf T) j=x:=by
 refine⟨T[j],Vt hj,?_⟩;unfold ma mapOf;rw[Vr,Vv,Vt hj];rfl
structure T3 (S:List Fact) (T:List (b6 Fact)):Prop where
 nd:(T.map (·.2)).Nodup
 T9: ∀x∈T,kw (x.2∈S)≠x.1
 s8: ∀f∈S,f.args.length<=8
 t8: ∀x∈T,x.2.args.length<=8
theorem T3.one(h:T3 S T){i j:Nat}{x y:b6 Fact}(hi:T[i]? =co x)(hj:T[j]? =co y)(e:x.2=y.2):i=j:=by
 have D:=WI.1 h.nd;obtain⟨A,u⟩:=Vs.1 hi;obtain⟨C,B⟩:=Vs.1 hj;rcases XA i j with g|g|g
 .exact absurd (by rw[Xb,Xb,u,B];exact e) (D i j (by simpa using A) (by simpa using C) g)
 .exact g
 .exact absurd (by rw[Xb,Xb,u,B];exact e.symm) (D j i (by simpa using C) (by simpa using A) g)
theorem qw(h:T3 S T)(hS:S.Nodup): ∀{vs:List Nat},vs.Nodup->(∀j∈vs,j<T.length)->(lE S (mapOf T) vs).Nodup∧ ∀f,f∈lE S (mapOf T) vs↔(∃j∈vs,T[j]? =co (is,f))∨(f∈S∧ ¬ ∃j∈vs,T[j]? =co (jp,f))
 | [],_,_=>⟨hS,fun f=>by simp[lE]⟩
 |j::vs,hn,hv=>by
  rw[Wb]at hn;obtain⟨i1,i2⟩:=qw h hS hn.2 fun i hi=>hv i (VE _ hi);obtain⟨x,y,D⟩:=C8 (hv j (VG ..));have C:=h.T9 x (V2 y);have u: ∀i∈vs,∀b,T[i]? ≠co (b,x.2):=fun i hi b e=>hn.1 ((h.one e y Z)▸hi);simp only[lE,D,GU];obtain⟨b,g⟩:=x
  cases b with
  |true=>
   simp only[if_true];have A:g∉S:=fun m=>C (decide_eq_true m)
   have B:g∉lE S (mapOf T) vs:=fun m=>by
    rcases(i2 g).1 m with⟨i,hi,e⟩|⟨m2,_⟩
    .exact u i hi is e
    .exact A m2
   refine⟨Wb.2 ⟨B,i1⟩,fun f=>?_⟩;rw[VH,i2];constructor
   .rintro(rfl|⟨i,hi,e⟩|⟨m,k⟩)
    .exact .inl ⟨j,VG ..,y⟩
    .exact .inl ⟨i,VE _ hi,e⟩
    .refine .inr ⟨m,?_⟩;rintro⟨i,hi,e⟩;rcases VH.1 hi with rfl|hi
     .rw[y]at e;cases e
     .exact k ⟨i,hi,e⟩
   .rintro(⟨i,hi,e⟩|⟨m,k⟩)
    .rcases VH.1 hi with rfl|hi
     .rw[y]at e;cases e;exact .inl Z
     .exact .inr (.inl ⟨i,hi,e⟩)
    .exact .inr (.inr ⟨m,fun⟨i,hi,e⟩=>k ⟨i,VE _ hi,e⟩⟩)
  |false=>
   simp only[Xe,if_false];refine⟨i1.erase g,fun f=>?_⟩;rw[i1.mem_erase_iff,i2];constructor
   .rintro⟨hne,⟨i,hi,e⟩|⟨m,k⟩⟩
    .exact .inl ⟨i,VE _ hi,e⟩
    .refine .inr ⟨m,?_⟩;rintro⟨i,hi,e⟩;rcases VH.1 hi with rfl|hi
     .rw[y]at e;cases e;exact hne Z
     .exact k ⟨i,hi,e⟩
   .rintro(⟨i,hi,e⟩|⟨m,k⟩)
    .rcases VH.1 hi with rfl|hi
     .rw[y]at e;cases e
     .refine⟨?_,.inl ⟨i,hi,e⟩⟩;rintro rfl;exact u i hi is e
    .refine⟨?_,.inr ⟨m,fun⟨i,hi,e⟩=>k ⟨i,VE _ hi,e⟩⟩⟩;rintro rfl;exact k ⟨j,VG ..,y⟩
theorem tt{m:FM}(hk:b8 cv m S)(h:T3 S T)(hS:S.Nodup): ∀{vs:List Nat},vs.Nodup->(∀j∈vs,j<T.length)->b8 cv (nh m (mapOf T) vs) (lE S (mapOf T) vs)∧ ∀f∈lE S (mapOf T) vs,f.args.length<=8
 | [],_,_=>⟨hk,h.s8⟩
 |j::vs,hn,hv=>by
  have A:=Wb.1 hn;obtain⟨J,G⟩:=tt hk h hS A.2 fun i B=>hv i (VE _ B);have hm:=(qw h hS A.2 fun i B=>hv i (VE _ B)).2;obtain⟨x,I,Y⟩:=C8 (hv j (VG ..));have C:=V2 I;have D:=h.T9 x C;have y: ∀u∈lE S (mapOf T) vs,cv u=cv x.2->u=x.2:=fun u hu e=>re (G u hu) e;simp only[nh,lE,Y,z8,GU];by_cases hb:x.1=is
  .rw[am hb,am hb];refine⟨J.put y fun m2=>?_,fun f hf=>?_⟩
   .rcases(hm x.2).1 m2 with⟨i,B,e⟩|⟨m3,_⟩
    .exact A.1 (h.one e I Z▸B)
    .exact D (by rw[hb];exact decide_eq_true m3)
   .rcases VH.1 hf with rfl|hf
    .exact h.t8 x C
    .exact G f hf
  .rw[be hb,be hb];exact⟨J.del y,fun f hf=>G f (List.mem_of_mem_erase hf)⟩
end
theorem IP{p:Prog}{S:List Fact}{l:List (b6 Fact)}(hS:Go.Bo.eM aY (okF p) S)(h:iM aY (okF p) S l=0):T3 S (cd S l):=by
 have y:(cd S l).Perm (dC aY S l):=mM o6 S l;have A:=jY.1 h;have u: ∀x∈cd S l,dI l x.2=co x.1∧kw (x.2∈S)≠x.1:=fun x j=>(jk o6 (a:=x.1) (f:=x.2)).1 (y.mem_iff.1 j);exact⟨((y.map (·.2)).nodup_iff).2 ((v7.facts (oH o6 S l)).nodup o6),fun x j=>(u x j).2,fun f hf=>ji (hS.ok f hf),fun x j=>ji (A.2.1 _ (ia (u x j).1))⟩
theorem Gd{p:Prog}{m:FM}{S:List Fact}{l:List (b6 Fact)}(hk:b8 cv m S)(hS:Go.Bo.eM aY (okF p) S)(h:iM aY (okF p) S l=0){vs:List Nat}(A:vs.Nodup)(v2: ∀j∈vs,j<(cd S l).length)(v3: ∀j,j<(cd S l).length->j∈vs):
  b8 cv (nh m (mapOf (cd S l)) vs) (gn aY S l):=by
 have x:=IP hS h;have u:=hS.BY.nodup o6;have B:(cd S l).Perm (dC aY S l):=mM o6 S l;obtain⟨C,_⟩:=tt hk x u A v2;obtain⟨G,I⟩:=qw x u A v2;refine C.perm ((W6 G ((qG o6 S l).nodup o6)).2 fun f=>?_);have hT: ∀b:Bool,(∃j∈vs,(cd S l)[j]? =co (b,f))↔dI l f=co b∧kw (f∈S)≠b:=fun b=>by
  rw[<-jk o6,<-B.mem_iff];constructor
  .rintro⟨j,_,e⟩;exact V2 e
  .intro D;obtain⟨j,y⟩:=Wh D;exact⟨j,v3 j (Vs.1 y).1,y⟩
 rw[I,qZ o6,hT,hT];cases e:dI l f with
 |none=>simp
 |some b=>cases b<;>by_cases g:f∈S<;>simp[g]
theorem Ck(p:Prog)(n:Nat){m:FM}{S:List Fact}(l:List (b6 Fact))(hb:p.aD.length<=1000000000)(hk:b8 cv m S)(hS:Go.Bo.eM aY (okF p) S)(hF: ∀x∈l,x.2.args.length<=1000000000)(hn:n<=1000000000000):
  Al.Fn prog 25 [.ptr 1 0,.iv (a7 3 l fb)] (bO p n m) fun r h k=> ∃m',b8 cv m' (jI aY (okF p) (S,n) l).1∧r=CC p S l∧h=bH p (jI aY (okF p) (S,n) l).2 m'∧k=2:=by
 have h1:=Us p n l hb hk hS hF;by_cases u:iM aY (okF p) S l=0;rotate_left
 .rw[tQ Z u]at h1;have e:CC p S l= .aZ [.iv (a7 3 [] fb),pI (iM aY (okF p) S l)]:=by unfold CC;rw[be u]
  have Y:jI aY (okF p) (S,n) l=(S,n):=by unfold jI;rw[be u]
  rw[e,Y];refine kv ab func25 Z (by decide) ntmps25 Z (by simp) ?_;refine gA Z (ak [0,1] (h1) Z Z Z Z Z Z Z Z ?_);refine gA Z ?_;refine Vo (fun J=>?_) (fun J=>?_);rotate_left
  .exact absurd (by simpa using J) u
  refine gA Z (db [] (.inr Z) Z ⟨m,hk,rfl,rfl,rfl⟩ (wk Z Z Z ⟨.aZ ⟨.nil _ _,.refl _,ac⟩,rfl,ac⟩ (hM Z Z Z ⟨⟨_,rfl,.of_eq Z⟩,Vm Z,rfl,ac⟩) Z))
 obtain⟨q1,q2,q3,q4⟩:=Fg u;have d0:=q1.length_eq;rw[VS,VS]at d0;rw[D1 u]at h1;have e:CC p S l= .aZ [.iv (a7 3 (dC aY S l) fb),pI 0]:=by unfold CC;rw[am u,u]
 have Y:jI aY (okF p) (S,n) l=(gn aY S l,n+1):=by unfold jI;rw[am u]
 rw[e,Y];have b0: ∀x∈cd S l,x.2.args.length<=8:=(IP hS u).t8;refine kv ab func25 Z (by decide) ntmps25 Z (by simp) ?_;refine gA Z (ak [0,1] (h1) Z Z Z Z Z Z Z Z ?_);refine gA Z ?_;refine Vo (fun J=>?_) (fun J=>?_)
 .exact absurd J (by decide)
 refine gA Z ?_;refine fO (mapOf (cd S l)) (fun vs=>⟨[(0,.ptr 1 0),(6,.iv (BM (mapOf (cd S l)))),(20,.ptr 2 0)],[(0,co (bx (nh m (mapOf (cd S l)) vs))),(1,co (ch p n 0)),(2,co (.bX kF BN (mapOf (cd S l)) vs io))],3⟩) (fun vs=>vs.Nodup∧ ∀j∈vs,j<(mapOf (cd S l)).length) [] ⟨Wn,by simp⟩
  (wk Z Z Z (bi (bi (bi trivial))) (hM Z Z Z ⟨⟨_,rfl,.of_eq Z⟩,Vm Z,rfl,hI Z Z (.inl Z) Z trivial⟩) Z) fun vs hJ=>?_
 obtain⟨v1,v2⟩:=hJ;refine fP Z ac (dM Z Z Z Z Z (by decide) (fun D=>?_) fun j x B C=>?_)
 .have c0:=Gd hk hS u v1 (fun j C=>by have:=v2 j C;rwa[VS]at this) (fun j C=>D j (by rwa[VS]));refine gA Z (aB (SE q1 q2 q3 q4) Z Z Z Z Z Z ?_);refine gA Z (db [] (.inr Z) Z ⟨_,c0,rfl,rfl,rfl⟩ (wk Z Z Z (bi ac) (hM Z Z Z ⟨⟨_,rfl,.of_eq Z⟩,Vm Z,rfl,ac⟩) Z))
 .have g0:x.2=ma (mapOf (cd S l)) j:=by rw[ma,Vr,B];rfl
  have a0: ∀A,A=j::vs->A.Nodup∧ ∀i∈A,i<(mapOf (cd S l)).length:=fun A e=>e▸⟨Wb.2 ⟨C,v1⟩,fun i hi=>(VH.1 hi).elim (fun h=>h▸(Vs.1 B).1) (v2 i)⟩;have G:=(Vs.1 B).1;rw[VS]at G;obtain⟨y,hy,f0⟩:=C8 G
  have e0:x=(cv y.2,y):=by
   have:(mapOf (cd S l))[j]? =co (cv y.2,y):=by unfold mapOf;rw[Vv,hy];rfl
   rw[this]at B;exact(Wq B).symm
  subst e0;have i0:=b0 y (V2 hy);have I:nh m (mapOf (cd S l)) (j::vs)=z8 (nh m (mapOf (cd S l)) vs) y:=by rw[nh,f0]
  refine gA Z ?_;refine Vo (fun g1=>?_) (fun g1=>?_)
  .have g1:y.1=is:=g1;refine gA Z (bc ab [] (Pure.nv (mz y.2 (by omega))) Z Z Z Z Z Z Z Z Z Z Z Z (by(repeat' (first|exact ac|exact rfl|exact ae.refl _|exact ae.bk (by assumption)|apply Vo))<;>first|omega|(simp only[Vu];omega)|(simp;done)|(simp;omega)) Z (by(repeat' (first|exact ac|exact rfl|exact ae.refl _|exact ae.bk (by assumption)|apply Vo))<;>first|omega|(simp only[Vu];omega)|(simp;done)|(simp;omega)) ?_);refine fP Z ?_ ?_
   .repeat' (first|exact ac|exact rfl|exact IL _|exact ae.refl _|apply Vo)
   exact⟨j,_,B,C,a0 _ Z,[],wk Z Z Z (bi (bi (bi ac))) (hM Z (by rw[I,z8,am g1];exact congrArg (cJ kF (nh m (mapOf (cd S l)) vs) (cv y.2)) (IQ y.2)) Z ⟨⟨_,rfl,.of_eq Z⟩,Vm Z,rfl,hI Z Z (.inr Z) Z ac⟩) Z⟩
  .have g1:y.1=jp:=g1;refine gA Z ⟨j,_,B,C,a0 _ Z,[],wk Z Z Z (bi (bi (bi ac))) (hM Z (by rw[I,z8,be (by rw[g1];decide)];rfl) Z ⟨⟨_,rfl,.of_eq Z⟩,Vm Z,rfl,hI Z Z (.inr Z) Z ac⟩) Z⟩
end
section
abbrev Ja:AO:= .cells [kB]
theorem Uv(x y:Fact)(j:x.args.length<=1000000000)(u:y.args.length<=1000000000):bg prog 167 [ag x.c,ag y.c,.ptr 0 0] [Ja] (pB (kw (aY x y=0))) [(0,co Ja)] 1:=by
 refine aj ab func167 Z (by decide) ntmps167 Z (by simp) ?_;refine gA Z (aB (pf x y j u) Z Z Z Z Z Z ?_);refine gA Z (ar [] (by first|exact .inr Z|exact .inl Z) Z (wk Z Z Z (bi ac) ⟨⟨_,rfl,.of_eq Z⟩,Vm Z,rfl,ac⟩ Z))
section
variable {L:List Fact} (hs:qx aY L) (hF:ye L) (hl:L.length<=1000000000)
include hs hF hl
theorem Hg:bg prog 166 [o9 L,.cm (.func 167) [] [.ptr 0 0]] [Ja] (o9 L) [(0,co Ja)] 1:=by
 refine aj ab func166 Z (by decide) ntmps166 Z (by simp) ?_;refine gA Z ?_;refine Vo (fun y=>?_) (fun y=>?_)
 .refine gA Z (ar [] (by first|exact .inr Z|exact .inl Z) Z (wk Z Z Z (bi ac) ⟨⟨_,rfl,.of_eq Z⟩,Vm Z,rfl,ac⟩ Z))
 refine gA Z ?_;refine aM 1 (max 1 L.length) (Nat.le_max_left _ _) (fun i=>⟨[(0,o9 L),(1,.cm (.func 167) [] [.ptr 0 0]),(5,pI i)],[(0,co Ja)],1⟩) (fun i=>1<=i) [] (VA _)
  (wk Z Z Z (bi (bi (bi trivial))) ⟨⟨_,rfl,.of_eq Z⟩,Vm Z,rfl,ac⟩ Z) fun i B A=>?_
 refine gA Z ?_;refine Vo (fun h1=>?_) (fun h1=>?_)
 .have h1:i<L.length:=by simpa using h1
  have e:((i:Int)-1).toNat=i-1:=by omega
  refine gA Z (bc ab [0] (Uv (L.getD i ci) (L.getD ((i:Int)-1).toNat ci) (hF.at (by omega)) (hF.at (by omega))) Z Z Z Z Z Z Z Z Z Z Z Z (by(repeat' (first|exact ac|exact rfl|exact ae.refl _|exact ae.bk (by assumption)|apply Vo))<;>first|omega|(simp only[Vu];omega)|(simp;done)|(simp;omega)) Z (by(repeat' (first|exact ac|exact rfl|exact ae.refl _|exact ae.bk (by assumption)|apply Vo))<;>first|omega|(simp only[Vu];omega)|(simp;done)|(simp;omega)) ?_);refine gA Z ?_;refine Vo (fun j=>?_) (fun j=>?_)
  .have j:aY (L.getD i ci) (L.getD ((i:Int)-1).toNat ci)=0:=of_decide_eq_true j;rw[e]at j;have x:=(WI.1 hs) (i-1) i (by omega) h1 (by omega);have u:=(o6.eq _ _).1 j;rw[Vr,Vr,Vt h1,Vt (by omega:i-1<L.length)]at u;have u:L[i]=L[i-1]:=u;rw[u]at x;exact absurd x (o6.QS _)
  .refine gA Z ?_;exact⟨by omega,by omega,[],wk Z Z Z (bi (bi (bi ac))) ⟨⟨_,rfl,.of_eq Z⟩,Vm Z,rfl,ac⟩ Z⟩
 .refine gA Z (ar [] (by first|exact .inr Z|exact .inl Z) Z (wk Z Z Z (bi ac) ⟨⟨_,rfl,.of_eq Z⟩,Vm Z,rfl,ac⟩ Z))
omit hs hF in
theorem S7:Pure prog 165 [o9 L] (o9 L):=by
 refine ah ab func165 Z (by decide) ntmps165 Z (by simp) Z ?_;refine gA Z (aI (by first|exact .inr Z|exact .inl Z) Z ?_);exact .bK (by simp) (fun k _=>rfl)
theorem DE:Pure prog 118 [o9 L,kB] (o9 L):=by
 refine ah ab func118 Z (by decide) ntmps118 Z (by simp) Z ?_;refine gA Z (aB (Lx L (by omega)) Z Z Z Z Z Z ?_);refine gA Z (aB (G2 (RT hs) hF (by omega)) Z Z Z Z Z Z ?_);refine gA Z (ak [0] (Hg hs hF hl) Z Z Z Z Z Z Z Z ?_);refine gA Z (aB (S7 hl) Z Z Z Z Z Z ?_);refine gA Z (aI (by first|exact .inr Z|exact .inl Z) Z (.of_eq ?_));rfl
end
def Q7:List Fact->List Fact->Int
 | [],_=>1
 |_::_,[]=> -1
 |x::_,y::_=>aY x y
theorem Cg: ∀(A B:List Fact) (C:ye A) (D:ye B),Pure prog 119 [o9 A,o9 B] (pI (Q7 A B))
 | [],B,_,_=>by
  refine ah ab func119 Z (by decide) ntmps119 Z (by simp) Z ?_;refine gA Z ?_;refine Vo (fun j=>?_) (fun j=>?_)
  .refine gA Z (aI (by first|exact .inr Z|exact .inl Z) Z (.of_eq ?_));rfl
  .exact absurd j (by simp)
 |x::A,[],_,_=>by
  refine ah ab func119 Z (by decide) ntmps119 Z (by simp) Z ?_;refine gA Z ?_;refine Vo (fun j=>?_) (fun j=>?_)
  .exact absurd j (by simp;omega)
  refine gA Z ?_;refine Vo (fun u=>?_) (fun u=>?_)
  .refine gA Z (aI (by first|exact .inr Z|exact .inl Z) Z (.of_eq ?_));rfl
  .exact absurd u (by simp)
 |x::A,y::B,C,D=>by
  refine ah ab func119 Z (by decide) ntmps119 Z (by simp) Z ?_;refine gA Z ?_;refine Vo (fun j=>?_) (fun j=>?_)
  .exact absurd j (by simp;omega)
  refine gA Z ?_;refine Vo (fun u=>?_) (fun u=>?_)
  .exact absurd u (by simp;omega)
  refine gA Z (bc ab [] (Pure.nv (pf x y (C x (VG ..)) (D y (VG ..)))) Z Z Z Z Z Z Z Z Z Z Z Z (by(repeat' (first|exact ac|exact rfl|exact ae.refl _|exact ae.bk (by assumption)|apply Vo))<;>first|omega|(simp only[Vu];omega)|(simp;done)|(simp;omega)) Z (by(repeat' (first|exact ac|exact rfl|exact ae.refl _|exact ae.bk (by assumption)|apply Vo))<;>first|omega|(simp only[Vu];omega)|(simp;done)|(simp;omega)) ?_);refine gA Z (aI (by first|exact .inr Z|exact .inl Z) Z (.of_eq ?_));rfl
end
theorem l5{x:Fact}{A:List Fact}(h:ye (x::A)):ye A:=fun f hf=>h f (VE _ hf)
theorem sq(x:Fact)(A:List Fact):ae (.iv (.bK 2 ((x::A).length-(1:Int).toNat) fun k=>(fun k=>Fact.c ((x::A).getD k ci)) ((1:Int).toNat+k))) (o9 A):=
 .bK (by simp) fun k _=>by
  show Fact.c ((x::A).getD (1+k) ci)=_;rw[Nat.add_comm];rfl
abbrev btS(A B:List Fact)(out:List (b6 Fact)):AS:=⟨[(5,o9 A),(6,o9 B),(7,.sl 1 0 out.length 3)],[(1,co (aV 3 out fb))],2⟩
theorem Hj(A B:List Fact)(hA:qx aY A)(hB:qx aY B)(fA:ye A)(fB:ye B)(lA:A.length<=1000000)(lB:B.length<=1000000):Pure prog 90 [o9 A,o9 B] (.iv (a7 3 (dU aY A B) fb)):=by
 obtain⟨R,Y⟩: ∃R,R=dU aY A B:=⟨_,rfl⟩
 rw[<-Y];refine ah ab func90 Z (by decide) ntmps90 Z (by simp) Z ?_;refine gA Z (aB (DE hA fA (by omega)) Z Z Z Z Z Z ?_);refine gA Z (aB (DE hB fB (by omega)) Z Z Z Z Z Z ?_);refine gM 6 Z (jc 7 3 Z ?_)
 refine gA Z (ic (σ:={s:List Fact×List Fact×List (b6 Fact)//ye s.1∧ye s.2.1∧R=s.2.2++dU aY s.1 s.2.1∧s.1.length+s.2.1.length+s.2.2.length<=2000000}) (fun s=>btS s.1.1 s.1.2.1 s.1.2.2) (fun s=>s.1.1.length+s.1.2.1.length) ⟨(A,B,[]),fA,fB,Y,by simp;omega⟩ [0]
  (wk Z Z Z (bi (bi (bi ac))) (hR Z Z Z ac) Z) fun s=>?_)
 obtain⟨⟨D,G,a0⟩,j,u,I,C⟩:=s;have j:ye D:=j;have u:ye G:=u;have I:R=a0++dU aY D G:=I;have C:D.length+G.length+a0.length<=2000000:=C;show GO _ _ _ _ (btS D G a0)
 match D,G,j,u,I,C with
 | [],[],j,u,I,C=>
  refine gA Z ?_;refine Vo (fun g1=>?_) (fun g1=>?_);rotate_left
  .exact absurd g1 (by simp)
  refine gA Z ?_;refine Vo (fun g2=>?_) (fun g2=>?_)
  .exact absurd g2 (by simp)
  rw[mE,VQ,We]at I;subst I;refine gA Z (du (by first|exact .inr Z|exact .inl Z) Z Z (rfl) (rfl))
 | [],y::G,j,u,I,C=>
  have hy:=u y (VG ..);have J:R=(a0++ [(is,y)])++dU aY [] G:=by rw[I,mE,mE,Vy,VF];rfl
  simp only[VX,WH]at C;refine gA Z ?_;refine Vo (fun g1=>?_) (fun g1=>?_);rotate_left
  .exact absurd g1 (by simp)
  refine gA Z ?_;refine Vo (fun g2=>?_) (fun g2=>?_);rotate_left
  .exact absurd g2 (by simp)
  refine gA Z (aB (Cg [] (y::G) j u) Z Z Z Z Z Z ?_);refine gA Z ?_;refine Vo (fun g3=>?_) (fun g3=>?_)
  .exact absurd (of_decide_eq_true g3) (by show¬(1:Int)<0;decide)
  refine gA Z ?_;refine Vo (fun g4=>?_) (fun g4=>?_);rotate_left
  .exact absurd (show(1:Int)>0 by decide) (of_decide_eq_false g4)
  refine gA Z (aB (mz y (by omega)) Z Z Z Z Z Z ?_);refine gA Z ?_;exact⟨⟨([],G,a0++ [(is,y)]),j,l5 u,J,by simp;omega⟩,[3],by show _<_;simp,wk Z Z Z (bi ⟨sq y G,rfl,.row (by simp),rfl,ac⟩) (RG Z (by rw[VD];exact(dx.refl _).app ⟨⟨.kb _,.refl _,.refl _,ac⟩,ac⟩) Z ac) Z⟩
 |x::D,[],j,u,I,C=>
  have hx:=j x (VG ..);have J:R=(a0++ [(jp,x)])++dU aY D []:=by rw[I,sZ,sZ,Vy,VF];rfl
  simp only[VX,WH]at C;refine gA Z ?_;refine Vo (fun g1=>?_) (fun g1=>?_)
  .exact absurd g1 (by simp)
  refine gA Z (aB (Cg (x::D) [] j u) Z Z Z Z Z Z ?_);refine gA Z ?_;refine Vo (fun g3=>?_) (fun g3=>?_);rotate_left
  .exact absurd (show(-1:Int)<0 by decide) (of_decide_eq_false g3)
  refine gA Z (aB (mz x (by omega)) Z Z Z Z Z Z ?_);refine gA Z ?_;exact⟨⟨(D,[],a0++ [(jp,x)]),l5 j,u,J,by simp;omega⟩,[3],by show _<_;simp,wk Z Z Z ⟨sq x D,rfl,bi ⟨.row (by simp),rfl,ac⟩⟩ (RG Z (by rw[VD];exact(dx.refl _).app ⟨⟨.refl _,.refl _,.refl _,ac⟩,ac⟩) Z ac) Z⟩
 |x::D,y::G,j,u,I,C=>
  have hx:=j x (VG ..);have hy:=u y (VG ..);simp only[VX]at C;rw[A4]at I;refine gA Z ?_;refine Vo (fun g1=>?_) (fun g1=>?_)
  .exact absurd g1 (by simp)
  refine gA Z (aB (Cg (x::D) (y::G) j u) Z Z Z Z Z Z ?_);refine gA Z ?_;refine Vo (fun g3=>?_) (fun g3=>?_)
  .have g3:aY x y<0:=of_decide_eq_true g3;rw[am g3]at I;have J:R=(a0++ [(jp,x)])++dU aY D (y::G):=by rw[I,VF];rfl
   refine gA Z (aB (mz x (by omega)) Z Z Z Z Z Z ?_);refine gA Z ⟨⟨(D,y::G,a0++ [(jp,x)]),l5 j,u,J,by simp;omega⟩,[3],by show _<_;simp,wk Z Z Z ⟨sq x D,rfl,bi ⟨.row (by simp),rfl,ac⟩⟩ (RG Z (by rw[VD];exact(dx.refl _).app ⟨⟨.refl _,.refl _,.refl _,ac⟩,ac⟩) Z ac) Z⟩
  have g3: ¬aY x y<0:=of_decide_eq_false g3;rw[be g3]at I;refine gA Z ?_;refine Vo (fun g4=>?_) (fun g4=>?_)
  .have g4:0<aY x y:=of_decide_eq_true g4;rw[am g4]at I;have J:R=(a0++ [(is,y)])++dU aY (x::D) G:=by rw[I,VF];rfl
   refine gA Z (aB (mz y (by omega)) Z Z Z Z Z Z ?_);refine gA Z ⟨⟨(x::D,G,a0++ [(is,y)]),j,l5 u,J,by simp;omega⟩,[3],by show _<_;simp,wk Z Z Z (bi ⟨sq y G,rfl,.row (by simp),rfl,ac⟩) (RG Z (by rw[VD];exact(dx.refl _).app ⟨⟨.kb _,.refl _,.refl _,ac⟩,ac⟩) Z ac) Z⟩
  .have g4: ¬0<aY x y:=of_decide_eq_false g4;rw[be g4]at I;refine gA Z ⟨⟨(D,G,a0),l5 j,l5 u,I,by simp;omega⟩,[1],by show _<_;simp;omega,wk Z Z Z ⟨sq x D,rfl,sq y G,rfl,bi ac⟩ (hR Z Z Z ac) Z⟩
theorem zB{α:Type}[Inhabited α]{a b:List α}(hl:a.length=b.length)(h: ∀j,j<a.length->a.getD j ci=b.getD j ci):a=b:=by
 refine XX hl fun i h1 u=>?_;have:=h i h1;rwa[Vr,Vr,Vt h1,Vt u]at this
theorem AZ{α:Type}[Inhabited α]{a b:List α}{i:Nat}(h: ¬a.getD i ci=b.getD i ci):a≠b:=fun e=>h (by rw[e])
theorem Cb(a b:List cN)(ha:a.length<=1000000000):Pure prog 60 [.iv (a7 3 a cN.c),.iv (a7 3 b cN.c)] (pB (kw (a=b))):=by
 refine ah ab func60 Z (by decide) ntmps60 Z (by simp) Z ?_;refine gA Z ?_;refine Vo (fun u=>?_) (fun u=>?_)
 .have u: ¬a.length=b.length:=by
   intro e;have g:(!kw ((a.length:Int)=(b.length:Int)))=is:=u;rw[e]at g;simp at g
  rw[decide_eq_false fun e=>u (by rw[e])];refine gA Z (aI (by first|exact .inr Z|exact .inl Z) Z (.of_eq ?_));rfl
 have u:a.length=b.length:=by
  have g:(!kw ((a.length:Int)=(b.length:Int)))=jp:=u;rw[Xf,decide_eq_true_eq]at g;exact Int.ofNat_inj.1 g
 refine gA Z ?_;refine aM 0 a.length (VB _) (fun i=>⟨[(0,.iv (a7 3 a cN.c)),(1,.iv (a7 3 b cN.c)),(5,pI i)],[],0⟩) (fun i=> ∀j,j<i->a.getD j ci=b.getD j ci) [] (fun j A=>absurd A (Xl j))
  (wk Z Z Z (bi (bi (bi trivial))) trivial Z) fun i G C=>?_
 refine gA Z ?_;refine Vo (fun h1=>?_) (fun h1=>?_)
 .have h1:i<a.length:=by simpa using h1
  have D:(kw ((a.getD i ci).kind=(b.getD i ci).kind)&&(kw ((a.getD i ci).num=(b.getD i ci).num)&&(kw ((a.getD i ci).sym=(b.getD i ci).sym)&&is)))=kw (a.getD i ci=b.getD i ci):=by
   generalize a.getD i ci=x;generalize b.getD i ci=y;cases x;cases y;simp[cN.mk.injEq]
  refine gA Z ?_;refine Vo (fun B=>?_) (fun B=>?_)
  .have g:(!(kw ((a.getD i ci).kind=(b.getD i ci).kind)&&(kw ((a.getD i ci).num=(b.getD i ci).num)&&(kw ((a.getD i ci).sym=(b.getD i ci).sym)&&is))))=is:=B;rw[D]at g;have g: ¬a.getD i ci=b.getD i ci:=by simpa using g
   rw[decide_eq_false (AZ g)];refine gA Z (aI (by first|exact .inr Z|exact .inl Z) Z (.of_eq ?_));rfl
  .have g:(!(kw ((a.getD i ci).kind=(b.getD i ci).kind)&&(kw ((a.getD i ci).num=(b.getD i ci).num)&&(kw ((a.getD i ci).sym=(b.getD i ci).sym)&&is))))=jp:=B;rw[D]at g;have g:a.getD i ci=b.getD i ci:=by simpa using g
   refine gA Z ⟨h1,fun j A=>by rcases Xo.1 A with h|h;exact C j h;exact h▸g,[],wk Z Z Z (bi (bi (bi ac))) ac Z⟩
 .have h1:a.length<=i:=by simpa using h1
  rw[decide_eq_true (zB u fun j A=>C j (by omega))];refine gA Z (aI (by first|exact .inr Z|exact .inl Z) Z (.of_eq ?_));rfl
theorem E7(a b:Fact)(ha:a.args.length<=1000000000):Pure prog 29 [ag a.c,ag b.c] (pB (kw (a=b))):=by
 have u:kw (a=b)=(kw (a.rel=b.rel)&&kw (a.args=b.args)):=by
  cases a;cases b;simp[Fact.mk.injEq]
 rw[u];refine ah ab func29 Z (by decide) ntmps29 Z (by simp) Z ?_;refine gA Z ?_;refine Vo (fun j=>?_) (fun j=>?_)
 .have j:a.rel=b.rel:=of_decide_eq_true j;refine gA Z (aB (Cb a.args b.args ha) Z Z Z Z Z Z ?_);refine gA Z (aI (by first|exact .inr Z|exact .inl Z) Z (.of_eq ?_));rw[decide_eq_true j,X4];rfl
 .have j: ¬a.rel=b.rel:=of_decide_eq_false j;refine gA Z (aI (by first|exact .inr Z|exact .inl Z) Z ?_);rw[decide_eq_false j,Xj];exact .of_eq Z
theorem Cc(a b:List Fact)(hl:a.length<=1000000000)(ha: ∀f∈a,f.args.length<=1000000000):Pure prog 15 [.iv (a7 2 a Fact.c),.iv (a7 2 b Fact.c)] (pB (kw (a=b))):=by
 refine ah ab func15 Z (by decide) ntmps15 Z (by simp) Z ?_;refine gA Z ?_;refine Vo (fun u=>?_) (fun u=>?_)
 .have u: ¬a.length=b.length:=by
   intro e;have g:(!kw ((a.length:Int)=(b.length:Int)))=is:=u;rw[e]at g;simp at g
  rw[decide_eq_false fun e=>u (by rw[e])];refine gA Z (aI (by first|exact .inr Z|exact .inl Z) Z (.of_eq ?_));rfl
 have u:a.length=b.length:=by
  have g:(!kw ((a.length:Int)=(b.length:Int)))=jp:=u;rw[Xf,decide_eq_true_eq]at g;exact Int.ofNat_inj.1 g
 refine gA Z ?_;refine aM 0 a.length (VB _) (fun i=>⟨[(0,.iv (a7 2 a Fact.c)),(1,.iv (a7 2 b Fact.c)),(5,pI i)],[],0⟩) (fun i=> ∀j,j<i->a.getD j ci=b.getD j ci) [] (fun j x=>absurd x (Xl j))
  (wk Z Z Z (bi (bi (bi trivial))) trivial Z) fun i C B=>?_
 refine gA Z ?_;refine Vo (fun h1=>?_) (fun h1=>?_)
 .have h1:i<a.length:=by simpa using h1
  have A:(a.getD i ci).args.length<=1000000000:=ha _ (by rw[Vr,Vt h1];exact Wj h1);refine gA Z (bc ab [] (Pure.nv (E7 (a.getD i ci) (b.getD i ci) A)) Z Z Z Z Z Z Z Z Z Z Z Z (by(repeat' (first|exact ac|exact rfl|exact ae.refl _|exact ae.bk (by assumption)|apply Vo))<;>first|omega|(simp only[Vu];omega)|(simp;done)|(simp;omega)) Z (by(repeat' (first|exact ac|exact rfl|exact ae.refl _|exact ae.bk (by assumption)|apply Vo))<;>first|omega|(simp only[Vu];omega)|(simp;done)|(simp;omega)) ?_);refine gA Z ?_;refine Vo (fun y=>?_) (fun y=>?_)
  .have g: ¬a.getD i ci=b.getD i ci:=by
    have g:(!kw (a.getD i ci=b.getD i ci))=is:=y;simpa using g
   rw[decide_eq_false (AZ g)];refine gA Z (aI (by first|exact .inr Z|exact .inl Z) Z (.of_eq ?_));rfl
  .have g:a.getD i ci=b.getD i ci:=by
    have g:(!kw (a.getD i ci=b.getD i ci))=jp:=y;simpa using g
   refine gA Z ⟨h1,fun j x=>by rcases Xo.1 x with h|h;exact B j h;exact h▸g,[],wk Z Z Z (bi (bi (bi ac))) ac Z⟩
 .have h1:a.length<=i:=by simpa using h1
  rw[decide_eq_true (zB u fun j x=>B j (by omega))];refine gA Z (aI (by first|exact .inr Z|exact .inl Z) Z (.of_eq ?_));rfl
end Go.Proofs.YtlmhfgbkchnfbaaGreatDoor
namespace Go.Proofs.YtlmhfgbkchnfbaaGreatDoor
open Go Go.Al Go.Bo
section
def nmP:aq:=⟨#[112]⟩
def TC(n:Int):Fact:=⟨nmP,[⟨1,n,Vx⟩]⟩
section
variable {ok:Fact->Bool} (hok: ∀n:Int, -1<=n->n<=65536->ok (TC n)=is)
include hok
end
def more:List (b6 Fact):=[(is,TC 65536),(is,TC (-1)),(jp,TC 0),(jp,TC 1)]
end
abbrev Vf(l:List (b6 Fact)):List IV:=[a7 3 l fb]
end Go.Proofs.YtlmhfgbkchnfbaaGreatDoor
namespace Go.Proofs.YtlmhfgbkchnfbaaGreatDoor
open Go Go.Al Go.Proofs.Tryz Go.Bo Go.ChangeShapes Go.WideShapes Go.RowKit
section
theorem Rm:prog.cellsOf 4=1:=by kernel_rfl
theorem EB:prog.cellsOf 64=3:=by kernel_rfl
section
variable {H:Type} {enc:TypeId×Value->H} {W:World} {hT:oA W} {sp:Nat->Bool} {held:Bool}
def QC(x:b6 Fact)(d:DataW H):Prop:=x.2.args.length<=bk d
theorem LN(n:Nat):Rd enc prog W hT sp held 4 (fun b=> [.v (.bool b)]) (fun _ _=>True) n:=by
 intro m _ j y h;obtain⟨b,rfl,rfl⟩:=DataW.trod_bool underlying4 h;exact⟨b,.one (.v _),ac⟩
theorem Qs(n:Nat):Rd enc prog W hT sp held 64 fb QC n:=by
 intro m _ C y h;obtain⟨B,k,rfl,rfl,hl,x,hf⟩:=DataW.trod_struct underlying64 h
 match B,x with
 | [x0,x1],_=>
  obtain⟨a,j,_⟩:=LN (hT:=hT) k k (VA _) _ _ (Q6 hf 0 Z Z Z Rm Z);obtain⟨b,u,A⟩:=LL (hT:=hT) k k (VA _) _ _ (Q6 hf 1 Z Z Z EC Z);refine⟨(a,b),j.B4 (o':=1) Z (u.B4 (o':=3) Z (.end_ (hl.trans EB))),?_⟩;simp only[QF,bk]at A;simp only[QC,bk,Vy,VQ,Rows.uptoBulk,Rows.uptoBulkAll];omega
theorem LM(n:Nat):Rd enc prog W hT sp held 43 Vf (QL QC) n:=
 (Av (hT:=hT) underlying43 EB (by decide) (fun _=>rfl) (Qs n)).mono (Xx n)
end
theorem Jp{H:Type}{enc:TypeId×Value->H}{W:World}(hT:oA W){v:Value}{d:DataW H}{p:List MemPlace}(j: ∃base,Value.okWide prog W .any base 43 v)(h:DataW.Trod enc prog W 0 (fun _=>is) is 43 v d p):
  ∃x:List (b6 Fact),QL QC x d∧VR (Mem.qU W hT) T8 (· <0) (.iv (a7 3 x fb)) v:=by
 obtain⟨base,j⟩:=j;obtain⟨a,len,a0,rfl⟩:=okWide_slice underlying43 j;obtain⟨n,y⟩:=h;obtain⟨r,h1,u⟩:=LM (hT:=hT) n n (VA _) _ _ y;exact⟨r,u,Pd h1⟩
end
end Go.Proofs.YtlmhfgbkchnfbaaGreatDoor
namespace Go.Proofs.YtlmhfgbkchnfbaaGreatDoor
open Go Go.Al Go.Proofs.Tryz Go.ChangeShapes Go.WideShapes Go.RowKit
theorem jz:prog.closure 5=[5,6,7,17,30,37,65,66,98,97,127,173,214,174,121,168,207,242,259,208,114,128,175,123,120,92,122,169,209,170,171,210,153,243,260,267,268,269,270,147,273,274,271,272,275,276,277,278,261,94,125,176,172,211,244,212,245,246,263,262,264,213,124,177,192,215,247,178,216,221,179,181,182,180,217,183,184,185,186,218,248,219,135,194,220,187,222,249,223,225,250,224,226,188,189,227,251,252,130,193,228,253,190,96,67,99,100,129,108,146,191,229,235,257,230,254,231,196,197,232,255,256,265,233,234,236,237,101,68,102,131,132,133,103,134,104,136,62,69,70,95,105,126,137,61,91,93,34,31,32,63,33,35,64,36,18,38,71,106,11,23,44,76,24,25,45,77,115,112,151,202,152,78,80,79,46,81,47,82,116,154,155,203,156,157,204,205,240,158,159,160,161,83,73,110,148,200,111,149,150,201,239,109,26,41,74,43,42,75,113,21,9,20,14,27,48,28,49,50,84,85,87,51,86,52,53,54,55,56,57,88,117,162,89,58,59,90,118,163,164,206,138,241,258,266,167,166,165,119,8,19,39,40,72,107,139,195,140,141,198,199,238,142,143,144,145,15,29,60,10,22,12,16]:=by kernel_rfl
theorem sG:joinedFacts prog 5 f5 (OpenSpec.ofChange Rows.journalNilSpec).bare Rows.journalNilRow=is:=by
 have h1:prog.inPlace 5=Rows.journalNilRow.inPlace:=by unfold Program.inPlace;rw[jz];kernel_rfl
 have j:prog.unfollowed 5=is:=by unfold Program.unfollowed;rw[jz];kernel_rfl
 have u:prog.varsNamed 5=Rows.journalNilRow.named:=by unfold Program.varsNamed;rw[jz];kernel_rfl
 have x:prog.recurses 5=is:=by unfold Program.recurses;rw[j];rfl
 unfold joinedFacts;rw[h1,j,u,x];show(_:Bool)=is
 kernel_rfl
end Go.Proofs.YtlmhfgbkchnfbaaGreatDoor
namespace Go.Proofs.YtlmhfgbkchnfbaaGreatDoor
open Go Go.Al Go.Proofs.Tryz
theorem He: ∀(n:Nat) (e:Expr),e.size<=n->e.size<=1000000000->Pure prog 126 [ag e.c] (ag e.c)
 |0,e,h,_=>absurd e.size_pos (by omega)
 |n+1,e,h,hb=>by
  have B:=e.size_eq;have A:=Expr.aJ e.args;refine Al.Pure.le (aa:=[ag e.c]) (args:=[ag e.c1]) ?_ ⟨e.Gl,ac⟩;by_cases u:e.args=[]
  .refine ah ab func126 Z (by decide) ntmps126 Z (by simp) Z ?_;refine gA Z (aB (DR e.args (by omega)) Z Z Z Z Z Z ?_);refine gA Z (mR (n:=0) ?_);refine gA Z ?_;refine Vo (fun y=>?_) (fun y=>?_)
   .exact absurd y (by simp[u])
   refine gA Z (aI (by first|exact .inr Z|exact .inl Z) Z ?_);exact e.FL
  refine ah ab func126 Z (by decide) ntmps126 Z (by simp) Z ?_;refine gA Z (ak [] (Aj e.args (by omega) u) Z Z Z Z Z Z Z Z ?_);refine gA Z ?_;refine aM 0 e.args.length (VB _) (fun i=>⟨[(1,.ptr 0 0),(2,.ptr 1 0),(10,pI e.args.length),(11,pI i)],[(0,co (.cells [.iv (iI e.kind),.iv (iS e.var),.iv (iI e.val.kind),.iv (iI e.val.num),.iv (iS e.val.sym),.iv (iI e.op),.sl 2 0 e.args.length 7])),(1,co (.cells [pI 0,pS Vx,pI 0,pI 0,pS Vx,pI 0,.iv (.v (.slice io 0 0))])),(2,co (aV 7 e.args Expr.c))],3⟩) (fun _=>True) [] ac
   (wk Z Z Z (bi (bi (bi (bi trivial)))) ⟨⟨_,rfl,.of_eq Z⟩,Vm Z,rfl,⟨⟨_,rfl,.of_eq Z⟩,Vm Z,rfl,hR Z (by rw[Wx];exact WE fun x _=>ja _ _) Z trivial⟩⟩ Z) fun i D _=>?_
  refine gA Z ?_;refine Vo (fun h1=>?_) (fun h1=>?_)
  .have h1:i<e.args.length:=by simpa using h1
   have C:=Expr.bT e.args i h1;have j:=Cn (g:=fun x=>(Expr.c x).map PV.iv) h1;refine gM 16 Z (kq (p:=ag (e.args.getD i ci).c) 7 Z Z Z Z Z Z (dd ab Z Z Z Z j Z) ?_);refine gA Z (bc ab [] (Pure.nv (He n (e.args.getD i ci) (by omega) (by omega))) Z Z Z Z Z Z Z Z Z Z Z Z (by(repeat' (first|exact ac|exact rfl|exact ae.refl _|exact ae.bk (by assumption)|apply Vo))<;>first|omega|(simp only[Vu];omega)|(simp;done)|(simp;omega)) Z (by(repeat' (first|exact ac|exact rfl|exact ae.refl _|exact ae.bk (by assumption)|apply Vo))<;>first|omega|(simp only[Vu];omega)|(simp;done)|(simp;omega)) ?_);refine gA Z (iC ab Z Z Z Z Z (by first|trivial|(repeat' apply Vo)<;>trivial) (uz ab Z Z (i:=2) (sz:=7) (q:=0+i) Z Z Z Z (by simp;omega) Z Z Z) Z (by first|trivial|(repeat' apply Vo)<;>trivial) ?_);refine gA Z ⟨h1,ac,[],wk Z Z Z (bi (bi (bi (bi ac)))) ⟨⟨_,rfl,.of_eq Z⟩,Vm Z,rfl,⟨⟨_,rfl,.of_eq Z⟩,Vm Z,rfl,hR Z (An (g:=fun x=>(Expr.c x).map PV.iv) h1) Z ac⟩⟩ Z⟩
  .have h1:e.args.length<=i:=by simpa using h1
   refine gA Z (gj (.inr Z) Z (ft.gd 2 e.args Expr.c Z Z (by simp[PV.ba,a8]) (.done ?_)));have:ae (ag e.c1) (ag e.c):=e.FL;simp only[PV.dA,nD,VL];exact this
theorem yx(e:Expr)(hb:e.size<=1000000000):Pure prog 126 [ag e.c] (ag e.c):=He e.size e (VA _) hb
mutual
def Lit.bare:Lit->Lit
 | .mk k a op l r f v o b _=> .mk k a op l r f v o (Lit.iG b) ⟨0,0⟩
def Lit.iG:List Lit->List Lit
 | []=> []
 |x::r=>x.bare::Lit.iG r
end
def Lit.Vg(l:Lit):Lit:= .mk l.kind l.atom l.op l.left l.right l.dP l.bE l.jT l.ay ⟨0,0⟩
theorem Lit.M4(l:Lit):l.bare= .mk l.kind l.atom l.op l.left l.right l.dP l.bE l.jT (Lit.iG l.ay) ⟨0,0⟩:=by cases l;rw[Lit.bare];rfl
theorem Lit.oW: ∀l:List Lit,Lit.iG l=l.map Lit.bare
 | []=>rfl
 |x::r=>by rw[Lit.iG,Lit.oW r];rfl
def aw.bare(r:aw):aw:=⟨r.head,Lit.iG r.body,⟨0,0⟩⟩
def Decl.bare(d:Decl):Decl:=⟨d.name,d.types,⟨0,0⟩⟩
def Prog.bare(p:Prog):Prog:=⟨p.aD.map Decl.bare,p.rules.map aw.bare⟩
def gd(l:List Lit)(i:Nat):List Lit:=(l.take i).map Lit.bare++l.drop i
abbrev cL(x:Lit):List PV:=(Lit.c x).map PV.iv
theorem Qn(l:List Lit):gd l 0=l:=by simp[gd]
theorem Hl{l:List Lit}{i:Nat}(h:l.length<=i):gd l i=Lit.iG l:=by
 rw[gd,VI h,List.drop_eq_nil_of_le h,We,Lit.oW]
theorem LG{l:List Lit}{i:Nat}(h:i<l.length):((gd l i).map cL)[0+i]? =co (cL (l.getD i ci)):=by
 rw[VL,Vv,gd,VK (by simp;omega)];simp only[VS,V7,Wl];rw[show i+(i-min i l.length)=i by omega,Vt h,Vr,Vt h];rfl
theorem P1{es:List (List PV)}{i:Nat}{r r2:List PV}(h:es[0+i]? =co r):(es.set (0+i) r2)[0+i]? =co r2:=by
 rw[Xd,am Z,am (Vs.1 h).1]
theorem Fe{l:List Lit}{i:Nat}(h:i<l.length)(r:List PV):(((gd l i).map cL).set (0+i) r).set (0+i) (cL (l.getD i ci).bare)=(gd l (i+1)).map cL:=by
 rw[List.set_set,VL];have j:gd l i=(l.take i).map Lit.bare++(l.getD i ci::l.drop (i+1)):=by
  rw[gd,Vr,Vt h];show _++l.drop i=_++(l[i]::_)
  rw[Xc h]
 have u:gd l (i+1)=(l.take i).map Lit.bare++((l.getD i ci).bare::l.drop (i+1)):=by
  rw[gd,bS h,VD,VF];rfl
 rw[j,u,VD,VD,List.set_append_right _ _ (by simp;omega)];simp only[VS,V7,Vy];rw[show i-min i l.length=0 by omega];rfl
theorem DI{y:IV}(A:jV (lits []) y):Pure prog 95 [.iv (lits [])] (.iv y):=by
 refine ah ab func95 Z (by decide) ntmps95 Z (by simp) Z ?_;refine gA Z (aB (DP [] (by simp)) Z Z Z Z Z Z ?_);refine gA Z (mR (n:=0) ?_);refine gA Z ?_;refine Vo (fun j=>?_) (fun j=>?_)
 .exact absurd j (by simp)
 refine gA Z (aI (by first|exact .inr Z|exact .inl Z) Z ?_);exact .iv (fun M x u=>A M x u)
set_option maxHeartbeats 2000000 in
theorem Qc: ∀(n:Nat) (l:List Lit) (y:IV),Lit.aC l<=n->Lit.aC l<=1000000000->jV (lits (Lit.iG l)) y->Pure prog 95 [.iv (lits l)] (.iv y):=by
 intro n
 induction n with
 |zero=>
  intro l y h hb D;have hl:=Lit.aJ l;have C:l=[]:=WT.1 (by omega);subst C;exact DI D
 |succ n ih=>
  intro l y h hb D;have hl:=Lit.aJ l;by_cases G:l=[]
  .subst G;exact DI D
  refine ah ab func95 Z (by decide) ntmps95 Z (by simp) Z ?_;refine gA Z (ak [] (Ai l (by omega) G) Z Z Z Z Z Z Z Z ?_);refine gA Z ?_;refine aM 0 l.length (VB _) (fun i=>⟨[(0,.iv (lits l)),(3,.sl 0 0 l.length 30),(9,pI l.length),(10,pI i)],[(0,co (.row 30 ((gd l i).map cL)))],1⟩) (fun _=>True) [] ac
   (wk Z Z Z (bi (bi (bi (bi trivial)))) (hR (l:=gd l 0) Z (by rw[Qn,Wx];exact WE fun x _=>ja _ _) Z trivial) Z) fun i Y _=>?_
  refine gA Z ?_;refine Vo (fun h1=>?_) (fun h1=>?_)
  .have h1:i<l.length:=by simpa using h1
   have J:=Lit.bT l i h1;have I:=(l.getD i ci).size_eq;have j:=LG h1;have u:=Fe h1 (cL (l.getD i ci).Vg);generalize(gd l i).map cL=es at j u ⊢;generalize B:(gd l (i+1)).map cL=es2 at u;generalize A:es.set (0+i) (cL (l.getD i ci).Vg)=es1 at u;refine gA Z (vl ab es1 Z Z Z Z Z Z j Z Z (by decide) Z A ?_);have j:=P1 (r2:=cL (l.getD i ci).Vg) j;rw[A]at j;refine gM 8 Z (kn ab Z Z Z Z Z (j) Z Z ?_);refine gA Z (aB (tL (l.getD i ci).atom.an (by omega)) Z Z Z Z Z Z ?_);refine gA Z (mS ab Z Z Z Z (i:=0) (q:=0+i) (off:=2) Z Z j Z Z (by decide) Z Z ?_);refine gM 9 Z (kq (p:=ag (l.getD i ci).left.c) 6 Z Z Z Z Z Z (dd ab Z Z Z Z j Z) ?_);refine gM 3 Z (kq (p:=ag (l.getD i ci).right.c) 11 Z Z Z Z Z Z (dd ab Z Z Z Z j Z) ?_);refine gM 4 Z (kq (p:=ag (l.getD i ci).jT.c) 17 Z Z Z Z Z Z (dd ab Z Z Z Z j Z) ?_);refine gA Z (rm ab [11,17] [] (Pure.nv (yx (l.getD i ci).left (by omega))) Z Z Z Z Z Z Z Z Z Z Z Z (by(repeat' (first|exact ac|exact rfl|exact ae.refl _|exact ae.bk (by assumption)|apply Vo))<;>first|omega|(simp only[Vu];omega)|(simp;done)|(simp;omega)) Z (by(repeat' (first|exact ac|exact rfl|exact ae.refl _|exact ae.bk (by assumption)|apply Vo))<;>first|omega|(simp only[Vu];omega)|(simp;done)|(simp;omega)) ⟨mn ab Z Z Z Z Z Z Z j Z (.refl _),⟨mn ab Z Z Z Z Z Z Z j Z (.refl _),ac⟩⟩ ?_);refine gA Z (rm ab [17] [] (Pure.nv (yx (l.getD i ci).right (by omega))) Z Z Z Z Z Z Z Z Z Z Z Z (by(repeat' (first|exact ac|exact rfl|exact ae.refl _|exact ae.bk (by assumption)|apply Vo))<;>first|omega|(simp only[Vu];omega)|(simp;done)|(simp;omega)) Z (by(repeat' (first|exact ac|exact rfl|exact ae.refl _|exact ae.bk (by assumption)|apply Vo))<;>first|omega|(simp only[Vu];omega)|(simp;done)|(simp;omega)) ⟨mn ab Z Z Z Z Z Z Z j Z (.refl _),ac⟩ ?_);refine gA Z (bc ab [] (Pure.nv (yx (l.getD i ci).jT (by omega))) Z Z Z Z Z Z Z Z Z Z Z Z (by(repeat' (first|exact ac|exact rfl|exact ae.refl _|exact ae.bk (by assumption)|apply Vo))<;>first|omega|(simp only[Vu];omega)|(simp;done)|(simp;omega)) Z (by(repeat' (first|exact ac|exact rfl|exact ae.refl _|exact ae.bk (by assumption)|apply Vo))<;>first|omega|(simp only[Vu];omega)|(simp;done)|(simp;omega)) ?_);refine gA Z (iC ab Z Z Z Z Z (by(repeat' (first|exact ac|exact rfl|exact ae.refl _|exact ae.bk (by assumption)|apply Vo))<;>first|omega|(simp only[Vu];omega)|(simp;done)|(simp;omega)) (fY ab Z Z Z (i:=0) (q:=0+i) (off:=4) Z Z j Z Z (by decide) Z Z) Z (by(repeat' (first|exact ac|exact rfl|exact ae.refl _|exact ae.bk (by assumption)|apply Vo))<;>first|omega|(simp only[Vu];omega)|(simp;done)|(simp;omega)) ?_);refine gA Z (iC ab Z Z Z Z Z (by(repeat' (first|exact ac|exact rfl|exact ae.refl _|exact ae.bk (by assumption)|apply Vo))<;>first|omega|(simp only[Vu];omega)|(simp;done)|(simp;omega)) (fY ab Z Z Z (i:=0) (q:=0+i) (off:=11) Z Z j Z Z (by decide) Z Z) Z (by(repeat' (first|exact ac|exact rfl|exact ae.refl _|exact ae.bk (by assumption)|apply Vo))<;>first|omega|(simp only[Vu];omega)|(simp;done)|(simp;omega)) ?_);refine gA Z (iC ab Z Z Z Z Z (by(repeat' (first|exact ac|exact rfl|exact ae.refl _|exact ae.bk (by assumption)|apply Vo))<;>first|omega|(simp only[Vu];omega)|(simp;done)|(simp;omega)) (fY ab Z Z Z (i:=0) (q:=0+i) (off:=20) Z Z j Z Z (by decide) Z Z) Z (by(repeat' (first|exact ac|exact rfl|exact ae.refl _|exact ae.bk (by assumption)|apply Vo))<;>first|omega|(simp only[Vu];omega)|(simp;done)|(simp;omega)) ?_);refine gM 7 Z (kn ab Z Z Z Z Z (j) Z Z ?_);refine gA Z (aB (Al.Pure.le (aa:=[.iv (rD (l.getD i ci).ay)]) (ih (l.getD i ci).ay (rD (Lit.iG (l.getD i ci).ay)) (by omega) (by omega) (CG _)) ⟨.iv (mJ _),ac⟩) Z Z Z Z Z Z ?_);refine gA Z (vl ab es2 Z Z Z Z Z Z j Z Z (by decide) Z (by rw[<-u,Lit.M4];rfl) ?_);refine gA Z ?_;subst B;exact⟨h1,ac,[],wk Z Z Z (bi (bi (bi (bi ac)))) (hR (l:=gd l (i+1)) Z Z Z ac) Z⟩
  .have h1:l.length<=i:=by simpa using h1
   rw[Hl h1];refine gA Z (gj (r0:= .sl 0 0 l.length 30) (.inr Z) Z (ft.gd 0 (Lit.iG l) Lit.c Z Z (by simp[PV.ba,a8,Lit.oW]) (.done ?_)));have e:(Lit.iG l).length=l.length:=by rw[Lit.oW,VS]
   have:ae (.iv (.bK 30 l.length fun k=>Lit.c ((Lit.iG l).getD k ci))) (.iv y):=by rw[<-e];exact .iv D
   simp only[PV.dA,nD,VL];exact this
theorem Lt(l:List Lit)(hb:Lit.aC l<=1000000000):Pure prog 95 [.iv (lits l)] (.iv (lits (Lit.iG l))):=Qc _ l _ (VA _) hb (fun _ _ h=>h)
theorem S8(p:Prog)(hb:p.size<=1000000000):Pure prog 62 [ag p.c] (ag p.bare.c):=by
 unfold Prog.size at hb;refine ah ab func62 Z (by decide) ntmps62 Z (by simp) Z ?_;refine gM 9 Z ?_;refine km 2 0 4 Z Z ?_;refine km 2 1 5 Z Z ?_;refine gA Z ?_;refine aM 0 p.aD.length (VB _) (fun i=>⟨[(1,.ptr 0 0),(2,.ptr 1 0),(3,.ptr 2 0),(9,.iv (a7 4 p.aD Decl.c)),(10,pI p.aD.length),(11,pI i)],[(0,co (aG p.c)),(1,co (.cells [.iv (.v (.slice io 0 0)),.iv (.v (.slice io 0 0))])),(2,co (.cells [.sl 5 0 i 4,.sl 4 0 0 5])),(4,co (aV 5 ([]:List aw) aw.c)),(5,co (aV 4 ((p.aD.take i).map Decl.bare) Decl.c))],6⟩) (fun _=>True) [3] ac
  (wk Z Z Z (bi (bi (bi (bi (bi (bi trivial)))))) (hC Z Z Z ⟨⟨_,rfl,.of_eq Z⟩,Vm Z,rfl,⟨_,rfl,.of_eq Z⟩,Vm Z,rfl,hR Z Z Z (hR Z Z Z trivial)⟩) Z) fun i B _=>?_
 refine gA Z ?_;refine Vo (fun h1=>?_) (fun h1=>?_)
 .have h1:i<p.aD.length:=by simpa using h1
  have y:((p.aD.take i).map Decl.bare).length=i:=by rw[VS,V7];omega
  have x:=bS (l:=p.aD) h1;have A:=oG (fun d:Decl=>d.types.length) p.aD i h1;refine gA Z (bc ab [] (Pure.nv (DQ (p.aD.getD i ci).types (by omega))) Z Z Z Z Z Z Z Z Z Z Z Z (by(repeat' (first|exact ac|exact rfl|exact ae.refl _|exact ae.bk (by assumption)|apply Vo))<;>first|omega|(simp only[Vu];omega)|(simp;done)|(simp;omega)) Z (by(repeat' (first|exact ac|exact rfl|exact ae.refl _|exact ae.bk (by assumption)|apply Vo))<;>first|omega|(simp only[Vu];omega)|(simp;done)|(simp;omega)) ?_);refine gA Z ⟨h1,ac,[8],wk Z Z Z (bi (bi (bi (bi (bi (bi ac)))))) (hC Z Z Z ⟨⟨_,rfl,.of_eq Z⟩,Vm Z,rfl,⟨⟨_,rfl,.of_eq Z⟩,Vm Z,rfl,hR Z Z Z (hR Z (by rw[x,VD,VD];rfl) Z ac)⟩⟩) Z⟩
 .have h1:p.aD.length<=i:=by simpa using h1
  have u:i=p.aD.length:=by omega
  subst u;rw[VI (VA _)];refine gA Z ?_;refine aM 0 p.rules.length (VB _) (fun i=>⟨[(1,.ptr 0 0),(2,.ptr 1 0),(3,.ptr 2 0),(28,.iv (a7 5 p.rules aw.c)),(29,pI p.rules.length),(30,pI i)],[(0,co (aG p.c)),(1,co (.cells [.iv (.v (.slice io 0 0)),.iv (.v (.slice io 0 0))])),(2,co (.cells [.sl 5 0 p.aD.length 4,.sl 6 0 i 5])),(5,co (aV 4 (p.aD.map Decl.bare) Decl.c)),(6,co (aV 5 ((p.rules.take i).map aw.bare) aw.c))],7⟩) (fun _=>True) [4] ac
   (wk Z Z Z (bi (bi (bi (bi (bi (bi trivial)))))) (hC Z Z Z ⟨⟨_,rfl,.of_eq Z⟩,Vm Z,rfl,⟨⟨_,rfl,.of_eq Z⟩,Vm Z,rfl,hR Z Z Z (hR Z Z Z trivial)⟩⟩) Z) fun i B _=>?_
  refine gA Z ?_;refine Vo (fun j=>?_) (fun j=>?_)
  .have j:i<p.rules.length:=by simpa using j
   have y:((p.rules.take i).map aw.bare).length=i:=by rw[VS,V7];omega
   have x:=bS (l:=p.rules) j;have A:=oG aw.size p.rules i j;have C:(p.rules.getD i ci).size=(p.rules.getD i ci).head.an.length+Lit.aC (p.rules.getD i ci).body:=rfl;refine gA Z (bc ab [] (Pure.nv (tL (p.rules.getD i ci).head.an (by omega))) Z Z Z Z Z Z Z Z Z Z Z Z (by(repeat' (first|exact ac|exact rfl|exact ae.refl _|exact ae.bk (by assumption)|apply Vo))<;>first|omega|(simp only[Vu];omega)|(simp;done)|(simp;omega)) Z (by(repeat' (first|exact ac|exact rfl|exact ae.refl _|exact ae.bk (by assumption)|apply Vo))<;>first|omega|(simp only[Vu];omega)|(simp;done)|(simp;omega)) ?_);refine gA Z (bc ab [] (Pure.nv (Lt (p.rules.getD i ci).body (by omega))) Z Z Z Z Z Z Z Z Z Z Z Z (by(repeat' (first|exact ac|exact rfl|exact ae.refl _|exact ae.bk (by assumption)|apply Vo))<;>first|omega|(simp only[Vu];omega)|(simp;done)|(simp;omega)) Z (by(repeat' (first|exact ac|exact rfl|exact ae.refl _|exact ae.bk (by assumption)|apply Vo))<;>first|omega|(simp only[Vu];omega)|(simp;done)|(simp;omega)) ?_);refine gA Z ⟨j,ac,[9],wk Z Z Z (bi (bi (bi (bi (bi (bi ac)))))) (hC Z Z Z ⟨⟨_,rfl,.of_eq Z⟩,Vm Z,rfl,⟨⟨_,rfl,.of_eq Z⟩,Vm Z,rfl,hR Z Z Z (hR Z (by rw[x,VD,VD];rfl) Z ac)⟩⟩) Z⟩
  .have j:p.rules.length<=i:=by simpa using j
   have u:i=p.rules.length:=by omega
   subst u;rw[VI (VA _)];refine gA Z (gj (r0:= .agg [.sl 5 0 p.aD.length 4,.sl 6 0 p.rules.length 5]) (.inr Z) Z (ft.gd 5 (p.aD.map Decl.bare) Decl.c Z Z (by simp[PV.ba,a8]) (ft.gd 6 (p.rules.map aw.bare) aw.c Z Z (by simp[PV.ba,a8,PV.dA,nD,show VP 6 5=jp from rfl]) (.done (.of_eq (by simp only[PV.dA,nD,VL,show VP 6 5=jp from rfl,show VP 5 5=is from rfl,show VP 6 6=is from rfl,cond_true,cond_false];show _=PV.agg [PV.iv (.bK 4 (p.aD.map Decl.bare).length fun k=>((List.map Decl.bare p.aD).getD k ci).c),PV.iv (.bK 5 (p.rules.map aw.bare).length fun k=>((List.map aw.bare p.rules).getD k ci).c)];rw[VS,VS]))))))
def Lr:aq:=⟨#[114,101,108,97,116,105,111,110,32]⟩
def SS:aq:=⟨#[110,117,109]⟩
def SH:aq:=⟨#[115,121,109]⟩
def RB:aq:=⟨#[32,58,45,32]⟩
def Lv:aq:=⟨#[46,10]⟩
def Gg(w:WS)(t:Int):WS:=if t=1 then aT w [SS] else if t=2 then aT w [SH] else nE w
def o5(l:List Int)(w:WS):Nat->WS
 |0=>w
 |i+1=>Gg (eV i (o5 l w i)) (l.getD i ci)
def rz(w:WS)(d:Decl):WS:=aT (o5 d.types (aT (aU w (fM d.name)) [Lr,d.name,sO]) d.types.length) [sC]
def Decl.ts(d:Decl):Nat:=d.name.size+30+10*d.types.length
theorem JO(w:WS)(t:Int):(Gg w t).l.length<=w.l.length+3:=by
 have j:SS.size=3:=rfl;have u:SH.size=3:=rfl;unfold Gg
 repeat' split
 .rw[aK,j];omega
 .rw[aK,u];omega
 .rw[fj];omega
theorem Ph(w:WS)(t:Int):(Gg w t).br=w.br:=by
 unfold Gg
 repeat' split
 .exact bP _ _
 .exact bP _ _
 .rfl
theorem uu(l:List Int)(w:WS): ∀i,(o5 l w i).l.length<=w.l.length+5*i
 |0=>by simp[o5]
 |i+1=>by
  have h1:=uu l w i;have j:=iV i (o5 l w i);have u:=JO (eV i (o5 l w i)) (l.getD i ci);rw[o5];omega
theorem Dt(l:List Int)(w:WS): ∀i,(o5 l w i).br=w.br
 |0=>rfl
 |i+1=>by rw[o5,Ph,oT,Dt l w i]
theorem xV(w:WS)(d:Decl):(rz w d).l.length+10<=w.l.length+d.ts:=by
 have j:Lr.size=9:=rfl;have u:sO.size=1:=rfl;have y:sC.size=1:=rfl;have x:eB [Lr,d.name,sO]=d.name.size+10:=by simp[eB,j,u];omega
 have h:=uu d.types (aT (aU w (fM d.name)) [Lr,d.name,sO]) d.types.length;rw[gB,x,aR]at h;rw[rz,aK,y,Decl.ts];omega
theorem I0(w:WS)(d:Decl):(rz w d).br=w.br:=by rw[rz,bP,Dt,bP];rfl
theorem E8(w:WS)(d:Decl)(hb:w.l.length+d.ts<=900000000):bg prog 91 [.ptr 0 0,ag d.c] w.O (.aZ []) (rz w d).H 3:=by
 have J:Lr.size=9:=rfl;have Y:sO.size=1:=rfl;have e4:sC.size=1:=rfl;have e5:wq.size=2:=rfl;have G:SS.size=3:=rfl;have I:SH.size=3:=rfl;have D:eB [Lr,d.name,sO]=d.name.size+10:=by simp[eB,J,Y];omega
 have c0:d.ts=d.name.size+30+10*d.types.length:=rfl;have a0:(aT (aU w (fM d.name)) [Lr,d.name,sO]).l.length=w.l.length+(d.name.size+10):=by rw[gB,D,aR]
 refine aj ab func91 Z (by decide) ntmps91 Z (by simp) ?_;refine gA Z (aB (TP d.name) Z Z Z Z Z Z ?_);refine gA Z (CW (d146 w (fM d.name)) Z Z Z Z Z Z Z Z Z Z Z Z ?_);refine gA Z (go_wp (d147 (aU w (fM d.name)) [Lr,d.name,sO] (by simp) (by rw[D,aR];omega)) Z Z Z Z Z Z Z Z Z Z Z Z ?_);generalize hW:aT (aU w (fM d.name)) [Lr,d.name,sO]=w1 at*
 refine gA Z ?_;refine aM 0 d.types.length (VB _) (fun i=>⟨[(0,.ptr 0 0),(17,.iv (a7 1 d.types kg)),(18,pI d.types.length),(19,pI i)],[(0,co ((o5 d.types w1 i).qt 0 6)),(6,co (.bu (o5 d.types w1 i).l 5))],7⟩) (fun _=>True) _ ac
  (JE (w:=w1) Z Z Z Z Z (.refl _) (.refl _) Z Z Z Z Z (bi (bi (bi (bi trivial))))) fun i hi _=>?_
 have b0:=uu d.types w1 i;refine gA Z ?_;refine Vo (fun h1=>?_) (fun h1=>?_);rotate_left
 .have h1:d.types.length<=i:=W9 fun hh=>absurd (YE.2 hh) (of_decide_eq_false h1)
  have C:i=d.types.length:=by omega
  subst C;refine gA Z (go_wp (d147 (o5 d.types w1 d.types.length) [sC] (by simp) (by rw[bt,e4];omega)) Z Z Z Z Z Z Z Z Z Z Z Z ?_);rw[rz,hW];refine gA Z (xQ (by first|exact .inr Z|exact .inl Z) Z Z Z Z Z (by first|exact .refl _|exact .kb _) (by first|exact .refl _|exact .kb _) Z Z Z Z (.refl _) Z Z)
 have h1:i<d.types.length:=YE.1 (of_decide_eq_true h1);have hs:o5 d.types w1 (i+1)=Gg (eV i (o5 d.types w1 i)) (d.types.getD i ci):=rfl;have B:=iV i (o5 d.types w1 i);generalize o5 d.types w1 i=w2 at*
 refine gA Z ?_;refine Vo (fun x=>?_) (fun x=>?_)
 .have x: ¬i=0:=by have:=of_decide_eq_true x;omega
  rw[eV,be x]at hs B;refine gA Z (go_wp (d147 w2 [wq] (by simp) (by rw[bt,e5];omega)) Z Z Z Z Z Z Z Z Z Z Z Z ?_);refine gA Z ?_;refine Vo (fun y=>?_) (fun y=>?_)
  .have j:d.types.getD i ci=1:=of_decide_eq_true y;rw[Gg,am j]at hs;refine gA Z (go_wp (d147 (aT w2 [wq]) [SS] (by simp) (by rw[bt,G];omega)) Z Z Z Z Z Z Z Z Z Z Z Z ?_);refine gA Z ⟨h1,ac,_,JE (hs.symm) Z Z Z Z (by first|exact .refl _|exact .kb _) (by first|exact .refl _|exact .kb _) Z Z Z Z Z (bi (bi (bi (bi ac))))⟩
  .have j: ¬d.types.getD i ci=1:=of_decide_eq_false y;refine gA Z ?_;refine Vo (fun A=>?_) (fun A=>?_)
   .have u:d.types.getD i ci=2:=of_decide_eq_true A;rw[Gg,be j,am u]at hs;refine gA Z (go_wp (d147 (aT w2 [wq]) [SH] (by simp) (by rw[bt,I];omega)) Z Z Z Z Z Z Z Z Z Z Z Z ?_);refine gA Z ⟨h1,ac,_,JE (hs.symm) Z Z Z Z (by first|exact .refl _|exact .kb _) (by first|exact .refl _|exact .kb _) Z Z Z Z Z (bi (bi (bi (bi ac))))⟩
   .have u: ¬d.types.getD i ci=2:=of_decide_eq_false A;rw[Gg,be j,be u]at hs;refine gA Z ⟨h1,ac,_,JE (hs.symm) Z Z Z Z (by first|exact .refl _|exact .kb _) (by first|exact .refl _|exact .kb _) Z Z Z Z Z (bi (bi (bi (bi ac))))⟩
 .have x:i=0:=by have:=of_decide_eq_false x;omega
  rw[eV,am x]at hs B;refine gA Z ?_;refine Vo (fun y=>?_) (fun y=>?_)
  .have j:d.types.getD i ci=1:=of_decide_eq_true y;rw[Gg,am j]at hs;refine gA Z (go_wp (d147 w2 [SS] (by simp) (by rw[bt,G];omega)) Z Z Z Z Z Z Z Z Z Z Z Z ?_);refine gA Z ⟨h1,ac,_,JE (hs.symm) Z Z Z Z (by first|exact .refl _|exact .kb _) (by first|exact .refl _|exact .kb _) Z Z Z Z Z (bi (bi (bi (bi ac))))⟩
  .have j: ¬d.types.getD i ci=1:=of_decide_eq_false y;refine gA Z ?_;refine Vo (fun A=>?_) (fun A=>?_)
   .have u:d.types.getD i ci=2:=of_decide_eq_true A;rw[Gg,be j,am u]at hs;refine gA Z (go_wp (d147 w2 [SH] (by simp) (by rw[bt,I];omega)) Z Z Z Z Z Z Z Z Z Z Z Z ?_);refine gA Z ⟨h1,ac,_,JE (hs.symm) Z Z Z Z (by first|exact .refl _|exact .kb _) (by first|exact .refl _|exact .kb _) Z Z Z Z Z (bi (bi (bi (bi ac))))⟩
   .have u: ¬d.types.getD i ci=2:=of_decide_eq_false A;rw[Gg,be j,be u]at hs;refine gA Z ⟨h1,ac,_,JE (hs.symm) Z Z Z Z (by first|exact .refl _|exact .kb _) (by first|exact .refl _|exact .kb _) Z Z Z Z Z (bi (bi (bi (bi ac))))⟩
def pg(w:WS)(r:aw):WS:=if r.body=[] then il w r.head else c8 (dw (Lit.aC r.body)) r.body (aT (il w r.head) [RB]) r.body.length
def aw.ts(r:aw):Nat:=r.head.ts+Lit.mq r.body+30
theorem w6(w:WS)(r:aw):(pg w r).l.length+10<=w.l.length+r.ts:=by
 have e:RB.size=4:=rfl;have h1:=oX w r.head;unfold pg aw.ts;split
 .omega
 .have j:=me (dw (Lit.aC r.body)) (q8 _) r.body (aT (il w r.head) [RB]) r.body.length (VA _);rw[aK,e,WG]at j;omega
theorem Hk(w:WS)(r:aw):(pg w r).br=w.br:=by
 unfold pg;split
 .exact mh _ _
 .rw[mf _ (tU _),bP,mh]
theorem P6(w:WS)(r:aw)(hs:Lit.aC r.body<=100000000)(j:0<=w.br)(u:w.br<=16)(hb:w.l.length+r.ts<=900000000):bg prog 93 [.ptr 0 0,ag r.c] w.O (.aZ []) (pg w r).H 3:=by
 have e:RB.size=4:=rfl;have y:r.ts=r.head.ts+Lit.mq r.body+30:=rfl;have h1:=oX w r.head;refine aj ab func93 Z (by decide) ntmps93 Z (by simp) ?_;refine gA Z (CW (d104 w r.head (by omega)) Z Z Z Z Z Z Z Z Z Z Z Z ?_);refine gA Z ?_;refine Vo (fun k=>?_) (fun k=>?_)
 .have x: ¬r.body=[]:=fun h=>by
   have g:=of_decide_eq_true k;rw[h]at g;simp at g
  rw[pg,be x];refine gA Z (go_wp (d147 (il w r.head) [RB] (by simp) (by rw[bt,e];omega)) Z Z Z Z Z Z Z Z Z Z Z Z ?_);refine gA Z (CW (d214 (Lit.aC r.body) (QP _ (by omega)) (aT (il w r.head) [RB]) r.body (VA _) (by rw[bP,mh];exact j) (by rw[bP,mh];exact u) (by rw[aK,e];omega) hs) Z Z Z Z Z Z Z Z Z Z Z Z ?_);refine gA Z (xQ (by first|exact .inr Z|exact .inl Z) Z Z Z Z Z (by first|exact .refl _|exact .kb _) (by first|exact .refl _|exact .kb _) Z Z Z Z (.refl _) Z Z)
 .have x:r.body=[]:=V9 (by
   have g:=of_decide_eq_false k
   omega)
  rw[pg,am x];refine gA Z (xQ (by first|exact .inr Z|exact .inl Z) Z Z Z Z Z (by first|exact .refl _|exact .kb _) (by first|exact .refl _|exact .kb _) Z Z Z Z (.refl _) Z Z)
def fU(l:List Decl)(w:WS):Nat->WS
 |0=>w
 |i+1=>aT (rz (fU l w i) (l.getD i ci)) [Lv]
def gQ(l:List aw)(w:WS):Nat->WS
 |0=>w
 |i+1=>aT (pg (gQ l w i) (l.getD i ci)) [Lv]
def qN(p:Prog):WS:=gQ p.rules (fU p.aD WS.o p.aD.length) p.rules.length
def Prog.ts(p:Prog):Nat:=(p.aD.map Decl.ts).sum+(p.rules.map aw.ts).sum
theorem oF{α:Type}[Inhabited α](f:α->Nat)(l:List α)(i:Nat)(h:i<l.length):((l.take (i+1)).map f).sum=((l.take i).map f).sum+f (l.getD i ci):=by
 rw[bS h,VD,List.sum_append];simp
theorem qF{α:Type}(f:α->Nat): ∀(l:List α) (i:Nat),((l.take i).map f).sum<=(l.map f).sum
 | [],i=>by simp
 |s::r,0=>by simp
 |s::r,i+1=>by have:=qF f r i;simp at this ⊢;omega
theorem qo(l:List Decl)(w:WS): ∀i,i<=l.length->(fU l w i).l.length<=w.l.length+((l.take i).map Decl.ts).sum
 |0,_=>by simp[fU]
 |i+1,h=>by
  have e:Lv.size=2:=rfl;have h1:=qo l w i (by omega);have j:=xV (fU l w i) (l.getD i ci);rw[fU,aK,e,oF _ _ _ (by omega)];omega
theorem xU(l:List Decl)(w:WS): ∀i,(fU l w i).br=w.br
 |0=>rfl
 |i+1=>by rw[fU,bP,I0,xU l w i]
theorem pX(l:List aw)(w:WS): ∀i,i<=l.length->(gQ l w i).l.length<=w.l.length+((l.take i).map aw.ts).sum
 |0,_=>by simp[gQ]
 |i+1,h=>by
  have e:Lv.size=2:=rfl;have h1:=pX l w i (by omega);have j:=w6 (gQ l w i) (l.getD i ci);rw[gQ,aK,e,oF _ _ _ (by omega)];omega
theorem w5(l:List aw)(w:WS): ∀i,(gQ l w i).br=w.br
 |0=>rfl
 |i+1=>by rw[gQ,bP,Hk,w5 l w i]
theorem Qb(p:Prog)(hs:p.size<=100000000)(hb:p.ts<=800000000):Pure prog 61 [ag p.c] (qN p).told:=by
 have e:Lv.size=2:=rfl;have e0:WS.o.l.length=0:=rfl;unfold Prog.ts at hb;unfold Prog.size at hs;refine ah ab func61 Z (by decide) ntmps61 Z (by simp) Z ?_;refine gM 12 Z (yX 1 Z Z ?_);refine gA Z ?_;refine aM 0 p.aD.length (VB _) (fun i=>⟨[(1,.ptr 0 0),(4,.ptr 1 0),(12,.iv (a7 4 p.aD Decl.c)),(13,pI p.aD.length),(14,pI i)],[(0,co (aG p.c)),(1,co ((fU p.aD WS.o i).qt 1 3)),(3,co (.bu (fU p.aD WS.o i).l 5))],4⟩) (fun _=>True) [2] ac
  (wk Z Z Z (bi (bi (bi (bi (bi trivial))))) (hC Z Z Z ⟨⟨_,rfl,.of_eq Z⟩,Vm Z,rfl,⟨_,rfl,.of_eq Z⟩,Vm Z,ac,ac⟩) Z) fun i C _=>?_
 have D:=qo p.aD WS.o i C;have c0:=qF Decl.ts p.aD i;refine gA Z ?_;refine Vo (fun h1=>?_) (fun h1=>?_)
 .have h1:i<p.aD.length:=by simpa using h1
  have j:fU p.aD WS.o (i+1)=aT (rz (fU p.aD WS.o i) (p.aD.getD i ci)) [Lv]:=rfl;have B:=xV (fU p.aD WS.o i) (p.aD.getD i ci);have G:=oF Decl.ts p.aD i h1;have A:=qF Decl.ts p.aD (i+1);generalize fU p.aD WS.o i=w2 at*
  refine gA Z (CW (E8 w2 (p.aD.getD i ci) (by omega)) Z Z Z Z Z Z Z Z Z Z Z Z ?_);refine gA Z (go_wp (d147 (rz w2 (p.aD.getD i ci)) [Lv] (by simp) (by rw[bt,e];omega)) Z Z Z Z Z Z Z Z Z Z Z Z ?_);refine gA Z ⟨h1,ac,[7],wk Z Z Z (bi (bi (bi (bi (bi ac))))) (hC Z Z Z ⟨⟨_,rfl,.of_eq (by rw[j];rfl)⟩,Vm Z,rfl,⟨_,rfl,.of_eq (by rw[j];rfl)⟩,Vm Z,ac,ac⟩) Z⟩
 .have h1:p.aD.length<=i:=by simpa using h1
  have x:i=p.aD.length:=by omega
  subst x;have y:(fU p.aD WS.o p.aD.length).br=0:=xU _ _ _;rw[WG]at D;generalize Y:fU p.aD WS.o p.aD.length=w1 at*
  refine gA Z ?_;refine aM 0 p.rules.length (VB _) (fun i=>⟨[(4,.ptr 1 0),(26,.iv (a7 5 p.rules aw.c)),(27,pI p.rules.length),(28,pI i)],[(1,co ((gQ p.rules w1 i).qt 1 4)),(4,co (.bu (gQ p.rules w1 i).l 5))],5⟩) (fun _=>True) [3] ac
   (wk Z Z Z (bi (bi (bi (bi trivial)))) ⟨⟨_,rfl,.of_eq Z⟩,Vm Z,rfl,⟨_,rfl,.of_eq Z⟩,Vm Z,ac,ac⟩ Z) fun i C _=>?_
  have I:=pX p.rules w1 i C;have A:=qF aw.ts p.rules i;have a0:=(w5 p.rules w1 i).trans y;refine gA Z ?_;refine Vo (fun u=>?_) (fun u=>?_)
  .have u:i<p.rules.length:=by simpa using u
   have j:gQ p.rules w1 (i+1)=aT (pg (gQ p.rules w1 i) (p.rules.getD i ci)) [Lv]:=rfl;have B:=w6 (gQ p.rules w1 i) (p.rules.getD i ci);have G:=oF aw.ts p.rules i u;have J:=qF aw.ts p.rules (i+1);have d0:=oG aw.size p.rules i u;have b0:(p.rules.getD i ci).size=(p.rules.getD i ci).head.an.length+Lit.aC (p.rules.getD i ci).body:=rfl;generalize gQ p.rules w1 i=w2 at*
   refine gA Z (CW (P6 w2 (p.rules.getD i ci) (by omega) (by omega) (by omega) (by omega)) Z Z Z Z Z Z Z Z Z Z Z Z ?_);refine gA Z (go_wp (d147 (pg w2 (p.rules.getD i ci)) [Lv] (by simp) (by rw[bt,e];omega)) Z Z Z Z Z Z Z Z Z Z Z Z ?_);refine gA Z ⟨u,ac,[8],wk Z Z Z (bi (bi (bi (bi ac)))) ⟨⟨_,rfl,.of_eq (by rw[j];rfl)⟩,Vm Z,rfl,⟨_,rfl,.of_eq (by rw[j];rfl)⟩,Vm Z,ac,ac⟩ Z⟩
  .have u:p.rules.length<=i:=by simpa using u
   have x:i=p.rules.length:=by omega
   subst x;have hp:gQ p.rules w1 p.rules.length=qN p:=by rw[qN,Y]
   rw[hp];refine gA Z (ak [1,4] (d105 (qN p)) Z Z Z Z Z Z Z Z ?_);refine gA Z (aI (by first|exact .inr Z|exact .inl Z) Z (.of_eq ?_));rfl
end Go.Proofs.YtlmhfgbkchnfbaaGreatDoor
namespace Go.En
def gY:Nat->Nat->List UInt8
 |0,n=> [UInt8.ofNat n]
 |f+1,n=>if n<128 then[UInt8.ofNat n] else UInt8.ofNat (n % 128+128)::gY f (n/128)
def enc(n:Nat):List UInt8:=gY 10 n
inductive Res where
 |ok (n k:Nat)
 |short
 |form
def dec:Nat->Nat->List UInt8->Res
 |_,_,[]=> .short
 |i,a,c::r=>if(i=9∧1<c.toNat)∨(0<i∧c.toNat=0) then .form else if c.toNat<128 then .ok (a+c.toNat % 128*128 ^ i) (i+1) else dec (i+1) (a+c.toNat % 128*128 ^ i) r
theorem uv{n:Nat}(h:n<256):(UInt8.ofNat n).toNat=n:=by simp;omega
theorem vE: ∀f n,1<=(gY f n).length∧(gY f n).length<=f+1
 |0,_=>by simp[gY]
 |f+1,n=>by
  unfold gY;split
  .simp
  .have:=vE f (n/128);simp;omega
theorem BJ: ∀(f i n a:Nat) (r:List UInt8),i+f=9->(0<i->0<n)->n<2*128 ^ f->dec i a (gY f n++r)= .ok (a+n*128 ^ i) (i+(gY f n).length)
 |0,i,n,a,r,hi,h0,hn=>by
  have x:n<2:=by simpa using hn
  have ht:=uv (n:=n) (by omega);have h1: ¬((i=9∧1<n)∨(0<i∧n=0)):=by
   rintro(⟨_,h⟩|⟨h,u⟩)
   .omega
   .have:=h0 h;omega
  simp only[gY,VT,VU,dec,ht,be h1,am (show n<128 by omega),XH (show n<128 by omega),VX,WH]
 |f+1,i,n,a,r,hi,h0,hn=>by
  unfold gY;split
  .rename_i h;have ht:=uv (n:=n) (by omega);have h1: ¬((i=9∧1<n)∨(0<i∧n=0)):=by
    rintro(⟨h3,_⟩|⟨h,u⟩)
    .omega
    .have:=h0 h;omega
   simp only[VT,VU,dec,ht,be h1,am h,XH h,VX,WH]
  .rename_i h;have y:=Nat.mod_lt n (show 0<128 by decide);have ht:=uv (n:=n % 128+128) (by omega);have h1: ¬((i=9∧1<n % 128+128)∨(0<i∧n % 128+128=0)):=by rintro(⟨h3,_⟩|⟨_,u⟩)<;>omega
   have j:n/128<2*128 ^ f:=by
    rw[YK (by decide)]
    calc n<2*128 ^ (f+1):=hn
     _=2*128 ^ f*128:=by rw[Yg,YV]
   simp only[VT,dec,ht,be h1,be (show¬n % 128+128<128 by omega),VX];rw[BJ f (i+1) (n/128) _ r (by omega) (fun _=>by omega) j];have e:(n % 128+128) % 128=n % 128:=by omega
   rw[e];congr 1
   .have u:n=n % 128+n/128*128:=by omega
    rw[Yg]
    calc a+n % 128*128 ^ i+n/128*(128 ^ i*128)=a+(n % 128+n/128*128)*128 ^ i:=by rw[Wg,YV (n/128) 128,Yd (128 ^ i) 128,WB]
     _=a+n*128 ^ i:=by rw[<-u]
   .omega
theorem y6{n:Nat}(h:n<2 ^ 64)(r:List UInt8):dec 0 0 (gY 9 n++r)= .ok n (gY 9 n).length:=by
 have:=BJ 9 0 n 0 r Z (fun h=>absurd h (by decide)) (by rw[show 2*128 ^ 9=2 ^ 64 by decide];exact h);simpa using this
theorem xR: ∀(f n:Nat),n<128 ^ (f+1)->gY (f+1) n=gY f n
 |0,n,h=>by
  have:n<128:=by simpa using h
  simp[gY,this]
 |f+1,n,h=>by
  rw[gY]
  conv=>rhs;rw[gY]
  split
  .rfl
  .rw[xR f];rw[YK (by decide)];rwa[Yg]at h
theorem vC{n:Nat}(h:n<2 ^ 64):enc n=gY 9 n:=xR 9 n (W4 h (by decide))
theorem BH: ∀(l:List UInt8) {i a n k:Nat},i<=9->dec i a l= .ok n k-> ∃m,n=a+m*128 ^ i∧l.take (k-i)=gY (9-i) m∧k-i<=l.length∧i<k∧m<2*128 ^ (9-i)∧(0<i->0<m)
 | [],_,_,_,_,_,h=>by cases h
 |c::l,i,a,n,k,hi,h=>by
  unfold dec at h;split at h
  .cases h
  .rename_i h1;have G:=c.toNat_lt;split at h
   .rename_i j;cases h;rw[XH j];refine⟨c.toNat,rfl,?_,by simp,by omega,?_,fun u=>?_⟩
    .rw[show i+1-i=1 by omega,WM,Ye];cases hf:9-i with
     |zero=>simp[gY]
     |succ f=>rw[gY,am j];simp
    .rcases Wp i 9 with g|g
     .calc c.toNat<128:=j
       _<=2*128 ^ (9-i):=by
        have:128 ^ 1<=128 ^ (9-i):=YQ (by decide) (by omega);omega
     .have:i=9:=by omega
      subst this;have: ¬1<c.toNat:=fun h=>h1 (.inl ⟨rfl,h⟩);simp;omega
    .rcases Nat.eq_zero_or_pos c.toNat with e|e
     .exact absurd (.inr ⟨u,e⟩) h1
     .exact e
   .rename_i j;have y:i<9:=by
     rcases Wp i 9 with g|g
     .exact g
     .exact absurd (Or.inl ⟨by omega,by omega⟩) h1
    obtain⟨m,B,C,I,J,Y,D⟩:=BH l (by omega) h;have A:=D (by omega);have x:c.toNat % 128=c.toNat-128:=by omega
    refine⟨c.toNat % 128+m*128,?_,?_,by simp;omega,by omega,?_,fun _=>by omega⟩
    .rw[B,Yg,Wg,YV m 128,Yd 128 (128 ^ i),WB]
    .rw[show k-i=(k-(i+1))+1 by omega,WM,C,show 9-i=(9-(i+1))+1 by omega,gY,be (by omega)];congr 1
     .rw[show(c.toNat % 128+m*128) % 128+128=c.toNat by omega];simp
     .rw[show(c.toNat % 128+m*128)/128=m by omega]
    .rw[show 9-i=(9-(i+1))+1 by omega,Yg];omega
theorem BI{l:List UInt8}{n k:Nat}(h:dec 0 0 l= .ok n k):n<2 ^ 64∧l.take k=gY 9 n∧k<=l.length∧0<k:=by
 obtain⟨m,j,u,x,y,A,_⟩:=BH l (VB _) h;have e:n=m:=by simpa using j
 subst e;refine⟨by rw[<-show 2*128 ^ 9=2 ^ 64 by decide];exact A,by simpa using u,by simpa using x,y⟩
abbrev By:=List UInt8
structure RS where
 p:Nat
 f:Int
def zz(n:Int):Nat:=if n<0 then(-2*n-1).toNat else(2*n).toNat
def zl(u:Nat):Int:=if u % 2=0 then((u/2:Nat):Int) else-((u/2:Nat):Int)-1
theorem Pf(n:Int):zl (zz n)=n:=by
 unfold zz zl;split<;>split<;>omega
def cG(b:By)(most:Nat)(s:RS):Nat×RS:=
 if s.f=0 then match dec 0 0 (b.drop s.p) with
  | .ok n k=>if n<=most then(n,⟨s.p+k,0⟩) else(0,⟨s.p,12⟩)
  | .short=>(0,⟨s.p,10⟩)
  | .form=>(0,⟨s.p,11⟩)
 else(0,s)
def mP(b:By)(j hi:Int)(s:RS):Int×RS:=
 if s.f=0 then match dec 0 0 (b.drop s.p) with
  | .ok n k=>if j<=zl n∧zl n<=hi then(zl n,⟨s.p+k,0⟩) else(0,⟨s.p,12⟩)
  | .short=>(0,⟨s.p,10⟩)
  | .form=>(0,⟨s.p,11⟩)
 else(0,s)
def ey(b:By)(most:Nat)(s:RS):By×RS:=
 if s.f=0 then match dec 0 0 (b.drop s.p) with
  | .ok n k=>if n<=most then(if n<=b.length-(s.p+k) then((b.drop (s.p+k)).take n,⟨s.p+k+n,0⟩) else([],⟨s.p,10⟩)) else([],⟨s.p,12⟩)
  | .short=>([],⟨s.p,10⟩)
  | .form=>([],⟨s.p,11⟩)
 else([],s)
structure At (b:By) (s:RS) (r:By):Prop where
 f:s.f=0
 le:s.p<=b.length
 r:b.drop s.p=r
theorem At.go{b:By}{s:RS}{x r:By}(h:At b s (x++r)):At b ⟨s.p+x.length,0⟩ r:=by
 have h1:=congrArg XS h.r;have j:=h.le;rw[Wu,Vp]at h1;refine⟨rfl,by show s.p+x.length<=_;omega,?_⟩;show b.drop (s.p+x.length)=r;rw[<-List.drop_drop,h.r];simp
theorem At.start(b:By):At b ⟨0,0⟩ b:=⟨rfl,VB _,rfl⟩
theorem rM{b:By}{s:RS}{r:By}{n most:Nat}(h:At b s (enc n++r))(hm:n<=most)(hn:n<2 ^ 64):cG b most s=(n,⟨s.p+(enc n).length,0⟩):=by
 have h1:=y6 hn r;rw[<-vC hn]at h1;simp[cG,h.f,h.r,h1,hm]
theorem Ib{b:By}{s:RS}{r:By}{n j hi:Int}(h:At b s (enc (zz n)++r))(hl:j<=n)(hh:n<=hi)(hn:zz n<2 ^ 64):mP b j hi s=(n,⟨s.p+(enc (zz n)).length,0⟩):=by
 have h1:=y6 hn r;rw[<-vC hn]at h1;simp[mP,h.f,h.r,h1,Pf,hl,hh]
def iE(t:By):By:=enc t.length++t
theorem oE{b:By}{s:RS}{t r:By}{most:Nat}(h:At b s (iE t++r))(hm:t.length<=most)(hn:t.length<2 ^ 64):ey b most s=(t,⟨s.p+(iE t).length,0⟩):=by
 unfold iE at h;rw[VF]at h;have h1:=y6 hn (t++r);rw[<-vC hn]at h1;have j:=h.go;have u:=congrArg XS j.r;rw[Wu,Vp]at u;have x:t.length<=b.length-(s.p+(enc t.length).length):=by
  have:b.length-(s.p+(enc t.length).length)=t.length+r.length:=u;omega
 have y:b.drop (s.p+(enc t.length).length)=t++r:=j.r;simp[ey,h.f,h.r,h1,hm,x,y,iE,WB]
end Go.En
namespace Go.Proofs.YtlmhfgbkchnfbaaGreatDoor
open Go Go.Al Go.Proofs.Tryz Go.En
abbrev ik(l:By):AO:=aV 1 l aO
abbrev ox(i:Nat)(l:By):AO:= .cells [.sl i 0 l.length 1]
abbrev wO(l:By):List AO:=[ox 1 l,ik l]
abbrev wH(l:By):AH:=[(0,co (ox 2 l)),(2,co (ik l))]
abbrev pU(n:Nat):PV:= .iv (.v (.int .u64 (n:Int)))
abbrev pY(n:Int):PV:= .iv (.v (.int .u8 n))
theorem aF(σ:Nat->Nat)(l:By):(ik l).bY σ=ik l:=b3 σ
theorem bD(σ:Nat->Nat)(l:By):(AO.row 1 (c6 l)).bY σ= .row 1 (c6 l):=b3 σ
theorem aE(σ:Nat->Nat)(l:By):(l.map fun x=>(aO x).map PV.iv).map (c7 σ)=l.map fun x=>(aO x).map PV.iv:=by
 rw[Wx];exact WE fun x _=>ja _ _
theorem Uq(l xs:By){es:List (List PV)}{n:Nat}(he:es=c6 xs)(hn:n=xs.length)(hb:l.length+xs.length<=100000000000000):bg prog 63 [.ptr 0 0,.sl 2 0 n 1] (wO l++ [.row 1 es]) (.aZ []) [(0,co (ox 3 (l++xs))),(3,co (ik (l++xs)))] 4:=by
 subst he;subst hn;refine aj ab func63 Z (by decide) ntmps63 Z (by simp) ?_;refine fP Z ⟨ac,by simp,by simp,?_,by omega,by omega⟩ (ar [3] (by first|exact .inr Z|exact .inl Z) Z (wk Z Z Z (bi ac) ⟨⟨_,rfl,.of_eq ?_⟩,Vm Z,rfl,hR Z ?_ Z ac⟩ Z))
 .rw[Yh,VI (by simp)];exact eO (fun _=>rfl) xs
 .simp[AO.bY,c7,PV.bY,sg]
 .rw[Yh,VI (by simp),VD]
theorem DG(l:By)(x:UInt8){v:Int}(j:v=(x.toNat:Int))(hb:l.length<=90000000000000):bg prog 63 [.ptr 0 0,.sl 2 0 1 1] (wO l++ [.row 1 [[pY v]]]) (.aZ []) [(0,co (ox 3 (l++ [x]))),(3,co (ik (l++ [x])))] 4:=
 Uq l [x] (by rw[j];rfl) Z (by simp;omega)
theorem A9(m:Nat):IntKind.u8.wrap (m:Int)=((UInt8.ofNat m).toNat:Int):=by
 have e:IntKind.u8.wrap (m:Int)=(m:Int) % 256:=rfl;rw[e];simp
theorem orB(m:Nat):IntKind.u8.wrap ((BitVec.ofInt IntKind.u8.bits (IntKind.u8.wrap (m:Int))|||BitVec.ofInt IntKind.u8.bits 128).toNat:Int)=((UInt8.ofNat (m % 128+128)).toNat:Int):=by
 have j:IntKind.u8.wrap (m:Int)=((m % 256:Nat):Int):=by
  have e:IntKind.u8.wrap (m:Int)=(m:Int) % 256:=rfl;rw[e];omega
 have u: ∀k:Fin 256,(BitVec.ofInt 8 ((k.val:Nat):Int)|||BitVec.ofInt 8 128).toNat=k.val % 128+128:=by decide+kernel
 have x:=u ⟨m % 256,by omega⟩;rw[j];have y:(BitVec.ofInt IntKind.u8.bits ((m % 256:Nat):Int)|||BitVec.ofInt IntKind.u8.bits 128).toNat=m % 256 % 128+128:=x;have A:m % 256 % 128+128=m % 128+128:=by omega
 rw[y,A];exact A9 _
theorem Uo(m:Nat):((m:Int)).fdiv (2 ^ min ((7:Int)).toNat IntKind.u64.bits)=((m/128:Nat):Int):=by
 have e:(2:Int) ^ min ((7:Int)).toNat IntKind.u64.bits=128:=by decide
 rw[e,WL _ (by decide)];rfl
theorem IN{f m:Nat}(h: ¬m<128):gY (f+1) m=UInt8.ofNat (m % 128+128)::gY f (m/128):=by rw[gY,be h]
theorem Ca(l:By)(n:Nat)(hb:l.length<=80000000000000):bg prog 74 [.ptr 0 0,pU n] (wO l) (.aZ []) (wH (l++enc n)) 3:=by
 refine aj ab func74 Z (by decide) ntmps74 Z (by simp) ?_;refine gA Z ?_;refine kY 0 10 (VB _) (fun i (x:Nat×By)=>⟨[(0,.ptr 0 0),(1,pU x.1),(4,pI i)],[(0,co (ox 2 x.2)),(2,co (ik x.2))],3⟩) (fun i x=>x.2.length=l.length+i∧x.2++gY (10-i) x.1=l++enc n) (n,l) [1] ⟨rfl,rfl⟩
  (wk Z Z Z (bi (bi (bi trivial))) ⟨⟨_,rfl,.of_eq Z⟩,Vm Z,rfl,hR Z Z Z trivial⟩ Z) fun i x G D=>?_
 obtain⟨m,y⟩:=x;obtain⟨B,A⟩:=D;have j: ∀(g:m<128∨i=10),y++ [UInt8.ofNat m]=l++enc n:=fun g=>by
  rw[<-A];congr 1;cases hf:10-i with
  |zero=>rw[gY]
  |succ f=>
   rw[gY,am];rcases g with g|g
   .exact g
   .omega
 have C:y.length=l.length+i:=B;refine gA Z ?_;refine Vo (fun h1=>?_) (fun h1=>?_)
 .have h1:i<10:=by have:(i:Int)<10:=of_decide_eq_true h1;omega
  refine gA Z ?_;refine Vo (fun u=>?_) (fun u=>?_)
  .have u:m<128:=by have:(m:Int)<128:=of_decide_eq_true u;omega
   refine gA Z (ak [0,2,3] (DG y (UInt8.ofNat m) (A9 m) (by omega)) Z Z Z Z Z (by simp only[Vy,VQ,VT,VU,aF,bD];rfl) Z Z ?_);rw[j (.inl u)];refine gA Z (ar [4] (by first|exact .inr Z|exact .inl Z) Z (wk Z Z Z (bi ac) ⟨⟨_,rfl,.of_eq Z⟩,Vm Z,rfl,hR Z (by first|rfl|exact aE _ _) Z ac⟩ Z))
  .have u: ¬m<128:=by have: ¬(m:Int)<128:=of_decide_eq_false u;omega
   refine gA Z (ak [0,2,3] (DG y (UInt8.ofNat (m % 128+128)) (orB m) (by omega)) Z Z Z Z Z (by simp only[Vy,VQ,VT,VU,aF,bD];rfl) Z Z ?_);refine gA Z ?_;refine⟨h1,(m/128,y++ [UInt8.ofNat (m % 128+128)]),[4],⟨by simp;omega,?_⟩,wk Z Z Z (bi ⟨.of_eq ?_,rfl,bi ac⟩) ⟨⟨_,rfl,.of_eq Z⟩,Vm Z,rfl,hR Z (by first|rfl|exact aE _ _) Z ac⟩ Z⟩
   .show(y++ [UInt8.ofNat (m % 128+128)])++gY (10-(i+1)) (m/128)=l++enc n;rw[<-A,VF];have e:10-i=(10-(i+1))+1:=by omega
    show _=y++gY (10-i) m;rw[e,IN u];rfl
   .show PV.iv (.v (.int .u64 _))=_;rw[Uo];rfl
 .have h1:10<=i:=by have: ¬(i:Int)<10:=of_decide_eq_false h1;omega
  refine gA Z (ak [0,2,3] (DG y (UInt8.ofNat m) (A9 m) (by omega)) Z Z Z Z Z (by simp only[Vy,VQ,VT,VU,aF,bD];rfl) Z Z ?_);rw[j (.inr (by omega))];refine gA Z (ar [4] (by first|exact .inr Z|exact .inl Z) Z (wk Z Z Z (bi ac) ⟨⟨_,rfl,.of_eq Z⟩,Vm Z,rfl,hR Z (by first|rfl|exact aE _ _) Z ac⟩ Z))
theorem w4(l:By)(x:UInt8)(hb:l.length<=80000000000000):bg prog 36 [.ptr 0 0,pY (x.toNat:Int)] (wO l) (.aZ []) (wH (l++ [x])) 3:=by
 refine aj ab func36 Z (by decide) ntmps36 Z (by simp) ?_;refine gA Z ?_;refine Vo (fun zz=>?_) (fun zz=>?_)<;>(try(exact absurd zz (by decide)))
 refine gA Z (ak [0,1,2] (DG l x Z (by omega)) Z Z Z Z Z (by simp only[Vy,VQ,VT,VU,aF,bD];rfl) Z Z ?_);refine gA Z (ar [3] (by first|exact .inr Z|exact .inl Z) Z (wk Z Z Z (bi ac) ⟨⟨_,rfl,.of_eq Z⟩,Vm Z,rfl,hR Z (by first|rfl|exact aE _ _) Z ac⟩ Z))
theorem SD(l:By)(n:Nat)(hb:l.length<=70000000000000):bg prog 41 [.ptr 0 0,pU n] (wO l) (.aZ []) (wH (l++enc n)) 3:=by
 refine aj ab func41 Z (by decide) ntmps41 Z (by simp) ?_;refine gA Z ?_;refine Vo (fun zz=>?_) (fun zz=>?_)<;>(try(exact absurd zz (by decide)))
 refine gA Z (ak [0,1] (Ca l n (by omega)) Z Z Z Z Z (by simp only[Vy,VQ,VT,VU,aF,bD];rfl) Z Z ?_);refine gA Z (ar [2] (by first|exact .inr Z|exact .inl Z) Z (wk Z Z Z (bi ac) ⟨⟨_,rfl,.of_eq Z⟩,Vm Z,rfl,hR Z (by first|rfl|exact aE _ _) Z ac⟩ Z))
theorem O5{a b:By}{i n:Nat}{σ:Nat->Nat}{j:Nat}(h:b=a)(hn:n=a.length)(hi:σ i=j):eJ (.cells [.sl j 0 n 1]) ((ox i b).bY σ):=by
 subst h;subst hn;subst hi;exact .of_eq Z
theorem Ui(m:Nat)(h:m<9223372036854775808):IntKind.u64.wrap (m:Int)=(m:Int):=by
 have e:IntKind.u64.wrap (m:Int)=(m:Int) % 18446744073709551616:=rfl;rw[e];omega
theorem DC(l:By)(s:aq)(hs:s.size<=10000000000)(hb:l.length<=60000000000000):bg prog 42 [.ptr 0 0,pS s] (wO l) (.aZ []) (wH (l++iE s.data.toList)) 3:=by
 have j:s.data.toList.length=s.size:=by simp
 have x:=vE 10 s.size;have u:l++iE s.data.toList=l++enc s.size++s.data.toList:=by rw[iE,j,VF]
 refine aj ab func42 Z (by decide) ntmps42 Z (by simp) ?_;refine gA Z ?_;refine Vo (fun zz=>?_) (fun zz=>?_)<;>(try(exact absurd zz (by decide)))
 refine gA Z (ak [0,1] (bg.le (aa:=[.ptr 0 0,.iv (.v (.int .u64 (IntKind.u64.wrap (s.size:Int))))]) (Ca l s.size (by omega)) ⟨.refl _,.of_eq (congrArg (fun z:Int=>PV.iv (.v (.int .u64 z))) (Ui s.size (by omega))),ac⟩) Z Z Z Z Z (by simp only[Vy,VQ,VT,VU,aF,bD];rfl) Z Z ?_);refine gM 9 Z (bz Z (Lm (l:=l++enc s.size) ab Z Z Z Z Z Z Z (by exact congrArg co (aF _ _)) Z Z Z Z Z (by simp only[Vp,enc];omega) Z) ?_);rintro t rfl;refine gA Z (ar [3] (by first|exact .inr Z|exact .inl Z) Z (wk Z Z Z (bi ac) ⟨⟨_,rfl,O5 u (by simp[WB]) Z⟩,Vm Z,rfl,hR Z (by rw[u,VD]) Z ac⟩ Z))
theorem Dk(x:Nat)(h:x<18446744073709551616):(BitVec.ofInt 64 ((x:Nat):Int) ^^^ BitVec.ofInt 64 18446744073709551615).toNat=18446744073709551615-x:=by
 have j:BitVec.ofInt 64 18446744073709551615=BitVec.allOnes 64:=by decide
 have u:BitVec.ofInt 64 ((x:Nat):Int)=BitVec.ofNat 64 x:=by simp[BitVec.ofInt_natCast]
 rw[j,u,BitVec.xor_allOnes,BitVec.toNat_not,BitVec.toNat_ofNat];omega
theorem Dj(x:Nat)(h:x<18446744073709551616):(BitVec.ofInt 64 ((x:Nat):Int) ^^^ BitVec.ofInt 64 0).toNat=x:=by
 have j:BitVec.ofInt 64 0=0#64:=by decide
 have u:BitVec.ofInt 64 ((x:Nat):Int)=BitVec.ofNat 64 x:=by simp[BitVec.ofInt_natCast]
 rw[j,u,BitVec.xor_zero,BitVec.toNat_ofNat];omega
theorem zzB{n:Int}(h1: -2147483647<=n)(A:n<=2147483647):IntKind.u64.wrap ((BitVec.ofInt IntKind.u64.bits (IntKind.u64.wrap (IntKind.u64.wrap n*2 ^ min (1:Int).toNat IntKind.u64.bits)) ^^^ BitVec.ofInt IntKind.u64.bits (IntKind.u64.wrap (n.fdiv (2 ^ min (63:Int).toNat IntKind.i64.bits)))).toNat:Int)=(zz n:Int):=by
 have w: ∀z:Int,IntKind.u64.wrap z=z % 18446744073709551616:=fun _=>rfl;have x:(2:Int) ^ min (1:Int).toNat IntKind.u64.bits=2:=by decide
 have y:(2:Int) ^ min (63:Int).toNat IntKind.i64.bits=9223372036854775808:=by decide
 rw[x,y,WL _ (by decide),w,w n,w (n/9223372036854775808),w ((n % 18446744073709551616)*2)];show(((BitVec.ofInt 64 _ ^^^ BitVec.ofInt 64 _).toNat:Nat):Int) % _=_;unfold zz;by_cases h:n<0
 .rw[am h];have j:n/9223372036854775808 % 18446744073709551616=18446744073709551615:=by omega
  have u:n % 18446744073709551616*2 % 18446744073709551616=(((2*n+18446744073709551616).toNat:Nat):Int):=by omega
  rw[j,u,Dk _ (by omega)];omega
 .rw[be h];have j:n/9223372036854775808 % 18446744073709551616=0:=by omega
  have u:n % 18446744073709551616*2 % 18446744073709551616=(((2*n).toNat:Nat):Int):=by omega
  rw[j,u,Dj _ (by omega)];omega
theorem Ut(l:By)(n:Int)(h1: -2147483647<=n)(j:n<=2147483647)(hb:l.length<=60000000000000):bg prog 113 [.ptr 0 0,pI n] (wO l) (.aZ []) (wH (l++enc (zz n))) 3:=by
 refine aj ab func113 Z (by decide) ntmps113 Z (by simp) ?_;refine gA Z (Vo (fun g=>?_) (fun g=>absurd g (by decide)));refine gA Z (ak [0,1] (bg.le (aa:=[.ptr 0 0,.iv (.v (.int .u64 (IntKind.u64.wrap ((BitVec.ofInt IntKind.u64.bits (IntKind.u64.wrap (IntKind.u64.wrap n*2 ^ min (1:Int).toNat IntKind.u64.bits)) ^^^ BitVec.ofInt IntKind.u64.bits (IntKind.u64.wrap (n.fdiv (2 ^ min (63:Int).toNat IntKind.i64.bits)))).toNat:Int))))]) (Ca l (zz n) (by omega)) ⟨.refl _,.of_eq (congrArg (fun z:Int=>PV.iv (.v (.int .u64 z))) (zzB h1 j)),ac⟩) Z Z Z Z Z (by simp only[Vy,VQ,VT,VU,aF,bD];rfl) Z Z ?_);refine gA Z (ar [2] (by first|exact .inr Z|exact .inl Z) Z (wk Z Z Z (bi ac) ⟨⟨_,rfl,.of_eq Z⟩,Vm Z,rfl,hR Z (by first|rfl|exact aE _ _) Z ac⟩ Z))
theorem Sy{h:AH}(l:By){j n:Nat}(hj:h.get j=co (ik l))(hn:n=l.length):wo h 1 (.sl j 0 n 1)=co (c6 l):=by
 subst hn;have e:VP 1 1=is:=rfl;unfold wo;simp only[e,hj,ik,aV,VL,VS,Nat.ble_eq,VA,Yh];rw[show Xr l.length l.length=is from Wo (VA _)];show co _=_;rw[VI (by simp)]
theorem S9(l:By)(hb:l.length<=60000000000000):bg prog 64 [.ptr 0 0] (wO l) (.sl 2 0 l.length 1) [(0,co (ox 1 l)),(1,co (ik l)),(2,co (ik l))] 3:=by
 refine aj ab func64 Z (by decide) ntmps64 Z (by simp) ?_;refine gA Z (bz Z (ug (news:=c6 l) (eu:=PK) (sz:=1) ab Z Z Z Z Z Z Z (by decide) (by exact Sy l Z Z) (fW (eO (fun _=>rfl) l)) (by show(c6 l).length*1<=_;simp;omega) (by simp;omega) Z) ?_);rintro t rfl;refine gA Z (ar [3] (by first|exact .inr Z|exact .inl Z) Z (wk Z Z Z ⟨.row (by simp),rfl,ac⟩ ⟨⟨_,rfl,.of_eq Z⟩,Vm Z,rfl,hR Z (by first|rfl|exact aE _ _) Z (hR Z (by first|rfl|exact aE _ _) Z ac)⟩ Z))
abbrev pV(n:Int):PV:= .iv (.v (.int .u32 n))
def Rs(s:Int):Int:=IntKind.u32.wrap ((BitVec.ofInt IntKind.u32.bits s&&&BitVec.ofInt IntKind.u32.bits 1).toNat:Int)
def SC(s:Int):Int:=s.fdiv (2 ^ min (1:Int).toNat IntKind.u32.bits)
def EN(a b:Int):Int:=IntKind.u32.wrap ((BitVec.ofInt IntKind.u32.bits a ^^^ BitVec.ofInt IntKind.u32.bits b).toNat:Int)
def MY(s:Int):Int:=if Rs s=1 then EN (SC s) 2197175160 else SC s
def x5(s:Int):Nat->Int
 |0=>s
 |k+1=>MY (x5 s k)
def EF(s:Int)(c:UInt8):Int:=x5 (EN s (IntKind.u32.wrap (c.toNat:Int))) 8
def pN(l:By):Int:=IntKind.u32.wrap ((BitVec.ofInt IntKind.u32.bits (if IntKind.u32.signed then-1 else IntKind.u32.max) ^^^ BitVec.ofInt IntKind.u32.bits (l.foldl EF 4294967295)).toNat:Int)
theorem P5(l:By)(hb:l.length<=1000000000):Pure prog 34 [.iv (a7 1 l aO)] (pV (pN l)):=by
 refine ah ab func34 Z (by decide) ntmps34 Z (by simp) Z ?_;refine gA Z ?_;refine aM 0 l.length (VB _) (fun i=>⟨[(3,pV ((l.take i).foldl EF 4294967295)),(7,.iv (a7 1 l aO)),(8,pI l.length),(9,pI i)],[],0⟩) (fun _=>True) [] ac
  (wk Z Z Z (bi (bi (bi (bi trivial)))) trivial Z) fun i A _=>?_
 refine gA Z ?_;refine Vo (fun h1=>?_) (fun h1=>?_)
 .have h1:i<l.length:=by simpa using h1
  have y:=ie (g:=EF) (b:=4294967295) h1;generalize(l.take i).foldl EF 4294967295=s at*
  refine gA Z ?_;refine aM 0 8 (VB _) (fun k=>⟨[(3,pV (x5 (EN s (IntKind.u32.wrap ((l.getD i ci).toNat:Int))) k)),(7,.iv (a7 1 l aO)),(8,pI l.length),(9,pI i),(17,pI k)],[],0⟩) (fun _=>True) [] ac
   (wk Z Z Z (bi (bi (bi (bi (bi trivial))))) trivial Z) fun k hk _=>?_
  have j:x5 (EN s (IntKind.u32.wrap ((l.getD i ci).toNat:Int))) (k+1)=MY (x5 (EN s (IntKind.u32.wrap ((l.getD i ci).toNat:Int))) k):=rfl;refine gA Z ?_;refine Vo (fun u=>?_) (fun u=>?_)
  .have u:k<8:=by have:(k:Int)<8:=of_decide_eq_true u;omega
   generalize x5 (EN s (IntKind.u32.wrap ((l.getD i ci).toNat:Int))) k=z at*
   refine gA Z ?_;refine Vo (fun x=>?_) (fun x=>?_)
   .have x:Rs z=1:=of_decide_eq_true x;rw[MY,am x]at j;refine gA Z ⟨u,ac,[],wk Z Z Z ⟨.of_eq (by rw[j];rfl),rfl,bi (bi (bi (bi ac)))⟩ ac Z⟩
   .have x: ¬Rs z=1:=of_decide_eq_false x;rw[MY,be x]at j;refine gA Z ⟨u,ac,[],wk Z Z Z ⟨.of_eq (by rw[j];rfl),rfl,bi (bi (bi (bi ac)))⟩ ac Z⟩
  .have u:k=8:=by have: ¬(k:Int)<8:=of_decide_eq_false u;omega
   subst u;refine gA Z ⟨h1,ac,[],wk Z Z Z ⟨.of_eq (by rw[y];rfl),rfl,bi (bi (bi ac))⟩ ac Z⟩
 .have h1:l.length<=i:=by simpa using h1
  rw[VI h1];refine gA Z (bz Z (lk (MM Z Z) Z) ?_);rintro t rfl;refine gA Z (aI (by first|exact .inr Z|exact .inl Z) Z (.of_eq ?_));rfl
def u5(p:Prog):aq:=if(qN p.bare).bad=is then⟨#[]⟩ else⟨(qN p.bare).l.toArray⟩
def u6(p:Prog):Int:=pN (u5 p).data.toList
def A7(p:Prog):Int×Int:=if(iW p).1=0 then(u6 p,0) else(0,4)
theorem Fm(p:Prog):(qN p).l.length<=p.ts:=by
 have h1:=qo p.aD WS.o p.aD.length (VA _);have j:=pX p.rules (fU p.aD WS.o p.aD.length) p.rules.length (VA _);have u:WS.o.l.length=0:=rfl;rw[WG]at h1 j;rw[qN,Prog.ts];omega
mutual
theorem Lit.ue: ∀l:Lit,l.bare.ts=l.ts
 | .mk k a op l r f v o b x=>by rw[Lit.bare,Lit.ts,Lit.ts,Lit.vO b]
theorem Lit.vO: ∀l:List Lit,Lit.mq (Lit.iG l)=Lit.mq l
 | []=>rfl
 |x::r=>by rw[Lit.iG,Lit.mq,Lit.mq,Lit.ue x,Lit.vO r]
end
mutual
theorem Lit.sI: ∀l:Lit,l.bare.size=l.size
 | .mk k a op l r f v o b x=>by rw[Lit.bare,Lit.size,Lit.size,Lit.qv b]
theorem Lit.qv: ∀l:List Lit,Lit.aC (Lit.iG l)=Lit.aC l
 | []=>rfl
 |x::r=>by rw[Lit.iG,Lit.aC,Lit.aC,Lit.sI x,Lit.qv r]
end
theorem Prog.ue(p:Prog):p.bare.ts=p.ts:=by
 unfold Prog.ts;show((p.aD.map Decl.bare).map Decl.ts).sum+((p.rules.map aw.bare).map aw.ts).sum=_;rw[Wx,Wx];congr 2
 .refine WE fun r _=>?_
  show r.head.ts+Lit.mq (Lit.iG r.body)+30=_;rw[Lit.vO];rfl
theorem Prog.sI(p:Prog):p.bare.size=p.size:=by
 unfold Prog.size;show(p.aD.map Decl.bare).length+((p.aD.map Decl.bare).map fun d=>d.types.length).sum+(p.rules.map aw.bare).length+((p.rules.map aw.bare).map aw.size).sum=_;rw[Wx,Wx,VS,VS];congr 2;refine WE fun r _=>?_;show r.head.an.length+Lit.aC (Lit.iG r.body)=_;rw[Lit.qv];rfl
theorem SV(hS:fx)(p:Prog)(hf:p.fit)(hs:p.size<=10000000)(ht:p.ts<=800000000):Pure prog 30 [ag p.c] (.aZ [pV (A7 p).1,pI (A7 p).2]):=by
 have hl:=Fm p.bare;rw[p.ue]at hl;refine ah ab func30 Z (by decide) ntmps30 Z (by simp) Z ?_;refine gA Z (aB (Hi hS p hf hs) Z Z Z Z Z Z ?_);refine gA Z ?_;refine Vo (fun g=>?_) (fun g=>?_)
 .have g: ¬(iW p).1=0:=by
   intro h;have g:(!kw ((iW p).1=0))=is:=g;rw[h]at g;simp at g
  rw[A7,be g];refine gA Z (aI (by first|exact .inr Z|exact .inl Z) Z (.of_eq ?_));rfl
 .have g:(iW p).1=0:=by
   have g:(!kw ((iW p).1=0))=jp:=g;simpa using g
  rw[A7,am g];refine gA Z (aB (S8 p (by omega)) Z Z Z Z Z Z ?_);refine gA Z (aB (Qb p.bare (by rw[p.sI];omega) (by rw[p.ue];exact ht)) Z Z Z Z Z Z ?_)
  refine gA Z (oO (b:=u5 p) ab Z Z Z Z Z Z Z Z Z Z Z (by
   show(u5 p).size<=_;unfold u5;split
   .decide
   .show(qN p.bare).l.toArray.size<=_
    rw[XC];omega) ?_)
  have hT:(u5 p).data.toList.length<=1000000000:=by
   unfold u5;split
   .decide
   .simp;omega
  refine gA Z (aB (P5 (u5 p).data.toList hT) Z Z Z Z Z Z ?_);refine gA Z (aI (by first|exact .inr Z|exact .inl Z) Z (.of_eq ?_));rfl
end Go.Proofs.YtlmhfgbkchnfbaaGreatDoor
namespace Go.Proofs.YtlmhfgbkchnfbaaGreatDoor
open Go Go.Al
inductive Tree where
 |mk (fact:Fact) (Fc:Int) (kids:List Tree)
instance:Inhabited Tree:=⟨.mk ci 0 []⟩
def Tree.fact:Tree->Fact| .mk f _ _=>f
def Tree.Fc:Tree->Int| .mk _ r _=>r
def Tree.kids:Tree->List Tree| .mk _ _ k=>k
structure T1 where
 fact:Fact
 Fc:Int
 kids:List Int
 deriving Inhabited
structure Nod where
 fact:Fact
 Fc:Int
 kids:Int
 up:List Int
 deriving Inhabited
mutual
def Tree.cr:Tree->List IV
 | .mk f r ks=> [iS f.rel,a7 3 f.args cN.c,iI r,.bK 4 ks.length (fun j=>(Tree.vG ks).getD j [])]
def Tree.vG:List Tree->List (List IV)
 | []=> []
 |e::r=>e.cr::Tree.vG r
end
def Tree.c(t:Tree):List IV:=[iS t.fact.rel,a7 3 t.fact.args cN.c,iI t.Fc,.bK 4 t.kids.length (fun j=>(Tree.vG t.kids).getD j [])]
def T1.c(l:T1):List IV:=[iS l.fact.rel,a7 3 l.fact.args cN.c,iI l.Fc,a7 1 l.kids kg]
def Nod.c(n:Nod):List IV:=[iS n.fact.rel,a7 3 n.fact.args cN.c,iI n.Fc,iI n.kids,a7 1 n.up kg]
mutual
def Tree.size:Tree->Nat
 | .mk _ _ ks=>1+Tree.aC ks
def Tree.aC:List Tree->Nat
 | []=>0
 |e::r=>e.size+Tree.aC r
end
end Go.Proofs.YtlmhfgbkchnfbaaGreatDoor
namespace Go.Proofs.YtlmhfgbkchnfbaaGreatDoor
open Go Go.Al Go.En
def Ax(b:By)(n:Nat)(s:RS):RS:=if s.f=0 then(if n<=b.length-s.p then⟨s.p+n,0⟩ else⟨s.p,10⟩) else s
def pO(t:By):aq:=⟨t.toArray⟩
end Go.Proofs.YtlmhfgbkchnfbaaGreatDoor
namespace Go.Proofs.YtlmhfgbkchnfbaaGreatDoor
open Go Go.Al Go.Proofs.Tryz Go.En
abbrev lQ:PV:= .iv (.v (.slice io 0 0))
def ll(v:cN):By:=[UInt8.ofNat v.kind.toNat]++(if v.kind=1 then enc (zz v.num) else iE v.sym.data.toList)
def jJ(l:List cN):By:=enc l.length++l.flatMap ll
abbrev Qz(l:List cN):Bool:=l.all fun v=>kw (bV v=0)
def Qw(l:List cN):PV:=if l.length>8 then .aZ [lQ,pI 2] else if Qz l=jp then .aZ [lQ,pI 20] else .aZ [.iv (a7 1 (jJ l) aO),pI 0]
theorem OU{v:cN}(h:bV v=0):v.kind=1∨v.kind=2:=by
 unfold bV at h
 repeat' split at h
 all_goals first|omega|(simp at h;done)
theorem vD(n:Nat):(enc n).length<=11:=(vE 10 n).2
theorem Dr{v:cN}(h:bV v=0):(ll v).length<=100:=by
 unfold ll;split
 .have:=vD (zz v.num);simp only[Vp,VX,WH];omega
 .rename_i h1;have j:=mu h h1;have:=vD v.sym.data.toList.length;simp only[iE,Vp,VX,WH];have u:v.sym.data.toList.length=v.sym.size:=rfl;omega
theorem Af:bg prog 31 [] [] (.ptr 0 0) [(0,co (ox 1 [])),(1,co (ik []))] 2:=by
 refine aj ab func31 Z (by decide) ntmps31 Z (by simp) ?_;refine gM 10 Z (km 0 0 1 Z Z ?_);refine gA Z (ar [0,1] (by first|exact .inr Z|exact .inl Z) Z (wk Z Z Z (bi ac) ⟨⟨_,rfl,.of_eq Z⟩,Vm Z,rfl,hR Z Z Z ac⟩ Z))
theorem El{α:Type}[Inhabited α]{l:List α}{i:Nat}(h:i<l.length):l.getD i ci∈l:=by
 rw[Vr,Vt h];exact Wj h
theorem Qj(l:By)(v:Int)(h:0<=v)(hb:l.length<=80000000000000):bg prog 36 [.ptr 0 0,.iv (.v (.int .u8 (IntKind.u8.wrap v)))] (wO l) (.aZ []) (wH (l++ [UInt8.ofNat v.toNat])) 3:=by
 have e:IntKind.u8.wrap v=((UInt8.ofNat v.toNat).toNat:Int):=by
  have:=A9 v.toNat;rwa[XG h]at this
 rw[e];exact w4 l _ hb
theorem Ul{v:Int}(h:0<=v∧v<=1000000000000):PV.iv (.v (.int .u64 (IntKind.u64.wrap v)))=pU v.toNat:=by
 have h1:=Ui v.toNat (by omega);have j:((v.toNat:Nat):Int)=v:=by omega
 rw[j]at h1;show _=PV.iv (.v (.int .u64 ((v.toNat:Nat):Int)));rw[j,h1]
theorem yu(l:By)(v:Int)(h:0<=v∧v<=1000000000000)(hb:l.length<=70000000000000):bg prog 41 [.ptr 0 0,.iv (.v (.int .u64 (IntKind.u64.wrap v)))] (wO l) (.aZ []) (wH (l++enc v.toNat)) 3:=by
 rw[Ul h];exact SD l v.toNat hb
theorem uI(l:By)(hb:l.length<=60000000000000):bg prog 35 [.ptr 0 0] (wO l) (.sl 2 0 l.length 1) [(0,co (ox 1 l)),(1,co (ik l)),(2,co (ik l))] 3:=by
 refine aj ab func35 Z (by decide) ntmps35 Z (by simp) ?_;refine gA Z (Vo (fun g=>absurd g (by decide)) (fun g=>?_));refine gA Z (ak [0,1] (S9 l hb) Z Z Z Z Z (by simp only[Vy,VQ,VT,VU,aF,bD];rfl) Z Z ?_);refine gA Z (ar [2] (by first|exact .inr Z|exact .inl Z) Z (wk Z Z Z ⟨.row Z,rfl,ac⟩ ⟨⟨_,rfl,.of_eq Z⟩,Vm Z,rfl,hR Z (by first|rfl|exact aE _ _) Z (hR Z (by first|rfl|exact aE _ _) Z ac)⟩ Z))
theorem yn{α:Type}(f:α->By){m:Nat}(l:List α)(h: ∀x∈l,(f x).length<=m):(l.flatMap f).length<=m*l.length:=by
 induction l with
 |nil=>simp
 |cons x l ih=>
  have h1:=h x (by simp);have u:=ih fun y j=>h y (by simp[j]);rw[Wt,Vp,VX,Nat.mul_succ];omega
theorem SO(l:List cN):Pure prog 75 [.iv (a7 3 l cN.c)] (Qw l):=by
 unfold Qw;refine ah ab func75 Z (by decide) ntmps75 Z (by simp) (by split<;>first|rfl|(split<;>rfl)) ?_;refine gA Z ?_;refine Vo (fun g1=>?_) (fun g1=>?_)
 .have g1:l.length>8:=by have:=of_decide_eq_true g1;omega
  refine gA Z (aI (by first|exact .inr Z|exact .inl Z) Z (.of_eq ?_));rw[am g1];rfl
 have g1: ¬l.length>8:=by have:=of_decide_eq_false g1;omega
 rw[be g1];refine gA Z (aB (c98 l) Z Z Z Z Z Z ?_);refine gA Z ?_;refine Vo (fun g2=>?_) (fun g2=>?_)
 .have g2:Qz l=jp:=by simpa using g2
  refine gA Z (aI (by first|exact .inr Z|exact .inl Z) Z (.of_eq ?_));rw[am g2];rfl
 have g2:Qz l=is:=by simpa using g2
 rw[be (by rw[g2];decide)];have D: ∀v∈l,bV v=0:=fun v D=>of_decide_eq_true (Wc.1 g2 v D);refine gA Z (ak [] (Af) Z Z Z Z Z Z Z Z ?_);refine gA Z (ak [0,1] (yu [] l.length ⟨by omega,by omega⟩ (by decide)) Z Z Z Z Z (by simp only[Vy,VQ,VT,VU,aF,bD];rfl) Z Z ?_);refine gA Z ?_;obtain⟨B,u⟩: ∃B:Nat->By,∀i,B i=enc l.length++(l.take i).flatMap ll:=⟨_,fun _=>rfl⟩
 have I:([]:By)++enc ((l.length:Int)).toNat=B 0:=by rw[u,Ye,YB,We];rfl
 have A:B l.length=jJ l:=by rw[u,WG,jJ]
 have y: ∀i,(B i).length<=1000:=fun i=>by
  have h1:=vD l.length;have h2:=yn ll (m:=100) (l.take i) fun v a0=>Dr (D v (W7 a0));have j:(l.take i).length<=l.length:=by rw[V7];omega
  rw[u,Vp];omega
 rw[I];refine aM 0 l.length (VB _) (fun i=>⟨[(4,.ptr 0 0),(21,.iv (a7 3 l cN.c)),(22,pI l.length),(23,pI i)],[(0,co (ox 3 (B i))),(3,co (ik (B i)))],4⟩) (fun _=>True) [2] ac
  (wk Z Z Z (bi (bi (bi (bi trivial)))) ⟨⟨_,rfl,.of_eq Z⟩,Vm Z,rfl,hR Z (by first|rfl|exact aE _ _) Z trivial⟩ Z) fun i hi _=>?_
 refine gA Z ?_;refine Vo (fun h1=>?_) (fun h1=>?_)
 .have h1:i<l.length:=by simpa using h1
  have J:=D _ (El h1);have hk:=OU J;have b0:=y i;have x:B (i+1)=B i++ll (l.getD i ci):=by rw[u,u,bA h1,VF]
  refine gA Z (ak [0,3] (Qj (B i) (l.getD i ci).kind (by omega) (by omega)) Z Z Z Z Z (by simp only[Vy,VQ,VT,VU,aF,bD];rfl) Z Z ?_);refine gA Z ?_;refine Vo (fun j=>?_) (fun j=>?_)
  .have j:(l.getD i ci).kind=1:=of_decide_eq_true j;have C:=pH J j;have G:B i++ [UInt8.ofNat (l.getD i ci).kind.toNat]++enc (zz (l.getD i ci).num)=B (i+1):=by rw[x,ll,am j,VF]
   refine gA Z (ak [0,5] (Ut (B i++ [UInt8.ofNat (l.getD i ci).kind.toNat]) (l.getD i ci).num C.1 C.2 (by rw[Vp];simp;omega)) Z Z Z Z Z (by simp only[Vy,VQ,aF];exact congrArg (fun z=> [_,co z]) (aF _ _)) Z Z ?_);rw[G];refine gA Z ⟨h1,ac,[6],wk Z Z Z (bi (bi (bi (bi ac)))) ⟨⟨_,rfl,.of_eq Z⟩,Vm Z,rfl,hR Z (by first|rfl|exact aE _ _) Z ac⟩ Z⟩
  .have j: ¬(l.getD i ci).kind=1:=of_decide_eq_false j;have hs:=mu J j;have G:B i++ [UInt8.ofNat (l.getD i ci).kind.toNat]++iE (l.getD i ci).sym.data.toList=B (i+1):=by rw[x,ll,be j,VF]
   refine gA Z (ak [0,5] (DC (B i++ [UInt8.ofNat (l.getD i ci).kind.toNat]) (l.getD i ci).sym (by omega) (by rw[Vp];simp;omega)) Z Z Z Z Z (by simp only[Vy,VQ,aF];exact congrArg (fun z=> [_,co z]) (aF _ _)) Z Z ?_);rw[G];refine gA Z ⟨h1,ac,[6],wk Z Z Z (bi (bi (bi (bi ac)))) ⟨⟨_,rfl,.of_eq Z⟩,Vm Z,rfl,hR Z (by first|rfl|exact aE _ _) Z ac⟩ Z⟩
 .have h1:l.length<=i:=by simpa using h1
  have Y:i=l.length:=by omega
  subst Y;rw[A];have hT:(jJ l).length<=1000:=by rw[<-A];exact y _
  refine gA Z (ak [0,3] (uI (jJ l) (by omega)) Z Z Z Z Z (by simp only[Vy,VQ,VT,VU,aF,bD];rfl) Z Z ?_);refine gA Z (gj (r0:= .aZ [.sl 4 0 (jJ l).length 1,pI 0]) (.inr Z) Z (ft.gd 4 (jJ l) aO Z (aE _ _) (by simp[PV.ba,a8]) (.done (.aZ ⟨.bK Z (fun k _=>by rw[VL]),.refl _,ac⟩))))
end Go.Proofs.YtlmhfgbkchnfbaaGreatDoor
namespace Go.Proofs.YtlmhfgbkchnfbaaGreatDoor
open Go Go.Al Go.Proofs.Tryz Go.En Go.Bo
def fS(f:Fact):By:=iE f.rel.data.toList++iE (jJ f.args)
structure Pa (f:Fact):Prop where
 rel:f.rel.size<=100000
 len:f.args.length<=8
 args:Qz f.args=is
theorem Pa.val{f:Fact}(h:Pa f): ∀v∈f.args,bV v=0:=fun v j=>of_decide_eq_true (Wc.1 h.args v j)
theorem yj{l:List cN}(hl:l.length<=8)(h: ∀v∈l,bV v=0):(jJ l).length<=1000:=by
 have h1:=vD l.length;have u:=yn ll (m:=100) l fun v j=>Dr (h v j);rw[jJ,Vp];omega
theorem jt(t:By):(iE t).length<=11+t.length:=by
 have:=vD t.length;rw[iE,Vp];omega
theorem BC{f:Fact}(h:Pa f):(fS f).length<=110000:=by
 have h1:=jt f.rel.data.toList;have j:=jt (jJ f.args);have u:=yj h.len h.val;have x:=h.rel;have y:f.rel.data.toList.length=f.rel.size:=rfl;rw[fS,Vp];omega
theorem uH(l:By)(f:Fact)(hf:Pa f)(hb:l.length<=50000000000000):bg prog 43 [.ptr 0 0,ag f.c] (wO l) (.aZ []) (wH (l++fS f)) 3:=by
 have x:Pure prog 75 [.iv (a7 3 f.args cN.c)] (.aZ [.iv (a7 1 (jJ f.args) aO),pI 0]):=by
  have:=SO f.args;rwa[Qw,be (by have:=hf.len;omega),be (by rw[hf.args];decide)]at this
 have h1:=jt f.rel.data.toList;have y:=yj hf.len hf.val;have A:=hf.rel;have B:f.rel.data.toList.length=f.rel.size:=rfl;refine aj ab func43 Z (by decide) ntmps43 Z (by simp) ?_;refine gA Z (ak [0,1] (DC l f.rel (by omega) (by omega)) Z Z Z Z Z (by simp only[Vy,VQ,VT,VU,aF,bD];rfl) Z Z ?_);refine gA Z (aB (x) Z Z Z Z Z Z ?_);refine gA Z (bz Z (lk (mb ab (jJ f.args) Z Z Z Z Z Z Z Z Z (fun j C=>rfl)) Z) ?_);rintro t rfl;refine gA Z (ak [0,3] (DC (l++iE f.rel.data.toList) ⟨(jJ f.args).toArray⟩ (by show(jJ f.args).toArray.size<=_;simp;omega) (by rw[Vp];omega)) Z Z Z Z Z (by simp only[Vy,VQ,aF];exact congrArg (fun z=> [_,co z]) (aF _ _)) Z Z ?_);have u:l++fS f=l++iE f.rel.data.toList++iE (jJ f.args):=by rw[fS,VF]
 refine gA Z (ar [4] (by first|exact .inr Z|exact .inl Z) Z (wk Z Z Z (bi ac) ⟨⟨_,rfl,O5 u Z Z⟩,Vm Z,rfl,hR Z (by rw[u];exact aE _ _) Z ac⟩ Z))
def pb(c:b6 Fact):By:=[if c.1=is then 1 else 0]++fS c.2
def bM(l:List (b6 Fact)):By:=enc l.length++l.flatMap pb
def kC(l:List Fact):By:=enc l.length++l.flatMap fS
theorem EA{c:b6 Fact}(h:Pa c.2):(pb c).length<=110001:=by
 have:=BC h;rw[pb,Vp,VW];omega
theorem CE{α:Type}(f:α->By){m k:Nat}{l:List α}(hl:l.length<=k)(h: ∀x∈l,(f x).length<=m)(i:Nat):(enc l.length++(l.take i).flatMap f).length<=11+m*k:=by
 have h1:=vD l.length;have y:=yn f (m:=m) (l.take i) fun v u=>h v (W7 u);have j:(l.take i).length<=k:=by rw[V7];omega
 have A:=Nat.mul_le_mul_left m j;rw[Vp];omega
theorem Cj(l:List (b6 Fact))(hl:l.length<=100000000)(hF: ∀x∈l,Pa x.2):Pure prog 26 [.iv (a7 3 l fb)] (.iv (a7 1 (bM l) aO)):=by
 refine ah ab func26 Z (by decide) ntmps26 Z (by simp) Z ?_;refine gA Z (ak [] (Af) Z Z Z Z Z Z Z Z ?_);refine gA Z (ak [0,1] (yu [] l.length ⟨by omega,by omega⟩ (by decide)) Z Z Z Z Z (by simp only[Vy,VQ,VT,VU,aF,bD];rfl) Z Z ?_);refine gA Z ?_;obtain⟨B,u⟩: ∃B:Nat->By,∀i,B i=enc l.length++(l.take i).flatMap pb:=⟨_,fun _=>rfl⟩
 have D:([]:By)++enc ((l.length:Int)).toNat=B 0:=by rw[u,Ye,YB,We];rfl
 have G:B l.length=bM l:=by rw[u,WG,bM]
 have A: ∀i,(B i).length<=11+110001*100000000:=fun i=>by rw[u];exact CE pb hl (fun x Y=>EA (hF x Y)) i
 rw[D];refine aM 0 l.length (VB _) (fun i=>⟨[(3,.ptr 0 0),(12,.iv (a7 3 l fb)),(13,pI l.length),(14,pI i)],[(0,co (ox 3 (B i))),(3,co (ik (B i)))],4⟩) (fun _=>True) [2] ac
  (wk Z Z Z (bi (bi (bi (bi trivial)))) ⟨⟨_,rfl,.of_eq Z⟩,Vm Z,rfl,hR Z (by first|rfl|exact aE _ _) Z trivial⟩ Z) fun i hi _=>?_
 refine gA Z ?_;refine Vo (fun h1=>?_) (fun h1=>?_)
 .have h1:i<l.length:=by simpa using h1
  have hf:=hF _ (El h1);have J:=A i;have y:B (i+1)=B i++pb (l.getD i ci):=by rw[u,u,bA h1,VF]
  refine gA Z ?_;refine Vo (fun j=>?_) (fun j=>?_)
  .have j:(l.getD i ci).1=is:=j;have C:B i++ [1]++fS (l.getD i ci).2=B (i+1):=by rw[y,pb,am j,VF]
   refine gA Z (ak [0,3] (w4 (B i) 1 (by omega)) Z Z Z Z Z (by simp only[Vy,VQ,VT,VU,aF,bD];rfl) Z Z ?_);refine gA Z (ak [0,5] (uH (B i++ [1]) (l.getD i ci).2 hf (by rw[Vp,VW];omega)) Z Z Z Z Z (by simp only[Vy,VQ,aF];exact congrArg (fun z=> [_,co z]) (aF _ _)) Z Z ?_);rw[C];refine gA Z ⟨h1,ac,[6],wk Z Z Z (bi (bi (bi (bi ac)))) ⟨⟨_,rfl,.of_eq Z⟩,Vm Z,rfl,hR Z (by first|rfl|exact aE _ _) Z ac⟩ Z⟩
  .have j:(l.getD i ci).1=jp:=j;have C:B i++ [0]++fS (l.getD i ci).2=B (i+1):=by rw[y,pb,be (by rw[j];decide),VF]
   refine gA Z (ak [0,3] (w4 (B i) 0 (by omega)) Z Z Z Z Z (by simp only[Vy,VQ,VT,VU,aF,bD];rfl) Z Z ?_);refine gA Z (ak [0,5] (uH (B i++ [0]) (l.getD i ci).2 hf (by rw[Vp,VW];omega)) Z Z Z Z Z (by simp only[Vy,VQ,aF];exact congrArg (fun z=> [_,co z]) (aF _ _)) Z Z ?_);rw[C];refine gA Z ⟨h1,ac,[6],wk Z Z Z (bi (bi (bi (bi ac)))) ⟨⟨_,rfl,.of_eq Z⟩,Vm Z,rfl,hR Z (by first|rfl|exact aE _ _) Z ac⟩ Z⟩
 .have h1:l.length<=i:=by simpa using h1
  have I:i=l.length:=by omega
  subst I;have hT:=A l.length;rw[G] at*
  refine gA Z (ak [0,3] (uI (bM l) (by omega)) Z Z Z Z Z (by simp only[Vy,VQ,VT,VU,aF,bD];rfl) Z Z ?_);refine gA Z (gj (r0:= .sl 4 0 (bM l).length 1) (.inr Z) Z (ft.gd 4 (bM l) aO Z (aE _ _) (by simp[PV.ba]) (.done (.bK Z (fun k _=>by rw[VL])))))
theorem Fb(l:List Fact)(hl:l.length<=100000000)(hF: ∀x∈l,Pa x):Pure prog 22 [.iv (a7 2 l Fact.c)] (.iv (a7 1 (kC l) aO)):=by
 refine ah ab func22 Z (by decide) ntmps22 Z (by simp) Z ?_;refine gA Z (ak [] (Af) Z Z Z Z Z Z Z Z ?_);refine gA Z (ak [0,1] (yu [] l.length ⟨by omega,by omega⟩ (by decide)) Z Z Z Z Z (by simp only[Vy,VQ,VT,VU,aF,bD];rfl) Z Z ?_);refine gA Z ?_;obtain⟨B,j⟩: ∃B:Nat->By,∀i,B i=enc l.length++(l.take i).flatMap fS:=⟨_,fun _=>rfl⟩
 have y:([]:By)++enc ((l.length:Int)).toNat=B 0:=by rw[j,Ye,YB,We];rfl
 have A:B l.length=kC l:=by rw[j,WG,kC]
 have u: ∀i,(B i).length<=11+110000*100000000:=fun i=>by rw[j];exact CE fS hl (fun x I=>BC (hF x I)) i
 rw[y];refine aM 0 l.length (VB _) (fun i=>⟨[(3,.ptr 0 0),(12,.iv (a7 2 l Fact.c)),(13,pI l.length),(14,pI i)],[(0,co (ox 3 (B i))),(3,co (ik (B i)))],4⟩) (fun _=>True) [2] ac
  (wk Z Z Z (bi (bi (bi (bi trivial)))) ⟨⟨_,rfl,.of_eq Z⟩,Vm Z,rfl,hR Z (by first|rfl|exact aE _ _) Z trivial⟩ Z) fun i J _=>?_
 refine gA Z ?_;refine Vo (fun h1=>?_) (fun h1=>?_)
 .have h1:i<l.length:=by simpa using h1
  have hf:=hF _ (El h1);have G:=u i;have D:B i++fS (l.getD i ci)=B (i+1):=by rw[j,j,bA h1,VF]
  refine gA Z (ak [0,3] (uH (B i) (l.getD i ci) hf (by omega)) Z Z Z Z Z (by simp only[Vy,VQ,VT,VU,aF,bD];rfl) Z Z ?_);rw[D];refine gA Z ⟨h1,ac,[5],wk Z Z Z (bi (bi (bi (bi ac)))) ⟨⟨_,rfl,.of_eq Z⟩,Vm Z,rfl,hR Z (by first|rfl|exact aE _ _) Z ac⟩ Z⟩
 .have h1:l.length<=i:=by simpa using h1
  have C:i=l.length:=by omega
  subst C;have hT:=u l.length;rw[A] at*
  refine gA Z (ak [0,3] (uI (kC l) (by omega)) Z Z Z Z Z (by simp only[Vy,VQ,VT,VU,aF,bD];rfl) Z Z ?_);refine gA Z (gj (r0:= .sl 4 0 (kC l).length 1) (.inr Z) Z (ft.gd 4 (kC l) aO Z (aE _ _) (by simp[PV.ba]) (.done (.bK Z (fun k _=>by rw[VL])))))
end Go.Proofs.YtlmhfgbkchnfbaaGreatDoor
namespace Go.Proofs.YtlmhfgbkchnfbaaGreatDoor
open Go Go.Al Go.Proofs.Tryz Go.En
theorem cy(xs:By):(V0 xs.length).map (fun k=>(aO (xs.getD k ci)).map PV.iv)=c6 xs:=by
 apply XX
 .simp
 .intro i h1 u;have j:i<xs.length:=by simpa using h1
  simp[Yz,Vt j]
theorem SP(l xs:By)(hb:l.length+xs.length<=100000000000000):bg prog 63 [.ptr 0 0,.iv (a7 1 xs aO)] (wO l) (.aZ []) (wH (l++xs)) 3:=by
 refine aj ab func63 Z (by decide) ntmps63 Z (by simp) ?_;refine fP Z ?_ (ar [2] (by first|exact .inr Z|exact .inl Z) Z (wk Z Z Z (bi ac) ⟨⟨_,rfl,.of_eq ?_⟩,Vm Z,rfl,hR Z ?_ Z ac⟩ Z))
 .refine⟨ac,by simp,ac,?_,by omega,by omega⟩;rw[show(List.map (fun k=>List.map PV.iv ((fun k=>aO (xs.getD k ci)) k)) (V0 xs.length))=c6 xs from cy xs];exact eO (fun _=>rfl) xs
 .rw[<-Vp];rfl
 .rw[VD];exact congrArg _ (cy xs)
theorem DF(l xs:By)(hb:l.length+xs.length<=80000000000000):bg prog 32 [.ptr 0 0,.iv (a7 1 xs aO)] (wO l) (.aZ []) (wH (l++xs)) 3:=by
 refine aj ab func32 Z (by decide) ntmps32 Z (by simp) ?_;refine gA Z ?_;refine Vo (fun zz=>?_) (fun zz=>?_)<;>(try(exact absurd zz (by decide)))
 refine gA Z (ak [0,1] (SP l xs (by omega)) Z Z Z Z Z (by simp only[Vy,VQ,VT,VU,aF,bD];rfl) Z Z ?_);refine gA Z (ar [2] (by first|exact .inr Z|exact .inl Z) Z (wk Z Z Z (bi ac) ⟨⟨_,rfl,.of_eq Z⟩,Vm Z,rfl,hR Z (by first|rfl|exact aE _ _) Z ac⟩ Z))
abbrev mkE(m:Int):List (List PV):=[[pY (IntKind.u8.wrap (m.fdiv (2 ^ min (XP 24) IntKind.u32.bits)))],[pY (IntKind.u8.wrap (m.fdiv (2 ^ min (XP 16) IntKind.u32.bits)))],[pY (IntKind.u8.wrap (m.fdiv (2 ^ min (XP 8) IntKind.u32.bits)))],[pY (IntKind.u8.wrap m)]]
abbrev D2(m:Nat):By:=[UInt8.ofNat (m/16777216),UInt8.ofNat (m/65536),UInt8.ofNat (m/256),UInt8.ofNat m]
theorem FB(m:Nat):mkE (m:Int)=c6 (D2 m):=by
 have j:(2:Int) ^ min (XP 24) IntKind.u32.bits=16777216:=by decide
 have u:(2:Int) ^ min (XP 16) IntKind.u32.bits=65536:=by decide
 have x:(2:Int) ^ min (XP 8) IntKind.u32.bits=256:=by decide
 unfold mkE;rw[j,u,x,WL _ (by decide),WL _ (by decide),WL _ (by decide)];have h1:=A9 (m/16777216);have y:=A9 (m/65536);have A:=A9 (m/256);rw[show((m:Int)/16777216)=((m/16777216:Nat):Int) from rfl,show((m:Int)/65536)=((m/65536:Nat):Int) from rfl,show((m:Int)/256)=((m/256:Nat):Int) from rfl,h1,y,A,A9];rfl
theorem pM(l:By):0<=pN l:=Int.emod_nonneg _ (by decide)
theorem Hb(n:Int)(h:0<=n):Pure prog 33 [pV n] (.iv (a7 1 (D2 n.toNat) aO)):=by
 obtain⟨m,rfl⟩: ∃m:Nat,n=(m:Int):=⟨n.toNat,by omega⟩
 refine ah ab func33 Z (by decide) ntmps33 Z (by simp) Z ?_;refine fP Z ?_ (du (by first|exact .inr Z|exact .inl Z) Z Z (FB m) Z);trivial
def j5(a:By):By:=(V0 4).map fun k=>a.getD (a.length-5+k) ci
def tz(k:UInt8)(n:Nat)(body:By):By:=[k]++enc n++iE body
def ei(a:By)(k:UInt8)(n:Nat)(body:By):By:=tz k n body++D2 (pN (tz k n body++j5 a)).toNat++ [90]
set_option maxHeartbeats 1000000 in
theorem yw(a body:By)(k:UInt8)(a0:Int)(J:5<=a.length)(ha:a.length<=1000000000)(hn:0<=a0∧a0<=1000000000000)(hb:body.length<=900000000):
  bg prog 21 [.iv (a7 1 a aO),pY (k.toNat:Int),pI a0,.iv (a7 1 body aO)] [] (.sl 0 0 (ei a k a0.toNat body).length 1) [(0,co (ik (ei a k a0.toNat body)))] 1:=by
 have Y:(tz k a0.toNat body).length<=900000100:=by
  have h1:=vD a0.toNat;have I:=jt body;rw[tz,Vp,Vp,VW];omega
 refine aj ab func21 Z (by decide) ntmps21 Z (by simp) ?_;refine gA Z (ak [] (Af) Z Z Z Z Z Z Z Z ?_);refine gA Z (ak [0,1] (w4 [] k (by decide)) Z Z Z Z Z (by simp only[Vy,VQ,VT,VU,aF,bD];rfl) Z Z ?_);refine gA Z (ak [0,2] (yu ([]++ [k]) a0 hn (by simp)) Z Z Z Z Z (by simp only[Vy,VQ,aF];exact congrArg (fun z=> [_,co z]) (aF _ _)) Z Z ?_);refine gM 1 Z (cP [] (t:=⟨[(0,.iv (a7 1 a aO)),(3,.iv (a7 1 body aO)),(9,.ptr 0 0)],[(0,co (ox 3 ([]++ [k]++enc a0.toNat))),(3,co (ik ([]++ [k]++enc a0.toNat)))],4⟩) (wk Z Z Z (bi (bi (bi ac))) ⟨⟨_,rfl,.of_eq Z⟩,Vm Z,rfl,hR Z (aE _ _) Z ac⟩ Z) ?_);refine gA Z (bz Z (lk (mb ab body Z Z Z Z Z Z Z Z Z (fun j hj=>rfl)) Z) ?_);rintro t rfl;refine gA Z (ak [0,3] (DC ([]++ [k]++enc a0.toNat) ⟨body.toArray⟩ (by show body.toArray.size<=_;simp;omega) (by have:=vD a0.toNat;simp only[Vp,WH,VW];omega)) Z Z Z Z Z (by simp only[Vy,VQ,VT,VU,aF,bD];rfl) Z Z ?_);have e:([]:By)++ [k]++enc a0.toNat++iE body=tz k a0.toNat body:=rfl;rw[show(⟨body.toArray⟩:aq).data.toList=body from rfl,e];rw[ei];generalize tz k a0.toNat body=W at*
 refine gA Z (ak [0,4] (uI W (by omega)) Z Z Z Z Z (by simp only[Vy,VQ,aF];exact congrArg (fun z=> [_,co z]) (aF _ _)) Z Z ?_);refine gM 2 Z (cP [] (t:=⟨[(0,.iv (a7 1 a aO)),(9,.ptr 0 0),(10,.sl 5 0 W.length 1)],[(0,co (ox 4 W)),(4,co (ik W)),(5,co (ik W))],6⟩) (wk Z Z Z (bi (bi (bi ac))) ⟨⟨_,rfl,.of_eq Z⟩,Vm Z,rfl,hR Z (aE _ _) Z (hR Z (aE _ _) Z ac)⟩ Z) ?_);have D:((a.length:Int)-4-1).toNat=a.length-5:=by omega
 have y:((a.length:Int)-1).toNat-((a.length:Int)-4-1).toNat=4:=by omega
 have x:(V0 (((a.length:Int)-1).toNat-((a.length:Int)-4-1).toNat)).map (fun k=>(aO (a.getD (((a.length:Int)-4-1).toNat+k) ci)).map PV.iv)=c6 (j5 a):=by rw[y,D];rfl
 have G:(j5 a).length=4:=by simp[j5]
 refine gM 15 Z (hC:=(by refine⟨⟨⟨⟨⟨ac,?_⟩,?_⟩,?_⟩,by omega,by omega,by omega⟩,by simp,ac,by rw[x];exact eO (fun _=>rfl) _,by omega,by omega⟩<;>exact⟨by omega,by omega⟩)) (jS 6 (fun k=>aO ((W++j5 a).getD k ci)) Z (cQ (by rw[VD];exact congrArg _ x)) ?_ ?_ ?_)
 .simp[AF.lO,PV.ba]
 .have C:c6 W++(V0 (((a.length:Int)-1).toNat-((a.length:Int)-4-1).toNat)).map (fun k=>(aO (a.getD (((a.length:Int)-4-1).toNat+k) ci)).map PV.iv)=c6 (W++j5 a):=by rw[x];exact VD.symm
  refine⟨fun k e j p A B=>?_,by simp[AO.lO,a8,PV.ba],fG _ _ _ _ _ _,fG _ _ _ _ _ _,ac⟩;have u:(c6 (W++j5 a))[k]? =co e:=by rw[<-C];exact A
  exact fG 6 1 0 1 (W++j5 a) aO k e j p u B
 refine cP (L:=[]) (t:=⟨[(9,.ptr 0 0),(10,.iv (a7 1 (W++j5 a) aO))],[(0,co (ox 4 W)),(4,co (ik W))],7⟩) (wk Z Z Z (bi ⟨.iv (.bK (by rw[Vp,G,y]) (fun k _=>by rw[VL])),rfl,ac⟩) ⟨⟨_,rfl,.of_eq Z⟩,Vm Z,rfl,hR Z (by first|rfl|exact aE _ _) Z ac⟩ Z) ?_;refine gA Z (aB (P5 (W++j5 a) (by rw[Vp];omega)) Z Z Z Z Z Z ?_);refine gA Z (aB (Hb (pN (W++j5 a)) (pM _)) Z Z Z Z Z Z ?_);refine gA Z (ak [0,4] (DF W (D2 (pN (W++j5 a)).toNat) (by show W.length+4<=_;omega)) Z Z Z Z Z (by simp only[Vy,VQ,VT,VU,aF,bD];rfl) Z Z ?_);refine gA Z (ak [0,7] (w4 (W++D2 (pN (W++j5 a)).toNat) 90 (by rw[Vp];show W.length+4<=_;omega)) Z Z Z Z Z (by simp only[Vy,VQ,aF];exact congrArg (fun z=> [_,co z]) (aF _ _)) Z Z ?_);refine gA Z (ak [0,8] (uI (W++D2 (pN (W++j5 a)).toNat++ [90]) (by rw[Vp,Vp];show W.length+4+1<=_;omega)) Z Z Z Z Z (by simp only[Vy,VQ,aF];exact congrArg (fun z=> [_,co z]) (aF _ _)) Z Z ?_);refine gA Z (ar [9] (by first|exact .inr Z|exact .inl Z) Z (wk Z Z Z (bi ac) (hR Z (aE _ _) Z ac) Z))
abbrev QM:By:=[80,68,74,49]
def xD(p:Prog):By:=QM++D2 (u6 p).toNat
def fw(p:Prog):By:=xD p++D2 (pN (xD p)).toNat++ [90]
theorem oN(p:Prog):(fw p).length=13:=rfl
set_option maxHeartbeats 1000000 in
theorem S4(hS:fx)(p:Prog)(hf:p.fit)(hs:p.size<=10000000)(ht:p.ts<=800000000)(hc:(iW p).1=0):bg prog 17 [ag p.c] [] (.aZ [.sl 0 0 13 1,pI 0]) [(0,co (ik (fw p)))] 1:=by
 have hM:=SV hS p hf hs ht
 replace hM:Pure prog 30 [ag p.c] (.aZ [pV (u6 p),pI 0]):=by rw[A7,am hc]at hM;exact hM
 have x:(xD p).length=8:=rfl;have B:0<=u6 p:=pM _;refine aj ab func17 Z (by decide) ntmps17 Z (by simp) ?_;refine gA Z (aB (hM) Z Z Z Z Z Z ?_);refine gA Z ?_;refine Vo (fun zz=>?_) (fun zz=>?_)<;>(try(exact absurd zz (by decide)))
 refine gA Z (ak [] (Af) Z Z Z Z Z Z Z Z ?_);refine gA Z (bz Z (MK (es:=[[pY 80],[pY 68],[pY 74],[pY 49]]) ab Z Z Z Z Z (fun k=>aO (QM.getD k ci)) Z Z ?_ Z (by decide) Z) ?_)
 .intro k e u
  match k,u with
  |0,u=>cases u;rfl
  |1,u=>cases u;rfl
  |2,u=>cases u;rfl
  |3,u=>cases u;rfl
 rintro t rfl;refine gA Z (ak [1,2] (bg.le (aa:=[.ptr 0 0,.iv (.bK 1 4 fun k=>(fun k=>aO (QM.getD k ci)) (0+k))]) (DF [] QM (by decide)) ⟨.refl _,.iv (.bK Z (fun k _=>by rw[VL])),ac⟩) Z Z Z Z Z (by simp only[Vy,VQ,VT,VU,aF,bD];rfl) Z Z ?_);refine gM 1 Z (cP [] (t:=⟨[(4,pV (u6 p)),(6,.ptr 1 0)],[(1,co (ox 4 QM)),(4,co (ik QM))],5⟩) (wk Z Z Z (bi (bi ac)) ⟨⟨_,rfl,.of_eq Z⟩,Vm Z,rfl,hR Z (aE _ _) Z ac⟩ Z) ?_);refine gA Z (aB (Hb (u6 p) B) Z Z Z Z Z Z ?_);refine gA Z (ak [1,4] (DF QM (D2 (u6 p).toNat) (by show 8<=_;decide)) Z Z Z Z Z (by simp only[Vy,VQ,VT,VU,aF,bD];rfl) Z Z ?_);refine gM 1 Z (cP [] (t:=⟨[(6,.ptr 1 0)],[(1,co (ox 5 (xD p))),(5,co (ik (xD p)))],6⟩) (wk Z Z Z (bi ac) ⟨⟨_,rfl,.of_eq Z⟩,Vm Z,rfl,hR Z (aE _ _) Z ac⟩ Z) ?_);rw[fw];generalize xD p=A at*
 refine gA Z (ak [1,5] (uI A (by omega)) Z Z Z Z Z (by simp only[Vy,VQ,VT,VU,aF,bD];rfl) Z Z ?_);refine gA Z (rn (asv:=[.sl 6 0 A.length 1]) (Pure.nv (P5 A (by omega))) Z Z Z Z Z (lf (i:=6) (sz:=1) (fun k=>aO (A.getD k ci)) Z (cQ (aE _ _)) (by simp[a8,PV.ba]) ⟨.bK Z (fun k _=>by rw[VL]),ac⟩) Z (fun j o y=>nomatch y) Z ?_);refine gA Z (aB (Hb (pN A) (pM _)) Z Z Z Z Z Z ?_);refine gA Z (ak [1,5] (DF A (D2 (pN A).toNat) (by show A.length+4<=_;omega)) Z Z Z Z Z (by simp only[Vy,VQ,aF];exact congrArg (fun z=> [_,co z]) (aF _ _)) Z Z ?_);refine gA Z (ak [1,7] (w4 (A++D2 (pN A).toNat) 90 (by rw[Vp];show A.length+4<=_;omega)) Z Z Z Z Z (by simp only[Vy,VQ,aF];exact congrArg (fun z=> [_,co z]) (aF _ _)) Z Z ?_);refine gA Z (ak [1,8] (uI (A++D2 (pN A).toNat++ [90]) (by rw[Vp,Vp];show A.length+4+1<=_;omega)) Z Z Z Z Z (by simp only[Vy,VQ,aF];exact congrArg (fun z=> [_,co z]) (aF _ _)) Z Z ?_);have hl:(A++D2 (pN A).toNat++ [90]).length=13:=by rw[Vp,Vp,x];rfl
 refine gA Z (ar [9] (by first|exact .inr Z|exact .inl Z) Z (wk Z Z Z ⟨.aZ ⟨.row hl,.refl _,ac⟩,rfl,ac⟩ (hR Z (aE _ _) Z ac) Z))
theorem PZ{h:AH}(l:By){j n:Nat}(hj:h.get j=co (ik l))(hn:n<=l.length):wo h 1 (.sl j 0 n 1)=co (c6 (l.take n)):=by
 have e:VP 1 1=is:=rfl;unfold wo;simp only[e,hj,ik,aV,VL,VS,Nat.ble_eq,Yh];rw[show Xr n l.length=is from Wo hn];show co _=_;rw[c6,List.map_take]
theorem Cf(l:By)(n:Nat)(h0:0<n)(hn:n<=l.length)(hb:l.length<=1000000000):bg prog 20 [.sl 0 0 n 1] [ik l] (.sl 1 0 n 1) [(0,co (ik l)),(1,co (ik (l.take n)))] 2:=by
 have hl:(l.take n).length=n:=by rw[V7];omega
 refine aj ab func20 Z (by decide) ntmps20 Z (by simp) ?_;refine gA Z (Io ab n n Z Z Z Z Z Z Z Z Z h0 (by omega) (by show 1*n<=_;omega) Z (by decide) (z:=[pY 0]) Z (.inr ⟨rfl,rfl⟩) Z ?_);refine gA Z (bz Z (I7 (news:=c6 (l.take n)) (eu:=PK) ab Z Z Z Z Z Z (by simp) Z (gG (by exact PZ l Z hn)) (fun e j=>by obtain⟨k,_,rfl⟩:=V5.1 j;rfl) (by rw[VS,hl]) h0 Z) ?_);rintro t rfl;refine gA Z (ar [1] (by first|exact .inr Z|exact .inl Z) Z (wk Z Z Z (bi ac) (hR Z Z Z (hR Z Z Z ac)) Z))
end Go.Proofs.YtlmhfgbkchnfbaaGreatDoor
namespace Go.Proofs.YtlmhfgbkchnfbaaGreatDoor
open Go Go.Al Go.Proofs.Tryz Go.En Go.Bo
abbrev jC(i k:Nat)(a:By)(a0:Int):AO:= .cells [.ptr i 0,.sl k 0 a.length 1,pI a0]
abbrev jO(p:Prog)(n:Nat)(m:FM)(a:By)(a0:Int):List AO:=[bx m,ch p n 0,ik a,jC 1 2 a a0]
abbrev jH(p:Prog)(n:Nat)(m:FM)(a:By)(a0:Int):AH:=[(0,co (bx m)),(1,co (ch p n 0)),(2,co (ik a)),(3,co (jC 1 2 a a0))]
theorem G7(p:Prog)(n:Nat)(m:FM)(a:By)(a0:Int):bg prog 12 [.ptr 3 0] (jO p n m a a0) (pI a0) (jH p n m a a0) 4:=by
 refine aj ab func12 Z (by decide) ntmps12 Z (by simp) ?_;refine gA Z ?_;refine Vo (fun zz=>?_) (fun zz=>?_)<;>(try(exact absurd zz (by decide)))
 refine gA Z (ar [] (by first|exact .inr Z|exact .inl Z) Z (wk Z Z Z (bi ac) (hM Z Z Z ⟨⟨_,rfl,.of_eq Z⟩,Vm Z,rfl,hR Z (by first|rfl|exact aE _ _) Z ⟨⟨_,rfl,.of_eq Z⟩,Vm Z,rfl,ac⟩⟩) Z))
theorem Ly(p:Prog)(n:Nat)(m:FM)(a:By)(a0:Int)(h0:0<a.length)(ha:a.length<=1000000000):bg prog 9 [.ptr 3 0] (jO p n m a a0) (.iv (a7 1 a aO)) (jH p n m a a0) 4:=by
 have hF:=Cf a a.length h0 (VA _) ha;rw[WG]at hF;refine aj ab func9 Z (by decide) ntmps9 Z (by simp) ?_;refine gA Z ?_;refine Vo (fun zz=>?_) (fun zz=>?_)<;>(try(exact absurd zz (by decide)))
 refine gA Z (ak [2] (hF) Z Z Z Z Z (by simp only[Vy,VQ,VT,VU,aF,bD];rfl) Z Z ?_);refine gA Z ⟨.inr Z,.sl 4 0 a.length 1,rfl,ft.gd 4 a aO Z (by first|rfl|exact aE _ _) (by simp[PV.ba]) (.done ⟨_,_,_,[],⟨rfl,rfl,rfl⟩,wk Z Z Z ⟨.iv (.bK Z (fun k _=>by rw[VL])),rfl,ac⟩ (hM Z Z Z ⟨⟨_,rfl,.of_eq Z⟩,Vm Z,rfl,hR Z (by first|rfl|exact aE _ _) Z ⟨⟨_,rfl,.of_eq Z⟩,Vm Z,rfl,ac⟩⟩) Z⟩)⟩
theorem DJ(p:Prog)(n:Nat)(a:By)(a0:Int){m:FM}{S:List Fact}(hk:b8 cv m S)(hs:qx aY S)(hF:ye S)(hl:S.length<=100000000):bg prog 8 [.ptr 3 0] (jO p n m a a0) (.iv (a7 2 S Fact.c)) (jH p n m a a0) 4:=by
 refine aj ab func8 Z (by decide) ntmps8 Z (by simp) ?_;refine gA Z ?_;refine Vo (fun zz=>?_) (fun zz=>?_)<;>(try(exact absurd zz (by decide)))
 refine gA Z (ak [0,1] (Hc p n hk hs hF hl) Z Z Z Z Z Z Z Z ?_);refine gA Z (ar [] (by first|exact .inr Z|exact .inl Z) Z (wk Z Z Z (bi ac) (hM Z Z Z ⟨⟨_,rfl,.of_eq Z⟩,Vm Z,rfl,hR Z (by first|rfl|exact aE _ _) Z ⟨⟨_,rfl,.of_eq Z⟩,Vm Z,rfl,ac⟩⟩) Z))
theorem E9(p:Prog)(n:Nat)(m:FM)(hb:p.size<=1000000000):bg prog 56 [.ptr 1 0] (bO p n m) (ag p.c) (bH p n m) 2:=by
 refine aj ab func56 Z (by decide) ntmps56 Z (by simp) ?_;refine gA Z ?_;refine Vo (fun zz=>?_) (fun zz=>?_)<;>(try(exact absurd zz (by decide)))
 refine gA Z (aB (G6 p hb) Z Z Z Z Z Z ?_);refine gA Z (ar [] (by first|exact .inr Z|exact .inl Z) Z (wk Z Z Z (bi ac) (hM Z Z Z ⟨⟨_,rfl,.of_eq Z⟩,Vm Z,rfl,ac⟩) Z))
section
section
variable (hS:fx) (p:Prog) (hf:p.fit) (hs:p.size<=10000000) (ht:p.ts<=800000000)
include hS hf hs ht
theorem DN(hc:(iW p).1=0):bg prog 7 [ag p.c] [] (.aZ [.ptr 3 0,pI 0]) (jH p 0 [] (fw p) 0) 4:=by
 refine aj ab func7 Z (by decide) ntmps7 Z (by simp) ?_;refine gA Z (ak [] (S4 hS p hf hs ht hc) Z Z Z Z Z Z Z Z ?_);refine gA Z ?_;refine Vo (fun zz=>?_) (fun zz=>?_)<;>(try(exact absurd zz (by decide)))
 refine gA Z (ak [] (Ur hS p hf hs hc) Z Z Z Z Z Z Z Z ?_);refine gA Z ?_;refine Vo (fun zz=>?_) (fun zz=>?_)<;>(try(exact absurd zz (by decide)))
 refine gA Z (ar [2,3,1,4] (by first|exact .inr Z|exact .inl Z) Z (wk Z Z Z ⟨.of_eq Z,rfl,ac⟩ (hM Z Z Z ⟨⟨_,rfl,.of_eq Z⟩,Vm Z,rfl,hR Z (by first|rfl|exact aE _ _) Z ⟨⟨_,rfl,.of_eq Z⟩,Vm Z,rfl,ac⟩⟩) Z))
end
theorem Lc(a b:By):kw ((⟨a.toArray⟩:aq)=⟨b.toArray⟩)=kw (a=b):=by
 refine decide_eq_decide.2 ⟨fun h=>?_,fun h=>by rw[h]⟩;have:=congrArg (fun x:aq=>x.data.toList) h;exact this
theorem DK(a b:By):Pure prog 48 [.iv (a7 1 a aO),.iv (a7 1 b aO)] (pB (kw (a=b))):=by
 refine ah ab func48 Z (by decide) ntmps48 Z (by simp) Z ?_;refine gM 7 Z (bz Z (lk (mb ab a Z Z Z Z Z Z Z Z Z (fun j u=>rfl)) Z) ?_);rintro t rfl;refine gM 1 Z (bz Z (lk (mb ab b Z Z Z Z Z Z Z Z Z (fun j u=>rfl)) Z) ?_);rintro t rfl;refine gA Z (aI (by first|exact .inr Z|exact .inl Z) Z (.of_eq ?_));exact congrArg pB (Lc a b)
theorem Ls(b a:By):Pure prog 27 [.iv (a7 1 b aO),.iv (a7 1 a aO)] (pB (kw (b.take a.length=a))):=by
 refine ah ab func27 Z (by decide) ntmps27 Z (by simp) Z ?_;refine gA Z ?_;refine Vo (fun h1=>?_) (fun h1=>?_)
 .have h1:a.length<=b.length:=by have:=of_decide_eq_true h1;omega
  refine gM 6 Z (bz Z (lk (sB (m:=a.length) ab Z Z Z Z Z Z Z h1) Z) ?_);rintro t rfl;refine gA Z (aB (DK (b.take a.length) a) Z Z Z Z Z Z ?_);refine gA Z (aI (by first|exact .inr Z|exact .inl Z) Z (.of_eq ?_));rfl
 .have h1: ¬a.length<=b.length:=by have:=of_decide_eq_false h1;omega
  rw[decide_eq_false fun h=>h1 (by rw[<-h,V7];omega)];refine gA Z (aI (by first|exact .inr Z|exact .inl Z) Z (.of_eq ?_));rfl
end
end Go.Proofs.YtlmhfgbkchnfbaaGreatDoor
namespace Go.Proofs.YtlmhfgbkchnfbaaGreatDoor
open Go Go.Al Go.En Go.Bo
structure LdJ (L:List Fact) (n:Nat) (i:Nat) (x:FM×Nat):Prop where
 keeps:b8 cv x.1 (L.take (4096*i))
 num:x.2=n+i
theorem Fq{p:Prog}{A B:List Fact}(j:Go.Bo.eM aY (okF p) (A++B))(u:B.length<=4096):iM aY (okF p) A (B.map fun f=>(is,f))=0:=by
 rw[jY,A2 o6 j.BY];refine⟨by rw[VS];exact u,fun x y=>?_,j.RH⟩;obtain⟨f,hf,rfl⟩:=V5.1 y;exact j.ok f (WY _ hf)
theorem xO{p:Prog}{L:List Fact}(h:Go.Bo.eM aY (okF p) L)(j:Nat):Go.Bo.eM aY (okF p) (L.take j):=
 ⟨h.BY.sublist (List.take_sublist _ _),fun f hf=>h.ok f (W7 hf),by have:=h.RH;rw[V7];omega⟩
theorem eM.TB{p:Prog}{L:List Fact}(h:Go.Bo.eM aY (okF p) L): ∀f∈L,f.args.length<=8:=fun f hf=>ji (h.ok f hf)
theorem SY(p:Prog)(n:Nat)(a:By)(a0:Int){m:FM}(L:List Fact)(hk:b8 cv m [])(Y:Go.Bo.eM aY (okF p) L)(hr:p.aD.length<=1000000000)(hn:n<=100000000000):
  Al.Fn Tryz.prog 59 [.ptr 3 0,.iv (a7 2 L Fact.c)] (jO p n m a a0) fun r h k=> ∃m' n',n'<=n+17∧b8 cv m' L∧r=pB is∧h=jH p n' m' a a0∧k=4:=by
 have e0:=Y.RH;have h8:=eM.TB Y;refine kv ab Tryz.func59 Z (by decide) Tryz.ntmps59 Z (by simp) ?_;refine gA Z ?_;refine kY 0 ((L.length+4095)/4096) (VB _) (fun i (x:FM×Nat)=>⟨[(0,.ptr 3 0),(1,.iv (a7 2 (L.drop (4096*i)) Fact.c))],jH p x.2 x.1 a a0,4⟩) (LdJ L n) (m,n) [] ⟨hk,rfl⟩
  (wk Z Z Z (bi (bi trivial)) (hM Z Z Z ⟨⟨_,rfl,.of_eq Z⟩,Vm Z,rfl,hR Z (by first|rfl|exact aE _ _) Z ⟨⟨_,rfl,.of_eq Z⟩,Vm Z,rfl,ac⟩⟩) Z) fun i x hi hJ=>?_
 obtain⟨m1,A⟩:=x;obtain⟨u,g0⟩:=hJ;dsimp only at u g0;have I:(L.drop (4096*i)).length=L.length-4096*i:=Wu ..;obtain⟨D,J⟩: ∃D,D=L.drop (4096*i):=⟨_,rfl⟩
 rw[<-J]at I ⊢;refine gA Z ?_;refine Vo (fun h1=>?_) (fun h1=>?_)
 .have h1:0<D.length:=by have:=of_decide_eq_true h1;omega
  have f0:i<(L.length+4095)/4096:=by omega
  obtain⟨c,hc⟩: ∃c,c=min D.length 4096:=⟨_,rfl⟩
  have c0:c<=D.length:=by omega
  have hB:(D.take c).length<=4096:=by rw[V7];omega
  have G:L.take (4096*i)++D.take c=L.take (4096*(i+1)):=by
   rw[J,show 4096*(i+1)=4096*i+4096 by omega,List.take_add];congr 1;rw[hc,I];by_cases h:L.length-4096*i<=4096
   .rw[Nat.min_eq_left h,VI (by rw[Wu];exact VA _),VI (by rw[Wu];exact h)]
   .rw[Nat.min_eq_right (by omega)]
  have j:=xO Y (4096*(i+1));rw[<-G]at j;have y:=Fq j hB;have C: ∀f∈D,f.args.length<=8:=fun f hf=>h8 f (YR (by rw[J]at hf;exact hf));have B:=Hj [] (D.take c) XB (Xq.1 j.BY).2.1 (fun f hf=>nomatch hf) (fun f hf=>by have:=C f (W7 hf);omega) (by decide) (by omega);rw[mE]at B
  have hA:=Ck p A ((D.take c).map fun f=>(is,f)) hr u (xO Y _) (fun x hx=>by
   obtain⟨f,hf,rfl⟩:=V5.1 hx;have:=C f (W7 hf)
   show f.args.length<=_;omega) (by omega)
  rw[show jI aY (okF p) (L.take (4096*i),A) ((D.take c).map fun f=>(is,f))=(L.take (4096*(i+1)),A+1) by unfold jI;rw[am y,A2 o6 j.BY,G]]at hA;have b0:D.drop c=L.drop (4096*(i+1)):=by
   by_cases h:D.length<=4096
   .rw[WW (by omega),WW (by omega)]
   .rw[J,List.drop_drop];congr 1;omega
  have d0:ae (.iv (.bK 2 (D.length-c) fun k=>Fact.c (D.getD (c+k) ci))) (.iv (a7 2 (L.drop (4096*(i+1))) Fact.c)):=by rw[<-b0];exact .iv (BE Z)
  (refine gM 9 Z ?_;refine cP (L:=[]) (t:=⟨[(0,.ptr 3 0),(1,.iv (a7 2 D Fact.c)),(5,pI c)],jH p A m1 a a0,4⟩) (wk Z Z Z (bi (bi ⟨.of_eq (congrArg pI (by omega)),rfl,ac⟩)) (hM Z Z Z ⟨⟨_,rfl,.of_eq Z⟩,Vm Z,rfl,hR Z Z Z ⟨⟨_,rfl,.of_eq Z⟩,Vm Z,rfl,ac⟩⟩) Z) ?_)
  refine gA Z (kq (p:= .iv (a7 2 (D.take c) Fact.c)) 7 Z Z Z Z Z Z (sB (m:=c) ab Z Z Z Z Z Z Z c0) ?_);refine gA Z (bc ab [] (Pure.nv (Pure.le (aa:=[lQ,.iv (a7 2 (D.take c) Fact.c)]) B ⟨.nil _ _,.refl _,ac⟩)) Z Z Z Z Z Z Z Z Z Z Z Z (by(repeat' (first|exact ac|exact rfl|exact ae.refl _|exact ae.bk (by assumption)|apply Vo))<;>first|omega|(simp only[Vu];omega)|(simp;done)|(simp;omega)) Z (by(repeat' (first|exact ac|exact rfl|exact ae.refl _|exact ae.bk (by assumption)|apply Vo))<;>first|omega|(simp only[Vu];omega)|(simp;done)|(simp;omega)) ?_);refine gA Z (Iu ab [0,1] hA Z Z Z Z Z Z Z Z Z Z Z (by(repeat' (first|exact ac|exact rfl|exact ae.refl _|exact ae.bk (by assumption)|apply Vo))<;>first|omega|(simp only[Vu];omega)|(simp;done)|(simp;omega)) ?_);rintro r h' n' ⟨m2,hk2,rfl,rfl,rfl⟩;refine⟨_,rfl,_,rfl,(by(repeat' (first|exact ac|exact rfl|exact ae.refl _|exact ae.bk (by assumption)|apply Vo))<;>first|omega|(simp only[Vu];omega)|(simp;done)|(simp;omega)),?_⟩;refine gA Z ?_;refine Vo (fun zz=>?_) (fun zz=>?_)<;>(try(rw[y]at zz;exact absurd zz (by decide)))
  refine gA Z ⟨f0,(m2,A+1),[],⟨hk2,by dsimp only;omega⟩,wk Z Z Z (bi ⟨d0,rfl,ac⟩) (hM Z Z Z ⟨⟨_,rfl,.of_eq Z⟩,Vm Z,rfl,hR Z (by first|rfl|exact aE _ _) Z ⟨⟨_,rfl,.of_eq Z⟩,Vm Z,rfl,ac⟩⟩) Z⟩
 .have h1:D.length=0:=by have:=of_decide_eq_false h1;omega
  rw[VI (by omega)]at u;refine gA Z (db (r:=pB is) (h:=jH p A m1 a a0) (n:=4) [] (.inr Z) Z ⟨m1,A,by omega,u,rfl,rfl,rfl⟩ (wk Z Z Z (bi ac) (hM Z Z Z ⟨⟨_,rfl,.of_eq Z⟩,Vm Z,rfl,hR Z (by first|rfl|exact aE _ _) Z ⟨⟨_,rfl,.of_eq Z⟩,Vm Z,rfl,ac⟩⟩) Z))
end Go.Proofs.YtlmhfgbkchnfbaaGreatDoor
namespace Go.Proofs.YtlmhfgbkchnfbaaGreatDoor
open Go Go.Al Go.Proofs.Tryz Go.En
abbrev nG(b:By)(s:RS):AO:= .cells [.iv (a7 1 b aO),pI s.p,pI s.f]
abbrev tN(b:By)(s:RS):AH:=[(0,co (nG b s))]
def fR(s:RS)(e:Int):RS:=if s.f=0 then⟨s.p,e⟩ else s
theorem qK(b:By)(s:RS)(e:Int):bg prog 87 [.ptr 0 0,pI e] [nG b s] (.aZ []) (tN b (fR s e)) 1:=by
 refine aj ab func87 Z (by decide) ntmps87 Z (by simp) ?_;refine gA Z ?_;refine Vo (fun g1=>?_) (fun g1=>?_)
 .have g1:s.f=0:=of_decide_eq_true g1;rw[fR,am g1];refine gA Z (ar [] (by first|exact .inr Z|exact .inl Z) Z (wk Z Z Z (bi ac) ⟨⟨_,rfl,.of_eq Z⟩,Vm Z,rfl,ac⟩ Z))
 .have g1: ¬s.f=0:=of_decide_eq_false g1;rw[fR,be g1];refine gA Z (ar [] (by first|exact .inr Z|exact .inl Z) Z (wk Z Z Z (bi ac) ⟨⟨_,rfl,.of_eq Z⟩,Vm Z,rfl,ac⟩ Z))
theorem uG(b:By)(s:RS):bg prog 84 [.ptr 0 0] [nG b s] (pB (kw (s.f=0))) (tN b s) 1:=by
 refine aj ab func84 Z (by decide) ntmps84 Z (by simp) ?_;refine gA Z ?_;refine Vo (fun zz=>?_) (fun zz=>?_)<;>(try(exact absurd zz (by decide)))
 refine gA Z (ar [] (by first|exact .inr Z|exact .inl Z) Z (wk Z Z Z (bi ac) ⟨⟨_,rfl,.of_eq Z⟩,Vm Z,rfl,ac⟩ Z))
theorem rR(b:By)(s:RS):bg prog 54 [.ptr 0 0] [nG b s] (pI s.f) (tN b s) 1:=by
 refine aj ab func54 Z (by decide) ntmps54 Z (by simp) ?_;refine gA Z ?_;refine Vo (fun zz=>?_) (fun zz=>?_)<;>(try(exact absurd zz (by decide)))
 refine gA Z (ar [] (by first|exact .inr Z|exact .inl Z) Z (wk Z Z Z (bi ac) ⟨⟨_,rfl,.of_eq Z⟩,Vm Z,rfl,ac⟩ Z))
def iU(b:By)(s:RS):Int:=if s.f=0∧s.p<b.length then 13 else s.f
theorem G5(b:By)(s:RS):bg prog 89 [.ptr 0 0] [nG b s] (pI (iU b s)) (tN b s) 1:=by
 refine aj ab func89 Z (by decide) ntmps89 Z (by simp) ?_;refine gA Z ?_;refine Vo (fun zz=>?_) (fun zz=>?_)<;>(try(exact absurd zz (by decide)))
 refine gA Z ?_;refine Vo (fun g1=>?_) (fun g1=>?_)
 .have g1:s.f=0:=of_decide_eq_true g1;refine gA Z ?_;refine Vo (fun g2=>?_) (fun g2=>?_)
  .have g2:s.p<b.length:=by have:=of_decide_eq_true g2;omega
   rw[iU,am ⟨g1,g2⟩];refine gA Z (ar [] (by first|exact .inr Z|exact .inl Z) Z (wk Z Z Z (bi ac) ⟨⟨_,rfl,.of_eq Z⟩,Vm Z,rfl,ac⟩ Z))
  .have g2: ¬s.p<b.length:=by have:=of_decide_eq_false g2;omega
   rw[iU,be fun h=>g2 h.2];refine gA Z (ar [] (by first|exact .inr Z|exact .inl Z) Z (wk Z Z Z (bi ac) ⟨⟨_,rfl,.of_eq Z⟩,Vm Z,rfl,ac⟩ Z))
 .have g1: ¬s.f=0:=of_decide_eq_false (g1.trans Z);rw[iU,be fun h=>g1 h.1];refine gA Z (ar [] (by first|exact .inr Z|exact .inl Z) Z (wk Z Z Z (bi ac) ⟨⟨_,rfl,.of_eq Z⟩,Vm Z,rfl,ac⟩ Z))
theorem Rt: ∀c:Nat,c<256->(BitVec.ofInt IntKind.u8.bits (c:Int)&&&BitVec.ofInt IntKind.u8.bits 127).toNat=c % 128:=by
 intro c h;have j: ∀c:Fin 256,(BitVec.ofInt IntKind.u8.bits ((c.val:Nat):Int)&&&BitVec.ofInt IntKind.u8.bits 127).toNat=c.val % 128:=by decide+kernel
 exact j ⟨c,h⟩
theorem RP(n:Nat)(h:n<18446744073709551616):IntKind.u64.wrap (n:Int)=(n:Int):=by
 have e:IntKind.u64.wrap (n:Int)=(n:Int) % 18446744073709551616:=rfl;rw[e];omega
theorem w8(n:Nat)(h:n<256):IntKind.u8.wrap (n:Int)=(n:Int):=by
 have e:IntKind.u8.wrap (n:Int)=(n:Int) % 256:=rfl;rw[e];omega
theorem QD(n:Nat)(h:n<18446744073709551616):(BitVec.ofInt 64 (n:Int)).toNat=n:=by
 rw[BitVec.toNat_ofInt];have:((n:Int) % ((2 ^ 64:Nat):Int))=(n:Int):=by
  show(n:Int) % 18446744073709551616=_;omega
 rw[this];rfl
theorem RC(x c i:Nat)(hi:i<=9)(C:x<128 ^ i)(hc:c<256)(I:i=9->c<=1):
  IntKind.u64.wrap ((BitVec.ofInt IntKind.u64.bits (x:Int)|||BitVec.ofInt IntKind.u64.bits (IntKind.u64.wrap (IntKind.u64.wrap (IntKind.u8.wrap ((BitVec.ofInt IntKind.u8.bits (c:Int)&&&BitVec.ofInt IntKind.u8.bits 127).toNat:Int))*2 ^ min ((7*(i:Int))).toNat IntKind.u64.bits))).toNat:Int)=((x+c % 128*128 ^ i:Nat):Int):=by
 rw[Rt c hc,w8 _ (by omega),RP (c % 128) (by omega)];have A:(128:Nat) ^ i=2 ^ (7*i):=by rw[show(128:Nat)=2 ^ 7 from rfl,<-Nat.pow_mul]
 have J:min ((7*(i:Int))).toNat IntKind.u64.bits=7*i:=by
  show min _ 64=_;omega
 have u:c % 128*2 ^ (7*i)<18446744073709551616∧x+c % 128*2 ^ (7*i)<18446744073709551616:=by
  rw[A]at C;by_cases h:i=9
  .subst h;have:=I Z;have h1:c % 128<=1:=by omega
   have D:c % 128*2 ^ (7*9)<=1*2 ^ (7*9):=VO _ h1;have G:(2:Nat) ^ (7*9)=9223372036854775808:=by decide
   omega
  .have h1:2 ^ (7*i)<=2 ^ 56:=YQ (by decide) (by omega);have D:c % 128*2 ^ (7*i)<=127*2 ^ 56:=Nat.mul_le_mul (by omega) h1;have G:(2:Nat) ^ 56=72057594037927936:=by decide
   omega
 rw[J];have j:(((c % 128:Nat):Int))*2 ^ (7*i)=((c % 128*2 ^ (7*i):Nat):Int):=by push_cast;rfl
 rw[j,RP _ u.1];have B:x<2 ^ (7*i):=A▸C;have y:(BitVec.ofInt IntKind.u64.bits (x:Int)|||BitVec.ofInt IntKind.u64.bits ((c % 128*2 ^ (7*i):Nat):Int)).toNat=x+c % 128*2 ^ (7*i):=by
  show(BitVec.ofInt 64 (x:Int)|||BitVec.ofInt 64 ((c % 128*2 ^ (7*i):Nat):Int)).toNat=_;rw[BitVec.toNat_or,QD x (by omega),QD _ u.1,Nat.or_comm,Yd,<-Nat.two_pow_add_eq_or_of_lt B,Nat.add_comm]
 rw[y,RP _ u.2,A]
def j8(b:By)(s:RS):Nat×Nat×RS:=match dec 0 0 (b.drop s.p) with
 | .ok n k=>(n,k,s)
 | .short=>(0,0,fR s 10)
 | .form=>(0,0,fR s 11)
structure NxJ (b:By) (s:RS) (i x:Nat):Prop where
 le:i<=9
 eq:dec 0 0 (b.drop s.p)=dec i x (b.drop (s.p+i))
 lt:x<128 ^ i
theorem G8(b:By)(s:RS)(hb:b.length<=1000000000)(hp:s.p<=1000000000):bg prog 86 [.ptr 0 0] [nG b s] (.aZ [pU (j8 b s).1,pI (j8 b s).2.1]) (tN b (j8 b s).2.2) 1:=by
 refine aj ab func86 Z (by decide) ntmps86 Z (by simp) ?_;refine gA Z ?_;refine kY 0 10 (by decide) (fun i x=>⟨[(0,.ptr 0 0),(4,pU x),(7,pI i)],[(0,co (nG b s))],1⟩) (NxJ b s) 0 [] ⟨by decide,rfl,by decide⟩
  (wk Z Z Z (bi (bi (bi trivial))) ⟨⟨_,rfl,.of_eq Z⟩,Vm Z,rfl,ac⟩ Z) fun i x hi G=>?_
 have B:=G.le;refine gA Z ?_;refine Vo (fun zz=>?_) (fun zz=>?_)<;>(try(have h9:=of_decide_eq_false zz;omega))
 refine gA Z ?_;refine Vo (fun g1=>?_) (fun g1=>?_)
 .have g1:b.length<=s.p+i:=by have:=of_decide_eq_true g1;omega
  have e:j8 b s=(0,0,fR s 10):=by rw[j8,G.eq,WW g1];cases i<;>rfl
  rw[e];refine gA Z (ak [0] (qK b s 10) Z Z Z Z Z Z Z Z ?_);refine gA Z (ar [] (by first|exact .inr Z|exact .inl Z) Z (wk Z Z Z (bi ac) ⟨⟨_,rfl,.of_eq Z⟩,Vm Z,rfl,ac⟩ Z))
 have g1:s.p+i<b.length:=by have:=of_decide_eq_false g1;omega
 obtain⟨c,I⟩: ∃c,c=(b.getD (s.p+i) ci).toNat:=⟨_,rfl⟩
 have u:c<256:=by rw[I];exact(b.getD (s.p+i) ci).toNat_lt
 have j:((s.p:Int)+(i:Int)).toNat=s.p+i:=by omega
 have a0:b.drop (s.p+i)=b.getD (s.p+i) ci::b.drop (s.p+i+1):=by
  rw[Xc g1];simp[Yz,Vt g1]
 have D:=G.eq;rw[a0,dec,<-I]at D;have A:(i=9∧1<c)∨(0<i∧c=0)->j8 b s=(0,0,fR s 11):=fun h=>by rw[j8,D,am h]
 have Y:c<128-> ¬((i=9∧1<c)∨(0<i∧c=0))->j8 b s=(x+c % 128*128 ^ i,i+1,s):=fun h1 h2=>by rw[j8,D,be h2,am h1]
 have e2: ¬c<128-> ¬((i=9∧1<c)∨(0<i∧c=0))->NxJ b s (i+1) (x+c % 128*128 ^ i):=fun h1 h2=>by
  rw[be h2,be h1]at D;refine⟨by omega,D,?_⟩;have h3:=G.lt;have h4:c % 128*128 ^ i<=127*128 ^ i:=VO _ (by omega);rw[Yg];omega
 refine gA Z ?_;refine Vo (fun J=>?_) (fun J=>?_)
 .have J:i=9:=by have:=of_decide_eq_true J;omega
  refine gA Z ?_;refine Vo (fun a2=>?_) (fun a2=>?_)
  .have a2: ¬c>1:=by have:=of_decide_eq_false a2;rw[j]at this;omega
   refine gA Z ?_;refine Vo (fun a3=>?_) (fun a3=>?_)
   .refine gA Z ?_;refine Vo (fun a4=>?_) (fun a4=>?_)
    .have a4:c=0:=by have:=of_decide_eq_true a4;rw[j]at this;omega
     have e:j8 b s=(0,0,fR s 11):=A (by omega);rw[e];refine gA Z (ak [0] (qK b s 11) Z Z Z Z Z Z Z Z ?_);refine gA Z (ar [] (by first|exact .inr Z|exact .inl Z) Z (wk Z Z Z (bi ac) ⟨⟨_,rfl,.of_eq Z⟩,Vm Z,rfl,ac⟩ Z))
    .have a4: ¬c=0:=by have:=of_decide_eq_false a4;rw[j]at this;omega
     have y: ¬((i=9∧1<c)∨(0<i∧c=0)):=by omega
     refine gA Z ?_;refine Vo (fun g3=>?_) (fun g3=>?_)
     .have g3:c<128:=by have:=of_decide_eq_true g3;rw[j]at this;omega
      rw[Y g3 y];refine gA Z (ar [] (by first|exact .inr Z|exact .inl Z) Z (wk Z Z Z ⟨.of_eq (congrArg (fun z=>PV.aZ [PV.iv (.v (.int .u64 z)),pI ((i:Int)+1)]) (by rw[j,<-I];exact RC x c i B G.lt u (by omega))),rfl,ac⟩ ⟨⟨_,rfl,.of_eq Z⟩,Vm Z,rfl,ac⟩ Z))
     .have g3: ¬c<128:=by have:=of_decide_eq_false g3;rw[j]at this;omega
      have C:=e2 g3 y;refine gA Z ⟨by omega,_,[],C,wk Z Z Z (bi ⟨.of_eq (congrArg (fun z=>PV.iv (.v (.int .u64 z))) (by rw[j,<-I];exact RC x c i B G.lt u (by omega))),rfl,bi ac⟩) ⟨⟨_,rfl,.of_eq Z⟩,Vm Z,rfl,ac⟩ Z⟩
   .exact absurd (of_decide_eq_false (a3.trans Z)) (by omega)
  .have a2:c>1:=by have:=of_decide_eq_true (a2.trans Z);rw[j]at this;omega
   have e:j8 b s=(0,0,fR s 11):=A (by omega);rw[e];refine gA Z (ak [0] (qK b s 11) Z Z Z Z Z Z Z Z ?_);refine gA Z (ar [] (by first|exact .inr Z|exact .inl Z) Z (wk Z Z Z (bi ac) ⟨⟨_,rfl,.of_eq Z⟩,Vm Z,rfl,ac⟩ Z))
 .have J: ¬i=9:=by have:=of_decide_eq_false (J.trans Z);omega
  refine gA Z ?_;refine Vo (fun a3=>?_) (fun a3=>?_)
  .have a3:0<i:=by have:=of_decide_eq_true a3;omega
   refine gA Z ?_;refine Vo (fun a4=>?_) (fun a4=>?_)
   .have a4:c=0:=by have:=of_decide_eq_true a4;rw[j]at this;omega
    have e:j8 b s=(0,0,fR s 11):=A (by omega);rw[e];refine gA Z (ak [0] (qK b s 11) Z Z Z Z Z Z Z Z ?_);refine gA Z (ar [] (by first|exact .inr Z|exact .inl Z) Z (wk Z Z Z (bi ac) ⟨⟨_,rfl,.of_eq Z⟩,Vm Z,rfl,ac⟩ Z))
   .have a4: ¬c=0:=by have:=of_decide_eq_false a4;rw[j]at this;omega
    have y: ¬((i=9∧1<c)∨(0<i∧c=0)):=by omega
    refine gA Z ?_;refine Vo (fun g3=>?_) (fun g3=>?_)
    .have g3:c<128:=by have:=of_decide_eq_true g3;rw[j]at this;omega
     rw[Y g3 y];refine gA Z (ar [] (by first|exact .inr Z|exact .inl Z) Z (wk Z Z Z ⟨.of_eq (congrArg (fun z=>PV.aZ [PV.iv (.v (.int .u64 z)),pI ((i:Int)+1)]) (by rw[j,<-I];exact RC x c i B G.lt u (by omega))),rfl,ac⟩ ⟨⟨_,rfl,.of_eq Z⟩,Vm Z,rfl,ac⟩ Z))
    .have g3: ¬c<128:=by have:=of_decide_eq_false g3;rw[j]at this;omega
     have C:=e2 g3 y;refine gA Z ⟨by omega,_,[],C,wk Z Z Z (bi ⟨.of_eq (congrArg (fun z=>PV.iv (.v (.int .u64 z))) (by rw[j,<-I];exact RC x c i B G.lt u (by omega))),rfl,bi ac⟩) ⟨⟨_,rfl,.of_eq Z⟩,Vm Z,rfl,ac⟩ Z⟩
  .have a3: ¬0<i:=by have:=of_decide_eq_false (a3.trans Z);omega
   have y: ¬((i=9∧1<c)∨(0<i∧c=0)):=by omega
   refine gA Z ?_;refine Vo (fun g3=>?_) (fun g3=>?_)
   .have g3:c<128:=by have:=of_decide_eq_true g3;rw[j]at this;omega
    rw[Y g3 y];refine gA Z (ar [] (by first|exact .inr Z|exact .inl Z) Z (wk Z Z Z ⟨.of_eq (congrArg (fun z=>PV.aZ [PV.iv (.v (.int .u64 z)),pI ((i:Int)+1)]) (by rw[j,<-I];exact RC x c i B G.lt u (by omega))),rfl,ac⟩ ⟨⟨_,rfl,.of_eq Z⟩,Vm Z,rfl,ac⟩ Z))
   .have g3: ¬c<128:=by have:=of_decide_eq_false g3;rw[j]at this;omega
    have C:=e2 g3 y;refine gA Z ⟨by omega,_,[],C,wk Z Z Z (bi ⟨.of_eq (congrArg (fun z=>PV.iv (.v (.int .u64 z))) (by rw[j,<-I];exact RC x c i B G.lt u (by omega))),rfl,bi ac⟩) ⟨⟨_,rfl,.of_eq Z⟩,Vm Z,rfl,ac⟩ Z⟩
theorem rA: ∀(l:By) (i a n k:Nat),dec i a l= .ok n k->i+1<=k∧k<=i+l.length
 | [],_,_,_,_,h=>by rw[dec]at h;cases h
 |c::r,i,a,n,k,h=>by
  rw[dec]at h;split at h
  .cases h
  .split at h
   .cases h;rw[VX];omega
   .have:=rA r _ _ _ _ h;rw[VX];omega
theorem nW(b:By)(s:RS)(hf:s.f=0)(hp:s.p<=b.length):(∃n k,dec 0 0 (b.drop s.p)= .ok n k∧j8 b s=(n,k,s)∧1<=k∧s.p+k<=b.length)∨(∃e:Int,(e=10∨e=11)∧j8 b s=(0,0,⟨s.p,e⟩)∧(∀n k,dec 0 0 (b.drop s.p)≠ .ok n k)∧(dec 0 0 (b.drop s.p)= .short->e=10)∧(dec 0 0 (b.drop s.p)= .form->e=11)):=by
 unfold j8;cases h:dec 0 0 (b.drop s.p) with
 |ok n k=>
  have:=rA _ _ _ _ _ h;rw[Wu]at this;exact .inl ⟨n,k,rfl,rfl,by omega,by omega⟩
 |short=>exact .inr ⟨10,.inl Z,(by show(0,0,fR s 10)=_;rw[fR,am hf]),(fun _ _ h=>nomatch h),(fun _=>rfl),(fun h=>nomatch h)⟩
 |form=>exact .inr ⟨11,.inr Z,(by show(0,0,fR s 11)=_;rw[fR,am hf]),(fun _ _ h=>nomatch h),(fun h=>nomatch h),(fun _=>rfl)⟩
theorem yt(b:By)(s:RS)(most:Nat)(hb:b.length<=1000000000)(hp:s.p<=b.length):bg prog 51 [.ptr 0 0,pU most] [nG b s] (pU (cG b most s).1) (tN b (cG b most s).2) 1:=by
 have x:=G8 b s hb (by omega);refine aj ab func51 Z (by decide) ntmps51 Z (by simp) ?_;refine gA Z (ak [0] (uG b s) Z Z Z Z Z Z Z Z ?_);refine gA Z ?_;refine Vo (fun g1=>?_) (fun g1=>?_)
 .have g1: ¬s.f=0:=by simpa using g1
  rw[cG,be g1];refine gA Z (ar [] (by first|exact .inr Z|exact .inl Z) Z (wk Z Z Z (bi ac) ⟨⟨_,rfl,.of_eq Z⟩,Vm Z,rfl,ac⟩ Z))
 have g1:s.f=0:=by simpa using g1
 rcases nW b s g1 hp with⟨n,k,hd,A,B,C⟩|⟨e,D,A,hd,j,u⟩
 .rw[A]at x;refine gA Z (ak [0] (x) Z Z Z Z Z Z Z Z ?_);refine gA Z ?_;refine Vo (fun zz=>?_) (fun zz=>?_)<;>(try(simp at zz;omega))
  refine gA Z ?_;refine Vo (fun g2=>?_) (fun g2=>?_)
  .have g2: ¬n<=most:=by have:=of_decide_eq_true g2;omega
   rw[cG,am g1,hd];simp only[be g2];refine gA Z (ak [0] (qK b s 12) Z Z Z Z Z Z Z Z ?_);rw[show fR s 12=⟨s.p,12⟩ from am g1];refine gA Z ?_;refine Vo (fun zz=>?_) (fun zz=>?_)<;>(try(simp at zz;done))
   refine gA Z (ar [] (by first|exact .inr Z|exact .inl Z) Z (wk Z Z Z (bi ac) ⟨⟨_,rfl,.of_eq Z⟩,Vm Z,rfl,ac⟩ Z))
  .have g2:n<=most:=by have:=of_decide_eq_false g2;omega
   rw[cG,am g1,hd];simp only[am g2];refine gA Z ?_;refine Vo (fun zz=>?_) (fun zz=>?_)<;>(try(exact absurd g1 (by simpa using zz)))
   refine gA Z (ar [] (by first|exact .inr Z|exact .inl Z) Z (wk Z Z Z (bi ac) ⟨⟨_,rfl,.of_eq (by simp only[g1];rfl)⟩,Vm Z,rfl,ac⟩ Z))
 .rw[A]at x;refine gA Z (ak [0] (x) Z Z Z Z Z Z Z Z ?_);have hu:cG b most s=(0,⟨s.p,e⟩):=by
   rw[cG,am g1];cases h:dec 0 0 (b.drop s.p) with
   |ok n k=>exact absurd h (hd n k)
   |short=>rw[j h]
   |form=>rw[u h]
  rw[hu];have y:e≠0:=by omega
  refine gA Z ?_;refine Vo (fun zz=>?_) (fun zz=>?_)<;>(try(simp at zz;done))
  refine gA Z ?_;refine Vo (fun zz=>?_) (fun zz=>?_)<;>(try(simp at zz;exact absurd zz y))
  refine gA Z (ar [] (by first|exact .inr Z|exact .inl Z) Z (wk Z Z Z (bi ac) ⟨⟨_,rfl,.of_eq Z⟩,Vm Z,rfl,ac⟩ Z))
theorem Un{h:AH}(l:By):wo h 1 (.iv (a7 1 l aO))=co (c6 l):=by
 unfold wo;have e:VP 1 1=is:=rfl;simp only[e];exact congrArg co (cy l)
theorem Qg(b:By)(s:RS)(n:Nat)(hb:b.length<=1000000000)(hp:s.p<=b.length)(hn:n<=b.length-s.p):bg prog 85 [.ptr 0 0,pI n] [nG b s] (.iv (.bK 1 n fun k=>aO (b.getD (s.p+k) ci))) (tN b ⟨s.p+n,s.f⟩) 1:=by
 refine aj ab func85 Z (by decide) ntmps85 Z (by simp) ?_;refine gA Z ?_;refine Vo (fun g1=>?_) (fun g1=>?_)
 .exact absurd (of_decide_eq_true g1) (by omega)
 have h1:((s.p:Int)+(n:Int)).toNat=s.p+n:=by omega
 have j:((s.p:Int)+(n:Int)-(n:Int)).toNat=s.p:=by omega
 have e:s.p+n-s.p=n:=by omega
 refine gA Z (ar [] (by first|exact .inr Z|exact .inl Z) Z (wk Z Z Z ⟨.of_eq (by show PV.iv (.bK 1 (((s.p:Int)+(n:Int)).toNat-((s.p:Int)+(n:Int)-(n:Int)).toNat) fun k=>aO (b.getD (((s.p:Int)+(n:Int)-(n:Int)).toNat+k) ci))=_;rw[h1,j,e];rfl),rfl,ac⟩ ⟨⟨_,rfl,.of_eq Z⟩,Vm Z,rfl,ac⟩ Z))
theorem SK(b:By)(s:RS)(n:Nat)(hb:b.length<=1000000000)(hp:s.p<=b.length)(hf:s.f=0)(hn:n<=b.length-s.p):bg prog 53 [.ptr 0 0,pI n] [nG b s] .any (tN b ⟨s.p+n,s.f⟩) 1:=by
 refine aj ab func53 Z (by decide) ntmps53 Z (by simp) ?_;refine gA Z (ak [0] (uG b s) Z Z Z Z Z Z Z Z ?_);refine gA Z ?_;refine Vo (fun zz=>?_) (fun zz=>?_)<;>(try(simp[hf]at zz;done))
 refine gA Z ?_;refine Vo (fun zz=>?_) (fun zz=>?_)<;>(try(have j:=of_decide_eq_true zz;omega))
 refine gA Z (ak [0] (Qg b s n hb hp hn) Z Z Z Z Z Z Z Z ?_);refine gA Z (bz Z (ug (news:=(V0 n).map fun k=>(aO (b.getD (s.p+k) ci)).map PV.iv) (eu:=PK) (sz:=1) ab Z Z Z Z Z Z Z (by decide) Z (fW (eO (fun _=>rfl) _)) (by show((V0 n).map _).length*1<=_;simp;omega) (by simp;omega) Z) ?_);rintro t rfl;refine gA Z (ar [] (by first|exact .inr Z|exact .inl Z) Z (wk Z Z Z ⟨(fun M N U x h=> .any _),rfl,ac⟩ ⟨⟨_,rfl,.of_eq Z⟩,Vm Z,rfl,ac⟩ Z))
theorem SM(b:By)(s:RS)(n:Nat)(hf:s.f≠0):bg prog 53 [.ptr 0 0,pI n] [nG b s] .any (tN b s) 1:=by
 refine aj ab func53 Z (by decide) ntmps53 Z (by simp) ?_;refine gA Z (ak [0] (uG b s) Z Z Z Z Z Z Z Z ?_);refine gA Z ?_;refine Vo (fun zz=>?_) (fun zz=>?_)<;>(try(simp[hf]at zz;done))
 refine gA Z (ar [] (by first|exact .inr Z|exact .inl Z) Z (wk Z Z Z ⟨(fun M N U x h=> .any _),rfl,ac⟩ ⟨⟨_,rfl,.of_eq Z⟩,Vm Z,rfl,ac⟩ Z))
theorem EO(n:Int)(h1: -9223372036854775808<=n)(j:n<9223372036854775808):IntKind.i64.wrap n=n:=by
 show(if(is&&kw (n % 18446744073709551616>=9223372036854775808))=is then n % 18446744073709551616-18446744073709551616 else n % 18446744073709551616)=n;by_cases h:n % 18446744073709551616>=9223372036854775808
 .rw[am (by simpa using h)];omega
 .rw[be (by simpa using h)];omega
theorem Uj(n:Int)(h1:9223372036854775808<=n)(j:n<18446744073709551616):IntKind.i64.wrap n=n-18446744073709551616:=by
 show(if(is&&kw (n % 18446744073709551616>=9223372036854775808))=is then n % 18446744073709551616-18446744073709551616 else n % 18446744073709551616)=_;rw[am (by simp;omega)];omega
theorem Tl(n:Nat)(h:n<18446744073709551616):IntKind.i64.wrap (IntKind.u64.wrap ((BitVec.ofInt IntKind.u64.bits (n:Int)&&&BitVec.ofInt IntKind.u64.bits 1).toNat:Int))=((n % 2:Nat):Int):=by
 have e:(BitVec.ofInt IntKind.u64.bits (n:Int)&&&BitVec.ofInt IntKind.u64.bits 1).toNat=n % 2:=by
  show(BitVec.ofInt 64 (n:Int)&&&BitVec.ofInt 64 1).toNat=_;rw[BitVec.toNat_and,QD n h,show(BitVec.ofInt 64 1).toNat=1 from rfl,Nat.and_one_is_mod]
 rw[e,RP _ (by omega),EO _ (by omega) (by omega)]
theorem Ts(n:Nat):((n:Int).fdiv (2 ^ min (1:Int).toNat IntKind.u64.bits))=((n/2:Nat):Int):=by
 rw[show(2:Int) ^ min (1:Int).toNat IntKind.u64.bits=2 from by decide,WL _ (by decide)];omega
theorem Uh(n:Nat)(h:n<18446744073709551616):IntKind.i64.wrap ((BitVec.ofInt IntKind.i64.bits (IntKind.i64.wrap ((n:Int).fdiv (2 ^ min (1:Int).toNat IntKind.u64.bits))) ^^^ BitVec.ofInt IntKind.i64.bits (-((n % 2:Nat):Int))).toNat:Int)=zl n:=by
 rw[Ts,EO ((n/2:Nat):Int) (by omega) (by omega)];show IntKind.i64.wrap ((BitVec.ofInt 64 ((n/2:Nat):Int) ^^^ BitVec.ofInt 64 (-((n % 2:Nat):Int))).toNat:Int)=zl n;unfold zl;by_cases j:n % 2=0
 .rw[am j,j,show(-((0:Nat):Int))=0 from rfl,Dj _ (by omega),EO _ (by omega) (by omega)]
 .rw[be j,show n % 2=1 by omega,show BitVec.ofInt 64 (-((1:Nat):Int))=BitVec.ofInt 64 18446744073709551615 from by decide,Dk _ (by omega),Uj _ (by omega) (by omega)];omega
theorem S1(b:By)(s:RS)(j hi:Int)(hb:b.length<=1000000000)(hp:s.p<=b.length):bg prog 162 [.ptr 0 0,pI j,pI hi] [nG b s] (pI (mP b j hi s).1) (tN b (mP b j hi s).2) 1:=by
 have B:=G8 b s hb (by omega);refine aj ab func162 Z (by decide) ntmps162 Z (by simp) ?_;refine gA Z (ak [0] (uG b s) Z Z Z Z Z Z Z Z ?_);refine gA Z ?_;refine Vo (fun g1=>?_) (fun g1=>?_)
 .have g1: ¬s.f=0:=by simpa using g1
  rw[mP,be g1];refine gA Z (ar [] (by first|exact .inr Z|exact .inl Z) Z (wk Z Z Z (bi ac) ⟨⟨_,rfl,.of_eq Z⟩,Vm Z,rfl,ac⟩ Z))
 have g1:s.f=0:=by simpa using g1
 rcases nW b s g1 hp with⟨n,k,hd,D,G,I⟩|⟨e,J,D,hd,x,y⟩
 .rw[D]at B;have u:n<18446744073709551616:=(BI hd).1;refine gA Z (ak [0] (B) Z Z Z Z Z Z Z Z ?_);refine gA Z (OX 25 (p:=pI ((n % 2:Nat):Int)) (.of_eq (congrArg pI (Tl n u))) (go_neg Z Z Z (by omega) (by omega) Z ?_));have A:=Uh n u;refine gA Z ?_;refine Vo (fun zz=>?_) (fun zz=>?_)<;>(try(simp at zz;omega))
  refine gA Z ?_;refine Vo (fun g2=>?_) (fun g2=>?_)
  .have g2: ¬zl n<j:=by have h:=of_decide_eq_false g2;rw[<-A];exact h
   refine gA Z ?_;refine Vo (fun g3=>?_) (fun g3=>?_)
   .have g3:zl n>hi:=by have h:=of_decide_eq_true g3;rw[<-A];exact h
    rw[mP,am g1,hd];simp only[be (show¬(j<=zl n∧zl n<=hi) by omega)];refine gA Z (ak [0] (qK b s 12) Z Z Z Z Z Z Z Z ?_);rw[show fR s 12=⟨s.p,12⟩ from am g1];refine gA Z ?_;refine Vo (fun zz=>?_) (fun zz=>?_)<;>(try(simp at zz;done))
    refine gA Z (ar [] (by first|exact .inr Z|exact .inl Z) Z (wk Z Z Z (bi ac) ⟨⟨_,rfl,.of_eq Z⟩,Vm Z,rfl,ac⟩ Z))
   .have g3: ¬zl n>hi:=by have h:=of_decide_eq_false g3;rw[<-A];exact h
    rw[mP,am g1,hd];simp only[am (show j<=zl n∧zl n<=hi by omega)];refine gA Z ?_;refine Vo (fun zz=>?_) (fun zz=>?_)<;>(try(exact absurd g1 (by simpa using zz)))
    refine gA Z (ar [] (by first|exact .inr Z|exact .inl Z) Z (wk Z Z Z ⟨.of_eq (congrArg pI A),rfl,ac⟩ ⟨⟨_,rfl,.of_eq (by simp only[g1];rfl)⟩,Vm Z,rfl,ac⟩ Z))
  .have g2:zl n<j:=by have h:=of_decide_eq_true (g2.trans Z);rw[<-A];exact h
   rw[mP,am g1,hd];simp only[be (show¬(j<=zl n∧zl n<=hi) by omega)];refine gA Z (ak [0] (qK b s 12) Z Z Z Z Z Z Z Z ?_);rw[show fR s 12=⟨s.p,12⟩ from am g1];refine gA Z ?_;refine Vo (fun zz=>?_) (fun zz=>?_)<;>(try(simp at zz;done))
   refine gA Z (ar [] (by first|exact .inr Z|exact .inl Z) Z (wk Z Z Z (bi ac) ⟨⟨_,rfl,.of_eq Z⟩,Vm Z,rfl,ac⟩ Z))
 .rw[D]at B;refine gA Z (ak [0] (B) Z Z Z Z Z Z Z Z ?_);refine gA Z (OX 25 (p:=pI ((0 % 2:Nat):Int)) (.of_eq (congrArg pI (Tl 0 (by decide)))) (go_neg Z Z Z (by decide) (by decide) Z ?_));have hu:mP b j hi s=(0,⟨s.p,e⟩):=by
   rw[mP,am g1];cases h:dec 0 0 (b.drop s.p) with
   |ok n k=>exact absurd h (hd n k)
   |short=>rw[x h]
   |form=>rw[y h]
  rw[hu];have C:e≠0:=by omega
  refine gA Z ?_;refine Vo (fun zz=>?_) (fun zz=>?_)<;>(try(simp at zz;done))
  refine gA Z ?_;refine Vo (fun zz=>?_) (fun zz=>?_)<;>(try(simp at zz;exact absurd zz C))
  refine gA Z (ar [] (by first|exact .inr Z|exact .inl Z) Z (wk Z Z Z (bi ac) ⟨⟨_,rfl,.of_eq Z⟩,Vm Z,rfl,ac⟩ Z))
theorem Hf(b:By)(s:RS)(n:Nat)(hb:b.length<=1000000000)(hp:s.p<=b.length)(hn:b.length-s.p<n):bg prog 85 [.ptr 0 0,pI n] [nG b s] (.iv (a7 1 ([]:By) aO)) (tN b (fR s 10)) 1:=by
 refine aj ab func85 Z (by decide) ntmps85 Z (by simp) ?_;refine gA Z ?_;refine Vo (fun g1=>?_) (fun g1=>?_)
 .refine gA Z (ak [0] (qK b s 10) Z Z Z Z Z Z Z Z ?_);refine gA Z (ar [] (by first|exact .inr Z|exact .inl Z) Z (wk Z Z Z ⟨.nil _ _,rfl,ac⟩ ⟨⟨_,rfl,.of_eq Z⟩,Vm Z,rfl,ac⟩ Z))
 .exact absurd (of_decide_eq_false g1) (by omega)
theorem SJ(b:By)(s:RS)(n:Nat)(hb:b.length<=1000000000)(hp:s.p<=b.length)(hf:s.f=0)(hn:b.length-s.p<n):bg prog 53 [.ptr 0 0,pI n] [nG b s] .any (tN b (fR s 10)) 1:=by
 refine aj ab func53 Z (by decide) ntmps53 Z (by simp) ?_;refine gA Z (ak [0] (uG b s) Z Z Z Z Z Z Z Z ?_);refine gA Z ?_;refine Vo (fun zz=>?_) (fun zz=>?_)<;>(try(simp[hf]at zz;done))
 refine gA Z ?_;refine Vo (fun zz=>?_) (fun zz=>?_)<;>(try(have j:=of_decide_eq_true zz;omega))
 refine gA Z (ak [0] (Hf b s n hb hp hn) Z Z Z Z Z Z Z Z ?_);refine gA Z (bz Z (ug (news:=[]) (eu:=PK) (sz:=1) ab Z Z Z Z Z Z Z (by decide) Z (by simp) (by decide) (by decide) Z) ?_);rintro t rfl;refine gA Z (ar [] (by first|exact .inr Z|exact .inl Z) Z (wk Z Z Z ⟨(fun M N U x h=> .any _),rfl,ac⟩ ⟨⟨_,rfl,.of_eq Z⟩,Vm Z,rfl,ac⟩ Z))
theorem SN(b:By)(s:RS)(n:Nat)(hb:b.length<=1000000000)(hp:s.p<=b.length):bg prog 53 [.ptr 0 0,pI n] [nG b s] .any (tN b (Ax b n s)) 1:=by
 unfold Ax;split
 .rename_i hf;split
  .rename_i j;have h:=SK b s n hb hp hf j;rw[hf]at h;exact h
  .rename_i j;have h:=SJ b s n hb hp hf (by omega);rw[fR,am hf]at h;exact h
 .rename_i hf;exact SM b s n hf
theorem GI(b:By)(q n k:Nat)(h:k<n):b.getD (q+k) ci=((b.drop q).take n).getD k 0:=by
 simp[Yz,V8,h,Wl];rfl
theorem yv(b:By)(s:RS)(most:Nat)(hm:most<=1000000000)(hb:b.length<=1000000000)(hp:s.p<=b.length):bg prog 52 [.ptr 0 0,pI most] [nG b s] (pS (pO (ey b most s).1)) (tN b (ey b most s).2) 1:=by
 have B:=G8 b s hb (by omega);refine aj ab func52 Z (by decide) ntmps52 Z (by simp) ?_;refine gA Z (ak [0] (uG b s) Z Z Z Z Z Z Z Z ?_);refine gA Z ?_;refine Vo (fun g1=>?_) (fun g1=>?_)
 .have g1: ¬s.f=0:=by simpa using g1
  rw[ey,be g1];refine gA Z (ar [] (by first|exact .inr Z|exact .inl Z) Z (wk Z Z Z (bi ac) ⟨⟨_,rfl,.of_eq Z⟩,Vm Z,rfl,ac⟩ Z))
 have g1:s.f=0:=by simpa using g1
 rcases nW b s g1 hp with⟨n,k,hd,D,I,J⟩|⟨e,Y,D,hd,u,x⟩
 .rw[D]at B;have y:=RP most (by omega);refine gA Z (ak [0] (B) Z Z Z Z Z Z Z Z ?_);refine gA Z ?_;refine Vo (fun zz=>?_) (fun zz=>?_)<;>(try(simp at zz;omega))
  refine gA Z ?_;refine Vo (fun zz=>?_) (fun zz=>?_)<;>(try(simp at zz;omega))
  refine gA Z ?_;refine Vo (fun g2=>?_) (fun g2=>?_)
  .have g2:n<=most:=by have h:=of_decide_eq_false g2;rw[y]at h;omega
   refine gA Z ?_;refine Vo (fun zz=>?_) (fun zz=>?_)<;>(try(have h:=of_decide_eq_true zz;omega))
   refine gA Z ?_;refine Vo (fun zz=>?_) (fun zz=>?_)<;>(try(exact absurd g1 (by simpa using zz)))
   have A:=EO n (by omega) (by omega);by_cases g3:n<=b.length-(s.p+k)
   .have ht:ey b most s=((b.drop (s.p+k)).take n,⟨s.p+k+n,0⟩):=by
     rw[ey,am g1,hd];simp only[am g2,am g3]
    rw[ht];refine gA Z (ak [0] (bg.le (aa:=[.ptr 0 0,pI (IntKind.i64.wrap (n:Int))]) (Qg b ⟨s.p+k,s.f⟩ n hb (by show s.p+k<=_;omega) g3) ⟨.refl _,.of_eq (congrArg pI A),ac⟩) Z Z Z Z Z Z Z Z ?_);have hl:n=((b.drop (s.p+k)).take n).length:=by rw[V7,Wu];omega
    refine gA Z (bz Z (lk (mb ab ((b.drop (s.p+k)).take n) Z Z Z Z Z Z Z Z hl (fun j G=>?_)) Z) ?_)
    .exact congrArg aO (GI b (s.p+k) n j (by omega))
    rintro t rfl;refine gA Z ?_;refine Vo (fun zz=>?_) (fun zz=>?_)<;>(try(exact absurd g1 (by simpa using zz)))
    refine gA Z (ar [] (by first|exact .inr Z|exact .inl Z) Z (wk Z Z Z (bi ac) ⟨⟨_,rfl,.of_eq (by simp only[g1];rfl)⟩,Vm Z,rfl,ac⟩ Z))
   .have ht:ey b most s=([],⟨s.p,10⟩):=by
     rw[ey,am g1,hd];simp only[am g2,be g3]
    rw[ht];refine gA Z (ak [0] (bg.le (aa:=[.ptr 0 0,pI (IntKind.i64.wrap (n:Int))]) (Hf b ⟨s.p+k,s.f⟩ n hb (by show s.p+k<=_;omega) (by show b.length-(s.p+k)<_;omega)) ⟨.refl _,.of_eq (congrArg pI A),ac⟩) Z Z Z Z Z Z Z Z ?_);rw[show fR ⟨s.p+k,s.f⟩ 10=⟨s.p+k,10⟩ from am g1];refine gA Z (bz Z (lk (mb ab ([]:By) Z Z Z Z Z Z Z Z Z (fun j G=>absurd G (by simp))) Z) ?_);rintro t rfl;refine gA Z ?_;refine Vo (fun zz=>?_) (fun zz=>?_)<;>(try(simp at zz;done))
    refine gA Z (ar [] (by first|exact .inr Z|exact .inl Z) Z (wk Z Z Z (bi ac) ⟨⟨_,rfl,.of_eq Z⟩,Vm Z,rfl,ac⟩ Z))
  .have g2: ¬n<=most:=by have h:=of_decide_eq_true (g2.trans Z);rw[y]at h;omega
   rw[ey,am g1,hd];simp only[be g2];refine gA Z (ak [0] (qK b s 12) Z Z Z Z Z Z Z Z ?_);rw[show fR s 12=⟨s.p,12⟩ from am g1];refine gA Z ?_;refine Vo (fun zz=>?_) (fun zz=>?_)<;>(try(simp at zz;done))
   refine gA Z (ar [] (by first|exact .inr Z|exact .inl Z) Z (wk Z Z Z (bi ac) ⟨⟨_,rfl,.of_eq Z⟩,Vm Z,rfl,ac⟩ Z))
 .rw[D]at B;refine gA Z (ak [0] (B) Z Z Z Z Z Z Z Z ?_);have hu:ey b most s=([],⟨s.p,e⟩):=by
   rw[ey,am g1];cases h:dec 0 0 (b.drop s.p) with
   |ok n k=>exact absurd h (hd n k)
   |short=>rw[u h]
   |form=>rw[x h]
  rw[hu];have C:e≠0:=by omega
  refine gA Z ?_;refine Vo (fun zz=>?_) (fun zz=>?_)<;>(try(simp at zz;done))
  refine gA Z ?_;refine Vo (fun zz=>?_) (fun zz=>?_)<;>(try(simp at zz;exact absurd zz C))
  refine gA Z (ar [] (by first|exact .inr Z|exact .inl Z) Z (wk Z Z Z (bi ac) ⟨⟨_,rfl,.of_eq Z⟩,Vm Z,rfl,ac⟩ Z))
theorem Cd(b:By)(hb:b.length<=1000000000):bg prog 49 [.iv (a7 1 b aO)] [] (.ptr 0 0) (tN b ⟨0,0⟩) 1:=by
 refine aj ab func49 Z (by decide) ntmps49 Z (by simp) ?_;refine gA Z (bz Z (ug (news:=c6 b) (eu:=PK) (sz:=1) ab Z Z Z Z Z Z Z (by decide) (by exact Un b) (fW (eO (fun _=>rfl) b)) (by show(c6 b).length*1<=_;simp;omega) (by simp;omega) Z) ?_);rintro t rfl;have hl:(c6 b).length=b.length:=VS ..;rw[hl];refine gM 5 Z (cP [] (t:=⟨[(2,.ptr 2 0)],[(1,co (ik b)),(2,co (.cells [.sl 1 0 b.length 1,pI 0,pI 0]))],3⟩) (wk Z Z Z (bi ac) (hR Z Z Z ⟨⟨_,rfl,.of_eq Z⟩,Vm Z,rfl,ac⟩) Z) ?_);refine jS 1 (fun k=>aO (b.getD k ci)) Z (cQ Z) (by simp[AF.lO,PV.ba]) ⟨fG _ _ _ _ _ _,(by simp[AO.lO,a8,PV.ba]),ac⟩ ?_;refine gA Z (ar [2] (by first|exact .inr Z|exact .inl Z) Z (wk Z Z Z (bi ac) ⟨⟨_,rfl,.cells ⟨.iv (.bK Z (fun k _=>by rw[VL])),.refl _,.refl _,ac⟩⟩,Vm Z,rfl,ac⟩ Z))
def bh(b:By)(s:RS):UInt8×RS:=if s.f=0 then(if s.p<b.length then(b.getD s.p 0,⟨s.p+1,0⟩) else(0,⟨s.p,10⟩)) else(0,s)
theorem Ci(b:By)(s:RS)(hb:b.length<=1000000000)(hp:s.p<=b.length):bg prog 50 [.ptr 0 0] [nG b s] (pY ((bh b s).1.toNat:Int)) (tN b (bh b s).2) 1:=by
 unfold bh;refine aj ab func50 Z (by decide) ntmps50 Z (by simp) ?_;refine gA Z (ak [0] (uG b s) Z Z Z Z Z Z Z Z ?_);refine gA Z ?_;refine Vo (fun g1=>?_) (fun g1=>?_)
 .have g1: ¬s.f=0:=by simpa using g1
  rw[be g1];refine gA Z (ar [] (by first|exact .inr Z|exact .inl Z) Z (wk Z Z Z (bi ac) ⟨⟨_,rfl,.of_eq Z⟩,Vm Z,rfl,ac⟩ Z))
 have g1:s.f=0:=by simpa using g1
 rw[am g1];by_cases g2:s.p<b.length
 .rw[am g2];refine gA Z (ak [0] (Qg b s 1 hb hp (by omega)) Z Z Z Z Z Z Z Z ?_);refine gA Z ?_;refine Vo (fun zz=>?_) (fun zz=>?_)<;>(try(exact absurd zz (by decide)))
  refine gA Z (ar [] (by first|exact .inr Z|exact .inl Z) Z (wk Z Z Z (bi ac) ⟨⟨_,rfl,.of_eq (by rw[g1];rfl)⟩,Vm Z,rfl,ac⟩ Z))
 .rw[be g2];refine gA Z (ak [0] (Hf b s 1 hb hp (by omega)) Z Z Z Z Z Z Z Z ?_);rw[show fR s 10=⟨s.p,10⟩ from am g1];refine gA Z ?_;refine Vo (fun zz=>?_) (fun zz=>?_)<;>(try(exact absurd zz (by decide)))
  refine gA Z (ar [] (by first|exact .inr Z|exact .inl Z) Z (wk Z Z Z (bi ac) ⟨⟨_,rfl,.of_eq Z⟩,Vm Z,rfl,ac⟩ Z))
theorem Ux(b:By)(s:RS):bg prog 55 [.ptr 0 0] [nG b s] (pI s.p) (tN b s) 1:=by
 refine aj ab func55 Z (by decide) ntmps55 Z (by simp) ?_;refine gA Z ?_;refine Vo (fun zz=>?_) (fun zz=>?_)<;>(try(exact absurd zz (by decide)))
 refine gA Z (ar [] (by first|exact .inr Z|exact .inl Z) Z (wk Z Z Z (bi ac) ⟨⟨_,rfl,.of_eq Z⟩,Vm Z,rfl,ac⟩ Z))
end Go.Proofs.YtlmhfgbkchnfbaaGreatDoor
namespace Go.Proofs.YtlmhfgbkchnfbaaGreatDoor
open Go Go.Al Go.En
section
section
variable {b:By} {s:RS}
theorem qD{most:Nat}(h:s.p<=b.length):(cG b most s).2.p<=b.length:=by
 unfold cG;split
 .cases hd:dec 0 0 (b.drop s.p) with
  |ok n k=>
   have h1:=rA _ _ _ _ _ hd;rw[Wu]at h1;dsimp only;split
   .show s.p+k<=_;omega
   .exact h
  |short=>exact h
  |form=>exact h
 .exact h
theorem gL{most:Nat}:(cG b most s).1<=most:=by
 unfold cG;split
 .cases hd:dec 0 0 (b.drop s.p) with
  |ok n k=>
   dsimp only;split
   .assumption
   .exact VB _
  |short=>exact VB _
  |form=>exact VB _
 .exact VB _
theorem Mn{j hi:Int}(h:s.p<=b.length):(mP b j hi s).2.p<=b.length:=by
 unfold mP;split
 .cases hd:dec 0 0 (b.drop s.p) with
  |ok n k=>
   have h1:=rA _ _ _ _ _ hd;rw[Wu]at h1;dsimp only;split
   .show s.p+k<=_;omega
   .exact h
  |short=>exact h
  |form=>exact h
 .exact h
theorem nN{most:Nat}(h:s.p<=b.length):(ey b most s).2.p<=b.length:=by
 unfold ey;split
 .cases hd:dec 0 0 (b.drop s.p) with
  |ok n k=>
   have h1:=rA _ _ _ _ _ hd;rw[Wu]at h1;dsimp only;split
   .split
    .rename_i j;show s.p+k+n<=_;omega
    .exact h
   .exact h
  |short=>exact h
  |form=>exact h
 .exact h
theorem LO{n:Nat}(h:s.p<=b.length):(Ax b n s).p<=b.length:=by
 unfold Ax;split
 .split
  .show s.p+n<=_;omega
  .exact h
 .exact h
end
end
end Go.Proofs.YtlmhfgbkchnfbaaGreatDoor
namespace Go.Proofs.YtlmhfgbkchnfbaaGreatDoor
open Go Go.Al Go.Proofs.Tryz Go.En
theorem rC{b:By}{s:RS}(h:s.p<=b.length):(bh b s).2.p<=b.length:=by
 unfold bh;split
 .split
  .show s.p+1<=_;omega
  .exact h
 .exact h
def dL(b:By)(s:RS):Int×cN×RS:=
 if(bh b s).2.f≠0 then((bh b s).2.f,ci,(bh b s).2)
 else if(bh b s).1=1 then((mP b (-2147483647) 2147483647 (bh b s).2).2.f,⟨1,(mP b (-2147483647) 2147483647 (bh b s).2).1,Vx⟩,(mP b (-2147483647) 2147483647 (bh b s).2).2)
 else if(bh b s).1=2 then((ey b 64 (bh b s).2).2.f,⟨2,0,pO (ey b 64 (bh b s).2).1⟩,(ey b 64 (bh b s).2).2)
 else(20,ci,(bh b s).2)
def gX(b:By):Nat->RS->List cN->Int×List cN×RS
 |0,s,A=>(0,A,s)
 |n+1,s,A=>if(dL b s).1≠0 then((dL b s).1,[],(dL b s).2.2) else gX b n (dL b s).2.2 (A++ [(dL b s).2.1])
def nC(b:By):Int×List cN:=
 let x:=cG b 8 ⟨0,0⟩
 let y:=gX b x.1 x.2 []
 if y.1≠0 then(y.1,[]) else if iU b y.2.2≠0 then(iU b y.2.2,[]) else(0,y.2.1)
def y1(b:By):PV:=if(nC b).1=0 then .aZ [.iv (a7 3 (nC b).2 cN.c),pI 0] else .aZ [lQ,pI (nC b).1]
theorem H8{b:By}{s:RS}(h:s.p<=b.length):(dL b s).2.2.p<=b.length:=by
 have h1:=rC h;unfold dL;split
 .exact h1
 .split
  .exact Mn h1
  .split
   .exact nN h1
   .exact h1
theorem BP(c:UInt8):((c.toNat:Int)=1↔c=1)∧((c.toNat:Int)=2↔c=2):=by
 constructor
 .constructor
  .intro h;exact UInt8.toNat_inj.1 (by show c.toNat=1;omega)
  .rintro rfl;rfl
 .constructor
  .intro h;exact UInt8.toNat_inj.1 (by show c.toNat=2;omega)
  .rintro rfl;rfl
structure GtJ (b:By) (n:Nat) (s0:RS) (i:Nat) (x:List cN×RS):Prop where
 le:x.2.p<=b.length
 len:x.1.length=i
 eq:gX b n s0 []=gX b (n-i) x.2 x.1
theorem zr(n i:Nat)(h:i<n)(hn:n<=1000000000):IntKind.u64.wrap (((n-i:Nat):Int)-1)=((n-(i+1):Nat):Int):=by
 have:=Ui (n-(i+1)) (by omega);rw[<-this];congr 1;omega
theorem Uu(b:By)(hb:b.length<=1000000000):Pure prog 117 [.iv (a7 1 b aO)] (y1 b):=by
 refine ah ab func117 Z (by decide) ntmps117 Z (by simp) (by unfold y1;split<;>rfl) ?_;obtain⟨n,hn⟩: ∃n,n=(cG b 8 ⟨0,0⟩).1:=⟨_,rfl⟩
 obtain⟨s0,c0⟩: ∃s0,s0=(cG b 8 ⟨0,0⟩).2:=⟨_,rfl⟩
 have h0:s0.p<=b.length:=by rw[c0];exact qD (VB _)
 have g0:n<=8:=by rw[hn];exact gL
 have hU:bg prog 51 [.ptr 0 0,pU 8] [nG b ⟨0,0⟩] (pU n) (tN b s0) 1:=by rw[hn,c0];exact yt b ⟨0,0⟩ 8 hb (VB _)
 have hG:nC b=(let y:=gX b n s0 [];if y.1≠0 then(y.1,[]) else if iU b y.2.2≠0 then(iU b y.2.2,[]) else(0,y.2.1)):=by rw[hn,c0];rfl
 clear hn c0;refine gA Z (ak [] (Cd b hb) Z Z Z Z Z Z Z Z ?_);refine gA Z (ak [0] (hU) Z Z Z Z Z Z Z Z ?_);refine gA Z ?_;refine jc 5 3 Z ?_;refine kY 0 n (VB _) (fun i (x:List cN×RS)=>⟨[(4,.ptr 0 0),(5,.sl 2 0 i 3),(6,pU (n-i))],[(0,co (nG b x.2)),(2,co (aV 3 x.1 cN.c))],3⟩) (GtJ b n s0) ([],s0) [1] ⟨h0,rfl,rfl⟩
  (wk Z Z Z (bi (bi (bi trivial))) ⟨⟨_,rfl,.of_eq Z⟩,Vm Z,rfl,hR Z Z Z trivial⟩ Z) fun i x hi hJ=>?_
 obtain⟨A,j⟩:=x;obtain⟨a0,b0,C⟩:=hJ;dsimp only at a0 b0 C;refine gA Z ?_;refine Vo (fun h1=>?_) (fun h1=>?_)
 .have h1:i<n:=by simp at h1;omega
  have hB:=rC a0;have hI:=H8 a0;have Y:gX b (n-i) j A=if(dL b j).1≠0 then((dL b j).1,[],(dL b j).2.2) else gX b (n-(i+1)) (dL b j).2.2 (A++ [(dL b j).2.1]):=by
   rw[show n-i=(n-(i+1))+1 by omega,gX]
  have hk:=EO (bh b j).1.toNat (by have:=(bh b j).1.toNat_lt;omega) (by have:=(bh b j).1.toNat_lt;omega);have u:(dL b j).1≠0->y1 b= .aZ [lQ,pI (dL b j).1]:=fun he=>by
   unfold y1;rw[hG,C,Y];simp only[he,ne_eq,not_false_eq_true,if_true,if_false]
  have D:(dL b j).1=0->GtJ b n s0 (i+1) (A++ [(dL b j).2.1],(dL b j).2.2):=fun he=>⟨hI,by simp[b0],by rw[C,Y,be (by rw[he];decide)]⟩
  refine gA Z (ak [0] (Ci b j hb a0) Z Z Z Z Z Z Z Z ?_);refine gA Z (ak [0] (rR b (bh b j).2) Z Z Z Z Z Z Z Z ?_);refine gA Z ?_;refine Vo (fun I=>?_) (fun I=>?_)
  .have I:(bh b j).2.f≠0:=by simpa using I
   have e0:(dL b j).1=(bh b j).2.f:=by unfold dL;rw[am I]
   rw[u (by rw[e0];exact I),e0];refine gA Z (ak [0] (rR b (bh b j).2) Z Z Z Z Z Z Z Z ?_);refine gA Z ?_;refine Vo (fun zz=>?_) (fun zz=>?_)<;>(try(exact absurd (by simpa using zz) I))
   refine gA Z (aI (by first|exact .inr Z|exact .inl Z) Z (.of_eq ?_));rfl
  have I:(bh b j).2.f=0:=by simpa using I
  refine gA Z ?_;refine Vo (fun J=>?_) (fun J=>?_)
  .have J:(bh b j).1=1:=by rw[hk]at J;exact(BP _).1.1 (of_decide_eq_true J)
   have G:dL b j=((mP b (-2147483647) 2147483647 (bh b j).2).2.f,⟨1,(mP b (-2147483647) 2147483647 (bh b j).2).1,Vx⟩,(mP b (-2147483647) 2147483647 (bh b j).2).2):=by
    unfold dL;rw[be (by rw[I];decide),am J]
   rw[G]at u D;dsimp only at u D;refine gA Z (ak [0] (S1 b (bh b j).2 (-2147483647) 2147483647 hb hB) Z Z Z Z Z Z Z Z ?_);generalize mP b (-2147483647) 2147483647 (bh b j).2=y at*
   refine gA Z (ak [0] (rR b y.2) Z Z Z Z Z Z Z Z ?_);refine gA Z ?_;refine Vo (fun B=>?_) (fun B=>?_)
   .have B:y.2.f≠0:=by simpa using B
    rw[u B];refine gA Z (aI (by first|exact .inr Z|exact .inl Z) Z (.of_eq ?_));rfl
   have B:y.2.f=0:=by simpa using B
   have d0:IntKind.i64.wrap ((bh b j).1.toNat:Int)=1:=by rw[hk,J];rfl
   refine gA Z ⟨h1,_,[5],D B,wk Z Z Z (bi (bi ⟨.of_eq (congrArg (fun z:Int=>PV.iv (.v (.int .u64 z))) (zr n i h1 (by omega))),rfl,ac⟩)) ⟨⟨_,rfl,.of_eq Z⟩,Vm Z,rfl,hR Z (by rw[VD,d0];rfl) Z ac⟩ Z⟩
  have J: ¬(bh b j).1=1:=fun e=>by rw[hk,e]at J;cases J
  refine gA Z ?_;refine Vo (fun h5=>?_) (fun h5=>?_)
  .have h5:(bh b j).1=2:=by rw[hk]at h5;exact(BP _).2.1 (of_decide_eq_true h5)
   have G:dL b j=((ey b 64 (bh b j).2).2.f,⟨2,0,pO (ey b 64 (bh b j).2).1⟩,(ey b 64 (bh b j).2).2):=by
    unfold dL;rw[be (by rw[I];decide),be J,am h5]
   rw[G]at u D;dsimp only at u D;refine gA Z (ak [0] (yv b (bh b j).2 64 (by decide) hb hB) Z Z Z Z Z Z Z Z ?_);generalize ey b 64 (bh b j).2=y at*
   refine gA Z (ak [0] (rR b y.2) Z Z Z Z Z Z Z Z ?_);refine gA Z ?_;refine Vo (fun B=>?_) (fun B=>?_)
   .have B:y.2.f≠0:=by simpa using B
    rw[u B];refine gA Z (aI (by first|exact .inr Z|exact .inl Z) Z (.of_eq ?_));rfl
   have B:y.2.f=0:=by simpa using B
   have d0:IntKind.i64.wrap ((bh b j).1.toNat:Int)=2:=by rw[hk,h5];rfl
   refine gA Z ⟨h1,_,[5],D B,wk Z Z Z (bi (bi ⟨.of_eq (congrArg (fun z:Int=>PV.iv (.v (.int .u64 z))) (zr n i h1 (by omega))),rfl,ac⟩)) ⟨⟨_,rfl,.of_eq Z⟩,Vm Z,rfl,hR Z (by rw[VD,d0];rfl) Z ac⟩ Z⟩
  have h5: ¬(bh b j).1=2:=fun e=>by rw[hk,e]at h5;cases h5
  have G:dL b j=(20,ci,(bh b j).2):=by
   unfold dL;rw[be (by rw[I];decide),be J,be h5]
  rw[u (by rw[G];show(20:Int)≠0;decide),G];refine gA Z (aI (by first|exact .inr Z|exact .inl Z) Z (.of_eq ?_));rfl
 .have h1:n<=i:=by simp at h1;omega
  have f0:i=n:=by omega
  subst f0;rw[Ya,gX]at C;refine gA Z (ak [0] (G5 b j) Z Z Z Z Z Z Z Z ?_);refine gA Z ?_;refine Vo (fun B=>?_) (fun B=>?_)
  .have B:iU b j≠0:=by simpa using B
   have hP:y1 b= .aZ [lQ,pI (iU b j)]:=by
    unfold y1;rw[hG,C];simp only[B,ne_eq,not_true_eq_false,not_false_eq_true,if_true,if_false]
   rw[hP];refine gA Z (aI (by first|exact .inr Z|exact .inl Z) Z (.of_eq ?_));rfl
  have B:iU b j=0:=by simpa using B
  have hP:y1 b= .aZ [.iv (a7 3 A cN.c),pI 0]:=by
   unfold y1;rw[hG,C];simp only[B,ne_eq,not_true_eq_false,if_true,if_false]
  rw[hP];refine gA Z (gj (r0:= .aZ [.sl 2 0 i 3,pI 0]) (.inr Z) Z (ft.gd 2 A cN.c Z Z (by simp[PV.ba,a8,b0]) (.done (.aZ ⟨.bK b0.symm (fun k _=>by rw[VL]),.refl _,ac⟩))))
abbrev OV(p:Prog):AO:= .cells [.ptr 1 0,.iv (a7 4 p.aD Decl.c),.iv (a7 5 p.rules aw.c)]
def JH(b:By)(s:RS):By×RS:=ey b 32 s
def mT(b:By)(s:RS):By×RS:=ey b 4194304 (JH b s).2
def ta(b:By)(s:RS):Fact:=⟨pO (JH b s).1,if(mT b s).2.f=0 then(nC (mT b s).1).2 else[]⟩
def ly(p:Prog)(b:By)(s:RS):Bool:=kw ((mT b s).2.f=0)&&(kw ((nC (mT b s).1).1=0)&&kw (nu p (ta b s)=0))
theorem vf(b:By): ∀(n:Nat) (s:RS) (A:List cN),(gX b n s A).2.1.length<=A.length+n
 |0,s,A=>VA _
 |n+1,s,A=>by
  rw[gX];split
  .exact VB _
  .have:=vf b n (dL b s).2.2 (A++ [(dL b s).2.1]);rw[Vp,VW]at this;omega
theorem Bw(b:By):(nC b).2.length<=8:=by
 have h1:=vf b (cG b 8 ⟨0,0⟩).1 (cG b 8 ⟨0,0⟩).2 [];have j:=gL (b:=b) (s:=⟨0,0⟩) (most:=8);unfold nC;dsimp only;split
 .exact VB _
 .split
  .exact VB _
  .simp only[WH]at h1;show(gX b (cG b 8 ⟨0,0⟩).1 (cG b 8 ⟨0,0⟩).2 []).2.1.length<=8;omega
theorem Mz{b:By}(h: ¬(nC b).1=0):(nC b).2=[]:=by
 unfold nC at*
 dsimp only at*
 split
 .rfl
 .rename_i h1;rw[be h1]at h;split
  .rfl
  .rename_i j;rw[be j]at h;exact absurd Z h
theorem wQ{b:By}{m:Nat}{s:RS}:(ey b m s).1.length<=b.length:=by
 unfold ey;split
 .split
  .split
   .split
    .rw[V7,Wu];omega
    .exact VB _
   .exact VB _
  .exact VB _
  .exact VB _
 .exact VB _
theorem Hd(p:Prog)(b:By)(s:RS)(hb:b.length<=1000000000)(hp:s.p<=b.length)(hr:p.aD.length<=1000000000):bg prog 88 [.ptr 0 0] [OV p,nG b s] (.aZ [ag (ta b s).c,pB (ly p b s)]) [(0,co (OV p)),(1,co (nG b (mT b s).2))] 2:=by
 have u:(JH b s).2.p<=b.length:=nN hp;have hT:(mT b s).1.length<=b.length:=wQ;refine aj ab func88 Z (by decide) ntmps88 Z (by simp) ?_;refine gA Z (ak [1] (yv b s 32 (by decide) hb hp) Z Z Z Z Z Z Z Z ?_);refine gA Z (ak [1] (yv b (JH b s).2 4194304 (by decide) hb u) Z Z Z Z Z Z Z Z ?_);refine gA Z (ak [1] (rR b (mT b s).2) Z Z Z Z Z Z Z Z ?_);refine gA Z ?_;refine Vo (fun g1=>?_) (fun g1=>?_)
 .have g1: ¬(mT b s).2.f=0:=by simpa using g1
  have hF:ta b s=⟨pO (JH b s).1,[]⟩:=by unfold ta;rw[be g1]
  have hO:ly p b s=jp:=by unfold ly;rw[decide_eq_false g1];rfl
  rw[hF,hO];refine gA Z (ar [] (by first|exact .inr Z|exact .inl Z) Z (wk Z Z Z ⟨.aZ ⟨.agg ⟨.refl _,.nil _ _,ac⟩,.refl _,ac⟩,rfl,ac⟩ ⟨⟨_,rfl,.of_eq Z⟩,Vm Z,rfl,⟨_,rfl,.of_eq Z⟩,Vm Z,rfl,ac⟩ Z))
 have g1:(mT b s).2.f=0:=by simpa using g1
 refine gA Z (oO (b:=pO (mT b s).1) ab Z Z Z Z Z Z Z Z Z Z Z (by show(mT b s).1.toArray.size<=_;simp;omega) ?_);have j:=Uu (mT b s).1 (by omega);unfold y1 at j;by_cases g2:(nC (mT b s).1).1=0
 .rw[am g2]at j;have hF:ta b s=⟨pO (JH b s).1,(nC (mT b s).1).2⟩:=by unfold ta;rw[am g1]
  have hO:ly p b s=kw (nu p ⟨pO (JH b s).1,(nC (mT b s).1).2⟩=0):=by unfold ly;rw[decide_eq_true g1,decide_eq_true g2,hF];rfl
  have hl:=Bw (mT b s).1;rw[hF,hO];refine gA Z (aB (j) Z Z Z Z Z Z ?_);refine gA Z ?_;refine Vo (fun zz=>?_) (fun zz=>?_)<;>(try(exact absurd zz (by decide)))
  refine gA Z (bc ab [] (Pure.nv (c16 p ⟨pO (JH b s).1,(nC (mT b s).1).2⟩ hr (by show(nC (mT b s).1).2.length<=_;omega))) Z Z Z Z Z Z Z Z Z Z Z Z (by(repeat' (first|exact ac|exact rfl|exact ae.refl _|exact ae.bk (by assumption)|apply Vo))<;>first|omega|(simp only[Vu];omega)|(simp;done)|(simp;omega)) Z (by(repeat' (first|exact ac|exact rfl|exact ae.refl _|exact ae.bk (by assumption)|apply Vo))<;>first|omega|(simp only[Vu];omega)|(simp;done)|(simp;omega)) ?_);refine gA Z (ar [] (by first|exact .inr Z|exact .inl Z) Z (wk Z Z Z (bi ac) ⟨⟨_,rfl,.of_eq Z⟩,Vm Z,rfl,⟨_,rfl,.of_eq Z⟩,Vm Z,rfl,ac⟩ Z))
 .rw[be g2]at j;have hF:ta b s=⟨pO (JH b s).1,[]⟩:=by unfold ta;rw[am g1,Mz g2]
  have hO:ly p b s=jp:=by unfold ly;rw[decide_eq_true g1,decide_eq_false g2];rfl
  rw[hF,hO];refine gA Z (aB (j) Z Z Z Z Z Z ?_);refine gA Z ?_;refine Vo (fun zz=>?_) (fun zz=>?_)<;>(try(exact absurd (of_decide_eq_true zz) g2))
  refine gA Z (ar [] (by first|exact .inr Z|exact .inl Z) Z (wk Z Z Z ⟨.aZ ⟨.agg ⟨.refl _,.nil _ _,ac⟩,.refl _,ac⟩,rfl,ac⟩ ⟨⟨_,rfl,.of_eq Z⟩,Vm Z,rfl,⟨_,rfl,.of_eq Z⟩,Vm Z,rfl,ac⟩ Z))
end Go.Proofs.YtlmhfgbkchnfbaaGreatDoor
namespace Go.Proofs.YtlmhfgbkchnfbaaGreatDoor
open Go Go.Al Go.Proofs.Tryz Go.En Go.Bo
def Jd(b:By)(s:RS):b6 Fact:=(kw (((bh b s).1.toNat:Int)=1),ta b (bh b s).2)
def rE(p:Prog)(b:By):Nat->RS->List (b6 Fact)->Bool×List (b6 Fact)×RS
 |0,s,A=>(is,A,s)
 |n+1,s,A=>if ly p b (bh b s).2=jp∨((bh b s).1.toNat:Int)>1 then(jp,[],(mT b (bh b s).2).2) else rE p b n (mT b (bh b s).2).2 (A++ [Jd b s])
def pc(p:Prog)(b:By)(s:RS):Bool×List (b6 Fact)×RS:=rE p b (cG b 4096 s).1 (cG b 4096 s).2 []
def Gb(p:Prog)(b:By)(s:RS):PV:=if(pc p b s).1=is then .aZ [.iv (a7 3 (pc p b s).2.1 fb),pB (kw (iU b (pc p b s).2.2=0))] else .aZ [lQ,pB jp]
theorem ID{b:By}{s:RS}(h:s.p<=b.length):(mT b s).2.p<=b.length:=nN (nN h)
structure BtJ (p:Prog) (b:By) (n:Nat) (s0:RS) (i:Nat) (x:List (b6 Fact)×RS):Prop where
 le:x.2.p<=b.length
 len:x.1.length=i
 eq:rE p b n s0 []=rE p b (n-i) x.2 x.1
theorem LA(p:Prog)(b:By)(s:RS)(hb:b.length<=1000000000)(hp:s.p<=b.length)(hr:p.aD.length<=1000000000):bg prog 57 [.ptr 0 0] [OV p,nG b s] (Gb p b s) [(0,co (OV p)),(1,co (nG b (pc p b s).2.2))] 2:=by
 obtain⟨n,Y⟩: ∃n,n=(cG b 4096 s).1:=⟨_,rfl⟩
 obtain⟨s0,C⟩: ∃s0,s0=(cG b 4096 s).2:=⟨_,rfl⟩
 have h0:s0.p<=b.length:=by rw[C];exact qD hp
 have b0:n<=4096:=by rw[Y];exact gL
 have hU:bg prog 51 [.ptr 0 0,pU 4096] [nG b s] (pU n) (tN b s0) 1:=by rw[Y,C];exact yt b s 4096 hb hp
 have hY:pc p b s=rE p b n s0 []:=by rw[Y,C];rfl
 clear Y C;refine aj ab func57 Z (by decide) ntmps57 Z (by simp) ?_;refine gA Z (ak [1] (hU) Z Z Z Z Z Z Z Z ?_);refine gA Z ?_;refine jc 4 3 Z ?_;refine kY 0 n (VB _) (fun i (x:List (b6 Fact)×RS)=>⟨[(0,.ptr 0 0),(4,.sl 3 0 i 3),(5,pU (n-i))],[(0,co (OV p)),(1,co (nG b x.2)),(3,co (aV 3 x.1 fb))],4⟩) (BtJ p b n s0) ([],s0) [2] ⟨h0,rfl,rfl⟩
  (wk Z Z Z (bi (bi (bi trivial))) ⟨⟨_,rfl,.of_eq Z⟩,Vm Z,rfl,⟨_,rfl,.of_eq Z⟩,Vm Z,rfl,hR Z Z Z trivial⟩ Z) fun i x hi hJ=>?_
 obtain⟨A,j⟩:=x;obtain⟨I,B,u⟩:=hJ;dsimp only at I B u;refine gA Z ?_;refine Vo (fun h1=>?_) (fun h1=>?_)
 .have h1:i<n:=by simp at h1;omega
  have hB:=rC I;have hT:=ID hB;have y:rE p b (n-i) j A=if ly p b (bh b j).2=jp∨((bh b j).1.toNat:Int)>1 then(jp,[],(mT b (bh b j).2).2) else rE p b (n-(i+1)) (mT b (bh b j).2).2 (A++ [Jd b j]):=by
   rw[show n-i=(n-(i+1))+1 by omega,rE]
  have D:ly p b (bh b j).2=jp∨((bh b j).1.toNat:Int)>1->Gb p b s= .aZ [lQ,pB jp]∧(pc p b s).2.2=(mT b (bh b j).2).2:=fun he=>by
   have:pc p b s=(jp,[],(mT b (bh b j).2).2):=by rw[hY,u,y,am he]
   unfold Gb;rw[this];exact⟨rfl,rfl⟩
  have hF:=Hd p b (bh b j).2 hb hB hr;refine gA Z (ak [1] (Ci b j hb I) Z Z Z Z Z Z Z Z ?_);by_cases hok:ly p b (bh b j).2=is
  .rw[hok]at hF;refine gA Z (ak [0,1] (hF) Z Z Z Z Z Z Z Z ?_);refine gA Z ?_;refine Vo (fun zz=>?_) (fun zz=>?_)<;>(try(exact absurd zz (by decide)))
   refine gA Z ?_;refine Vo (fun G=>?_) (fun G=>?_)
   .have G:((bh b j).1.toNat:Int)>1:=of_decide_eq_true G;obtain⟨e1,e2⟩:=D (.inr G);rw[e1,e2];refine gA Z (ar [] (by first|exact .inr Z|exact .inl Z) Z (wk Z Z Z (bi ac) ⟨⟨_,rfl,.of_eq Z⟩,Vm Z,rfl,⟨_,rfl,.of_eq Z⟩,Vm Z,rfl,ac⟩ Z))
   have G: ¬((bh b j).1.toNat:Int)>1:=of_decide_eq_false G;refine gA Z ⟨h1,(A++ [Jd b j],(mT b (bh b j).2).2),[6],⟨hT,by simp[B],by rw[u,y,be (by rw[hok];simp[G])]⟩,wk Z Z Z (bi (bi ⟨.of_eq (congrArg (fun z:Int=>PV.iv (.v (.int .u64 z))) (zr n i h1 (by omega))),rfl,ac⟩)) ⟨⟨_,rfl,.of_eq Z⟩,Vm Z,rfl,⟨_,rfl,.of_eq Z⟩,Vm Z,rfl,hR Z (by rw[VD];rfl) Z ac⟩ Z⟩
  .have hok:ly p b (bh b j).2=jp:=by simpa using hok
   rw[hok]at hF;obtain⟨e1,e2⟩:=D (.inl hok);rw[e1,e2];refine gA Z (ak [0,1] (hF) Z Z Z Z Z Z Z Z ?_);refine gA Z ?_;refine Vo (fun zz=>?_) (fun zz=>?_)<;>(try(exact absurd zz (by decide)))
   refine gA Z (ar [] (by first|exact .inr Z|exact .inl Z) Z (wk Z Z Z (bi ac) ⟨⟨_,rfl,.of_eq Z⟩,Vm Z,rfl,⟨_,rfl,.of_eq Z⟩,Vm Z,rfl,ac⟩ Z))
 .have h1:n<=i:=by simp at h1;omega
  have a0:i=n:=by omega
  subst a0;rw[Ya,rE]at u;have J:pc p b s=(is,A,j):=hY.trans u;have hP:Gb p b s= .aZ [.iv (a7 3 A fb),pB (kw (iU b j=0))]:=by
   unfold Gb;rw[J];rfl
  rw[hP,J];refine gA Z (ak [1] (G5 b j) Z Z Z Z Z Z Z Z ?_);refine gA Z ⟨.inr Z,.aZ [.sl 3 0 i 3,pB (kw (iU b j=0))],rfl,ft.gd 3 A fb Z Z (by simp[PV.ba,a8,B]) (.done ⟨_,_,_,[],⟨rfl,rfl,rfl⟩,wk Z Z Z ⟨.aZ ⟨.bK B.symm (fun k _=>by rw[VL]),.refl _,ac⟩,rfl,ac⟩ ⟨⟨_,rfl,.of_eq Z⟩,Vm Z,rfl,⟨_,rfl,.of_eq Z⟩,Vm Z,rfl,ac⟩ Z⟩)⟩
def wE(p:Prog)(b:By)(s:RS)(A:List Fact):Prop:=ly p b s=jp∨(0<A.length∧aY (A.getD (A.length-1) ci) (ta b s)>=0)
instance (p:Prog)(b:By)(s:RS)(A:List Fact):Decidable (wE p b s A):=by unfold wE;infer_instance
def qu(p:Prog)(b:By):Nat->RS->List Fact->Bool×List Fact×RS
 |0,s,A=>(is,A,s)
 |n+1,s,A=>if wE p b s A then(jp,[],(mT b s).2) else qu p b n (mT b s).2 (A++ [ta b s])
def rF(p:Prog)(b:By)(s:RS):Bool×List Fact×RS:=qu p b (cG b 65536 s).1 (cG b 65536 s).2 []
def Gc(p:Prog)(b:By)(s:RS):PV:=if(rF p b s).1=is then .aZ [.iv (a7 2 (rF p b s).2.1 Fact.c),pB (kw (iU b (rF p b s).2.2=0))] else .aZ [lQ,pB jp]
structure BsJ (p:Prog) (b:By) (n:Nat) (s0:RS) (i:Nat) (x:List Fact×RS):Prop where
 le:x.2.p<=b.length
 len:x.1.length=i
 args: ∀f∈x.1,f.args.length<=8
 eq:qu p b n s0 []=qu p b (n-i) x.2 x.1
theorem BB(b:By)(s:RS):(ta b s).args.length<=8:=by
 unfold ta;dsimp only;split
 .exact Bw _
 .exact VB _
theorem Qk(p:Prog)(b:By)(s:RS)(hb:b.length<=1000000000)(hp:s.p<=b.length)(hr:p.aD.length<=1000000000):bg prog 58 [.ptr 0 0] [OV p,nG b s] (Gc p b s) [(0,co (OV p)),(1,co (nG b (rF p b s).2.2))] 2:=by
 obtain⟨n,hn⟩: ∃n,n=(cG b 65536 s).1:=⟨_,rfl⟩
 obtain⟨s0,D⟩: ∃s0,s0=(cG b 65536 s).2:=⟨_,rfl⟩
 have h0:s0.p<=b.length:=by rw[D];exact qD hp
 have f0:n<=65536:=by rw[hn];exact gL
 have hU:bg prog 51 [.ptr 0 0,pU 65536] [nG b s] (pU n) (tN b s0) 1:=by rw[hn,D];exact yt b s 65536 hb hp
 have hY:rF p b s=qu p b n s0 []:=by rw[hn,D];rfl
 clear hn D;refine aj ab func58 Z (by decide) ntmps58 Z (by simp) ?_;refine gA Z (ak [1] (hU) Z Z Z Z Z Z Z Z ?_);refine gA Z ?_;refine jc 4 2 Z ?_;refine kY 0 n (VB _) (fun i (x:List Fact×RS)=>⟨[(0,.ptr 0 0),(4,.sl 3 0 i 2),(5,pU (n-i))],[(0,co (OV p)),(1,co (nG b x.2)),(3,co (aV 2 x.1 Fact.c))],4⟩) (BsJ p b n s0) ([],s0) [2] ⟨h0,rfl,by simp,rfl⟩
  (wk Z Z Z (bi (bi (bi trivial))) ⟨⟨_,rfl,.of_eq Z⟩,Vm Z,rfl,⟨_,rfl,.of_eq Z⟩,Vm Z,rfl,hR Z Z Z trivial⟩ Z) fun i x hi hJ=>?_
 obtain⟨A,j⟩:=x;obtain⟨J,u,Y,y⟩:=hJ;dsimp only at J u y Y;refine gA Z ?_;refine Vo (fun h1=>?_) (fun h1=>?_)
 .have h1:i<n:=by simp at h1;omega
  have hT:=ID J;have d0:=BB b j;have C:qu p b (n-i) j A=if wE p b j A then(jp,[],(mT b j).2) else qu p b (n-(i+1)) (mT b j).2 (A++ [ta b j]):=by
   rw[show n-i=(n-(i+1))+1 by omega,qu]
  have G:wE p b j A->Gc p b s= .aZ [lQ,pB jp]∧(rF p b s).2.2=(mT b j).2:=fun he=>by
   have:rF p b s=(jp,[],(mT b j).2):=by rw[hY,y,C,am he]
   unfold Gc;rw[this];exact⟨rfl,rfl⟩
  have a0: ¬wE p b j A->BsJ p b n s0 (i+1) (A++ [ta b j],(mT b j).2):=fun he=>⟨hT,by simp[u],fun f hf=>by
   rcases VM.1 hf with hf|hf
   .exact Y f hf
   .rw[Vz.1 hf];exact d0,by rw[y,C,be he]⟩
  have hF:=Hd p b j hb J hr;by_cases hok:ly p b j=is
  .rw[hok]at hF;refine gA Z (ak [0,1] (hF) Z Z Z Z Z Z Z Z ?_);refine gA Z ?_;refine Vo (fun zz=>?_) (fun zz=>?_)<;>(try(exact absurd zz (by decide)))
   refine gA Z ?_;refine Vo (fun h2=>?_) (fun h2=>?_)
   .have h2:0<i:=by have:=of_decide_eq_true h2;omega
    have c0:(A.map fun x=>(Fact.c x).map PV.iv)[0+((i:Int)-1).toNat]? =co ((A.getD (i-1) ci).c.map PV.iv):=by
     rw[VL,show((i:Int)-1).toNat=i-1 by omega,Vv,Vt (by omega)];simp[Yz,Vt (show i-1<A.length by omega)]
    refine gM 5 Z (kq (p:=ag (A.getD (i-1) ci).c) 12 Z Z Z Z Z Z (dd ab Z Z Z Z c0 Z) ?_);refine gA Z (bc ab [] (Pure.nv (pf (A.getD (i-1) ci) (ta b j) (by have:=Y _ (El (show i-1<A.length by omega));omega) (by omega))) Z Z Z Z Z Z Z Z Z Z Z Z (by(repeat' (first|exact ac|exact rfl|exact ae.refl _|exact ae.bk (by assumption)|apply Vo))<;>first|omega|(simp only[Vu];omega)|(simp;done)|(simp;omega)) Z (by(repeat' (first|exact ac|exact rfl|exact ae.refl _|exact ae.bk (by assumption)|apply Vo))<;>first|omega|(simp only[Vu];omega)|(simp;done)|(simp;omega)) ?_);refine gA Z ?_;refine Vo (fun I=>?_) (fun I=>?_)
    .have I:aY (A.getD (i-1) ci) (ta b j)>=0:=of_decide_eq_true I;obtain⟨e1,e2⟩:=G (.inr ⟨by omega,by rw[u];exact I⟩);rw[e1,e2];refine gA Z (ar [] (by first|exact .inr Z|exact .inl Z) Z (wk Z Z Z (bi ac) ⟨⟨_,rfl,.of_eq Z⟩,Vm Z,rfl,⟨_,rfl,.of_eq Z⟩,Vm Z,rfl,ac⟩ Z))
    .have I: ¬aY (A.getD (i-1) ci) (ta b j)>=0:=of_decide_eq_false I;have B: ¬wE p b j A:=by
      rintro(h|⟨_,h⟩)
      .rw[hok]at h;cases h
      .rw[u]at h;exact I h
     refine gA Z ⟨h1,(A++ [ta b j],(mT b j).2),[6],a0 B,wk Z Z Z (bi (bi ⟨.of_eq (congrArg (fun z:Int=>PV.iv (.v (.int .u64 z))) (zr n i h1 (by omega))),rfl,ac⟩)) ⟨⟨_,rfl,.of_eq Z⟩,Vm Z,rfl,⟨_,rfl,.of_eq Z⟩,Vm Z,rfl,hR Z (by rw[VD];rfl) Z ac⟩ Z⟩
   .have h2:i=0:=by have:=of_decide_eq_false h2;omega
    have B: ¬wE p b j A:=by
     rintro(h|⟨h,_⟩)
     .rw[hok]at h;cases h
     .omega
    refine gA Z ⟨h1,(A++ [ta b j],(mT b j).2),[6],a0 B,wk Z Z Z (bi (bi ⟨.of_eq (congrArg (fun z:Int=>PV.iv (.v (.int .u64 z))) (zr n i h1 (by omega))),rfl,ac⟩)) ⟨⟨_,rfl,.of_eq Z⟩,Vm Z,rfl,⟨_,rfl,.of_eq Z⟩,Vm Z,rfl,hR Z (by rw[VD];rfl) Z ac⟩ Z⟩
  .have hok:ly p b j=jp:=by simpa using hok
   rw[hok]at hF;obtain⟨e1,e2⟩:=G (.inl hok);rw[e1,e2];refine gA Z (ak [0,1] (hF) Z Z Z Z Z Z Z Z ?_);refine gA Z ?_;refine Vo (fun zz=>?_) (fun zz=>?_)<;>(try(exact absurd zz (by decide)))
   refine gA Z (ar [] (by first|exact .inr Z|exact .inl Z) Z (wk Z Z Z (bi ac) ⟨⟨_,rfl,.of_eq Z⟩,Vm Z,rfl,⟨_,rfl,.of_eq Z⟩,Vm Z,rfl,ac⟩ Z))
 .have h1:n<=i:=by simp at h1;omega
  have e0:i=n:=by omega
  subst e0;rw[Ya,qu]at y;have b0:rF p b s=(is,A,j):=hY.trans y;have hP:Gc p b s= .aZ [.iv (a7 2 A Fact.c),pB (kw (iU b j=0))]:=by
   unfold Gc;rw[b0];rfl
  rw[hP,b0];refine gA Z (ak [1] (G5 b j) Z Z Z Z Z Z Z Z ?_);refine gA Z ⟨.inr Z,.aZ [.sl 3 0 i 2,pB (kw (iU b j=0))],rfl,ft.gd 3 A Fact.c Z Z (by simp[PV.ba,a8,u]) (.done ⟨_,_,_,[],⟨rfl,rfl,rfl⟩,wk Z Z Z ⟨.aZ ⟨.bK u.symm (fun k _=>by rw[VL]),.refl _,ac⟩,rfl,ac⟩ ⟨⟨_,rfl,.of_eq Z⟩,Vm Z,rfl,⟨_,rfl,.of_eq Z⟩,Vm Z,rfl,ac⟩ Z⟩)⟩
structure JS where
 S:List Fact
 a:By
 k:Nat
def qE(p:Prog)(s:JS)(b:By)(k:UInt8)(u:Nat)(t:By)(w:RS):Option JS:=
 if w.f=0∧b.take w.p=ei s.a k u t then
  if k=165∧u=s.k+1 then
   if(pc p t ⟨0,0⟩).1=is∧iU t (pc p t ⟨0,0⟩).2.2=0∧iM aY (okF p) s.S (pc p t ⟨0,0⟩).2.1=0 then co ⟨gn aY s.S (pc p t ⟨0,0⟩).2.1,s.a++b.take w.p,u⟩ else io
  else if k=166∧s.a.length=13 then
   if(rF p t ⟨0,0⟩).1=is∧iU t (rF p t ⟨0,0⟩).2.2=0 then co ⟨(rF p t ⟨0,0⟩).2.1,s.a++b.take w.p,u⟩ else io
  else io
 else io
def PN(b:By):UInt8×RS:=bh b ⟨0,0⟩
def GF(b:By):Nat×RS:=cG b 2147483647 (PN b).2
def JF(b:By):By×RS:=ey b 4194304 (GF b).2
def La(b:By):RS:=Ax b 5 (JF b).2
def nP(p:Prog)(s:JS)(b:By):Option JS:=qE p s b (PN b).1 (GF b).1 (JF b).1 (La b)
def tkR(p:Prog)(n:Nat)(s:JS)(o:Option JS)(r:PV)(h:AH)(k:Nat):Prop:=match o with
 |none=> ∃m,b8 cv m s.S∧r=pB jp∧h=jH p n m s.a s.k∧k=4
 |some u=> ∃m j,j<=n+17∧b8 cv m u.S∧r=pB is∧h=[(0,co (bx m)),(1,co (ch p j 0)),(3,co (jC 1 4 u.a u.k)),(4,co (ik u.a))]∧k=5
theorem GV{A:List Fact}{f:Fact}(j:qx aY A)(h:0<A.length->aY (A.getD (A.length-1) ci) f<0):qx aY (A++ [f]):=by
 refine Xq.2 ⟨j,XK _ _,fun x B y C=>?_⟩;rw[Vz.1 C];obtain⟨i,u,rfl⟩:=List.getElem_of_mem B;have h:=h (by omega);rw[Vr,Vt (by omega)]at h;by_cases e:i=A.length-1
 .subst e;exact h
 .exact o6.tr _ _ _ ((WI.1 j) i (A.length-1) u (by omega) (by omega)) h
theorem ME{p:Prog}{b:By}{s:RS}(h:ly p b s=is):okF p (ta b s)=is:=by
 unfold ly at h;simp only[Wf]at h;exact h.2.2
theorem x8{p:Prog}{b:By}: ∀(n:Nat) (s:RS) (A:List Fact),qx aY A->(∀f∈A,okF p f=is)->(qu p b n s A).1=is->qx aY (qu p b n s A).2.1∧(∀f∈(qu p b n s A).2.1,okF p f=is)∧(qu p b n s A).2.1.length=A.length+n
 |0,s,A,hA,ho,_=>⟨hA,ho,rfl⟩
 |n+1,s,A,hA,ho,h=>by
  rw[qu]at h ⊢;by_cases hb:wE p b s A
  .rw[am hb]at h;cases h
  .rw[be hb]at h ⊢;unfold wE at hb;have h1:ly p b s=is:=by
    cases e:ly p b s with
    |true=>rfl
    |false=>exact absurd (.inl e) hb
   have:=x8 n (mT b s).2 (A++ [ta b s]) (GV hA fun j=>by
    have: ¬aY (A.getD (A.length-1) ci) (ta b s)>=0:=fun e=>hb (.inr ⟨j,e⟩)
    omega) (fun f hf=>by
    rcases VM.1 hf with hf|hf
    .exact ho f hf
    .rw[Vz.1 hf];exact ME h1) h
   rw[Vp,VW]at this;exact⟨this.1,this.2.1,by omega⟩
theorem x7{p:Prog}{b:By}{s:RS}(h:(rF p b s).1=is):Go.Bo.eM aY (okF p) (rF p b s).2.1:=by
 have h1:=x8 (p:=p) (b:=b) (cG b 65536 s).1 (cG b 65536 s).2 [] XB (fun f hf=>nomatch hf) h;have j:(cG b 65536 s).1<=65536:=gL;exact⟨h1.1,h1.2.1,by have:=h1.2.2;show(qu p b (cG b 65536 s).1 (cG b 65536 s).2 []).2.1.length<=_;rw[this,WH];omega⟩
theorem BR{p:Prog}{b:By}: ∀(n:Nat) (s:RS) (A:List (b6 Fact)),(∀x∈A,x.2.args.length<=8)-> ∀x∈(rE p b n s A).2.1,x.2.args.length<=8
 |0,s,A,hA=>hA
 |n+1,s,A,hA=>by
  rw[rE];split
  .intro x hx;cases hx
  .exact BR n _ _ fun x hx=>by
    rcases VM.1 hx with hx|hx
    .exact hA x hx
    .rw[Vz.1 hx];exact BB _ _
theorem zb(l:By): ∀e∈c6 l,∃v:List Value,e=v.map fun v=> .iv (.v v):=fun e j=>by
 obtain⟨x,_,rfl⟩:=V5.1 j;exact⟨[_],rfl⟩
abbrev T6(p:Prog)(n:Nat)(m:FM)(s:JS)(b:By)(W:RS):AH:=[(0,co (bx m)),(1,co (ch p n 0)),(2,co (ik s.a)),(3,co (jC 1 2 s.a s.k)),(4,co (nG b W))]
set_option maxHeartbeats 2000000 in
theorem SF(p:Prog)(n:Nat)(s:JS){m:FM}(b:By)(hk:b8 cv m s.S)(hf:Go.Bo.eM aY (okF p) s.S)(hb:b.length<=10000000)(ha:s.a.length<=10000000)(h5:5<=s.a.length)(hr:p.aD.length<=1000000000)(hs:p.size<=10000000)(hn:n<=90000000000)(s0:s.k<=10000000000)(f0:s.a.length=13->s.S=[]):
  Al.Fn prog 28 [.ptr 3 0,.iv (a7 1 b aO)] (jO p n m s.a s.k) (tkR p n s (nP p s b)):=by
 obtain⟨K,J⟩: ∃K,K=PN b:=⟨_,rfl⟩
 obtain⟨U,I⟩: ∃U,U=GF b:=⟨_,rfl⟩
 obtain⟨T,G⟩: ∃T,T=JF b:=⟨_,rfl⟩
 obtain⟨W,eW⟩: ∃W,W=La b:=⟨_,rfl⟩
 have b0:K.2.p<=b.length:=by rw[J];exact rC (VB _)
 have d0:U.2.p<=b.length:=by rw[I];exact qD (by rw[<-J];exact b0)
 have c0:T.2.p<=b.length:=by rw[G];exact nN (by rw[<-I];exact d0)
 have g0:W.p<=b.length:=by rw[eW];exact LO (by rw[<-G];exact c0)
 have r0:U.1<=2147483647:=by rw[I];exact gL
 have q0:T.1.length<=b.length:=by rw[G];exact wQ
 have j0:bg prog 50 [.ptr 0 0] [nG b ⟨0,0⟩] (pY (K.1.toNat:Int)) (tN b K.2) 1:=by rw[J];exact Ci b ⟨0,0⟩ (by omega) (VB _)
 have n0:bg prog 51 [.ptr 0 0,pU 2147483647] [nG b K.2] (pU U.1) (tN b U.2) 1:=by rw[I];unfold GF;rw[<-J];exact yt b K.2 2147483647 (by omega) b0
 have m0:bg prog 52 [.ptr 0 0,pI 4194304] [nG b U.2] (pS (pO T.1)) (tN b T.2) 1:=by rw[G];unfold JF;rw[<-I];exact yv b U.2 4194304 (by decide) (by omega) d0
 have o0:bg prog 53 [.ptr 0 0,pI 5] [nG b T.2] .any (tN b W) 1:=by rw[eW];unfold La;rw[<-G];exact SN b T.2 5 (by omega) c0
 have hR:nP p s b=qE p s b K.1 U.1 T.1 W:=by rw[J,I,G,eW];rfl
 rw[hR];clear hR J I G eW;have u:qE p s b K.1 U.1 T.1 W=io-> ∀m1,b8 cv m1 s.S->tkR p n s (qE p s b K.1 U.1 T.1 W) (pB jp) (jH p n m1 s.a s.k) 4:=fun e m1 h=>by rw[e];exact⟨m1,h,rfl,rfl,rfl⟩
 obtain⟨E,hE⟩: ∃E,E=qE p s b K.1 U.1 T.1 W:=⟨_,rfl⟩
 rw[<-hE]at u ⊢;unfold qE at hE;have p0:=EO (U.1:Int) (by omega) (by omega);obtain⟨B,a0⟩: ∃B,B=ei s.a K.1 U.1 T.1:=⟨_,rfl⟩
 have k0:bg prog 21 [.iv (a7 1 s.a aO),pY (K.1.toNat:Int),pI U.1,.iv (a7 1 T.1 aO)] [] (.sl 0 0 B.length 1) [(0,co (ik B))] 1:=by
  rw[a0];exact yw s.a T.1 K.1 (U.1:Int) h5 (by omega) ⟨by omega,by omega⟩ (by omega)
 rw[<-a0]at hE;refine kv ab func28 Z (by decide) ntmps28 Z (by simp) ?_;refine gA Z (ak [] (Cd b (by omega)) Z Z Z Z Z Z Z Z ?_)
 (refine gM 2 Z ?_;refine cP (L:=[]) (t:=⟨[(0,.ptr 3 0),(1,.iv (a7 1 b aO)),(5,.ptr 4 0)],T6 p n m s b ⟨0,0⟩,5⟩) ?_ ?_;refine wk Z Z Z ?_ ?_ ?_;exact(bi (bi (bi ac)));exact(hM Z Z Z ⟨⟨_,rfl,.of_eq Z⟩,Vm Z,rfl,hR Z Z Z ⟨⟨_,rfl,.of_eq Z⟩,Vm Z,rfl,⟨_,rfl,.of_eq Z⟩,Vm Z,rfl,ac⟩⟩);exact rfl)
 refine gA Z (ak [4] (j0) Z Z Z Z Z Z Z Z ?_);refine gA Z (ak [4] (n0) Z Z Z Z Z Z Z Z ?_)
 (refine gM 3 Z ?_;refine cP (L:=[]) (t:=⟨[(0,.ptr 3 0),(1,.iv (a7 1 b aO)),(5,.ptr 4 0),(6,pY (K.1.toNat:Int)),(7,pI U.1)],T6 p n m s b U.2,5⟩) ?_ ?_;refine wk Z Z Z ?_ ?_ ?_;exact(bi (bi (bi (bi ⟨.of_eq (congrArg pI p0),rfl,ac⟩))));exact(hM Z Z Z ⟨⟨_,rfl,.of_eq Z⟩,Vm Z,rfl,hR Z Z Z ⟨⟨_,rfl,.of_eq Z⟩,Vm Z,rfl,⟨_,rfl,.of_eq Z⟩,Vm Z,rfl,ac⟩⟩);exact rfl)
 refine gA Z (ak [4] (m0) Z Z Z Z Z Z Z Z ?_);refine gA Z (oO (b:=pO T.1) ab Z Z Z Z Z Z Z Z Z Z Z (by show T.1.toArray.size<=_;simp;omega) ?_)
 (refine gM 2 Z ?_;refine cP (L:=[]) (t:=⟨[(0,.ptr 3 0),(1,.iv (a7 1 b aO)),(5,.ptr 4 0),(6,pY (K.1.toNat:Int)),(7,pI U.1),(8,.iv (a7 1 T.1 aO))],T6 p n m s b T.2,5⟩) ?_ ?_;refine wk Z Z Z ?_ ?_ ?_;exact(bi (bi (bi (bi (bi (bi ac))))));exact(hM Z Z Z ⟨⟨_,rfl,.of_eq Z⟩,Vm Z,rfl,hR Z Z Z ⟨⟨_,rfl,.of_eq Z⟩,Vm Z,rfl,⟨_,rfl,.of_eq Z⟩,Vm Z,rfl,ac⟩⟩);exact rfl)
 refine gA Z (ak [4] (o0) Z Z Z Z Z Z Z Z ?_);refine gA Z (ak [4] (rR b W) Z Z Z Z Z Z Z Z ?_);refine gA Z ?_;refine Vo (fun g1=>?_) (fun g1=>?_)
 .have g1: ¬W.f=0:=by simpa using g1
  rw[be fun h=>g1 h.1]at hE;refine gA Z (db [] (.inr Z) Z (u hE m hk) (wk Z Z Z (bi ac) (hM Z Z Z ⟨⟨_,rfl,.of_eq Z⟩,Vm Z,rfl,hR Z (by first|rfl|exact aE _ _) Z ⟨⟨_,rfl,.of_eq Z⟩,Vm Z,rfl,ac⟩⟩) Z))
 have g1:W.f=0:=by simpa using g1
 (refine gM 1 Z ?_;refine cP (L:=[]) (t:=⟨[(0,.ptr 3 0),(1,.iv (a7 1 b aO)),(5,.ptr 4 0),(6,pY (K.1.toNat:Int)),(7,pI U.1),(8,.iv (a7 1 T.1 aO))],T6 p n m s b W,5⟩) ?_ ?_;refine wk Z Z Z ?_ ?_ ?_;exact(bi (bi (bi (bi (bi (bi ac))))));exact(hM Z Z Z ⟨⟨_,rfl,.of_eq Z⟩,Vm Z,rfl,hR Z Z Z ⟨⟨_,rfl,.of_eq Z⟩,Vm Z,rfl,⟨_,rfl,.of_eq Z⟩,Vm Z,rfl,ac⟩⟩);exact rfl)
 refine gA Z (ak [4] (Ux b W) Z Z Z Z Z Z Z Z ?_);refine gM 1 Z (bz Z (lk (sB (m:=W.p) ab Z Z Z Z Z Z Z g0) Z) ?_);rintro t rfl;refine gA Z (rn (asv:=[.sl 2 0 s.a.length 1,pY (K.1.toNat:Int),pI U.1,.iv (a7 1 T.1 aO)]) k0 Z Z Z Z Z (lf (i:=2) (sz:=1) (fun k=>aO (s.a.getD k ci)) Z (cQ Z) (by simp[a8,PV.ba]) ⟨.bK Z (fun k _=>by rw[VL]),.refl _,.refl _,.refl _,ac⟩) Z (vP (zb B)) Z ?_);refine gA Z (rn (asv:=[.iv (a7 1 (b.take W.p) aO),.sl 5 0 B.length 1]) (Pure.nv (DK (b.take W.p) B)) Z Z Z Z Z (lf (i:=5) (sz:=1) (fun k=>aO (B.getD k ci)) Z (cQ (aE _ _)) (by simp[a8,PV.ba]) ⟨.refl _,.bK Z (fun k _=>by rw[VL]),ac⟩) Z (fun j o hj=>nomatch hj) Z ?_);refine gA Z ?_;refine Vo (fun g2=>?_) (fun g2=>?_)
 .have g2: ¬b.take W.p=B:=by simpa using g2
  rw[be fun h=>g2 h.2]at hE;refine gA Z (db [] (.inr Z) Z (u hE m hk) (wk Z Z Z (bi ac) (hM Z Z Z ⟨⟨_,rfl,.of_eq Z⟩,Vm Z,rfl,hR Z (by first|rfl|exact aE _ _) Z ⟨⟨_,rfl,.of_eq Z⟩,Vm Z,rfl,ac⟩⟩) Z))
 have g2:b.take W.p=B:=by simpa using g2
 rw[am ⟨g1,g2⟩]at hE;have i0:(b.take W.p).length=W.p:=by rw[V7];omega
 obtain⟨w,ew⟩: ∃w,w=b.take W.p:=⟨_,rfl⟩
 rw[<-ew]at hE i0 ⊢;refine gA Z (bc ab [] (Cd T.1 (by omega)) Z Z Z Z Z Z Z Z Z Z Z Z (by(repeat' (first|exact ac|exact rfl|exact ae.refl _|exact ae.bk (by assumption)|apply Vo))<;>first|omega|(simp only[Vu];omega)|(simp;done)|(simp;omega)) Z (by(repeat' (first|exact ac|exact rfl|exact ae.refl _|exact ae.bk (by assumption)|apply Vo))<;>first|omega|(simp only[Vu];omega)|(simp;done)|(simp;omega)) ?_);refine gA Z (bc ab [0,1] (E9 p n m (by omega)) Z Z Z Z Z Z Z Z Z Z Z Z (by(repeat' (first|exact ac|exact rfl|exact ae.refl _|exact ae.bk (by assumption)|apply Vo))<;>first|omega|(simp only[Vu];omega)|(simp;done)|(simp;omega)) Z (by(repeat' (first|exact ac|exact rfl|exact ae.refl _|exact ae.bk (by assumption)|apply Vo))<;>first|omega|(simp only[Vu];omega)|(simp;done)|(simp;omega)) ?_)
 (refine gM 4 Z ?_;refine cP (L:=[]) (t:=⟨[(0,.ptr 3 0),(6,pY (K.1.toNat:Int)),(7,pI U.1),(9,.iv (a7 1 w aO)),(10,.ptr 7 0)],[(0,co (bx m)),(1,co (ch p n 0)),(2,co (ik s.a)),(3,co (jC 1 2 s.a s.k)),(6,co (nG T.1 ⟨0,0⟩)),(7,co (.cells [.ptr 6 0,.iv (a7 4 p.aD Decl.c),.iv (a7 5 p.rules aw.c)]))],8⟩) (wk Z Z Z (bi (bi (bi (bi (bi ac))))) (hM Z Z Z ⟨⟨_,rfl,.of_eq Z⟩,Vm Z,rfl,hR Z Z Z ⟨⟨_,rfl,.of_eq Z⟩,Vm Z,rfl,⟨_,rfl,.of_eq Z⟩,Vm Z,rfl,⟨_,rfl,.of_eq Z⟩,Vm Z,rfl,ac⟩⟩) Z) ?_)
 have hw:w.length<=10000000:=by omega
 refine gA Z ?_;refine Vo (fun g3=>?_) (fun g3=>?_)
 .have g3:K.1=165:=UInt8.toNat_inj.1 (by have:=of_decide_eq_true g3;show K.1.toNat=165;omega);refine gA Z ?_;refine Vo (fun g4=>?_) (fun g4=>?_)
  .have g4:U.1=s.k+1:=by have:=of_decide_eq_true g4;omega
   rw[am ⟨g3,g4⟩]at hE;have A:=LA p T.1 ⟨0,0⟩ (by omega) (VB _) hr;have h8:=BR (p:=p) (b:=T.1) (cG T.1 4096 ⟨0,0⟩).1 (cG T.1 4096 ⟨0,0⟩).2 [] (fun x hx=>nomatch hx);have h8: ∀x∈(pc p T.1 ⟨0,0⟩).2.1,x.2.args.length<=8:=h8;unfold Gb at A;obtain⟨Y,eY⟩: ∃Y,Y=pc p T.1 ⟨0,0⟩:=⟨_,rfl⟩
   rw[<-eY]at A hE h8;by_cases C:Y.1=is
   .rw[am C]at A;refine gA Z (ak [7,6] (A) Z Z Z Z Z Z Z Z ?_);refine gA Z ?_;refine Vo (fun g5=>?_) (fun g5=>?_)
    .have g5: ¬iU T.1 Y.2.2=0:=by simpa using g5
     rw[be fun h=>g5 h.2.1]at hE;refine gA Z (db [] (.inr Z) Z (u hE m hk) (wk Z Z Z (bi ac) (hM Z Z Z ⟨⟨_,rfl,.of_eq Z⟩,Vm Z,rfl,hR Z Z Z ⟨⟨_,rfl,.of_eq Z⟩,Vm Z,rfl,ac⟩⟩) Z))
    have g5:iU T.1 Y.2.2=0:=by simpa using g5
    have D:=Ck p n Y.2.1 hr hk hf (fun x hx=>by have:=h8 x hx;omega) (by omega);by_cases h0:iM aY (okF p) s.S Y.2.1=0
    .rw[am ⟨C,g5,h0⟩]at hE;rw[show jI aY (okF p) (s.S,n) Y.2.1=(gn aY s.S Y.2.1,n+1) by unfold jI;rw[am h0]]at D;refine gA Z (nr [0,1] D Z Z Z Z Z Z Z ?_);rintro r h' n' ⟨m1,hk1,rfl,rfl,rfl⟩;refine⟨_,rfl,?_⟩;refine gA Z ?_;refine Vo (fun zz=>?_) (fun zz=>?_)<;>(try(simp[h0]at zz;done))
     refine gA Z (db (r:=pB is) (h:=[(0,co (bx m1)),(1,co (ch p (n+1) 0)),(3,co (jC 1 4 (s.a++w) U.1)),(4,co (ik (s.a++w)))]) (n:=5) [8] (.inr Z) Z (by rw[hE];exact⟨m1,(n+1),by omega,hk1,rfl,rfl,rfl⟩) (wk Z Z Z (bi ac) (hM Z Z Z ⟨⟨_,rfl,.of_eq Z⟩,Vm Z,rfl,⟨_,rfl,.cells ⟨.refl _,.row (by simp),.refl _,ac⟩⟩,Vm Z,rfl,hR Z (by rw[VD];exact congrArg _ (cy w)) Z ac⟩) Z))
    .rw[be fun h=>h0 h.2.2]at hE;rw[show jI aY (okF p) (s.S,n) Y.2.1=(s.S,n) by unfold jI;rw[be h0]]at D;refine gA Z (nr [0,1] D Z Z Z Z Z Z Z ?_);rintro r h' n' ⟨m1,hk1,rfl,rfl,rfl⟩;refine⟨_,rfl,?_⟩;refine gA Z ?_;refine Vo (fun zz=>?_) (fun zz=>?_)<;>(try(exact absurd (by simpa using zz) h0))
     refine gA Z (db [] (.inr Z) Z (u hE m1 hk1) (wk Z Z Z (bi ac) (hM Z Z Z ⟨⟨_,rfl,.of_eq Z⟩,Vm Z,rfl,hR Z Z Z ⟨⟨_,rfl,.of_eq Z⟩,Vm Z,rfl,ac⟩⟩) Z))
   .rw[be C]at A;rw[be fun h=>C h.1]at hE;refine gA Z (ak [7,6] (A) Z Z Z Z Z Z Z Z ?_);refine gA Z ?_;refine Vo (fun zz=>?_) (fun zz=>?_)<;>(try(exact absurd zz (by decide)))
    refine gA Z (db [] (.inr Z) Z (u hE m hk) (wk Z Z Z (bi ac) (hM Z Z Z ⟨⟨_,rfl,.of_eq Z⟩,Vm Z,rfl,hR Z Z Z ⟨⟨_,rfl,.of_eq Z⟩,Vm Z,rfl,ac⟩⟩) Z))
  .have g4: ¬U.1=s.k+1:=by have:=of_decide_eq_false g4;omega
   rw[be fun h=>g4 h.2,be fun h=>absurd (g3.symm.trans h.1) (by decide)]at hE;refine gA Z ?_;refine Vo (fun zz=>?_) (fun zz=>?_)<;>(try(exact absurd (of_decide_eq_true zz) (by rw[g3];decide)))
   refine gA Z (db [] (.inr Z) Z (u hE m hk) (wk Z Z Z (bi ac) (hM Z Z Z ⟨⟨_,rfl,.of_eq Z⟩,Vm Z,rfl,hR Z Z Z ⟨⟨_,rfl,.of_eq Z⟩,Vm Z,rfl,ac⟩⟩) Z))
 .have g3: ¬K.1=165:=fun h=>by rw[h]at g3;exact absurd g3 (by decide)
  rw[be fun h=>g3 h.1]at hE;refine gA Z ?_;refine Vo (fun g6=>?_) (fun g6=>?_)
  .have g6:K.1=166:=UInt8.toNat_inj.1 (by have:=of_decide_eq_true g6;show K.1.toNat=166;omega);refine gA Z ?_;refine Vo (fun g7=>?_) (fun g7=>?_)
   .have g7:s.a.length=13:=by have:=of_decide_eq_true g7;omega
    rw[am ⟨g6,g7⟩]at hE;have y:=Qk p T.1 ⟨0,0⟩ (by omega) (VB _) hr;have e0:=x7 (p:=p) (b:=T.1) (s:=⟨0,0⟩);unfold Gc at y;obtain⟨Y,eY⟩: ∃Y,Y=rF p T.1 ⟨0,0⟩:=⟨_,rfl⟩
    rw[<-eY]at y hE e0;by_cases C:Y.1=is
    .rw[am C]at y;refine gA Z (ak [7,6] (y) Z Z Z Z Z Z Z Z ?_);refine gA Z ?_;refine Vo (fun g5=>?_) (fun g5=>?_)
     .have g5:iU T.1 Y.2.2=0:=by simpa using g5
      rw[am ⟨C,g5⟩]at hE;refine gA Z (nr [0,1,2,3] (SY p n s.a s.k Y.2.1 (f0 g7▸hk) (e0 C) hr (by omega)) Z Z Z Z Z (by simp only[Vy,VQ,aF];rfl) Z ?_);rintro r h' k' ⟨m1,n1,hn1,hk1,rfl,rfl,rfl⟩;refine⟨_,rfl,?_⟩;refine gA Z ?_;refine Vo (fun zz=>?_) (fun zz=>?_)<;>(try(exact absurd zz (by decide)))
      refine gA Z (db (r:=pB is) (h:=[(0,co (bx m1)),(1,co (ch p n1 0)),(3,co (jC 1 4 (s.a++w) U.1)),(4,co (ik (s.a++w)))]) (n:=5) [8] (.inr Z) Z (by rw[hE];exact⟨m1,n1,by omega,hk1,rfl,rfl,rfl⟩) (wk Z Z Z (bi ac) (hM Z Z Z ⟨⟨_,rfl,.of_eq Z⟩,Vm Z,rfl,⟨_,rfl,.cells ⟨.refl _,.row (by simp),.refl _,ac⟩⟩,Vm Z,rfl,hR Z (by rw[VD];exact congr (congrArg (· ++ ·) (aE _ _)) (cy w)) Z ac⟩) Z))
     have g5: ¬iU T.1 Y.2.2=0:=by simpa using g5
     rw[be fun h=>g5 h.2]at hE;refine gA Z (db [] (.inr Z) Z (u hE m hk) (wk Z Z Z (bi ac) (hM Z Z Z ⟨⟨_,rfl,.of_eq Z⟩,Vm Z,rfl,hR Z Z Z ⟨⟨_,rfl,.of_eq Z⟩,Vm Z,rfl,ac⟩⟩) Z))
    .rw[be C]at y;rw[be fun h=>C h.1]at hE;refine gA Z (ak [7,6] (y) Z Z Z Z Z Z Z Z ?_);refine gA Z ?_;refine Vo (fun zz=>?_) (fun zz=>?_)<;>(try(exact absurd zz (by decide)))
     refine gA Z (db [] (.inr Z) Z (u hE m hk) (wk Z Z Z (bi ac) (hM Z Z Z ⟨⟨_,rfl,.of_eq Z⟩,Vm Z,rfl,hR Z Z Z ⟨⟨_,rfl,.of_eq Z⟩,Vm Z,rfl,ac⟩⟩) Z))
   .have g7: ¬s.a.length=13:=by have:=of_decide_eq_false g7;omega
    rw[be fun h=>g7 h.2]at hE;refine gA Z (db [] (.inr Z) Z (u hE m hk) (wk Z Z Z (bi ac) (hM Z Z Z ⟨⟨_,rfl,.of_eq Z⟩,Vm Z,rfl,hR Z Z Z ⟨⟨_,rfl,.of_eq Z⟩,Vm Z,rfl,ac⟩⟩) Z))
  .have g6: ¬K.1=166:=fun h=>by rw[h]at g6;exact absurd g6 (by decide)
   rw[be fun h=>g6 h.1]at hE;refine gA Z (db [] (.inr Z) Z (u hE m hk) (wk Z Z Z (bi ac) (hM Z Z Z ⟨⟨_,rfl,.of_eq Z⟩,Vm Z,rfl,hR Z Z Z ⟨⟨_,rfl,.of_eq Z⟩,Vm Z,rfl,ac⟩⟩) Z))
end Go.Proofs.YtlmhfgbkchnfbaaGreatDoor
namespace Go.Proofs.YtlmhfgbkchnfbaaGreatDoor
open Go Go.Al Go.En Go.Bo
section
def kS(p:Prog)(b:By):Nat->JS->JS
 |0,s=>s
 |f+1,s=>match nP p s (b.drop s.a.length) with
  |none=>s
  |some u=>kS p b f u
def xo(p:Prog)(b:By):JS:=kS p b (b.length+1) ⟨[],fw p,0⟩
structure BX (p:Prog) (s:JS):Prop where
 Q8:Go.Bo.eM aY (okF p) s.S
 len:13<=s.a.length
 num:s.k<=2147483647
 new:s.a.length=13->s.S=[]
theorem CU(p:Prog):BX p ⟨[],fw p,0⟩:=⟨Go.Bo.eM.nil _ _,VA 13,VB _,fun _=>rfl⟩
theorem Ht(a:By)(k:UInt8)(n:Nat)(t:By):6<=(ei a k n t).length:=by
 rw[ei,tz];simp only[Vp,VW];show 6<=1+(enc n).length+(iE t).length+4+1;omega
theorem zH{p:Prog}{s u:JS}{b:By}(h:nP p s b=co u)(hs:BX p s):BX p u∧s.a.length+6<=u.a.length∧u.a.length<=s.a.length+b.length:=by
 unfold nP qE at h;have x:(GF b).1<=2147483647:=gL;split at h
 .rename_i h1;have y:=Ht s.a (PN b).1 (GF b).1 (JF b).1;rw[<-h1.2]at y;have hl:(b.take (La b).p).length<=b.length:=by rw[V7];omega
  split at h
  .split at h
   .rename_i j;cases h;refine⟨⟨hs.Q8.next o6 j.2.2,?_,x,fun e=>?_⟩,?_,?_⟩<;>simp only[Vp] at* <;>have:=hs.len<;>omega
   .cases h
  .split at h
   .split at h
    .rename_i j;cases h;refine⟨⟨x7 j.1,?_,x,fun e=>?_⟩,?_,?_⟩<;>simp only[Vp] at* <;>have:=hs.len<;>omega
    .cases h
   .cases h
 .cases h
theorem uU{p:Prog}{b:By}: ∀(f g:Nat) {s:JS},BX p s->s.a.length<=b.length->b.length-s.a.length<f->f<=g->kS p b g s=kS p b f s
 |0,_,_,_,_,h,_=>absurd h (Xl _)
 |f+1,0,_,_,_,_,h=>absurd h (Nat.not_succ_le_zero _)
 |f+1,g+1,s,hs,hl,h1,h2=>by
  rw[kS,kS];cases e:nP p s (b.drop s.a.length) with
  |none=>rfl
  |some u=>
   obtain⟨j,y,x⟩:=zH e hs;rw[Wu]at x;exact uU f g j (by omega) (by omega) (by omega)
def UB(p:Prog)(u:JS)(r:PV)(h:AH)(k:Nat):Prop:= ∃m n,n<=100000000∧b8 cv m u.S∧r= .aZ [.ptr 3 0,pI u.a.length,pI 0]∧h=jH p n m u.a u.k∧k=4
structure OpI (p:Prog) (b:By) (x:JS×FM×Nat):Prop where
 Q8:BX p x.1
 keeps:b8 cv x.2.1 x.1.S
 len:x.1.a.length<=b.length
 num:x.2.2<=17*x.1.a.length
 eq:xo p b=kS p b (b.length+1) x.1
section
variable (hS:fx) (p:Prog) (hf:p.fit) (hs:p.size<=10000000) (ht:p.ts<=800000000) (b:By)
include hS hf hs ht
set_option maxHeartbeats 1000000 in
theorem SR(hr:p.aD.length<=1000000000)(hb:b.length<=4194304)(hc:(iW p).1=0)(hp:b.take 13=fw p):Al.Fn Tryz.prog 14 [ag p.c,.iv (a7 1 b aO)] [] (UB p (xo p b)):=by
 have hC:=DN hS p hf hs ht hc;have I:xo p b=kS p b (b.length+1) ⟨[],fw p,0⟩:=rfl;have G:=CU p;have C:=oN p;generalize fw p=a0 at hC I G C hp;have b0:13<=b.length:=by
  have:=congrArg XS hp;rw[V7,C]at this;omega
 have A:=Ls b a0;rw[decide_eq_true (show b.take a0.length=a0 by rw[C];exact hp)]at A;refine kv ab Tryz.func14 Z (by decide) Tryz.ntmps14 Z (by simp) ?_;refine gA Z ?_;refine Vo (fun zz=>?_) (fun zz=>?_)<;>(try(have:=of_decide_eq_true zz;omega))
 refine gA Z (ak [] (hC) Z Z Z Z Z Z Z Z ?_);refine gA Z ?_;refine Vo (fun zz=>?_) (fun zz=>?_)<;>(try(exact absurd zz (by decide)))
 refine gA Z (rn (asv:=[.iv (a7 1 b aO),.sl 3 0 a0.length 1]) (Pure.nv A) Z Z Z Z Z (lf (i:=3) (sz:=1) (fun k=>aO (a0.getD k ci)) Z (cQ (aE _ _)) (by simp[a8,PV.ba]) ⟨.refl _,.bK Z (fun k _=>by rw[VL]),ac⟩) Z (fun j o hj=>nomatch hj) Z ?_);refine gA Z ?_;refine Vo (fun zz=>?_) (fun zz=>?_)<;>(try(exact absurd zz (by decide)))
 refine gA Z ?_;refine ic (σ:={x:JS×FM×Nat//OpI p b x}) (fun x=>⟨[(1,.iv (a7 1 b aO)),(7,.ptr 4 0)],[(1,co (bx x.1.2.1)),(2,co (ch p x.1.2.2 1)),(4,co (jC 2 5 x.1.1.a x.1.1.k)),(5,co (ik x.1.1.a))],6⟩) (fun x=>b.length-x.1.1.a.length) ⟨(⟨[],a0,0⟩,[],0),G,b8.nil,by dsimp only;omega,VB _,I⟩ [3]
  (wk Z Z Z (bi (bi trivial)) (hM Z Z Z ⟨⟨_,rfl,.of_eq Z⟩,Vm Z,rfl,⟨_,rfl,.of_eq Z⟩,Vm Z,rfl,hR Z (by first|rfl|exact aE _ _) Z trivial⟩) Z) fun x=>?_
 obtain⟨⟨s,m,n⟩,D,Y,q3,q4,J⟩:=x;dsimp only at D Y q3 q4 J ⊢;have c0:=D.len;have hT:=SF p n s (b.drop s.a.length) Y D.Q8 (by rw[Wu];omega) (by omega) (by omega) hr hs (by omega) (by have:=D.num;omega) D.new;refine gA Z (nr [1,2,5,4] (Al.Fn.le (aa:=[.ptr 3 0,.iv (.bK 1 (b.length-s.a.length) fun k=>aO (b.getD (s.a.length+k) ci))]) hT ⟨.refl _,.iv (BE Z),ac⟩) Z Z Z Z Z (by simp only[Vy,VQ,aF];rfl) Z ?_);intro r h' n' y;rcases e:nP p s (b.drop s.a.length) with _|u
 .rw[e]at y;obtain⟨m1,B,rfl,rfl,rfl⟩:=y;refine⟨_,rfl,?_⟩;refine gA Z ?_;refine Vo (fun zz=>?_) (fun zz=>?_)<;>(try(exact absurd zz (by decide)))
  have hu:xo p b=s:=by rw[J,kS,e]
  refine gA Z (db (r:= .aZ [.ptr 3 0,pI s.a.length,pI 0]) (h:=jH p n m1 s.a s.k) (n:=4) [1,2,5,4] (.inr Z) Z (by rw[hu];exact⟨m1,n,by omega,B,rfl,rfl,rfl⟩) (wk Z Z Z ⟨.of_eq Z,rfl,ac⟩ (hM Z Z Z ⟨⟨_,rfl,.of_eq Z⟩,Vm Z,rfl,hR Z (by first|rfl|exact aE _ _) Z ⟨⟨_,rfl,.of_eq Z⟩,Vm Z,rfl,ac⟩⟩) Z))
 .rw[e]at y;obtain⟨m1,n1,d0,B,rfl,rfl,rfl⟩:=y;refine⟨_,rfl,?_⟩;obtain⟨w1,w2,w3⟩:=zH e D;rw[Wu]at w3;refine gA Z ?_;refine Vo (fun zz=>?_) (fun zz=>?_)<;>(try(exact absurd zz (by decide)))
  refine gA Z ?_;refine⟨⟨(u,m1,n1),w1,B,by dsimp only;omega,by dsimp only;omega,?_⟩,[6],by dsimp only;omega,wk Z Z Z (bi (bi ac)) (hM Z Z Z ⟨⟨_,rfl,.of_eq Z⟩,Vm Z,rfl,⟨_,rfl,.of_eq Z⟩,Vm Z,rfl,hR Z (by first|rfl|exact aE _ _) Z ac⟩) Z⟩;rw[J];show kS p b (b.length+1) s=kS p b (b.length+1) u;rw[kS,e];exact(uU b.length (b.length+1) w1 (by omega) (by omega) (by omega)).symm
end
end
end Go.Proofs.YtlmhfgbkchnfbaaGreatDoor
namespace Go.Proofs.YtlmhfgbkchnfbaaGreatDoor
open Go Go.Al Go.Proofs.Tryz Go.En Go.Bo
abbrev dO(p:Prog)(e:Int)(x:IV)(a:By)(a0:Int)(j u:Nat)(m1 m2:FM):List AO:=[.cells [pI e],.cells [.ptr 5 0],.cells [.ptr 4 0],.cells [.iv x],jC 6 7 a a0,ch p j 8,ch p u 9,ik a,bx m1,bx m2]
abbrev dH(p:Prog)(e:Int)(x:IV)(a:By)(a0:Int)(j u:Nat)(m1 m2:FM):AH:=cF 0 (dO p e x a a0 j u m1 m2)
theorem Ql(p:Prog)(x:IV)(a:By)(a0:Int)(j u:Nat)(m1 m2:FM):T4 prog 24 [.ptr 0 0,.ptr 1 0,.ptr 2 0,.ptr 3 0] (dO p 0 x a a0 j u m1 m2) (dH p 0 x a a0 j u m1 m2) 10:=by
 refine tc ab func24 Z (by decide) ntmps24 Z (by simp) ?_;refine gA Z ?_;refine Vo (fun zz=>?_) (fun zz=>?_)<;>(try(exact absurd zz (by decide)))
 refine gA Z ⟨.inl Z,_,rfl,rfl,rfl⟩
theorem Cl(p:Prog)(e:Int)(he:e≠0)(x:IV)(a:By)(a0:Int)(j u:Nat)(m1 m2:FM):T4 prog 24 [.ptr 0 0,.ptr 1 0,.ptr 2 0,.ptr 3 0] (dO p e x a a0 j u m1 m2) ((3,co (.cells [lQ]))::(4,co (.cells [.ptr 5 0,.sl 7 0 a.length 1,pI a0]))::dH p e x a a0 j u m1 m2) 10:=by
 refine tc ab func24 Z (by decide) ntmps24 Z (by simp) ?_;refine gA Z ?_;refine Vo (fun zz=>?_) (fun zz=>?_)<;>(try(exact absurd (by simpa using zz) he))
 refine gA Z ⟨.inl Z,_,rfl,rfl,rfl⟩
theorem Gp{s:aq}{a z:Nat}(h:qy s a z=is):s.size<=32:=by
 unfold qy at h;simp only[Wf,decide_eq_true_eq]at h;omega
theorem qS{p:Prog}{f:Fact}(h:okF p f=is):f.rel.size<=32∧f.args.length<=8∧Qz f.args=is:=by
 have h:=of_decide_eq_true h;unfold nu at h;split at h
 .cases h
 .rename_i g;have g2: ¬jF f=jp:=fun e=>g (.inr (.inl e));rw[Bool.not_eq_false]at g2;unfold jF fM at g2;simp only[Wf,decide_eq_true_eq]at g2;exact⟨Gp g2.1.2,g2.2.1,g2.2.2⟩
theorem qT{p:Prog}{f:Fact}(h:okF p f=is):Pa f:=⟨by have:=(qS h).1;omega,(qS h).2.1,(qS h).2.2⟩
theorem Ga{p:Prog}{l:List (b6 Fact)}(hl:l.length<=4096)(h: ∀x∈l,okF p x.2=is):(bM l).length<=900000000:=by
 have:=CE pb hl (fun x j=>EA (qT (h x j))) l.length;rw[WG]at this;rw[bM];omega
def Ju(p:Prog)(s:JS)(l:List (b6 Fact)):Int×JS×By:=
 if iM aY (okF p) s.S l≠0 then(iM aY (okF p) s.S l,s,[])
 else if 2147483647<=s.k then(231,s,[])
 else if 4194304<s.a.length+(ei s.a 165 (s.k+1) (bM l)).length then(2,s,[])
 else(0,⟨gn aY s.S l,s.a++ei s.a 165 (s.k+1) (bM l),s.k+1⟩,ei s.a 165 (s.k+1) (bM l))
def apR(p:Prog)(n:Nat)(s:JS)(m:FM)(y:Int×JS×By)(r:PV)(h:AH)(k:Nat):Prop:=
 (y.1=0∧ ∃j,b8 cv j y.2.1.S∧r= .aZ [.iv (a7 1 y.2.2 aO),pI 0]∧h=[(3,co (jC 5 6 y.2.1.a y.2.1.k)),(4,co (bx j)),(5,co (ch p (n+1) 4)),(6,co (ik y.2.1.a))]∧k=7)
 ∨(y.1≠0∧r= .aZ [lQ,pI y.1]∧h=jH p n m s.a s.k∧k=4)
noncomputable abbrev RJ:Code:=f11.body.getD .skip
abbrev Vi(p:Prog)(j u:Nat)(m1 m2:FM)(a:By)(a0 e:Int)(x:IV):AH:=[(0,co (bx m1)),(1,co (ch p j 0)),(2,co (ik a)),(3,co (jC 9 2 a a0)),(4,co (.cells [.ptr 3 0])),(5,co (.cells [.iv x])),(6,co (.cells [pI e])),(7,co (.cells [.ptr 1 0])),(8,co (bx m2)),(9,co (ch p u 8))]
set_option maxHeartbeats 2000000 in
theorem LD(p:Prog)(n:Nat)(s:JS){m:FM}(l:List (b6 Fact))(hk:b8 cv m s.S)(hf:Go.Bo.eM aY (okF p) s.S)(hF: ∀x∈l,x.2.args.length<=1000000000)(ha:s.a.length<=10000000)(h5:5<=s.a.length)(hr:p.aD.length<=1000000000)(hn:n<=90000000000)(d0:s.k<=10000000000):
  Al.Fn prog 11 [.ptr 3 0,.iv (a7 3 l fb)] (jO p n m s.a s.k) (apR p n s m (Ju p s l)):=by
 obtain⟨y,u⟩: ∃y,y=Ju p s l:=⟨_,rfl⟩
 rw[<-u];have G: ∀e:Int,e≠0->y=(e,s,[])->apR p n s m y (.aZ [lQ,pI e]) (jH p n m s.a s.k) 4:=fun e he h=>by rw[h];exact .inr ⟨he,rfl,rfl,rfl⟩
 unfold Ju at u;refine Fn.ended ?_;refine IE ab func11 (cs:=(jb RJ).1) (id:=(jb RJ).2.1) (ops:=(jb RJ).2.2.1) (T:=(jb RJ).2.2.2) (show _=co (QQ (jb RJ)) from rfl) (by decide) ntmps11 Z (by simp)
  ⟨[(1,.iv (a7 3 l fb)),(2,.ptr 4 0),(4,.ptr 5 0),(5,.ptr 6 0),(6,.ptr 7 0),(20,.cm (.func 24) [] [.ptr 6 0,.ptr 7 0,.ptr 4 0,.ptr 5 0])],Vi p n n m m s.a s.k 0 (.v (.slice io 0 0)),10⟩
  (pre:=(jb RJ).2.2.1.toList.dropLast) (g:= .tmp 20) (caps:=[.ptr 6 0,.ptr 7 0,.ptr 4 0,.ptr 5 0]) Z Z Z Z Z (bb func24 Z (by decide)) ?_ ?_
 .refine gA Z ?_;refine Vo (fun zz=>?_) (fun zz=>?_)<;>(try(exact absurd zz (by decide)))
  refine gA Z (bc ab [0,1] (Qh p n m) Z Z Z Z Z Z Z Z Z Z Z Z (by(repeat' (first|exact ac|exact rfl|exact ae.refl _|exact ae.bk (by assumption)|apply Vo))<;>first|omega|(simp only[Vu];omega)|(simp;done)|(simp;omega)) Z (by(repeat' (first|exact ac|exact rfl|exact ae.refl _|exact ae.bk (by assumption)|apply Vo))<;>first|omega|(simp only[Vu];omega)|(simp;done)|(simp;omega)) ?_);refine gA Z (.inl ⟨rfl,?_⟩);refine gA Z ⟨rfl,[],wk Z Z Z (bi (bi (bi (bi (bi (bi ac)))))) (hM Z Z Z ⟨⟨_,rfl,.of_eq Z⟩,Vm Z,rfl,hR Z (by first|rfl|exact aE _ _) Z ⟨⟨_,rfl,.of_eq Z⟩,Vm Z,rfl,⟨_,rfl,.of_eq Z⟩,Vm Z,rfl,⟨_,rfl,.of_eq Z⟩,Vm Z,rfl,⟨_,rfl,.of_eq Z⟩,Vm Z,rfl,⟨_,rfl,.of_eq Z⟩,Vm Z,rfl,hM Z Z Z ⟨⟨_,rfl,.of_eq Z⟩,Vm Z,rfl,ac⟩⟩⟩) Z⟩
 intro D;have B:=Ck p n l hr hk hf hF (by omega);by_cases A:iM aY (okF p) s.S l=0;rotate_left
 .rw[am A]at u;rw[show jI aY (okF p) (s.S,n) l=(s.S,n) by unfold jI;rw[be A]]at B;refine gA Z (nr [8,9] B Z Z Z Z Z Z Z ?_);rintro r I Y ⟨m1,hk1,rfl,rfl,rfl⟩;refine⟨_,rfl,?_⟩;refine gA Z ?_;refine Vo (fun zz=>?_) (fun zz=>?_)<;>(try(exact absurd (by simpa using zz) A))
  refine gA Z (uc [6,7,4,5,3,1,9,2,0,8] (.inr Z) (Cl p (iM aY (okF p) s.S l) A (.v (.slice io 0 0)) s.a s.k n n m m1) Z Z (by simp only[Vy,VQ,aF];rfl) Z ?_);rintro r I Y ⟨rfl,rfl⟩;exact⟨_,rfl,.done ⟨_,jH p n m s.a s.k,4,[],G _ A u,wk Z Z Z (bi ac) (hM Z Z Z ⟨⟨_,rfl,.of_eq Z⟩,Vm Z,rfl,hR Z (by first|rfl|exact aE _ _) Z ⟨⟨_,rfl,.of_eq Z⟩,Vm Z,rfl,ac⟩⟩) Z⟩⟩
 obtain⟨hl,hok,c0⟩:=jY.1 A;rw[be fun h=>h A]at u;have hP:CC p s.S l= .aZ [.iv (a7 3 (dC aY s.S l) fb),pI 0]:=by unfold CC;rw[am A,A]
 have hD:jI aY (okF p) (s.S,n) l=(gn aY s.S l,n+1):=by unfold jI;rw[am A]
 simp only[hP,hD]at B;have a0:=Cj l (by omega) fun x hx=>qT (hok x hx);have b0:=Ga hl hok;obtain⟨j,C⟩: ∃j,j=ei s.a 165 (s.k+1) (bM l):=⟨_,rfl⟩
 have J:bg prog 21 [.iv (a7 1 s.a aO),pY 165,pI ((s.k:Int)+1),.iv (a7 1 (bM l) aO)] [] (.sl 0 0 j.length 1) [(0,co (ik j))] 1:=by
  rw[C];exact yw s.a (bM l) 165 ((s.k:Int)+1) h5 (by omega) ⟨by omega,by omega⟩ b0
 have e0:j.length<=1000000000:=by
  have h1:=jt (bM l);have h2:=vD (s.k+1);rw[C,ei,tz];simp only[Vp,VW];show 1+_+_+4+1<=_;omega
 rw[<-C]at u;refine gA Z (nr [8,9] B Z Z Z Z Z Z Z ?_);rintro r I Y ⟨m1,hk1,rfl,rfl,rfl⟩;refine⟨_,rfl,?_⟩;refine gA Z ?_;refine Vo (fun zz=>?_) (fun zz=>?_)<;>(try(exact absurd zz (by decide)))
 refine gA Z ?_;refine Vo (fun g1=>?_) (fun g1=>?_)
 .have g1:2147483647<=s.k:=by have:=of_decide_eq_true g1;omega
  rw[am g1]at u;refine gA Z (uc [6,7,4,5,3,1,9,2,0,8] (.inr Z) (Cl p 231 (by decide) (.v (.slice io 0 0)) s.a s.k n (n+1) m m1) Z Z (by simp only[Vy,VQ,aF];rfl) Z ?_);rintro r I Y ⟨rfl,rfl⟩;exact⟨_,rfl,.done ⟨_,jH p n m s.a s.k,4,[],G 231 (by decide) u,wk Z Z Z (bi ac) (hM Z Z Z ⟨⟨_,rfl,.of_eq Z⟩,Vm Z,rfl,hR Z (by first|rfl|exact aE _ _) Z ⟨⟨_,rfl,.of_eq Z⟩,Vm Z,rfl,ac⟩⟩) Z⟩⟩
 have g1: ¬2147483647<=s.k:=by have:=of_decide_eq_false g1;omega
 rw[be g1]at u;refine gA Z (bc ab [] (Pure.nv (a0)) Z Z Z Z Z Z Z Z Z Z Z Z (by(repeat' (first|exact ac|exact rfl|exact ae.refl _|exact ae.bk (by assumption)|apply Vo))<;>first|omega|(simp only[Vu];omega)|(simp;done)|(simp;omega)) Z (by(repeat' (first|exact ac|exact rfl|exact ae.refl _|exact ae.bk (by assumption)|apply Vo))<;>first|omega|(simp only[Vu];omega)|(simp;done)|(simp;omega)) ?_);refine gA Z (rk ab (asv:=[.sl 2 0 s.a.length 1,pY 165,pI ((s.k:Int)+1),.iv (a7 1 (bM l) aO)]) J Z Z Z Z Z (lf (i:=2) (sz:=1) (fun k=>aO (s.a.getD k ci)) Z (cQ Z) (by simp[a8,PV.ba]) ⟨.bK Z (fun k _=>by rw[VL]),.refl _,.refl _,.refl _,ac⟩) Z (vP (zb j)) Z Z Z Z Z (by(repeat' (first|exact ac|exact rfl|exact ae.refl _|exact ae.bk (by assumption)|apply Vo))<;>first|omega|(simp only[Vu];omega)|(simp;done)|(simp;omega)) Z (by(repeat' (first|exact ac|exact rfl|exact ae.refl _|exact ae.bk (by assumption)|apply Vo))<;>first|omega|(simp only[Vu];omega)|(simp;done)|(simp;omega)) ?_)
 (refine gM 2 Z ?_;refine cP (L:=[]) (t:=⟨[(2,.ptr 4 0),(4,.ptr 5 0),(5,.ptr 6 0)],[(0,co (bx m)),(1,co (ch p n 0)),(2,co (ik s.a)),(3,co (jC 9 2 s.a s.k)),(4,co (.cells [.ptr 3 0])),(5,co (.cells [.sl 10 0 j.length 1])),(6,co (.cells [pI 0])),(7,co (.cells [.ptr 1 0])),(8,co (bx m1)),(9,co (ch p (n+1) 8)),(10,co (ik j))],11⟩) ?_ ?_;refine wk Z Z Z ?_ ?_ ?_;exact(bi (bi (bi ac)));exact(hM Z Z Z ⟨⟨_,rfl,.of_eq Z⟩,Vm Z,rfl,hR Z Z Z ⟨⟨_,rfl,.of_eq Z⟩,Vm Z,rfl,⟨_,rfl,.of_eq Z⟩,Vm Z,rfl,⟨_,rfl,.of_eq Z⟩,Vm Z,rfl,⟨_,rfl,.of_eq Z⟩,Vm Z,rfl,⟨_,rfl,.of_eq Z⟩,Vm Z,rfl,hM Z Z Z ⟨⟨_,rfl,.of_eq Z⟩,Vm Z,rfl,hR Z (aE _ _) Z ac⟩⟩⟩);exact rfl)
 refine jS 10 (fun k=>aO (j.getD k ci)) Z (cQ Z) (by simp[AF.lO,PV.ba]) ⟨ac,(by simp[AO.lO,a8,PV.ba]),fG _ _ _ _ _ _,(by simp[AO.lO,a8,PV.ba]),(by simp[AO.lO,a8,PV.ba]),(by simp[AO.lO,a8,PV.ba]),(by simp[AO.lO,a8,PV.ba]),(by simp[AO.lO,a8,PV.ba]),ac,(by simp[AO.lO,a8,PV.ba]),fG _ _ _ _ _ _,ac⟩ ?_;refine cP (L:=[]) (t:=⟨[(2,.ptr 4 0),(4,.ptr 5 0),(5,.ptr 6 0)],[(0,co (bx m)),(1,co (ch p n 0)),(2,co (ik s.a)),(3,co (jC 9 2 s.a s.k)),(4,co (.cells [.ptr 3 0])),(5,co (.cells [.iv (a7 1 j aO)])),(6,co (.cells [pI 0])),(7,co (.cells [.ptr 1 0])),(8,co (bx m1)),(9,co (ch p (n+1) 8))],11⟩) (wk Z Z Z (bi (bi (bi ac))) (hM Z Z Z ⟨⟨_,rfl,.of_eq Z⟩,Vm Z,rfl,hR Z Z Z ⟨⟨_,rfl,.of_eq Z⟩,Vm Z,rfl,⟨_,rfl,.of_eq Z⟩,Vm Z,rfl,⟨_,rfl,.cells ⟨.bK Z (fun k _=>by rw[VL]),ac⟩⟩,Vm Z,rfl,⟨_,rfl,.of_eq Z⟩,Vm Z,rfl,⟨_,rfl,.of_eq Z⟩,Vm Z,rfl,hM Z Z Z ⟨⟨_,rfl,.of_eq Z⟩,Vm Z,rfl,ac⟩⟩⟩) Z) ?_;refine gA Z ?_;refine Vo (fun g2=>?_) (fun g2=>?_)
 .have g2:4194304<s.a.length+j.length:=by have:=of_decide_eq_true g2;omega
  rw[am g2]at u;refine gA Z (uc [6,7,4,5,3,1,9,2,0,8] (.inr Z) (Cl p 2 (by decide) (.v (.slice io 0 0)) s.a s.k n (n+1) m m1) Z Z (by simp only[Vy,VQ,aF];rfl) Z ?_);rintro r I Y ⟨rfl,rfl⟩;exact⟨_,rfl,.done ⟨_,jH p n m s.a s.k,4,[],G 2 (by decide) u,wk Z Z Z (bi ac) (hM Z Z Z ⟨⟨_,rfl,.of_eq Z⟩,Vm Z,rfl,hR Z (by first|rfl|exact aE _ _) Z ⟨⟨_,rfl,.of_eq Z⟩,Vm Z,rfl,ac⟩⟩) Z⟩⟩
 have g2: ¬4194304<s.a.length+j.length:=by have:=of_decide_eq_false g2;omega
 rw[be g2]at u
 (refine gM 25 Z ?_;refine cP (L:=[]) (t:=⟨[(4,.ptr 5 0),(5,.ptr 6 0)],[(0,co (bx m)),(1,co (ch p n 0)),(3,co (jC 9 11 (s.a++j) ((s.k+1:Nat):Int))),(4,co (.cells [.ptr 3 0])),(5,co (.cells [.iv (a7 1 j aO)])),(6,co (.cells [pI 0])),(7,co (.cells [.ptr 1 0])),(8,co (bx m1)),(9,co (ch p (n+1) 8)),(11,co (ik (s.a++j)))],12⟩) ?_ ?_;refine wk Z Z Z ?_ ?_ ?_;exact(bi (bi ac));exact(hM Z Z Z ⟨⟨_,rfl,.of_eq Z⟩,Vm Z,rfl,⟨_,rfl,.cells ⟨.refl _,.row (by simp),.of_eq (congrArg pI (by omega)),ac⟩⟩,Vm Z,rfl,⟨_,rfl,.of_eq Z⟩,Vm Z,rfl,⟨_,rfl,.of_eq Z⟩,Vm Z,rfl,⟨_,rfl,.of_eq Z⟩,Vm Z,rfl,⟨_,rfl,.of_eq Z⟩,Vm Z,rfl,hM Z Z Z ⟨⟨_,rfl,.of_eq Z⟩,Vm Z,rfl,hR Z (by rw[VD];exact congrArg _ (cy j)) Z ac⟩⟩);exact rfl)
 refine gA Z (uc [6,7,4,5,3,1,9,11,0,8] (.inr Z) (Ql p (a7 1 j aO) (s.a++j) ((s.k+1:Nat):Int) n (n+1) m m1) Z Z (by simp only[Vy,VQ,aF];rfl) Z ?_);rintro r I Y ⟨rfl,rfl⟩;exact⟨_,rfl,.done ⟨.aZ [.iv (a7 1 j aO),pI 0],[(3,co (jC 5 6 (s.a++j) ((s.k+1:Nat):Int))),(4,co (bx m1)),(5,co (ch p (n+1) 4)),(6,co (ik (s.a++j)))],7,[8,9,11],.inl ⟨by rw[u],m1,by rw[u];exact hk1,by rw[u],by rw[u],rfl⟩,wk Z Z Z ⟨.of_eq Z,rfl,ac⟩ ⟨⟨_,rfl,.of_eq Z⟩,Vm Z,rfl,hM Z Z Z ⟨⟨_,rfl,.of_eq Z⟩,Vm Z,rfl,hR Z (aE _ _) Z ac⟩⟩ Z⟩⟩
def qP(s:JS):By:=s.a.take 13++ei (s.a.take 13) 166 s.k (kC s.S)
def Uz(p:Prog)(n:Nat)(s:JS)(m:FM)(r:PV)(h:AH)(k:Nat):Prop:=
 ((qP s).length<=4194304∧r= .aZ [.iv (a7 1 (qP s) aO),pI 0]∧h=[(0,co (bx m)),(1,co (ch p n 0)),(3,co (jC 1 4 (qP s) s.k)),(4,co (ik (qP s)))]∧k=5)
 ∨(¬(qP s).length<=4194304∧r= .aZ [lQ,pI 2]∧h=jH p n m s.a s.k∧k=4)
theorem MF{p:Prog}{f:Fact}(h:okF p f=is):(fS f).length<=1100:=by
 have hF:=qT h;have h1:=jt f.rel.data.toList;have j:=jt (jJ f.args);have u:=yj hF.len hF.val;have x:=(qS h).1;have y:f.rel.data.toList.length=f.rel.size:=rfl;rw[fS,Vp];omega
theorem Jn{p:Prog}{S:List Fact}(h:Go.Bo.eM aY (okF p) S):(kC S).length<=80000000:=by
 have h1:=vD S.length;have j:=yn fS (m:=1100) S fun f hf=>MF (h.ok f hf);have u:=h.RH;rw[kC,Vp];omega
theorem vU: ∀{l:List (List PV)},(∀e∈l,dt e=is)->allOnes l=is
 | [],_=>rfl
 |e::l,h=>by
  unfold allOnes;rw[h e (by simp)];exact vU fun x j=>h x (by simp[j])
theorem Df(σ:Nat->Nat)(l:By)(a n:Nat):allOnes ((((c6 l).map (c7 σ)).drop a).take n)=is:=by
 rw[aE];refine vU fun e h=>?_;obtain⟨x,_,rfl⟩:=V5.1 (YR (W7 h));rfl
set_option maxHeartbeats 1000000 in
theorem SQ(p:Prog)(n:Nat)(s:JS){m:FM}(hk:b8 cv m s.S)(hf:Go.Bo.eM aY (okF p) s.S)(ha:s.a.length<=10000000)(G:13<=s.a.length)(a0:s.k<=10000000000):
  Al.Fn prog 10 [.ptr 3 0] (jO p n m s.a s.k) (Uz p n s m):=by
 have J:=hf.RH;have Y:=Jn hf;obtain⟨H,C⟩: ∃H,H=s.a.take 13:=⟨_,rfl⟩
 have hH:H.length=13:=by rw[C,V7];omega
 obtain⟨u,j⟩: ∃u,u=ei H 166 s.k (kC s.S):=⟨_,rfl⟩
 obtain⟨P,D⟩: ∃P,P=qP s:=⟨_,rfl⟩
 have x:P=H++u:=by rw[D,j,C];rfl
 have B:bg prog 21 [.iv (a7 1 H aO),pY 166,pI s.k,.iv (a7 1 (kC s.S) aO)] [] (.sl 0 0 u.length 1) [(0,co (ik u))] 1:=by
  rw[j];exact yw H (kC s.S) 166 (s.k:Int) (by omega) (by omega) ⟨by omega,by omega⟩ (by omega)
 have b0:u.length<=1000000000:=by
  have h1:=jt (kC s.S);have h2:=vD s.k;rw[j,ei,tz];simp only[Vp,VW];show 1+_+_+4+1<=_;omega
 have A:=Cf s.a 13 (by decide) G (by omega);rw[<-C]at A;unfold Uz;rw[<-D];clear j D;have I:P.length=13+u.length:=by rw[x,Vp,hH]
 refine kv ab func10 Z (by decide) ntmps10 Z (by simp) ?_;refine gA Z ?_;refine Vo (fun zz=>?_) (fun zz=>?_)<;>(try(exact absurd zz (by decide)))
 refine gA Z (yZ ab 13 Z Z Z Z Z Z Z Z (by omega) (by omega) (.inr ⟨by decide,rfl⟩) Z ?_);refine gA Z (ak [2] (A) Z Z Z Z Z (by simp only[Vy,VQ,VT,VU,aF,bD];rfl) Z Z ?_);refine gA Z (bc ab [0,1] (Hc p n hk hf.BY (fun f h=>by have:=eM.TB hf f h;omega) (by omega)) Z Z Z Z Z Z Z Z Z Z Z Z (by(repeat' (first|exact ac|exact rfl|exact ae.refl _|exact ae.bk (by assumption)|apply Vo))<;>first|omega|(simp only[Vu];omega)|(simp;done)|(simp;omega)) Z (by(repeat' (first|exact ac|exact rfl|exact ae.refl _|exact ae.bk (by assumption)|apply Vo))<;>first|omega|(simp only[Vu];omega)|(simp;done)|(simp;omega)) ?_);refine gA Z (bc ab [] (Pure.nv (Fb s.S (by omega) (fun f h=>qT (hf.ok f h)))) Z Z Z Z Z Z Z Z Z Z Z Z (by(repeat' (first|exact ac|exact rfl|exact ae.refl _|exact ae.bk (by assumption)|apply Vo))<;>first|omega|(simp only[Vu];omega)|(simp;done)|(simp;omega)) Z (by(repeat' (first|exact ac|exact rfl|exact ae.refl _|exact ae.bk (by assumption)|apply Vo))<;>first|omega|(simp only[Vu];omega)|(simp;done)|(simp;omega)) ?_);refine gA Z (rk ab (asv:=[.sl 4 0 13 1,pY 166,pI s.k,.iv (a7 1 (kC s.S) aO)]) B Z Z Z Z Z (lf (i:=4) (sz:=1) (fun k=>aO (H.getD k ci)) Z (cQ (aE _ _)) (by simp[a8,PV.ba];omega) ⟨.bK hH.symm (fun k _=>by rw[VL]),.refl _,.refl _,.refl _,ac⟩) Z (vP (zb u)) Z Z Z Z Z (by(repeat' (first|exact ac|exact rfl|exact ae.refl _|exact ae.bk (by assumption)|apply Vo))<;>first|omega|(simp only[Vu];omega)|(simp;done)|(simp;omega)) Z (by(repeat' (first|exact ac|exact rfl|exact ae.refl _|exact ae.bk (by assumption)|apply Vo))<;>first|omega|(simp only[Vu];omega)|(simp;done)|(simp;omega)) ?_)
 (refine gM 3 Z (hC:=(by(repeat' (apply Vo))<;>first|exact ac|exact rfl|exact ae.refl _|exact Df _ _ _ _|omega|(simp;done)|(simp;omega))) ?_;refine cP (L:=[]) (t:=⟨[(0,.ptr 3 0),(4,.sl 6 0 P.length 1)],[(0,co (bx m)),(1,co (ch p n 0)),(2,co (ik s.a)),(3,co (jC 1 2 s.a s.k)),(6,co (ik P))],7⟩) ?_ ?_;refine wk Z Z Z ?_ ?_ ?_;exact(bi ⟨.row (by rw[I]),rfl,ac⟩);exact(hM Z Z Z ⟨⟨_,rfl,.of_eq Z⟩,Vm Z,rfl,hR Z (aE _ _) Z ⟨⟨_,rfl,.of_eq Z⟩,Vm Z,rfl,hR Z (by rw[x,VD];exact congr (congrArg (· ++ ·) (aE _ _)) (by rw[Yh,aE];exact VI (by simp))) Z ac⟩⟩);exact rfl)
 refine gA Z ?_;refine Vo (fun g1=>?_) (fun g1=>?_)
 .have g1: ¬P.length<=4194304:=by have:=of_decide_eq_true g1;omega
  refine gA Z (db (h:=jH p n m s.a s.k) (n:=4) [] (.inr Z) Z (.inr ⟨g1,rfl,rfl,rfl⟩) (wk Z Z Z (bi ac) (hM Z Z Z ⟨⟨_,rfl,.of_eq Z⟩,Vm Z,rfl,hR Z (by first|rfl|exact aE _ _) Z ⟨⟨_,rfl,.of_eq Z⟩,Vm Z,rfl,ac⟩⟩) Z))
 have g1:P.length<=4194304:=by have:=of_decide_eq_false g1;omega
 have y:=Cf P P.length (by omega) (VA _) (by omega);rw[WG]at y;refine gA Z (ak [6] (y) Z Z Z Z Z (by simp only[Vy,VQ,VT,VU,aF,bD];rfl) Z Z ?_);refine gA Z ⟨.inr Z,.aZ [.sl 7 0 P.length 1,pI 0],rfl,ft.gd 7 P aO Z (by first|rfl|exact aE _ _) (by simp[PV.ba,a8]) (.done ⟨.aZ [.iv (a7 1 P aO),pI 0],[(0,co (bx m)),(1,co (ch p n 0)),(3,co (jC 1 4 P s.k)),(4,co (ik P))],5,[6],.inl ⟨g1,rfl,rfl,rfl⟩,wk Z Z Z ⟨.aZ ⟨.bK Z (fun k _=>by rw[VL]),.refl _,ac⟩,rfl,ac⟩ (hM Z Z Z ⟨⟨_,rfl,.of_eq Z⟩,Vm Z,rfl,⟨_,rfl,.of_eq Z⟩,Vm Z,rfl,hR Z (by first|rfl|exact aE _ _) Z ac⟩) Z⟩)⟩
end Go.Proofs.YtlmhfgbkchnfbaaGreatDoor
namespace Go.Proofs.YtlmhfgbkchnfbaaGreatDoor
open Go Go.Al Go.En Go.Bo
section
section
variable {b:By} {s:RS} {r:By}
theorem vK{k:UInt8}(h:At b s ([k]++r)):bh b s=(k,⟨s.p+1,0⟩):=by
 have h1:=congrArg XS h.r;rw[Wu,Vp,VW]at h1;have j:b[s.p]? =co k:=by
  have:=congrArg (fun l=>l[0]?) h.r;simpa[Wl]using this
 unfold bh;rw[am h.f,am (by omega),Vr,j];rfl
theorem LP{x:By}{n:Nat}(h:At b s (x++r))(hn:x.length=n):Ax b n s=⟨s.p+n,0⟩:=by
 have h1:=congrArg XS h.r;rw[Wu,Vp]at h1;unfold Ax;rw[am h.f,am (by omega)]
theorem zc{x y:By}(h:At b s (x++y++r)):At b s (x++(y++r)):=by rwa[VF]at h
theorem Ug{n:Int}(h1: -2147483647<=n)(j:n<=2147483647):zz n<2 ^ 64:=by
 unfold zz;split<;>omega
theorem H9{v:cN}(j:bV v=0)(h:At b s (ll v++r)):dL b s=(0,v,⟨s.p+(ll v).length,0⟩):=by
 have hk:=OU j;unfold ll at h ⊢;have B:=vK (zc h);have y:=(zc h).go;have A:(UInt8.ofNat v.kind.toNat=1↔v.kind=1)∧(UInt8.ofNat v.kind.toNat=2↔v.kind=2):=by
  rcases hk with e|e<;>rw[e]<;>decide
 unfold dL;rw[B];simp only[ne_eq,not_true_eq_false,if_false];unfold bV at j;by_cases h1:v.kind=1
 .rw[am h1]at y j ⊢;split at j;rotate_left
  .cases j
  rename_i hb;have u:=Ib y hb.2.1 hb.2.2 (Ug hb.2.1 hb.2.2);rw[am (A.1.2 h1)];rw[VW]at u;rw[u];have:v=⟨1,v.num,Vx⟩:=by cases v;simp_all
  simp only[Vp,VW,<-this,WB]
 .rw[be h1]at y j ⊢;have x:v.kind=2:=by omega
  rw[am x]at j;split at j;rotate_left
  .cases j
  rename_i hb;have C:v.sym.data.toList.length=v.sym.size:=rfl;have u:=oE (most:=64) y (by omega) (by omega);rw[be (fun e=>h1 (A.1.1 e)),am (A.2.2 x)];rw[VW]at u;rw[u];have:v=⟨2,0,pO v.sym.data.toList⟩:=by cases v;simp_all [pO]
  simp only[Vp,VW,<-this,WB]
theorem xB: ∀(l:List cN) {s:RS} {r:By} (A:List cN),(∀v∈l,bV v=0)->At b s (l.flatMap ll++r)->gX b l.length s A=(0,A++l,⟨s.p+(l.flatMap ll).length,0⟩)
 | [],s,r,A,_,h=>by
  have:=h.f;cases s
  simp_all [gX]
 |v::l,s,r,A,hv,h=>by
  rw[Wt,VF]at h;rw[VX,gX,H9 (hv v (by simp)) h];simp only[ne_eq,not_true_eq_false,if_false];rw[xB l (A++ [v]) (fun x j=>hv x (by simp[j])) h.go];simp[WB]
end
theorem Iw{l:List cN}(hl:l.length<=8)(y: ∀v∈l,bV v=0):nC (jJ l)=(0,l):=by
 have j:=At.start (jJ l);have h1:At (jJ l) ⟨0,0⟩ (enc l.length++(l.flatMap ll++ [])):=by rw[We];exact j
 have u:=xB l [] y h1.go;have hu:=rM (most:=8) h1 hl (by omega);unfold nC;simp only[hu];rw[u];dsimp only;have x:iU (jJ l) ⟨0+(enc l.length).length+(l.flatMap ll).length,0⟩=0:=by
  unfold iU;rw[be];rintro⟨_,h⟩;rw[jJ,Vp]at h;have h:0+(enc l.length).length+(l.flatMap ll).length<_:=h;omega
 rw[be fun h=>h Z,be fun h=>h x,VU]
structure FrA (p:Prog) (b:By) (s:RS) (f:Fact):Prop where
 ok:ly p b s=is
 fact:ta b s=f
 next:(mT b s).2=⟨s.p+(fS f).length,0⟩
theorem TA{p:Prog}{f:Fact}(hf:okF p f=is){b:By}{s:RS}{r:By}(h:At b s (fS f++r)):FrA p b s f:=by
 have hF:=qT hf;have A:f.rel.size<=32:=(qS hf).1;have y:f.rel.data.toList.length=f.rel.size:=rfl;have ht:=yj hF.len hF.val;unfold fS at h;have h1:=zc h;have u:JH b s=(f.rel.data.toList,⟨s.p+(iE f.rel.data.toList).length,0⟩):=oE h1 (by omega) (by omega);have hT:mT b s=(jJ f.args,⟨s.p+(iE f.rel.data.toList).length+(iE (jJ f.args)).length,0⟩):=by
  unfold mT;rw[u];exact oE h1.go (by omega) (by omega)
 have x:=Iw hF.len hF.val;have j:ta b s=f:=by
  unfold ta;rw[hT,u,x];rw[am Z];show(⟨pO f.rel.data.toList,f.args⟩:Fact)=f;cases f;rfl
 refine⟨?_,j,by rw[hT,fS,Vp,WB]⟩;unfold ly;rw[j,hT,x];rw[decide_eq_true Z];exact hf
theorem EH{p:Prog}{b:By}: ∀(l:List (b6 Fact)) {s:RS} {r:By} (A:List (b6 Fact)),(∀x∈l,okF p x.2=is)->At b s (l.flatMap pb++r)->rE p b l.length s A=(is,A++l,⟨s.p+(l.flatMap pb).length,0⟩)
 | [],s,r,A,_,h=>by
  have:=h.f;cases s
  simp_all [rE]
 |(c,f)::l,s,r,A,hl,h=>by
  rw[Wt,VF]at h;have B:At b s ([if c=is then 1 else 0]++(fS f++(l.flatMap pb++r))):=by
   have h:=h;unfold pb at h;exact zc h
  have y:=vK B;have hR:=TA (hl (c,f) (by simp)) (s:=⟨s.p+1,0⟩) B.go;have C:(pb (c,f)).length=1+(fS f).length:=by rw[pb,Vp,VW]
  have j: ¬(((if c=is then 1 else 0:UInt8).toNat:Int)>1):=by cases c<;>decide
  have u:Jd b s=(c,f):=by
   unfold Jd;rw[y,hR.fact];cases c<;>rfl
  rw[VX,rE,y,hR.ok,hR.next,u,be (by simp[j])];rw[EH l (A++ [(c,f)]) (fun x D=>hl x (by simp[D])) (s:=⟨s.p+1+(fS f).length,0⟩) (by have:=h.go;rw[C,<-WB]at this;exact this)];simp only[Wt,Vp,C,VF,Yi];congr 3;show s.p+1+(fS f).length+_=_;omega
theorem MH{b:By}{n:Nat}(h:n=b.length):iU b ⟨n,0⟩=0:=by
 unfold iU;rw[be fun e=>by have:=e.2;dsimp only at this;omega]
theorem MZ{p:Prog}{l:List (b6 Fact)}(hl:l.length<=4096)(ho: ∀x∈l,okF p x.2=is):pc p (bM l) ⟨0,0⟩=(is,l,⟨(bM l).length,0⟩):=by
 have j:=At.start (bM l);have h1:At (bM l) ⟨0,0⟩ (enc l.length++(l.flatMap pb++ [])):=by rw[We];exact j
 have hu:=rM (most:=4096) h1 hl (by omega);have u:=EH (p:=p) l [] ho h1.go;unfold pc;rw[hu,u];rw[bM,Vp];simp
theorem Qr{a body r:By}{k:UInt8}{n:Nat}(hn:n<=2147483647)(hb:body.length<=4194304):PN (ei a k n body++r)=(k,⟨1,0⟩)∧(GF (ei a k n body++r)).1=n∧(JF (ei a k n body++r)).1=body∧La (ei a k n body++r)=⟨(ei a k n body).length,0⟩:=by
 obtain⟨b,j⟩: ∃b,b=ei a k n body++r:=⟨_,rfl⟩
 obtain⟨q,C⟩: ∃q,q=D2 (pN (tz k n body++j5 a)).toNat:=⟨_,rfl⟩
 have u:q.length=4:=by rw[C];rfl
 have hR:ei a k n body=[k]++(enc n++(iE body++(q++ [90]))):=by
  rw[ei,<-C,tz];simp only[VF]
 have x:At b ⟨0,0⟩ ([k]++(enc n++(iE body++(q++ [90]++r)))):=by
  have:=At.start b;rw[j,hR]at this;rw[j,hR];simpa only[VF]using this
 have A:PN b=(k,⟨0+1,0⟩):=vK x;have h1:At b ⟨0+1,0⟩ (enc n++(iE body++(q++ [90]++r))):=x.go;have B:GF b=(n,⟨0+1+(enc n).length,0⟩):=by unfold GF;rw[A];exact rM h1 hn (by omega)
 have y:=h1.go;have hT:JF b=(body,⟨0+1+(enc n).length+(iE body).length,0⟩):=by unfold JF;rw[B];exact oE y hb (by omega)
 have D:La b=⟨0+1+(enc n).length+(iE body).length+5,0⟩:=by
  unfold La;rw[hT];exact LP y.go (by rw[Vp,u];rfl)
 rw[<-j];refine⟨by rw[A],by rw[B],by rw[hT],?_⟩;rw[D,hR];simp only[Vp,VW,u];congr 1;omega
theorem B6{p:Prog}{s:JS}{l:List (b6 Fact)}(hk:s.k+1<=2147483647)(h0:iM aY (okF p) s.S l=0)(hb:(bM l).length<=4194304)(r:By):
  nP p s (ei s.a 165 (s.k+1) (bM l)++r)=co ⟨gn aY s.S l,s.a++ei s.a 165 (s.k+1) (bM l),s.k+1⟩:=by
 obtain⟨h1,j,u,x⟩:=Qr (a:=s.a) (r:=r) (k:=165) hk hb;obtain⟨hl,hok,_⟩:=jY.1 h0;unfold nP;rw[h1,j,u,x];unfold qE;rw[Y9 Z,am ⟨rfl,rfl⟩,am ⟨rfl,rfl⟩,MZ hl hok,am ⟨rfl,MH Z,h0⟩]
theorem take_nil(p:Prog)(s:JS):nP p s []=io:=by
 have h1:PN []=(0,⟨0,10⟩):=rfl;have j:GF []=(0,⟨0,10⟩):=by unfold GF cG;rw[h1];rfl
 have u:JF []=([],⟨0,10⟩):=by unfold JF ey;rw[j];rfl
 have x:La []=⟨0,10⟩:=by unfold La Ax;rw[u];rfl
 unfold nP qE;rw[x,be fun h=>absurd h.1 (by decide)]
end
end Go.Proofs.YtlmhfgbkchnfbaaGreatDoor
namespace Go.Proofs.YtlmhfgbkchnfbaaGreatDoor
open Go Go.Al Go.Proofs.Tryz Go.En Go.Bo
theorem HS(l:List (b6 Fact)):Pure prog 11 [CB,.iv (a7 3 l fb)] (.aZ [lQ,pI 1]):=by
 refine ah ab func11 Z (by decide) ntmps11 Z (by simp) Z ?_;refine gA Z ?_;refine Vo (fun zz=>?_) (fun zz=>?_)<;>(try(exact absurd zz (by decide)))
 refine gA Z (aI (by first|exact .inr Z|exact .inl Z) Z (.of_eq ?_));rfl
theorem QH:Pure prog 10 [CB] (.aZ [lQ,pI 1]):=by
 refine ah ab func10 Z (by decide) ntmps10 Z (by simp) Z ?_;refine gA Z ?_;refine Vo (fun zz=>?_) (fun zz=>?_)<;>(try(exact absurd zz (by decide)))
 refine gA Z (aI (by first|exact .inr Z|exact .inl Z) Z (.of_eq ?_));rfl
theorem L7:Pure prog 9 [CB] lQ:=by
 refine ah ab func9 Z (by decide) ntmps9 Z (by simp) Z ?_;refine gA Z ?_;refine Vo (fun zz=>?_) (fun zz=>?_)<;>(try(exact absurd zz (by decide)))
 refine gA Z (aI (by first|exact .inr Z|exact .inl Z) Z (.of_eq ?_));rfl
theorem L6:Pure prog 8 [CB] lQ:=by
 refine ah ab func8 Z (by decide) ntmps8 Z (by simp) Z ?_;refine gA Z ?_;refine Vo (fun zz=>?_) (fun zz=>?_)<;>(try(exact absurd zz (by decide)))
 refine gA Z (aI (by first|exact .inr Z|exact .inl Z) Z (.of_eq ?_));rfl
theorem HR:Pure prog 12 [CB] (pI 0):=by
 refine ah ab func12 Z (by decide) ntmps12 Z (by simp) Z ?_;refine gA Z ?_;refine Vo (fun zz=>?_) (fun zz=>?_)<;>(try(exact absurd zz (by decide)))
 refine gA Z (aI (by first|exact .inr Z|exact .inl Z) Z (.of_eq ?_));rfl
theorem QI:Pure prog 16 [CB] CB:=by
 refine ah ab func16 Z (by decide) ntmps16 Z (by simp) Z ?_;refine gA Z ?_;refine Vo (fun zz=>?_) (fun zz=>?_)<;>(try(exact absurd zz (by decide)))
 refine gA Z (aI (by first|exact .inr Z|exact .inl Z) Z (.of_eq ?_));rfl
abbrev L3:aq:=⟨#[97]⟩
abbrev vA:cN:=⟨1,1,Vx⟩
def fA:Fact:=⟨L3,[vA]⟩
def pA:Prog:=⟨[⟨L3,[1],⟨0,0⟩⟩],[]⟩
def l1:List (b6 Fact):=[(is,fA)]
theorem HB:pA.fit:=⟨by decide,by decide,fun r h=>nomatch h⟩
theorem AN:(iW pA).1=0:=by decide+kernel
theorem TD:okF pA fA=is:=by decide+kernel
theorem H7:iM aY (okF pA) [] l1=0:=by decide+kernel
theorem D8:gn aY [] l1=[fA]:=by decide+kernel
theorem IH:Go.Bo.eM aY (okF pA) [fA]:=⟨XK _ _,fun f h=>by rw[Vz.1 h];exact TD,by decide⟩
theorem Au(a:By)(k:UInt8)(n:Nat)(t:By):(ei a k n t).length=1+(enc n).length+(iE t).length+5:=by
 rw[ei,tz];simp only[Vp,VW];rfl
theorem Hu(a:By):(ei a 165 1 (bM l1)).length=16:=by rw[Au];decide+kernel
theorem Te(a:By):(ei a 166 1 (kC [fA])).length=15:=by rw[Au];decide+kernel
theorem Hs(a:By)(k:UInt8)(n:Nat)(t:By):(ei a k n t).getD ((ei a k n t).length-1) ci=90:=by
 rw[ei,Vp,VW,Nat.add_sub_cancel,Vr,VK (VA _),Ya];rfl
theorem Vh(a:By)(ha:a.length=13):Ju pA ⟨[],a,0⟩ l1=(0,⟨[fA],a++ei a 165 1 (bM l1),1⟩,ei a 165 1 (bM l1)):=by
 have h:=Hu a;unfold Ju;rw[be (fun e=>e H7),be (by show¬2147483647<=0;decide),be (by show¬4194304<a.length+(ei a 165 1 (bM l1)).length;omega)];dsimp only;rw[D8]
theorem Th:xo pA (fw pA++ei (fw pA) 165 1 (bM l1))=⟨[fA],fw pA++ei (fw pA) 165 1 (bM l1),1⟩:=by
 have hl:=oN pA;unfold xo;generalize fw pA=a at hl ⊢;have j:=Hu a;have hb:(bM l1).length<=4194304:=by decide+kernel
 have h1:=B6 (p:=pA) (s:=⟨[],a,0⟩) (l:=l1) (by show 0+1<=_;decide) H7 hb [];rw[D8,We]at h1;dsimp only at h1;rw[show(a++ei a 165 1 (bM l1)).length+1=28+1+1 by rw[Vp];omega,kS,List.drop_left' Z];rw[h1];dsimp only;rw[kS,WW (VA _),take_nil]
theorem Tg(a:By)(ha:13<=a.length):(qP ⟨[fA],a,1⟩).length=28:=by
 unfold qP;rw[Vp,V7,Te];show min 13 a.length+15=28;omega
theorem xp{i sz n j:Nat}{es:List (List PV)}(h: ∀e∈es,a8 i sz n e):(AO.row j es).uW i sz n:=h
theorem oM{α:Type}(i sz n j:Nat)(l:List α)(f:α->List IV):(aV j l f).uW i sz n:=xp fun e u=>by
 obtain⟨x,_,rfl⟩:=V5.1 u;exact HG _ _ _ _
theorem MV{i sz:Nat}{el:Nat->List IV}(l:By):(c6 l).map (nD i sz el)=c6 l:=by rw[Wx];exact WE fun _ _=>rfl
theorem oU{i sz n:Nat}{cs:List PV}{T:Option TypeId}(h:a8 i sz n cs):(AO.cells cs T).uW i sz n:=h
set_option maxHeartbeats 2000000 in
theorem LB(hS:fx):Pure prog 6 [] (pB is):=by
 have hC:=DN hS pA HB (by decide) (by decide) AN;have hy:=Vh (fw pA) (oN pA);have ho:=Th;have y:=Hu (fw pA);have Y:=oN pA;have u:(ei (fw pA) 165 1 (bM l1)).getD 0 ci=165:=rfl;have B:=Hs (fw pA) 165 1 (bM l1);rw[y]at B;have b0:(fw pA++ei (fw pA) 165 1 (bM l1)).take 13=fw pA:=Y9 Y;have J:=SR hS pA HB (by decide) (by decide) (fw pA++ei (fw pA) 165 1 (bM l1)) (by decide) (by rw[Vp,Y,y];decide) AN b0;rw[ho]at J;generalize fw pA=a0 at*
 generalize ei a0 165 1 (bM l1)=rc at*
 have I:=LD pA 0 ⟨[],a0,0⟩ (m:=[]) l1 b8.nil (Go.Bo.eM.nil _ _) (fun x hx=>by rw[Vz.1 hx];show 1<=_;decide) (by dsimp only;omega) (by dsimp only;omega) (by decide) (by decide) (by show 0<=_;decide);rw[hy]at I;have D:(a0++rc).length=29:=by rw[Vp];omega
 generalize eA:a0++rc=A at*
 have C:=Tg A (by omega);have G:=Cc [fA] [fA] (by decide) (fun f h=>by rw[Vz.1 h];show 1<=_;decide);rw[decide_eq_true Z]at G;refine ah ab func6 Z (by decide) ntmps6 Z (by simp) Z ?_
 (refine gM 21 Z ?_;refine cP (L:=[]) (t:=⟨[(1,.ptr 2 0),(2,.ptr 4 0)],[(0,co (aV 1 [(1:Int)] kg)),(1,co (.row 4 [[pS L3,.sl 0 0 1 1,pI 0,pI 0]])),(2,co (.cells [.sl 1 0 1 4,lQ])),(3,co (aV 3 [vA] cN.c)),(4,co (.cells [pS L3,.sl 3 0 1 3]))],5⟩) ?_ ?_;refine wk Z Z Z ?_ ?_ ?_;exact(bi (bi ac));exact(hR Z Z Z ⟨⟨_,rfl,.of_eq Z⟩,Vm Z,LF Z,⟨_,rfl,.of_eq Z⟩,Vm Z,rfl,hR Z Z Z ⟨⟨_,rfl,.of_eq Z⟩,Vm Z,rfl,ac⟩⟩);exact rfl)
 refine Ir 0 (fun k=>kg ([(1:Int)].getD k ci)) Z (cQ Z) (by simp[AF.lO,PV.ba]) ⟨oM _ _ _ _ _ _,xp (by simp[PV.ba,a8]),oU (by simp[PV.ba,a8]),oM _ _ _ _ _ _,oU (by simp[PV.ba,a8]),ac⟩ ?_;refine cP (L:=[]) (t:=⟨[(1,.ptr 2 0),(2,.ptr 4 0)],[(1,co (aV 4 pA.aD Decl.c)),(2,co (.cells [.sl 1 0 1 4,lQ])),(3,co (aV 3 [vA] cN.c)),(4,co (.cells [pS L3,.sl 3 0 1 3]))],5⟩) (wk Z Z Z (bi (bi ac)) (RG Z (show dx [[pS L3,.iv (.bK 1 1 fun k=>kg ([(1:Int)].getD (0+k) ci)),pI 0,pI 0]] [[pS L3,.iv (a7 1 [(1:Int)] kg),pI 0,pI 0]] from⟨⟨.refl _,.bK Z fun k _=>by rw[VL],.refl _,.refl _,ac⟩,ac⟩) Z ⟨⟨_,rfl,.of_eq Z⟩,Vm Z,rfl,hR Z Z Z ⟨⟨_,rfl,.of_eq Z⟩,Vm Z,rfl,ac⟩⟩) Z) ?_;refine jS 1 (fun k=>Decl.c (pA.aD.getD k ci)) Z (cQ Z) (by simp[AF.lO,PV.ba]) ⟨fG _ _ _ _ _ _,(by simp[AO.lO,a8,PV.ba,pA]),fG _ _ _ _ _ _,(by simp[AO.lO,a8,PV.ba]),ac⟩ ?_;refine cP (L:=[]) (t:=⟨[(1,.ptr 2 0),(2,.ptr 4 0)],[(2,co (aG pA.c)),(3,co (aV 3 [vA] cN.c)),(4,co (.cells [pS L3,.sl 3 0 1 3]))],5⟩) (wk Z Z Z (bi (bi ac)) ⟨⟨_,rfl,.cells ⟨.bK Z (fun k _=>by rw[VL]),.nil _ _,ac⟩⟩,Vm Z,rfl,hR Z Z Z ⟨⟨_,rfl,.of_eq Z⟩,Vm Z,rfl,ac⟩⟩ Z) ?_;refine jS 3 (fun k=>cN.c ([vA].getD k ci)) Z (cQ Z) (by simp[AF.lO,PV.ba]) ⟨(by simp[AO.lO,a8,PV.ba,aG,Prog.c]),fG _ _ _ _ _ _,(by simp[AO.lO,a8,PV.ba]),ac⟩ ?_;refine cP (L:=[]) (t:=⟨[(1,.ptr 2 0),(2,.ptr 4 0)],[(2,co (aG pA.c)),(4,co (aG fA.c))],5⟩) (wk Z Z Z (bi (bi ac)) ⟨⟨_,rfl,.of_eq Z⟩,Vm Z,rfl,⟨_,rfl,.cells ⟨.refl _,.bK Z (fun k _=>by rw[VL];rfl),ac⟩⟩,Vm Z,rfl,ac⟩ Z) ?_;refine gA Z (ak [] (hC) Z Z Z Z Z Z Z Z ?_);refine gA Z ?_;refine Vo (fun zz=>?_) (fun zz=>?_)<;>(try(exact absurd zz (by decide)))
 refine gA Z ?_;refine Vo (fun zz=>?_) (fun zz=>?_)<;>(try(exact absurd zz (by decide)))
 (refine gM 1 Z ?_;refine cP (L:=[]) (t:=⟨[(1,.ptr 2 0),(2,.ptr 4 0),(3,.ptr 8 0)],[(2,co (aG pA.c)),(4,co (aG fA.c)),(5,co (bx [])),(6,co (ch pA 0 5)),(7,co (ik a0)),(8,co (jC 6 7 a0 0))],9⟩) ?_ ?_;refine wk Z Z Z ?_ ?_ ?_;exact(bi (bi (bi ac)));exact⟨⟨_,rfl,.of_eq Z⟩,Vm Z,rfl,⟨_,rfl,.of_eq Z⟩,Vm Z,rfl,hM Z Z Z ⟨⟨_,rfl,.of_eq Z⟩,Vm Z,rfl,hR Z (aE _ _) Z ⟨⟨_,rfl,.of_eq Z⟩,Vm Z,rfl,ac⟩⟩⟩;exact rfl)
 refine gA Z (QY (t:=⟨[(1,.ptr 2 0),(2,.ptr 4 0),(3,.ptr 8 0),(32,.ptr 8 0),(35,.iv (a7 3 l1 fb))],[(2,co (aG pA.c)),(4,co (aG fA.c)),(5,co (bx [])),(6,co (ch pA 0 5)),(7,co (ik a0)),(8,co (jC 6 7 a0 0))],10⟩) (((To.wk (L:=[]) (t:=⟨[(1,.ptr 2 0),(2,.ptr 4 0),(3,.ptr 8 0),(32,.ptr 8 0),(35,.sl 9 0 1 3)],[(2,co (aG pA.c)),(4,co (aG fA.c)),(5,co (bx [])),(6,co (ch pA 0 5)),(7,co (ik a0)),(8,co (jC 6 7 a0 0)),(9,co (aV 3 l1 fb))],10⟩) (wk Z Z Z (bi (bi (bi (bi (bi ac))))) ⟨⟨_,rfl,.of_eq Z⟩,Vm Z,rfl,⟨_,rfl,.of_eq Z⟩,Vm Z,rfl,hM Z Z Z ⟨⟨_,rfl,.of_eq Z⟩,Vm Z,rfl,hR Z Z Z ⟨⟨_,rfl,.of_eq Z⟩,Vm Z,rfl,(RG Z (show dx [[PV.kb is,.iv (iS L3),.iv (a7 3 [vA] cN.c)]] [[pB is,.iv (iS fA.rel),.iv (a7 3 fA.args cN.c)]] from⟨⟨.kb _,.refl _,.refl _,ac⟩,ac⟩) Z ac)⟩⟩⟩ Z)).trans
  (To.row (s:=⟨[(1,.ptr 2 0),(2,.ptr 4 0),(3,.ptr 8 0),(32,.ptr 8 0),(35,.sl 9 0 1 3)],[(2,co (aG pA.c)),(4,co (aG fA.c)),(5,co (bx [])),(6,co (ch pA 0 5)),(7,co (ik a0)),(8,co (jC 6 7 a0 0)),(9,co (aV 3 l1 fb))],10⟩) 9 (fun k=>fb (l1.getD k ci)) Z (cQ Z) (by simp[AF.lO,PV.ba,l1]) ⟨oU (by simp[PV.ba,a8,Prog.c]),oU (by simp[PV.ba,a8,Fact.c]),ac,oU (by simp[PV.ba,a8]),oM _ _ _ _ _ _,oU (by simp[PV.ba,a8]),oM _ _ _ _ _ _,ac⟩)).trans
  (To.wk (L:=[]) (wk Z Z Z (bi (bi (bi (bi ⟨.bK Z (fun k _=>by rw[VL]),rfl,ac⟩)))) ⟨⟨_,rfl,.of_eq Z⟩,Vm Z,rfl,⟨_,rfl,.of_eq Z⟩,Vm Z,rfl,hM Z Z Z ⟨⟨_,rfl,.of_eq Z⟩,Vm Z,rfl,hR Z (MV _) Z ⟨⟨_,rfl,.of_eq Z⟩,Vm Z,rfl,ac⟩⟩⟩ Z))) ?_)
 refine gA Z (nr [5,6,7,8] I Z Z Z Z Z (by simp only[Vy,VQ,aF];rfl) Z ?_);rintro r h' n' (⟨_,m1,hk1,rfl,rfl,rfl⟩|⟨h,_⟩);rotate_left
 .exact absurd Z h
 refine⟨_,rfl,?_⟩
 (refine gM 6 Z ?_;refine cP (L:=[]) (t:=⟨[(1,.ptr 2 0),(2,.ptr 4 0),(3,.ptr 8 0),(5,.iv (a7 1 rc aO)),(6,pI 0)],[(2,co (aG pA.c)),(4,co (aG fA.c)),(8,co (jC 11 12 A 1)),(10,co (bx m1)),(11,co (ch pA 1 10)),(12,co (ik A))],13⟩) ?_ ?_;refine wk Z Z Z ?_ ?_ ?_;exact(bi (bi (bi (bi (bi ac)))));exact⟨⟨_,rfl,.of_eq Z⟩,Vm Z,rfl,⟨_,rfl,.of_eq Z⟩,Vm Z,rfl,⟨_,rfl,.of_eq Z⟩,Vm Z,rfl,hM Z Z Z ⟨⟨_,rfl,.of_eq Z⟩,Vm Z,rfl,hR Z (aE _ _) Z ac⟩⟩;exact rfl)
 refine gA Z (bc ab [10,11,12,8] (Ly pA 1 m1 A 1 (by omega) (by omega)) Z Z Z Z Z (by simp only[Vy,VQ,VT,VU,aF,bD];rfl) Z Z Z Z Z Z (by(repeat' (first|exact ac|exact rfl|exact ae.refl _|exact ae.bk (by assumption)|apply Vo))<;>first|omega|(simp only[Vu];omega)|(simp;done)|(simp;omega)) Z (by(repeat' (first|exact ac|exact rfl|exact ae.refl _|exact ae.bk (by assumption)|apply Vo))<;>first|omega|(simp only[Vu];omega)|(simp;done)|(simp;omega)) ?_);refine gA Z (Iu ab [] J Z Z Z Z Z Z Z Z Z Z Z (by(repeat' (first|exact ac|exact rfl|exact ae.refl _|exact ae.bk (by assumption)|apply Vo))<;>first|omega|(simp only[Vu];omega)|(simp;done)|(simp;omega)) ?_);rintro r h' n' ⟨m2,n2,hn2,hk2,rfl,rfl,rfl⟩;refine⟨_,rfl,_,rfl,(by(repeat' (first|exact ac|exact rfl|exact ae.refl _|exact ae.bk (by assumption)|apply Vo))<;>first|omega|(simp only[Vu];omega)|(simp;done)|(simp;omega)),?_⟩
 (refine gM 8 Z ?_;refine cP (L:=[]) (t:=⟨[(2,.ptr 4 0),(5,.iv (a7 1 rc aO)),(6,pI 0),(7,.ptr 16 0),(8,pI A.length),(9,pI 0)],[(4,co (aG fA.c)),(13,co (bx m2)),(14,co (ch pA n2 13)),(15,co (ik A)),(16,co (jC 14 15 A 1))],17⟩) ?_ ?_;refine wk Z Z Z ?_ ?_ ?_;exact(bi (bi (bi (bi (bi (bi ac))))));exact⟨⟨_,rfl,.of_eq Z⟩,Vm Z,rfl,hM Z Z Z ⟨⟨_,rfl,.of_eq Z⟩,Vm Z,rfl,hR Z (aE _ _) Z ⟨⟨_,rfl,.of_eq Z⟩,Vm Z,rfl,ac⟩⟩⟩;exact rfl)
 refine gA Z ?_;refine Vo (fun zz=>?_) (fun zz=>?_)<;>(try(first|exact absurd zz (by decide)|(simp[y,D,u,B,C]at zz;done)))
 refine gA Z ?_;refine Vo (fun zz=>?_) (fun zz=>?_)<;>(try(first|exact absurd zz (by decide)|(simp[y,D,u,B,C]at zz;done)))
 refine gA Z ?_;refine Vo (fun zz=>?_) (fun zz=>?_)<;>(try(first|exact absurd zz (by decide)|(simp[y,D,u,B,C]at zz;done)))
 refine gA Z ?_;refine Vo (fun zz=>?_) (fun zz=>?_)<;>(try(first|exact absurd zz (by decide)|(simp[y,D,u,B,C]at zz;done)))
 refine gA Z ?_;refine Vo (fun zz=>?_) (fun zz=>?_)<;>(try(first|exact absurd zz (by decide)|(simp[y,D,u,B,C]at zz;done)))
 refine gM 1 Z (go_cut 1 (fun(_:Unit)=>⟨[(5,.iv (a7 1 rc aO)),(7,.ptr 16 0),(10,pB is)],[(13,co (bx m2)),(14,co (ch pA n2 13)),(15,co (ik A)),(16,co (jC 14 15 A 1))],17⟩) Z ?_ ?_)
 .refine gA Z (QX ab Z Z Z (by(repeat' (first|exact ac|exact rfl|exact ae.refl _|exact ae.bk (by assumption)|apply Vo))<;>first|omega|(simp only[Vu];omega)|(simp;done)|(simp;omega)) Z Z (y5 [13,14,15,16] (DJ pA n2 A 1 hk2 IH.BY (fun f h=>by rw[Vz.1 h];show 1<=_;decide) (by show 1<=_;decide)) Z Z Z Z (by simp only[Vy,VQ,aF];rfl) Z Z) Z (by(repeat' (first|exact ac|exact rfl|exact ae.refl _|exact ae.bk (by assumption)|apply Vo))<;>first|omega|(simp only[Vu];omega)|(simp;done)|(simp;omega)) Z Z (CD ab Z Z) Z (by(repeat' (first|exact ac|exact rfl|exact ae.refl _|exact ae.bk (by assumption)|apply Vo))<;>first|omega|(simp only[Vu];omega)|(simp;done)|(simp;omega)) ?_ ?_)
  .refine gA Z (rk ab (asv:=[.iv (a7 2 [fA] Fact.c),.sl 17 0 1 2]) (Pure.nv G) Z Z Z Z Z (lf (i:=17) (sz:=2) (fun k=>Fact.c ([fA].getD k ci)) Z (cQ Z) (by simp[a8,PV.ba]) ⟨.refl _,.bK Z (fun k _=>by rw[VL]),ac⟩) Z (fun j o hj=>nomatch hj) Z Z Z Z Z (by(repeat' (first|exact ac|exact rfl|exact ae.refl _|exact ae.bk (by assumption)|apply Vo))<;>first|omega|(simp only[Vu];omega)|(simp;done)|(simp;omega)) Z (by(repeat' (first|exact ac|exact rfl|exact ae.refl _|exact ae.bk (by assumption)|apply Vo))<;>first|omega|(simp only[Vu];omega)|(simp;done)|(simp;omega)) ?_);refine gA Z (y7 () [] ?_);exact wk Z Z Z (bi (bi (bi ac))) (hM Z Z Z ⟨⟨_,rfl,.of_eq Z⟩,Vm Z,rfl,hR Z (aE _ _) Z ⟨⟨_,rfl,.of_eq Z⟩,Vm Z,rfl,ac⟩⟩) Z
  .refine gA Z (bc ab [13,14,15,16] (DJ pA n2 A 1 hk2 IH.BY (fun f h=>by rw[Vz.1 h];show 1<=_;decide) (by show 1<=_;decide)) Z Z Z Z Z (by simp only[Vy,VQ,VT,VU,aF,bD];rfl) Z Z Z Z Z Z (by(repeat' (first|exact ac|exact rfl|exact ae.refl _|exact ae.bk (by assumption)|apply Vo))<;>first|omega|(simp only[Vu];omega)|(simp;done)|(simp;omega)) Z (by(repeat' (first|exact ac|exact rfl|exact ae.refl _|exact ae.bk (by assumption)|apply Vo))<;>first|omega|(simp only[Vu];omega)|(simp;done)|(simp;omega)) ?_);refine gA Z (rk ab (asv:=[.iv (a7 2 [fA] Fact.c),.sl 17 0 1 2]) (Pure.nv G) Z Z Z Z Z (lf (i:=17) (sz:=2) (fun k=>Fact.c ([fA].getD k ci)) Z (cQ Z) (by simp[a8,PV.ba]) ⟨.refl _,.bK Z (fun k _=>by rw[VL]),ac⟩) Z (fun j o hj=>nomatch hj) Z Z Z Z Z (by(repeat' (first|exact ac|exact rfl|exact ae.refl _|exact ae.bk (by assumption)|apply Vo))<;>first|omega|(simp only[Vu];omega)|(simp;done)|(simp;omega)) Z (by(repeat' (first|exact ac|exact rfl|exact ae.refl _|exact ae.bk (by assumption)|apply Vo))<;>first|omega|(simp only[Vu];omega)|(simp;done)|(simp;omega)) ?_);refine gA Z (y7 () [] ?_);exact wk Z Z Z (bi (bi (bi ac))) (hM Z Z Z ⟨⟨_,rfl,.of_eq Z⟩,Vm Z,rfl,hR Z (aE _ _) Z ⟨⟨_,rfl,.of_eq Z⟩,Vm Z,rfl,ac⟩⟩) Z
 intro _;have hP:=SQ pA n2 ⟨[fA],A,1⟩ hk2 IH (by show A.length<=_;omega) (by show 13<=A.length;omega) (by show 1<=_;decide);unfold Uz at hP;generalize qP ⟨[fA],A,1⟩=P at hP C;refine gA Z (nr [13,14,15,16] hP Z Z Z Z Z (by simp only[Vy,VQ,aF];rfl) Z ?_);rintro r h' n' (⟨_,rfl,rfl,rfl⟩|⟨h,_⟩);rotate_left
 .exact absurd (by rw[C];decide) h
 refine⟨_,rfl,?_⟩
 (refine gM 6 Z ?_;refine cP (L:=[]) (t:=⟨[(5,.iv (a7 1 rc aO)),(7,.ptr 16 0),(10,pB is),(11,.iv (a7 1 P aO)),(12,pI 0)],[(13,co (bx m2)),(14,co (ch pA n2 13)),(16,co (jC 14 17 P 1)),(17,co (ik P))],18⟩) ?_ ?_;refine wk Z Z Z ?_ ?_ ?_;exact(bi (bi (bi (bi (bi ac)))));exact(hM Z Z Z ⟨⟨_,rfl,.of_eq Z⟩,Vm Z,rfl,⟨_,rfl,.of_eq Z⟩,Vm Z,rfl,hR Z (aE _ _) Z ac⟩);exact rfl)
 refine gA Z ?_;refine Vo (fun zz=>?_) (fun zz=>?_)<;>(try(first|exact absurd zz (by decide)|(simp[y,D,u,B,C]at zz;done)))
 refine gA Z ?_;refine Vo (fun zz=>?_) (fun zz=>?_)<;>(try(first|exact absurd zz (by decide)|(simp[y,D,u,B,C]at zz;done)))
 refine gA Z ?_;refine Vo (fun zz=>?_) (fun zz=>?_)<;>(try(first|exact absurd zz (by decide)|(simp[y,D,u,B,C]at zz;done)))
 refine gA Z (ak [13,14,17,16] (G7 pA n2 m2 P 1) Z Z Z Z Z (by simp only[Vy,VQ,VT,VU,aF,bD];rfl) Z Z ?_);refine gA Z ?_;refine Vo (fun zz=>?_) (fun zz=>?_)<;>(try(exact absurd zz (by decide)))
 refine gA Z ?_;refine Vo (fun zz=>?_) (fun zz=>?_)<;>(try(rw[show rc.getD (XP 0) ci=165 from u]at zz;exact absurd zz (by decide)))
 refine gA Z (aI (by first|exact .inr Z|exact .inl Z) Z (.of_eq ?_));show pB (kw (((rc.getD 15 ci).toNat:Int)=90))=_;rw[show rc.getD 15 ci=90 from B];rfl
theorem Ag(hS:fx)(l:List (b6 Fact)):Pure prog 5 [.iv (a7 3 l fb)] (pB is):=by
 refine ah ab func5 Z (by decide) ntmps5 Z (by simp) Z ?_;refine gA Z (aB (LB hS) Z Z Z Z Z Z ?_);refine gA Z (aB (HS l) Z Z Z Z Z Z ?_);refine gA Z (aB (QH) Z Z Z Z Z Z ?_);refine gA Z ?_;refine Vo (fun zz=>?_) (fun zz=>?_)<;>(try(exact absurd zz (by decide)))
 refine gA Z ?_;refine Vo (fun zz=>?_) (fun zz=>?_)<;>(try(exact absurd zz (by decide)))
 refine gA Z ?_;refine Vo (fun zz=>?_) (fun zz=>?_)<;>(try(exact absurd zz (by decide)))
 refine gA Z ?_;refine Vo (fun zz=>?_) (fun zz=>?_)<;>(try(exact absurd zz (by decide)))
 refine gA Z ?_;refine Vo (fun zz=>?_) (fun zz=>?_)<;>(try(exact absurd zz (by decide)))
 refine gA Z (aB (L7) Z Z Z Z Z Z ?_);refine gA Z ?_;refine Vo (fun zz=>?_) (fun zz=>?_)<;>(try(exact absurd zz (by decide)))
 refine gA Z (aB (L6) Z Z Z Z Z Z ?_);refine gA Z ?_;refine Vo (fun zz=>?_) (fun zz=>?_)<;>(try(exact absurd zz (by decide)))
 refine gA Z (aB (HR) Z Z Z Z Z Z ?_);refine gA Z ?_;refine Vo (fun zz=>?_) (fun zz=>?_)<;>(try(exact absurd zz (by decide)))
 refine gA Z (aB (QI) Z Z Z Z Z Z ?_);refine gA Z (aI (by first|exact .inr Z|exact .inl Z) Z (.of_eq ?_));rfl
end Go.Proofs.YtlmhfgbkchnfbaaGreatDoor
