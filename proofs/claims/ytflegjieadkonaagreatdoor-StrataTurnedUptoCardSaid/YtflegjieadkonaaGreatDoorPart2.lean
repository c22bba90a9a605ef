/-
  What the proofs of the claims need: part 2 of 7.
-/
import Derived.Test.YtflegjieadkonaaGreatDoorPart1
import Derived.Laws.Append
import Derived.Maps.RangeRun
import Derived.Deep.Slices
import Derived.ReadAgain
import Derived.ChangeStays
import Derived.ChangeSame
import Derived.WideShapes
import Derived.RowKit
open Array renaming eraseIdxIfInBounds→Ze,getD_eq_getD_getElem?→Wm,getElem?_append_left→Xq,getElem?_eq_getElem→Xa,getElem?_eq_some_iff→Xz,getElem?_modify→W8,getElem?_push→Yq,getElem?_setIfInBounds→W1,getElem?_toList→Xh,mem_filter→ZC,size_append→YU,toArray_toList→XG
open Bool renaming and_eq_true→WN,eq_false_iff→XD,not_eq_true'→W5,or_eq_false_iff→XY,or_eq_true→Xl
open Classical renaming choose→YI,choose_spec→X5
open List.Nodup renaming length_le_of_subset→Xm
open List renaming all_eq_true→WX,any_eq_false→Xg,any_eq_true→Xr,append_assoc→Wv,append_nil→Xo,ext_getElem?→Yo,flatten_cons→Zc,foldl_append→Ye,getD_eq_getElem?_getD→Ws,getElem?_append_left→WH,getElem?_append_right→WJ,getElem?_drop→Xx,getElem?_eq_getElem→Wt,getElem?_eq_none→XU,getElem?_eq_some_iff→Wr,getElem?_map→Ww,getElem?_of_mem→W6,getElem?_range→Yr,getElem?_set→XP,getElem?_take→W7,getElem?_toArray→Xv,getElem_mem→Xj,length_append→Wn,length_cons→W2,length_drop→X8,length_map→W3,length_nil→X4,map_append→Wq,map_cons→WI,map_nil→Xd,mem_append_left→W0,mem_append_right→XV,mem_cons→WG,mem_cons_of_mem→WE,mem_filter→WW,mem_map→W4,mem_of_getElem?→WY,mem_range→WZ,mem_singleton→Wy,nil_append→Yg,nodup_cons→Xu,nodup_nil→Xk,range→WL,take_append_drop→X6,take_of_length_le→WB,take_succ_eq_append_getElem→YV
open Nat renaming add_assoc→XZ,add_mul→Xw,add_zero→Yv,beq→WO,ble→YG,ble_eq_true_of_le→Xi,blt→WU,eq_of_beq_eq_true→WK,eq_zero_or_pos→Yx,le_of_ble_eq_true→Wj,le_of_not_lt→Xc,le_refl→Wz,le_trans→WV,lt_of_lt_of_le→X7,lt_or_ge→W9,lt_succ_of_lt→X3,lt_succ_self→XT,mul_le_mul_right→WR,not_lt_zero→Yz,zero_add→WQ,zero_le→WC,zero_mul→X0
open Option renaming map_eq_some_iff→Wx
open Option.some renaming inj→Xt,injEq→Wo
open Prod.mk renaming injEq→WA
namespace Go.Al
section
variable {M:Mem} {N:Nm} {w:World} {n:Nat} {h:AH}
theorem ba {i:Nat} {h:AH}: ∀j o,AH.get ((i,none)::h) j=some o→j≠i∧h.get j=some o:=by
 intro j o hj;rw[AH.aA] at hj;split at hj
 ·cases hj
 ·rename_i hne;exact⟨hne,hj⟩
theorem Rel.move (hr:Rel M N (· <n) h w) {i:Nat} {o0:AO} (hi:h.get i=some o0) (h0:o0.real=true) (w':World) (o:AO) (hos:w'.os=w.os) (htape:w'.tape=w.tape) (hout:w'.output=w.output) (hsz:w'.heap.size=w.heap.size)
  (hk: ∀b,b≠N.aG i→w'.heap[b]? =w.heap[b]?) (ho:OR M (N.with n (N.aG i) (N.ext i)) (· <n+1) w' n o):
  Ext M N (· <n) h w M (N.with n (N.aG i) (N.ext i)) (· <n+1) ((n,some o)::(i,none)::h) w'∧Rel M (N.with n (N.aG i) (N.ext i)) (· <n+1) ((n,some o)::(i,none)::h) w':=by
 have ha:=N.cW n (N.aG i) (N.ext i)
 have hget: ∀j p,AH.get ((n,some o)::(i,none)::h) j=some p→(j=n∧p=o)∨(j<n∧j≠i∧h.get j=some p):=by
  intro j p hj;rw[AH.aA] at hj;split at hj
  ·rename_i hji;exact .inl ⟨hji,by simpa using hj.symm⟩
  ·obtain⟨h1,h2⟩:=ba j p hj;exact .inr ⟨hr.used j p h2,h1,h2⟩
 have hin:=hr.used i o0 hi;refine⟨⟨hos,htape,hout,by omega,fun b hb hn=>hk b (fun e=>hn i o0 hi h0 e.symm), .refl _,fun b c h1 h2=>by simp[h1] at h2,ha,fun i hi=>by omega,fun j p hj hre=>?_⟩,?_⟩
 ·rcases hget j p hj with⟨rfl,rfl⟩|⟨h1,h2,h3⟩
  ·exact .inr ⟨i,o0,hi,h0,by simp⟩
  ·exact .inr ⟨j,p,h3,hre,(ha.aG j h1).symm⟩
 ·refine⟨fun b c hb=>?_,fun j p hj=>?_,fun j p hj hre=>?_,fun j p hj=>?_,fun j k p q hj hk' hp hq hjk=>?_⟩
  ·have hne:b≠N.aG i:=fun e=>by
    have:=hr.dA i o0 hi h0;rw[←e,hb] at this;simp at this
   exact(hr.cZ b c hb).mono (hk b hne)
  ·rcases hget j p hj with⟨rfl,rfl⟩|⟨h1,h2,h3⟩<;>omega
  ·rcases hget j p hj with⟨rfl,rfl⟩|⟨h1,h2,h3⟩
   ·simpa using hr.dA i o0 hi h0
   ·rw[ha.aG j h1];exact hr.dA j p h3 hre
  ·rcases hget j p hj with⟨rfl,rfl⟩|⟨h1,h2,h3⟩
   ·exact ho
   ·cases hre:p.real with
    |true=>exact(hr.obj j p h3).mono (.refl _) ha (fun i hi=>by omega) h1 (hk _ (fun e=>h2 (hr.inj j i p o0 h3 hi hre h0 e)))
    |false=>
     cases p with
     |row sz es=>cases es with
      |nil=>exact .inl rfl
      |cons=>cases hre
     |bx l T=>cases l with
      |nil=>exact .inl rfl
      |cons=>cases hre
     |_=>cases hre
  ·rcases hget j p hj with⟨rfl,rfl⟩|⟨h1,h2,h3⟩<;>rcases hget k q hk' with⟨rfl,rfl⟩|⟨h4,h5,h6⟩
   ·rfl
   ·rw[ha.aG k h4] at hjk;simp at hjk;exact absurd (hr.inj _ _ _ _ hi h6 h0 hq hjk).symm h5
   ·rw[ha.aG j h1] at hjk;simp at hjk;exact absurd (hr.inj _ _ _ _ h3 hi hp h0 hjk) h2
   ·rw[ha.aG j h1,ha.aG k h4] at hjk;exact hr.inj _ _ _ _ h3 h6 hp hq hjk
theorem Rel.del {U:Nat→Prop} (hr:Rel M N U h w) (i:Nat):Rel M N U ((i,none)::h) w:=
 ⟨hr.cZ,fun j o hj=>hr.used j o (ba j o hj).2,fun j o hj hre=>hr.dA j o (ba j o hj).2 hre,fun j o hj=>hr.obj j o (ba j o hj).2,
  fun j k o p hj hk=>hr.inj j k o p (ba j o hj).2 (ba k p hk).2⟩
theorem Ext.del {M':Mem} {N':Nm} {U U':Nat→Prop} {h':AH} {w':World} (hx:Ext M N U h w M' N' U' h' w') (i:Nat):Ext M N U h w M' N' U' ((i,none)::h') w':=
 ⟨hx.os,hx.tape,hx.output,hx.size,hx.gd,hx.ow,hx.gn,hx.nm,hx.ule,fun j o hj hre=>hx.fQ j o (ba j o hj).2 hre⟩
theorem Rel.swap {U:Nat→Prop} {i j:Nat} (hij:i≠j) {o p:Option AO} (hr:Rel M N U ((i,o)::(j,p)::h) w):Rel M N U ((j,p)::(i,o)::h) w:=by
 have e: ∀k,AH.get ((j,p)::(i,o)::h) k=AH.get ((i,o)::(j,p)::h) k:=by
  intro k;simp only[AH.aA];by_cases h1:k=i
  ·subst h1;rw[if_neg hij,if_pos rfl,if_pos rfl]
  ·simp[h1]
 exact⟨hr.cZ,fun k o hk=>hr.used k o (by rw[←e];exact hk),fun k o hk=>hr.dA k o (by rw[←e];exact hk),fun k o hk=>hr.obj k o (by rw[←e];exact hk),
  fun k l o p hk hl=>hr.inj k l o p (by rw[←e];exact hk) (by rw[←e];exact hl)⟩
end
inductive Src (h:AH) (sz:Nat):PV→List (List PV)→Prop
 |cz (n:Nat) (el:Nat→List IV):Src h sz (.iv (.cz sz n el)) ((WL n).map fun k=>(el k).map .iv)
 |row (j off n:Nat) (fs:List (List PV)) (hj:h.get j=some (.row sz fs)) (hle:off+n≤fs.length):Src h sz (.sl j off n sz) ((fs.drop off).take n)
 |nil:Src h sz (.iv (.v (.slice none 0 0))) []
theorem kM {sz:Nat}: ∀{es:List (List PV)},(∀(k:Nat) (e:List PV),es[k]? =some e→e.length=sz)→ ∀j p,es.flatten[j]? =some p→ ∃k e i,es[k]? =some e∧e[i]? =some p∧j=k*sz+i
 | [],_,j,p,h=>by simp at h
 |e::r,hl,j,p,h=>by
  rw[Zc] at h;have he:=hl 0 e rfl;rcases W9 j e.length with hj|hj
  ·rw[WH hj] at h
   exact⟨0,e,j,rfl,h,by simp⟩
  ·rw[WJ hj] at h
   obtain⟨k,e',i,h1,h2,h3⟩:=kM (fun k e h=>hl (k+1) e (by simpa using h)) _ p h;exact⟨k+1,e',i,by simpa using h1,h2,by rw[Xw];omega⟩
theorem kL {sz:Nat}: ∀{es:List (List PV)},(∀(k:Nat) (e:List PV),es[k]? =some e→e.length=sz)→es.flatten.length=es.length*sz
 | [],_=>by simp
 |e::r,hl=>by
  rw[Zc,Wn,kL (fun k e h=>hl (k+1) e (by simpa using h)),hl 0 e rfl,W2,Xw];omega
theorem my {sz:Nat}: ∀{es:List (List PV)},(∀(k:Nat) (e:List PV),es[k]? =some e→e.length=sz)→ ∀k e i p,es[k]? =some e→e[i]? =some p→es.flatten[k*sz+i]? =some p
 | [],_,k,e,i,p,h,_=>by simp at h
 |e0::r,hl,k,e,i,p,h,hi=>by
  rw[Zc];have he:=hl 0 e0 rfl
  cases k with
  |zero=>
   simp at h;subst h
   rw[X0,WQ,WH (Wr.1 hi).1];exact hi
  |succ k=>
   rw[WJ (by rw[he,Xw];omega)];rw[show(k+1)*sz+i-e0.length=k*sz+i by rw[he,Xw];omega];exact my (fun k e h=>hl (k+1) e (by simpa using h)) k e i p (by simpa using h) hi
section
variable {P:Program} {ty:Ty} {M:Mem} {N:Nm} {w:World} {nt:Nat} {s:AS} {a:Act}
theorem Src.ok {sz:Nat} {p:PV} {news:List (List PV)} (hs:Src s.h sz p news) (hf:Fits M N s nt a w) {y:Value} (hy:VR M N (· <s.nx) p y):
  (∀(k:Nat) (e:List PV),news[k]? =some e→e.length=sz)∧ ∃ao c,y= .slice ao news.length c∧(news≠ []→ ∃b off,ao=some ⟨b,off,none⟩∧
   ∀j p,news.flatten[j]? =some p→ ∃u,w.cell? ⟨b,off+j,none⟩=some u∧VR M N (· <s.nx) p u):=by
 cases hs with
 |cz n el=>
  cases hy with
  |iv _ _ hi=>
   cases hi with
   |gp _ _ ao c=>exact⟨by simp,ao,c,by simp,by simp⟩
   |cz _ _ _ b off c hn hc hl hm hr=>
    have hlen: ∀(k:Nat) (e:List PV),((WL n).map fun k=>(el k).map PV.iv)[k]? =some e→e.length=sz:=by
     intro k e he;rw[Ww,Wx] at he;obtain⟨k',hk',rfl⟩:=he;obtain⟨h1,h2⟩:=Wr.1 hk';simp at h2 h1;subst h2;simpa using hl k h1
    refine⟨hlen,_,c,by simp,fun _=>⟨b,off,rfl,fun j p hp=>?_⟩⟩;obtain⟨k,e,i,h1,h2,rfl⟩:=kM hlen j p hp;rw[Ww,Wx] at h1;obtain⟨k',hk',rfl⟩:=h1;obtain⟨h3,h4⟩:=Wr.1 hk';simp at h4 h3;subst h4;rw[Ww,Wx] at h2;obtain⟨q,hq,rfl⟩:=h2;have hi:i<sz:=by rw[←hl k h3];exact(Wr.1 hq).1
    have h5:=hm k i h3 hi
    cases hv:M.cell b (off+k*sz+i) with
    |none=>simp[hv] at h5
    |some u=>
     refine⟨u,by rw[←XZ];exact hf.1.Pu hv, .iv _ _ ?_⟩;have:=hr k i q h3 hq
     rw[hv] at this;exact this
 |row j off n fs hj hle=>
  have hfs:=hf.1.obj j _ hj
  have base:(∀(k:Nat) (e:List PV),fs[k]? =some e→e.length=sz)→ ∀(k:Nat) (e:List PV),((fs.drop off).take n)[k]? =some e→e.length=sz:=by
   intro h k e he;rw[W7] at he;split at he
   ·rw[Xx] at he;exact h _ e he
   ·cases he
  cases hy with
  |lQ _ _ hU=>exact⟨by simp,none,0,by simp,by simp⟩
  |sle _ _ cap hU hc he=>exact⟨by simp,some ⟨N.aG j,0,none⟩,cap,by simp,by simp⟩
  |sl _ _ _ _ cap hU h0 hl hc he=>
   rcases hfs with rfl|⟨hsz,c,T,g1,g2,g3,g4,g5⟩
   ·simp at hle;omega
   refine⟨base g4,_,cap,by simp;rw[Nat.min_eq_left (by omega)],fun _=>⟨N.aG j,off*sz,rfl,fun i p hp=>?_⟩⟩;obtain⟨k,e,i',h1,h2,rfl⟩:=kM (base g4) i p hp;rw[W7] at h1;split at h1
   ·rename_i hk
    rw[Xx] at h1;have hi':i'<sz:=by rw[←g4 _ e h1];exact(Wr.1 h2).1
    have hko:off+k<fs.length:=(Wr.1 h1).1
    have hlt:(off+k)*sz+i'<c.size:=by
     have:(off+k+1)*sz≤fs.length*sz:=WR _ hko;rw[Xw] at this;omega
    refine⟨c.getD ((off+k)*sz+i') undef,?_,g5 _ e _ p h1 h2⟩;rw[show off*sz+(k*sz+i')=(off+k)*sz+i' by rw[Xw];omega];simp[World.cell?,g1,Wm,hlt]
   ·cases h1
 |nil=>
  cases hy with
  |iv _ _ hi=>cases hi with
   |v=>exact⟨by simp,none,0,rfl,by simp⟩
theorem rn {l:List PV} {b off:Nat} (h: ∀j p,l[j]? =some p→ ∃u,w.cell? ⟨b,off+j,none⟩=some u∧VR M N (· <s.nx) p u):
  ∃vs:List Value,vs.length=l.length∧(∀(j:Nat) (u:Value),vs[j]? =some u→w.cell? ((⟨b,off,none⟩:Addr).add j)=some u)∧ ∀(j:Nat) (p:PV),l[j]? =some p→VR M N (· <s.nx) p (vs.getD j undef):=by
 refine⟨(WL l.length).map fun j=>(w.cell? ⟨b,off+j,none⟩).getD undef,by simp,fun j u hu=>?_,fun j p hp=>?_⟩
 ·rw[Ww,Wx] at hu
  obtain⟨j',hj',rfl⟩:=hu;obtain⟨h1,h2⟩:=Wr.1 hj';simp at h1 h2;subst h2;obtain⟨u,hu,_⟩:=h j _ (Wt h1);rw[dZ,hu];rfl
 ·have hlt:j<l.length:=(Wr.1 hp).1
  obtain⟨u,hu,hv⟩:=h j p hp;rw[Ws];simp[hlt,hu,hv]
theorem gy (t ty e:TypeId) (i:TypeInfo) (ht:P.underlying t=some (.slice e)) (hi:P.info? e=some i) (T:TypeId)
  (g sLen sCap:Nat) (cur:Array Value) (hg:w.heap[g]? =some (.cells cur T (0,0)))
  (a:Addr) (m c:Nat) (news:List Value) (hl:news.length=m*i.size) (hnews: ∀(j:Nat) (u:Value),news[j]? =some u→w.cell? (a.add j)=some u) (h1: ∀u∈news,u.oneCell'=true)
  (hroom:sLen+m≤sCap) (hfit:sLen*i.size+news.length≤cur.size):
  (Builtin.append_ #[t,t] ty #[.slice (some ⟨g,0,none⟩) sLen sCap, .slice (some a) m c]).run P w=
   .ok (.slice (some ⟨g,0,none⟩) (sLen+m) sCap) (w.setRow g (cur.toList.take (sLen*i.size)++news++cur.toList.drop (sLen*i.size+news.length)).toArray):=by
 have hf:=run_firstCells_some (P:=P) w i.size m a m c news hl hnews;have hst:=run_storeCells_at P g (sLen*i.size) T news 0 cur w hg (by simpa using hfit) h1;simp only[Yv] at hst;simp[Builtin.append_,run_underlying ht,sizeOf,typeInfo,hi,Builtin.lenOf,hroom,hf,Addr.add_lit,hst]
theorem fC (t ty e:TypeId) (i:TypeInfo) (ht:P.underlying t=some (.slice e)) (hi:P.info? e=some i) (so:Option Addr) (sLen sCap:Nat) (hle:sLen≤sCap) (ao:Option Addr) (c:Nat) (hs:so=none∨ ∃b o,so=some ⟨b,o,none⟩):
  (Builtin.append_ #[t,t] ty #[.slice so sLen sCap, .slice ao 0 c]).run P w= .ok (.slice so sLen sCap) w:=by
 have hf:(Builtin.firstCells i.size 0 (.slice ao 0 c)).run P w= .ok #[] w:=by
  cases ao with
  |none=>simp[Builtin.firstCells]
  |some a=>simp[Builtin.firstCells,loadCells,loadCellsFrom]
 rcases hs with rfl|⟨b,o,rfl⟩
 ·simp[Builtin.append_,run_underlying ht,sizeOf,typeInfo,hi,Builtin.lenOf,hle,hf]
 ·simp[Builtin.append_,run_underlying ht,sizeOf,typeInfo,hi,Builtin.lenOf,hle,hf,storeCells]
def ot (s:AS) (i sz:Nat) (es news:List (List PV)):AS:=match s with|⟨f,h,n⟩=>⟨f,(n,some (.row sz (es++news)))::(i,none)::h,n+1⟩
theorem EF (s:AS) (i sz:Nat) (es news:List (List PV)):(ot s i sz es news).h=(s.nx,some (.row sz (es++news)))::(i,none)::s.h:=by cases s;rfl
theorem Sv (s:AS) (i sz:Nat) (es news:List (List PV)):(ot s i sz es news).f=s.f:=by cases s;rfl
theorem gQ (s:AS) (i sz:Nat) (es news:List (List PV)):(ot s i sz es news).nx=s.nx+1:=by cases s;rfl
theorem jC {i sz:Nat} {es news:List (List PV)} {M':Mem} {N':Nm} {w':World} (hf:Fits M N s nt a w) (hx:Ext M N (· <s.nx) s.h w M' N' (· <s.nx+1) ((s.nx,some (.row sz (es++news)))::(i,none)::s.h) w')
  (hr:Rel M' N' (· <s.nx+1) ((s.nx,some (.row sz (es++news)))::(i,none)::s.h) w'):
  Ext M N (· <s.nx) s.h w M' N' (· <(ot s i sz es news).nx) (ot s i sz es news).h w'∧Fits M' N' (ot s i sz es news) nt a w':=by
 rw[EF,gQ];refine⟨hx,?_,?_,hf.2.2⟩
 ·rw[EF,gQ];exact hr
 ·rw[Sv,gQ];exact hf.2.1.ext hx
theorem Ext.swap {U U':Nat→Prop} {h h':AH} {M':Mem} {N':Nm} {w':World} {i j:Nat} (hij:i≠j) {o p:Option AO} (hx:Ext M N U h w M' N' U' ((i,o)::(j,p)::h') w'):Ext M N U h w M' N' U' ((j,p)::(i,o)::h') w':=by
 have e: ∀k,AH.get ((j,p)::(i,o)::h') k=AH.get ((i,o)::(j,p)::h') k:=by
  intro k;simp only[AH.aA];by_cases h1:k=i
  ·subst h1;rw[if_neg hij,if_pos rfl,if_pos rfl]
  ·simp[h1]
 exact⟨hx.os,hx.tape,hx.output,hx.size,hx.gd,hx.ow,hx.gn,hx.nm,hx.ule,fun k o hk=>hx.fQ k o (by rw[←e];exact hk)⟩
theorem Su (hty:bE P ty) {o:Oper} {x y:Operand} {t u:TypeId} (ho:o.op= .call ⟨.builtin .append, #[x,y], #[t,t]⟩) {e eu:aB} (ht:ty t=some e) (hk:e.k= .ai (.slice u)) (hu:ty u=some eu)
  {i len sz:Nat} {es news:List (List PV)} {py:PV} (hx:ev s.f x= .sl i 0 len sz) (hi:s.h.get i=some (.row sz es)) (hlen:es.length=len) (hsz:eu.size=sz) (hz:eu.zero.cells.size=sz) (hs0:0<sz)
  (hpy:ev s.f y=py) (hy:Src s.h sz py news) (hone: ∀e∈news,fv e=true) (hb:(len+news.length)*eu.bytes≤140737488355328) (hb2:len+news.length≤140737488355328)
  {s':AS} (hp:putDst nt o (.sl s.nx 0 (len+news.length) sz) (ot s i sz es news)=some s'):OT P nt o s (fun t=>t=s'):=by
 refine OT.value hp fun M N a w hf=>?_;subst hsz;obtain⟨⟨ii,hii,his,hib,hiz⟩,_⟩:=hty u _ hu
 have hut:P.underlying t=some (.slice u):=by
  have:=(hty t _ ht).2.1;rw[hk] at this;exact this.1
 have hvx:=aS hf.2.1 x;rw[hx] at hvx;have hvy:=aS hf.2.1 y;rw[hpy] at hvy;obtain⟨hnl,ao,c,hyv,hycells⟩:=hy.ok hf hvy
 have hexec: ∀v w',(Builtin.append_ #[t,t] o.type #[a.eval x,a.eval y]).run P w= .ok v w'→(execOp a.eval o).run P w= .ok (.value v) w':=by
  intro v w' h;simp only[execOp,ho,resolve];simp[invoke,builtin,h]
 rw[hyv] at hexec;have hin:i<s.nx:=hf.1.used i _ hi;have hne:s.nx≠i:=by omega
 have hor:=hf.1.obj i _ hi;have hobytes:(len+news.length)*ii.bytes≤140737488355328:=by rw[hib];exact hb
 have fresh: ∀(olds vs:List Value) (cap:Nat),olds.length=es.length*eu.size→vs.length=news.length*eu.size→(∀(k:Nat) (e:List PV) (j:Nat) (p:PV),es[k]? =some e→e[j]? =some p→VR M N (· <s.nx) p (olds.getD (k*eu.size+j) undef))→
   (∀(k:Nat) (e:List PV),es[k]? =some e→e.length=eu.size)→(∀(j:Nat) (p:PV),news.flatten[j]? =some p→VR M N (· <s.nx) p (vs.getD j undef))→len+news.length≤cap→cap≤maxLen→0<len+news.length→
   ∀z:Array Value,z=olds.toArray++vs.toArray++Builtin.zeroCells eu.zero.cells (cap-(len+news.length))→
   ∃M' N',Ext M N (· <s.nx) s.h w M' N' (· <(ot s i eu.size es news).nx) (ot s i eu.size es news).h (w.drew.alloc (.cells z u))∧Fits M' N' (ot s i eu.size es news) nt a (w.drew.alloc (.cells z u))∧
    VR M' N' (· <(ot s i eu.size es news).nx) (.sl s.nx 0 (len+news.length) eu.size) (.slice (some ⟨w.heap.size,0,none⟩) (len+news.length) cap):=by
  intro olds vs cap hol hvl hvo hel hvn hcap hcm hpos z hzz
  have hzsize:z.size=cap*eu.size:=by
   rw[hzz,YU,YU,size_zeroCells,hz];simp only[List.size_toArray,hol,hvl,hlen];rw[←Xw,←Xw,Nat.add_sub_cancel' hcap]
  obtain⟨N',h1,h2,h3,h4,h5⟩:=hf.1.drew.alloc (.cells z u) (.row eu.size (es++news)) z.size (fun N' g1 g2 g3=>by
   refine .inr ⟨hs0,z,u,by rw[g1];exact heap_alloc_new _ _,g2.symm,?_,fun k e he=>?_,fun k e j p he hj=>?_⟩
   ·rw[hzsize,Wn,hlen];exact WR _ hcap
   ·rcases W9 k es.length with hk|hk
    ·rw[WH hk] at he;exact hel k e he
    ·rw[WJ hk] at he;exact hnl _ e he
   ·rcases W9 k es.length with hk|hk
    ·rw[WH hk] at he
     have hj':j<eu.size:=by rw[←hel k e he];exact(Wr.1 hj).1
     have hlt:k*eu.size+j<olds.length:=by
      rw[hol];have:(k+1)*eu.size≤es.length*eu.size:=WR _ hk;rw[Xw] at this;omega
     have:=hvo k e j p he hj
     have e1:z.getD (k*eu.size+j) undef=olds.getD (k*eu.size+j) undef:=by
      rw[hzz,Wm,Array.append_assoc,Xq (by simpa using hlt),Ws];simp
     rw[e1];exact this.mono (.refl _) g3 (fun i hi=>by omega)
    ·rw[WJ hk] at he
     have hj':j<eu.size:=by rw[←hnl _ e he];exact(Wr.1 hj).1
     have hk2:k-es.length<news.length:=(Wr.1 he).1;have hfl:=my hnl _ e j p he hj
     have hlt:(k-es.length)*eu.size+j<vs.length:=by
      rw[hvl];have:(k-es.length+1)*eu.size≤news.length*eu.size:=WR _ hk2;rw[Xw] at this;omega
     have hpos2:k*eu.size+j=olds.length+((k-es.length)*eu.size+j):=by
      rw[hol,Nat.sub_mul];have:es.length*eu.size≤k*eu.size:=WR _ hk;omega
     have:=hvn _ p hfl
     have e1:z.getD (k*eu.size+j) undef=vs.getD ((k-es.length)*eu.size+j) undef:=by
      rw[hzz,Wm,hpos2,Xq (by simp;omega),Array.getElem?_append_right (by simp),Ws];simp
     rw[e1];exact this.mono (.refl _) g3 (fun i hi=>by omega))
  have hr2:=(h5.del i).swap (Ne.symm hne);have hx2:=(((Ext.drew (M:=M) (N:=N) (U:=(· <s.nx)) (h:=s.h) (w:=w)).trans h4).del i).swap (Ne.symm hne);obtain⟨g1,g2⟩:=jC hf hx2 hr2;refine⟨M,N',g1,g2,?_⟩;rw[gQ];have:=VR.sl (M:=M) (N:=N') (U:=(· <s.nx+1)) s.nx 0 (len+news.length) eu.size cap (by omega) hpos hcap hcm (by rw[h2,hzsize];simp);rw[h1,X0] at this;exact this
 have hmne: ∀vs:List Value,vs.length=news.flatten.length→vs.length=news.length*ii.size:=fun vs h=>by rw[h,kL hnl,his]
 generalize a.eval x=vx at hvx hexec
 cases hvx with
 |lQ _ _ hU=>
  have he:es=[]:=by simpa using hlen
  subst he;by_cases hm:news=[]
  ·subst hm
   have hrun:=fC (P:=P) (w:=w) t o.type u ii hut hii none 0 0 (Wz _) ao c (.inl rfl);obtain⟨h1,h2⟩:=hf.1.ER eu.size;obtain⟨g1,g2⟩:=jC (es:=[]) (news:=[]) (i:=i) hf ((h1.del i).swap (Ne.symm hne)) ((h2.del i).swap (Ne.symm hne));exact⟨_,w,M,N,hexec _ _ hrun,g1,g2, .lQ _ _ (by rw[gQ];omega)⟩
  ·obtain⟨b,off,hao,hcells⟩:=hycells hm
   subst hao;obtain⟨vs,hvl,hvc,hvr⟩:=rn (s:=s) hcells;have hm0:0<news.length:=List.length_pos_iff.2 hm;have hrun:=run_append_nil (P:=P) w t o.type u ii eu.zero hut hii hiz ⟨b,off,none⟩ news.length c vs (hmne vs hvl) hvc hm0 (by omega) (by simp only[X4,WQ] at hobytes;omega);obtain⟨M',N',g1,g2,g3⟩:=fresh [] vs (grownCap w news.length 0 u) (by simp) (by rw[hvl,kL hnl]) (by simp) (by simp) hvr (by simpa using grownCap_ge w news.length 0 u) (grownCap_le_maxLen w _ _ _ (by simp only[maxLen];omega)) (by omega) _ rfl;simp only[WQ,Yg] at*
   exact⟨_,_,M',N',hexec _ _ hrun,by simpa using g1,by simpa using g2,by simpa using g3⟩
 |sl _ _ _ _ cap hU h0 hl hc hext=>
  rcases hor with rfl|⟨hsz0,cur,T,q1,q2,q3,q4,q5⟩
  ·simp at hlen;omega
  have hreal:(AO.row eu.size es).real=true:=by cases es with
   |nil=>simp at hlen;omega
   |cons=>rfl
  rw[X0] at hexec;have hcur:cur.size=cap*eu.size:=by rw[q2,←hext,WQ]
  by_cases hm:news=[]
  ·subst hm
   have hrun:=fC (P:=P) (w:=w) t o.type u ii hut hii (some ⟨N.aG i,0,none⟩) len cap hl ao c (.inr ⟨_,_,rfl⟩)
   obtain⟨h1,h2⟩:=hf.1.move hi hreal w (.row eu.size (es++ [])) rfl rfl rfl rfl (fun _ _=>rfl) (by
    rw[Xo]
    exact .inr ⟨hsz0,cur,T,by simpa using q1,by simpa using q2,q3,q4,fun k e j p he hj=>(q5 k e j p he hj).mono (.refl _) (N.cW _ _ _) (fun i hi=>by omega)⟩)
   obtain⟨g1,g2⟩:=jC (es:=es) (news:=[]) (i:=i) hf h1 h2;refine⟨_,w,M,_,hexec _ _ hrun,g1,g2,?_⟩;have:=VR.sl (M:=M) (N:=N.with s.nx (N.aG i) (N.ext i)) (U:=(· <s.nx+1)) s.nx 0 len eu.size cap (by omega) h0 hl hc (by simpa using hext);rw[gQ];simpa using this
  ·obtain⟨b,off,hao,hcells⟩:=hycells hm
   subst hao;obtain⟨vs,hvl,hvc,hvr⟩:=rn (s:=s) hcells;have hm0:0<news.length:=List.length_pos_iff.2 hm;have hvl2:vs.length=news.length*eu.size:=by rw[hvl,kL hnl]
   have holds: ∀(j:Nat) (v:Value),(cur.toList.take (len*eu.size))[j]? =some v→w.cell? ((⟨N.aG i,0,none⟩:Addr).add j)=some v:=by
    intro j v hv;rw[W7] at hv;split at hv
    ·rw[dZ,WQ];simp only[World.cell?,q1];simpa using hv
    ·cases hv
   have hlc:len*eu.size≤cur.size:=by rw[hcur];exact WR _ hl
   have holdr: ∀(k:Nat) (e:List PV) (j:Nat) (p:PV),es[k]? =some e→e[j]? =some p→k*eu.size+j<len*eu.size:=by
    intro k e j p he hj;have hk:k<len:=by rw[←hlen];exact(Wr.1 he).1
    have hj':j<eu.size:=by rw[←q4 k e he];exact(Wr.1 hj).1
    have:(k+1)*eu.size≤len*eu.size:=WR _ hk;rw[Xw] at this;omega
   by_cases hroom:len+news.length≤cap
   ·have hfit:len*eu.size+vs.length≤cur.size:=by rw[hvl2,←Xw,hcur];exact WR _ hroom
    have hvone: ∀v∈vs,v.oneCell'=true:=by
     intro v hv;obtain⟨j,hj⟩:=W6 hv;have hjl:j<news.flatten.length:=by rw[←hvl];exact(Wr.1 hj).1
     have hp:=Wt hjl;obtain⟨k,e,i',h1,h2,_⟩:=kM hnl j _ hp;have:=(hvr j _ hp).one (iP (hone e (WY h1)) i' _ h2);rw[Ws,hj] at this;exact this
    have hrun:=gy (P:=P) (w:=w) t o.type u ii hut hii T (N.aG i) len cap cur q1 ⟨b,off,none⟩ news.length c vs (hmne vs hvl) hvc hvone hroom (by rw[his];exact hfit);rw[his] at hrun;generalize hL:(cur.toList.take (len*eu.size)++vs++cur.toList.drop (len*eu.size+vs.length)).toArray=L at hrun;have hLs:L.size=cur.size:=by rw[←hL];simp;omega
    have hrow:=setRow_heap w (N.aG i) cur L T (0,0) q1
    have hLo: ∀j,j<len*eu.size→L.getD j undef=cur.getD j undef:=by
     intro j hj;rw[←hL,Wm,Wm];simp only[Xv];rw[Wv,WH (by simp;omega),W7,if_pos hj,Xh]
    have hLn: ∀j,j<vs.length→L.getD (len*eu.size+j) undef=vs.getD j undef:=by
     intro j hj;rw[←hL,Wm,Ws];simp only[Xv];rw[WH (by simp;omega),WJ (by simp;omega)];congr 2;simp;omega
    obtain⟨h1,h2⟩:=hf.1.move hi hreal (w.setRow (N.aG i) L) (.row eu.size (es++news)) rfl rfl rfl (by simp) (fun b hb=>by
      simp only[World.setRow,W8]
      rw[if_neg (fun e=>hb e.symm)]) (by
     refine .inr ⟨hsz0,L,T,by simpa using hrow,by rw[hLs];simpa using q2,?_,fun k e he=>?_,fun k e j p he hj=>?_⟩
     ·rw[hLs,hcur,Wn,hlen];exact WR _ hroom
     ·rcases W9 k es.length with hk|hk
      ·rw[WH hk] at he;exact q4 k e he
      ·rw[WJ hk] at he;exact hnl _ e he
     ·rcases W9 k es.length with hk|hk
      ·rw[WH hk] at he
       rw[hLo _ (holdr k e j p he hj)];exact(q5 k e j p he hj).mono (.refl _) (N.cW _ _ _) (fun i hi=>by omega)
      ·rw[WJ hk] at he
       have hj':j<eu.size:=by rw[←hnl _ e he];exact(Wr.1 hj).1
       have hk2:k-es.length<news.length:=(Wr.1 he).1;have hfl:=my hnl _ e j p he hj
       have hlt:(k-es.length)*eu.size+j<vs.length:=by
        rw[hvl2];have:(k-es.length+1)*eu.size≤news.length*eu.size:=WR _ hk2;rw[Xw] at this;omega
       have hpos2:k*eu.size+j=len*eu.size+((k-es.length)*eu.size+j):=by
        rw[←hlen,Nat.sub_mul];have:es.length*eu.size≤k*eu.size:=WR _ hk;omega
       rw[hpos2,hLn _ hlt]
       exact(hvr _ p hfl).mono (.refl _) (N.cW _ _ _) (fun i hi=>by omega))
    obtain⟨g1,g2⟩:=jC (es:=es) (news:=news) (i:=i) hf h1 h2;refine⟨_,_,M,_,hexec _ _ hrun,g1,g2,?_⟩;have:=VR.sl (M:=M) (N:=N.with s.nx (N.aG i) (N.ext i)) (U:=(· <s.nx+1)) s.nx 0 (len+news.length) eu.size cap (by omega) (by omega) hroom hc (by simpa using hext);rw[gQ];simpa using this
   ·have hrun:=run_append_grow (P:=P) w t o.type u ii eu.zero hut hii hiz ⟨N.aG i,0,none⟩ len cap (cur.toList.take (len*eu.size)) (by rw[his];simp;omega) holds ⟨b,off,none⟩ news.length c vs (hmne vs hvl) hvc (by omega) (by omega)
     (growslice_fits (by omega) hobytes)
    obtain⟨M',N',g1,g2,g3⟩:=fresh (cur.toList.take (len*eu.size)) vs (grownCap w (len+news.length) cap u) (by rw[hlen];simp;omega) hvl2 (fun k e j p he hj=>by
      have:=q5 k e j p he hj;have hlt:=holdr k e j p he hj;rw[Ws,W7,if_pos hlt,Xh]
      rw[Wm] at this;exact this) q4 hvr (grownCap_ge w _ _ _) (grownCap_le_maxLen w _ _ _ (by simp only[maxLen];omega)) (by omega) _ rfl
    exact⟨_,_,M',N',hexec _ _ hrun,g1,g2,g3⟩
def RG (h:AH) (sz:Nat):PV→Option (List (List PV))
 | .iv (.cz sz' n el)=>match WO sz' sz with
  |true=>some ((WL n).map fun k=>(el k).map .iv)
  |false=>none
 | .iv (.v (.slice none 0 0))=>some []
 | .sl j off n sz'=>match WO sz' sz,h.get j with
  |true,some (.row sz2 fs)=>match WO sz2 sz,YG (off+n) fs.length with
   |true,true=>some ((fs.drop off).take n)
   |_,_=>none
  |_,_=>none
 |_=>none
theorem Jo {h:AH} {sz:Nat} {p:PV} {news:List (List PV)} (hs:RG h sz p=some news):Src h sz p news:=by
 unfold RG at hs;split at hs
 ·split at hs
  ·rename_i hb
   simp only[Wo] at hs;have:=WK hb;subst this;subst hs;exact .cz _ _
  ·cases hs
 ·simp only[Wo] at hs;subst hs;exact .nil
 ·split at hs
  ·rename_i hb1 hj
   split at hs
   ·rename_i hb2 hb3
    simp only[Wo] at hs;have h1:=WK hb1;have h2:=WK hb2;subst h1;subst h2;subst hs;exact .row _ _ _ _ hj (Wj hb3)
   ·cases hs
  ·cases hs
 ·cases hs
def allOnes:List (List PV)→Bool
 | []=>true
 |e::r=>match fv e with
  |true=>allOnes r
  |false=>false
theorem jF: ∀{l:List (List PV)},allOnes l=true→ ∀e∈l,fv e=true
 | [],_,e,h=>by cases h
 |c::l,h,e,he=>by
  simp only[allOnes] at h;split at h
  ·rename_i hc
   rcases WG.1 he with rfl|he
   ·exact hc
   ·exact jF h e he
  ·cases h
def rS (s:AS) (t sz:Nat):AS:=match s with|⟨f,h,n⟩=>⟨(t, .sl n 0 0 sz)::f,(n,some (.row sz []))::h,n+1⟩
theorem EP {o:Oper} {R:AS→Prop} {t sz:Nat} (ht:s.f.get t= .iv (.v (.slice none 0 0))) (h:OT P nt o (rS s t sz) R):OT P nt o s R:=by
 intro M N a w hf K Z hk;obtain⟨sf,sh,sn⟩:=s;obtain⟨h1,h2⟩:=hf.1.ER sz
 have hf1:Fits M N (rS ⟨sf,sh,sn⟩ t sz) nt a w:=by
  refine⟨h2,fun k=>?_,hf.2.2⟩;simp only[rS];rw[AF.aA];split
  ·rename_i hk2
   subst hk2;have:=hf.2.1 k;simp only at ht this;rw[ht] at this;generalize a.tmps.getD k undef=v at this
   cases this with
   |iv _ _ h=>cases h with
    |v=>exact .lQ _ _ (XT _)
  ·exact(hf.2.1 k).mono (.refl _) (.refl _ _) (fun i hi=>X3 hi)
 exact h M N a w hf1 K Z fun M' N' s' a' w' hx hf' hr=>hk M' N' s' a' w' (h1.trans hx) hf' hr
def yT (s:AS) (op:Op):Option (Nat×TypeId):=
 match op with
 | .call ⟨.builtin .append,args,tys⟩=>match args.toList,tys.toList with
  | [.tmp t0,_],[t,_]=>match s.f.get t0 with
   | .iv (.v (.slice none 0 0))=>some (t0,t)
   |_=>none
  |_,_=>none
 |_=>none
theorem BB {op:Op} {t0:Nat} {t:TypeId} (h:yT s op=some (t0,t)):s.f.get t0= .iv (.v (.slice none 0 0)):=by
 unfold yT at h;split at h
 ·split at h
  ·split at h
   ·rename_i hg
    simp only[Wo,WA] at h;rw[←h.1];exact hg
   ·cases h
  ·cases h
 ·cases h
end
end Go.Al
namespace Go.Al
open Go.MapKept
section
variable {kc:KC} {V:Type} {M:Mem} {e:V→IV} {m:List (kc.K×V)} {ents:Array MapEntry} {clock:Nat}
theorem iG.DZ (h:iG M kc e m ents clock) {j:Nat} (hj:j<ents.size):ents.getD j default=ents[j]:=by simp[Wm,hj]
theorem iG.set (h:iG M kc e m ents clock) {i:Nat} {k:kc.K} {v:V} {y:Value} (hv:IR M (e v) y):iG M kc e (m.set i (k,v)) (ents.modify i fun x=>{x with key:=kc.ek k,val:=y}) clock:=by
 have hb: ∀(j:Nat) (f:MapEntry),(ents.modify i fun x=>{x with key:=kc.ek k,val:=y})[j]? =some f→ ∃g,ents[j]? =some g∧g.born=f.born:=by
  intro j f hf;rw[W8] at hf;split at hf
  ·obtain⟨g,hg,rfl⟩:=Wx.1 hf;exact⟨g,hg,rfl⟩
  ·exact⟨f,hf,rfl⟩
 have hp: ∀(j:Nat) (x:kc.K×V),(m.set i (k,v))[j]? =some x→(j=i∧x=(k,v)∧i<m.length)∨(j≠i∧m[j]? =some x):=by
  intro j x hx;rw[XP] at hx;split at hx
  ·rename_i hij
   split at hx
   ·simp only[Wo] at hx;exact .inl ⟨hij.symm,hx.symm,by assumption⟩
   ·cases hx
  ·rename_i hij;exact .inr ⟨fun e=>hij e.symm,hx⟩
 refine⟨by simp[h.size],fun j x hx=>?_,fun j x hx=>?_,fun j l f g hf hg hfg=>?_,fun j f hf=>?_⟩
 ·rcases hp j x hx with⟨rfl,rfl,hlt⟩|⟨h1,h2⟩
  ·have:j<ents.size:=by rw[h.size];exact hlt
   rw[Wm,W8,if_pos rfl,Xa this];rfl
  ·have:=h.key j x h2
   rw[Wm,W8,if_neg (fun e=>h1 e.symm),←Wm];exact this
 ·rcases hp j x hx with⟨rfl,rfl,hlt⟩|⟨h1,h2⟩
  ·have:j<ents.size:=by rw[h.size];exact hlt
   rw[Wm,W8,if_pos rfl,Xa this];exact hv
  ·have:=h.val j x h2
   rw[Wm,W8,if_neg (fun e=>h1 e.symm),←Wm];exact this
 ·obtain⟨f',h1,h2⟩:=hb j f hf
  obtain⟨g',h3,h4⟩:=hb l g hg;exact h.inj j l f' g' h1 h3 (by rw[h2,h4,hfg])
 ·obtain⟨f',h1,h2⟩:=hb j f hf
  rw[←h2];exact h.lt j f' h1
theorem iG.push (h:iG M kc e m ents clock) {k:kc.K} {v:V} {y:Value} (hv:IR M (e v) y):iG M kc e (m++ [(k,v)]) (ents.push {key:=kc.ek k,val:=y,born:=clock}) (clock+1):=by
 have hp: ∀(j:Nat) (x:kc.K×V),(m++ [(k,v)])[j]? =some x→(j=ents.size∧x=(k,v))∨(j<ents.size∧m[j]? =some x):=by
  intro j x hx;rw[h.size];rcases W9 j m.length with hj|hj
  ·rw[WH hj] at hx;exact .inr ⟨hj,hx⟩
  ·rw[WJ hj] at hx
   have h0:j-m.length=0:=by
    rcases Yx (j-m.length) with h1|h1
    ·exact h1
    ·rw[XU (by simp;omega)] at hx;cases hx
   rw[h0] at hx;exact .inl ⟨by omega,by simpa using hx.symm⟩
 have hb: ∀(j:Nat) (f:MapEntry),(ents.push {key:=kc.ek k,val:=y,born:=clock})[j]? =some f→(j=ents.size∧f.born=clock)∨(j<ents.size∧ents[j]? =some f∧f.born<clock):=by
  intro j f hf;rw[Yq] at hf;split at hf
  ·rename_i hj;simp only[Wo] at hf;subst hf;exact .inl ⟨hj,rfl⟩
  ·exact .inr ⟨(Xz.1 hf).1,hf,h.lt j f hf⟩
 refine⟨by simp[h.size],fun j x hx=>?_,fun j x hx=>?_,fun j l f g hf hg hfg=>?_,fun j f hf=>?_⟩
 ·rcases hp j x hx with⟨rfl,rfl⟩|⟨h1,h2⟩
  ·simp[Wm]
  ·have:=h.key j x h2
   rw[Wm,Yq,if_neg (by omega),←Wm];exact this
 ·rcases hp j x hx with⟨rfl,rfl⟩|⟨h1,h2⟩
  ·simpa[Wm] using hv
  ·have:=h.val j x h2
   rw[Wm,Yq,if_neg (by omega),←Wm];exact this
 ·rcases hb j f hf with⟨h1,h2⟩|⟨h1,h2,h3⟩<;>rcases hb l g hg with⟨h4,h5⟩|⟨h4,h5,h6⟩
  ·omega
  ·omega
  ·omega
  ·exact h.inj j l f g h2 h5 hfg
 ·rcases hb j f hf with⟨h1,h2⟩|⟨h1,h2,h3⟩<;>omega
theorem iG.erase (h:iG M kc e m ents clock) {i:Nat} (hi:i<m.length):iG M kc e (m.eraseIdx i) (ents.eraseIdxIfInBounds i) clock:=by
 have hi':i<ents.size:=by rw[h.size];exact hi
 have hg: ∀j,(ents.eraseIdxIfInBounds i)[j]? =if j<i then ents[j]? else ents[j+1]? :=by
  intro j;simp only[Ze,hi',dif_pos];rw[Array.getElem?_eraseIdx]
 have hm: ∀j,(m.eraseIdx i)[j]? =if j<i then m[j]? else m[j+1]? :=fun j=>List.getElem?_eraseIdx;refine⟨?_,fun j x hx=>?_,fun j x hx=>?_,fun j l f g hf hg' hfg=>?_,fun j f hf=>?_⟩
 ·simp only[Ze,hi',dif_pos,Array.size_eraseIdx,List.length_eraseIdx,hi,if_true,h.size]
 ·rw[hm] at hx
  rw[Wm,hg];split at hx
  ·rename_i hj;rw[if_pos hj,←Wm];exact h.key j x hx
  ·rename_i hj;rw[if_neg hj,←Wm];exact h.key _ x hx
 ·rw[hm] at hx
  rw[Wm,hg];split at hx
  ·rename_i hj;rw[if_pos hj,←Wm];exact h.val j x hx
  ·rename_i hj;rw[if_neg hj,←Wm];exact h.val _ x hx
 ·rw[hg] at hf hg'
  split at hf<;>split at hg'
  ·exact h.inj _ _ f g hf hg' hfg
  ·have:=h.inj _ _ f g hf hg' hfg;omega
  ·have:=h.inj _ _ f g hf hg' hfg;omega
  ·have:=h.inj _ _ f g hf hg' hfg;omega
 ·rw[hg] at hf
  split at hf<;>exact h.lt _ f hf
theorem vn (kc:KC) (k:kc.K):Instr.sameBits 10000 (kc.ek k) (kc.ek k)=true:=by
 have hs: ∀(n:Nat) (a:ByteArray),Instr.sameBits n (.string a) (.string a)=true:=by
  intro n a;cases n<;>(simp only[Instr.sameBits];rw[beq_toListBytes,vl];simp)
 have hn: ∀(n:Nat) (q:IntKind) (a:Int),Instr.sameBits n (.int q a) (.int q a)=true:=by
  intro n q a;cases n<;>simp[Instr.sameBits]
 cases kc with
 |str=>exact hs _ _
 |int q=>exact hn _ _ _
 |si q=>
  simp only[KC.ek];show((#[Value.string k.1, .int q k.2].size== #[Value.string k.1, .int q k.2].size)&&(Instr.sameBits 9999 (.string k.1) (.string k.1)&&(Instr.sameBits 9999 (.int q k.2) (.int q k.2)&&true)))=true;rw[hs,hn];rfl
end
def PR (ty:Ty) (s:AS):Op→Option (Prop×AS)
 | .mapUpdate t m k x=>match ev s.f m with
  | .mp i=>match s.h.get i with
   |some (.map kc e z zv dv mm)=>match ty t with
    |some ⟨.ai (.map kt _),_,_,_,_⟩=>match eA ty kt with
     |some kc'=>match decide (kc'=kc),kc.dk (ev s.f k) with
      |true,some kk=>match s with
       |⟨f,h,n⟩=>sY (ev f x) fun p=>some (ah p (.iv (e (dv p))),⟨f,(i,some (.map kc e z zv dv (bS kc mm kk (dv p))))::h,n⟩)
      |_,_=>none
     |none=>none
    |_=>none
   |_=>none
  |_=>none
 | .call ⟨.builtin .delete,args,tys⟩=>match args.toList,tys.toList with
  | [m,k],[t,_]=>match ev s.f m with
   | .mp i=>match s.h.get i with
    |some (.map kc e z zv dv mm)=>match ty t with
     |some ⟨.ai (.map kt _),_,_,_,_⟩=>match eA ty kt with
      |some kc'=>match decide (kc'=kc),kc.dk (ev s.f k) with
       |true,some kk=>match s with
        |⟨f,h,n⟩=>some (True,⟨f,(i,some (.map kc e z zv dv (lT kc mm kk)))::h,n⟩)
       |_,_=>none
      |none=>none
     |_=>none
    |_=>none
   |_=>none
  |_,_=>none
 |_=>none
section
variable {P:Program} {ty:Ty} {nt:Nat} {s:AS} {M:Mem} {N:Nm} {w:World}
def rZ (w:World) (b:Nat) (o:Obj):World:={w with heap:=w.heap.setIfInBounds b o}
theorem qJ {nx:Nat} {h:AH} (hr:Rel M N (· <nx) h w) {i:Nat} {kc:KC} {V:Type} {e:V→IV} {z:V} {zv:Value} {dv:PV→V} {mm m':List (kc.K×V)} (hi:h.get i=some (.map kc e z zv dv mm)) {ents':Array MapEntry} {clock':Nat}
  (hm:iG M kc e m' ents' clock'):Ext M N (· <nx) h w M N (· <nx) ((i,some (.map kc e z zv dv m'))::h) (rZ w (N.aG i) (.map ents' clock'))∧Rel M N (· <nx) ((i,some (.map kc e z zv dv m'))::h) (rZ w (N.aG i) (.map ents' clock')):=by
 have ho:=hr.obj i _ hi;have hlt:=OR.lt ho rfl;obtain⟨ents,clock,h1,h2,h3⟩:=ho;refine hr.write hi rfl _ _ rfl rfl rfl (by simp[rZ]) (fun b hb=>?_) ⟨ents',clock',?_,hm,h3⟩
 ·show(w.heap.setIfInBounds _ _)[b]? =_
  rw[W1,if_neg (fun e=>hb e.symm)]
 ·show(w.heap.setIfInBounds _ _)[_]? =_
  rw[W1,if_pos rfl,if_pos hlt]
theorem jN {r:Nat} {es:Array MapEntry} {clock:Nat} (o:Obj) (hb:w.heap[r]? =some (.map es clock)):(setObj r o).run P w= .ok () (rZ w r o):=by
 simp[setObj,Sem.run,hb,rZ]
theorem EU (hty:bE P ty) {o:Oper} {C:Prop} {s1 s':AS} (h:PR ty s o.op=some (C,s1)) (hC:C) (hp:putDst nt o .any s1=some s'):OT P nt o s (fun t=>t=s'):=by
 unfold PR at h;split at h
 ·rename_i t m k x ho
  split at h
  ·rename_i i hem
   split at h
   ·rename_i V kc e z zv dv mm hi
    split at h
    ·rename_i kt et _ _ _ _ he
     have hu:=(hty _ _ he).2.1.1;split at h
     ·rename_i kc' hkk
      split at h
      ·rename_i kk hd hdk
       have hd:=of_decide_eq_true hd;subst hd;obtain⟨f,hh,n⟩:=s;simp only[c8,Wo,WA] at h;obtain⟨rfl,rfl⟩:=h;refine OT.skip hp fun M N a w hf=>?_;have hkv:=Eg hdk (aS hf.2.1 k);have hmv:=aS hf.2.1 m;simp only at hem;rw[hem] at hmv
       have hxv:IR M (e (dv (ev f x))) (a.eval x):=by
        have:=hC M N (· <n) _ (aS hf.2.1 x);generalize a.eval x=y at this
        cases this with
        |iv _ _ h=>exact h
       obtain⟨ents,clock,h1,h2,h3⟩:=hf.1.obj i _ hi;have hck:=mo (P:=P) (w:=w) hty hkk kk false 9998;have hfk:=og (P:=P) (w:=w) hty hkk kk h2.keys;have hg:(getObj (N.aG i)).run P w= .ok (.map ents clock) w:=by simp[getObj,Sem.run,h1]
       have fin: ∀ents' clock',iG M kc' e (bS kc' mm kk (dv (ev f x))) ents' clock'→(Instr.mapUpdate t (.map (some (N.aG i))) (kc'.ek kk) (a.eval x)).run P w= .ok () (rZ w (N.aG i) (.map ents' clock'))→
         ∃w' M' N',(execOp a.eval o).run P w= .ok .skip w'∧Ext M N (· <n) hh w M' N' (· <n) ((i,some (.map kc' e z zv dv (bS kc' mm kk (dv (ev f x)))))::hh) w'∧
          Fits M' N' ⟨f,(i,some (.map kc' e z zv dv (bS kc' mm kk (dv (ev f x)))))::hh,n⟩ nt a w':=by
        intro ents' clock' g1 g2;obtain⟨g3,g4⟩:=qJ hf.1 hi g1;refine⟨_,M,N,?_,g3,g4,hf.2.1,hf.2.2⟩
        have hmm:a.eval m= .map (some (N.aG i)):=by
         generalize a.eval m=y at hmv;cases hmv;rfl
        simp only[execOp,ho,hmm,hkv];simp[g2]
       cases hfi:iw kc' mm kk with
       |none=>
        obtain⟨_,_,g3,_⟩:=iN hfi;rw[hfi] at hfk;refine fin _ _ (by rw[g3];exact h2.push hxv) ?_
        simp[Instr.mapUpdate,run_underlying hu,hg,hck,hfk,jN (P:=P) _ h1]
       |some j=>
        obtain⟨v,g0,_,_,g3,_⟩:=iM hfi;rw[hfi] at hfk;refine fin _ _ (by rw[g3];exact h2.set hxv) ?_;have hj:j<ents.size:=by rw[h2.size];exact(Wr.1 g0).1
        have hkj:=h2.key j _ g0;rw[h2.DZ hj] at hkj;have hks:(Instr.keyThatStays (kc'.ek kk) (kc'.ek kk)).run P w= .ok (kc'.ek kk) w:=by simp[Instr.keyThatStays,vn]
        simp[Instr.mapUpdate,run_underlying hu,hg,hck,hfk,hj,hkj,hks,jN (P:=P) _ h1]
      ·cases h
     ·cases h
    ·cases h
   ·cases h
  ·cases h
 ·rename_i args tys ho
  split at h
  ·rename_i m k t t' hargs htys
   have ha:args= #[m,k]:=by rw[←XG (xs:=args),hargs]
   have ht:tys= #[t,t']:=by rw[←XG (xs:=tys),htys]
   subst ha ht;split at h
   ·rename_i i hem
    split at h
    ·rename_i V kc e z zv dv mm hi
     split at h
     ·rename_i kt et _ _ _ _ he
      have hu:=(hty _ _ he).2.1.1;split at h
      ·rename_i kc' hkk
       split at h
       ·rename_i kk hd hdk
        have hd:=of_decide_eq_true hd;subst hd;obtain⟨f,hh,n⟩:=s;simp only[Wo,WA] at h;obtain⟨rfl,rfl⟩:=h;refine OT.value hp fun M N a w hf=>?_;have hkv:=Eg hdk (aS hf.2.1 k);have hmv:=aS hf.2.1 m;simp only at hem;rw[hem] at hmv;obtain⟨ents,clock,h1,h2,h3⟩:=hf.1.obj i _ hi;have hck:=mo (P:=P) (w:=w) hty hkk kk ents.isEmpty 9998;have hfk:=og (P:=P) (w:=w) hty hkk kk h2.keys;have hg:(getObj (N.aG i)).run P w= .ok (.map ents clock) w:=by simp[getObj,Sem.run,h1]
        have fin: ∀ents' clock',iG M kc' e (lT kc' mm kk) ents' clock'→(Builtin.delete_ #[t,t'] o.type #[.map (some (N.aG i)),kc'.ek kk]).run P w= .ok (.tuple #[]) (rZ w (N.aG i) (.map ents' clock'))→
          ∃x w' M' N',(execOp a.eval o).run P w= .ok (.value x) w'∧Ext M N (· <n) hh w M' N' (· <n) ((i,some (.map kc' e z zv dv (lT kc' mm kk)))::hh) w'∧
           Fits M' N' ⟨f,(i,some (.map kc' e z zv dv (lT kc' mm kk)))::hh,n⟩ nt a w'∧VR M' N' (· <n) .any x:=by
         intro ents' clock' g1 g2;obtain⟨g3,g4⟩:=qJ hf.1 hi g1;refine⟨.tuple #[],_,M,N,?_,g3,⟨g4,hf.2.1,hf.2.2⟩, .any _⟩
         have hmm:a.eval m= .map (some (N.aG i)):=by
          generalize a.eval m=y at hmv;cases hmv;rfl
         simp only[execOp,ho,resolve];simp[invoke,builtin,hmm,hkv,g2]
        cases hfi:iw kc' mm kk with
        |none=>
         obtain⟨_,_,_,g3⟩:=iN hfi;rw[hfi] at hfk;refine fin _ _ (by rw[g3];exact h2) ?_
         simp[Builtin.delete_,run_underlying hu,hg,hck,hfk,jN (P:=P) _ h1]
        |some j=>
         obtain⟨v,g0,_,_,_,g3⟩:=iM hfi;rw[hfi] at hfk;refine fin _ _ (by rw[g3];exact h2.erase (Wr.1 g0).1) ?_;simp[Builtin.delete_,run_underlying hu,hg,hck,hfk,jN (P:=P) _ h1]
       ·cases h
      ·cases h
     ·cases h
    ·cases h
   ·cases h
  ·cases h
 ·cases h
end
end Go.Al
namespace Go.Al
section
variable {P:Program} {ty:Ty} {nt:Nat} {s:AS} {Q:AQ} {k:List KI}
def Vj (nt:Nat) (o:Oper) (s:AS) (i:Nat) (kc:KC) {V:Type} (e:V→IV) (m:List (kc.K×V)) (vs:List Nat) (t:AS):Prop:=
 ((∀j,j<m.length→j∈vs)∧putDst nt o (.bP [.kb false]) s=some t)∨
 ∃j x,m[j]? =some x∧j∉vs∧putDst nt o (.bP [.kb true,kc.pk x.1,(e x.2).pv]) ⟨s.f,(i,some (.bq kc e m (j::vs) (some x)))::s.h,s.nx⟩=some t
theorem JW {o:Oper} {it:Operand} (ho:o.op= .next it false) {i:Nat} (hit:ev s.f it= .ptr i 0) {kc:KC} {V:Type} {e:V→IV} {m:List (kc.K×V)} {vs:List Nat} {cur:Option (kc.K×V)}
  (hi:s.h.get i=some (.bq kc e m vs cur)) {d:Nat} (hd:o.dst=some d) (hlt:d<nt):OT P nt o s (Vj nt o s i kc e m vs):=by
 intro M N a w hf K Z hk;have hx:=aS hf.2.1 it;rw[hit] at hx;have hio:=hf.1.obj i _ hi;have hblk:N.aG i<w.heap.size:=OR.lt hio rfl
 have hev:a.eval it= .pointer (some ⟨N.aG i,0,none⟩):=by
  generalize a.eval it=y at hx;cases hx;rfl
 have hput: ∀p s1,∃t,putDst nt o p s1=some t∧t={s1 with f:=(d,p)::s1.f}:=by
  intro p s1;have hb:WU d nt=true:=Xi hlt;obtain⟨f,h,n⟩:=s1;exact⟨_,by simp only[putDst,hd,hb,cond_true,c8],rfl⟩
 rcases hio with⟨rfl,rfl,rfl,h0⟩|⟨b,ents,clock,seen,h1,h2,h3,h4,h5,h6,h7⟩
 ·have hrun:(execOp a.eval o).run P w= .ok (.value (.tuple #[.bool false])) w:=by
   simp only[execOp,ho,hev];refine bc ?_;simp only[Instr.next,getObj,Sem.run_bind,Sem.run,h0,Result.andThen];rfl
  unfold Oper.wp;rw[hrun];simp only[Oper.upon];obtain⟨t,ht,hte⟩:=hput (.bP [.kb false]) s
  refine hk M N t _ w (by rw[hte];exact .refl _ _ _ _ _) (by
   rw[hte,hd]
   exact hf.put d _ _ hlt (.bP _ _ rfl fun j p hp=>by
    match j with
    |0=>simp at hp;subst hp;exact .kb _
    |j+1=>simp at hp)) (.inl ⟨fun j hj=>absurd hj (Yz _),ht⟩)
 have hb:w.heap[b]? =some (.map ents clock):=hf.1.cZ _ _ h2;have hbn: ∀j,j<ents.size→ents.getD j default=ents[j]! :=fun j hj=>by simp[Wm,hj,getElem!_pos]
 have hold: ∀x∈ents.toList,x.born<clock:=by
  intro x hx;obtain⟨j,hj⟩:=W6 hx;exact h3.lt j x (by simpa using hj)
 unfold Oper.wp;rcases run_next_at (P:=P) w o.type (N.aG i) b clock clock seen ents clock h1 hb hold (Wz _) with⟨g1,g2⟩|⟨x,hx1,w1,hw1,g2⟩
 ·have hrun:(execOp a.eval o).run P w= .ok (.value (.tuple #[.bool false])) w:=by
   simp only[execOp,ho,hev];exact bc g2
  rw[hrun];simp only[Oper.upon];obtain⟨t,ht,hte⟩:=hput (.bP [.kb false]) s
  refine hk M N t _ w (by rw[hte];exact .refl _ _ _ _ _) (by
   rw[hte,hd]
   exact hf.put d _ _ hlt (.bP _ _ rfl fun j p hp=>by
    match j with
    |0=>simp at hp;subst hp;exact .kb _
    |j+1=>simp at hp)) (.inl ⟨fun j hj=>?_,ht⟩)
  have hj':j<ents.size:=by rw[h3.size];exact hj
  have hmem:(ents[j]).born∈seen:=by
   refine Decidable.byContradiction fun hn=>?_
   have:ents[j]∈leftOf ents seen:=by
    simp only[leftOf,ZC];exact⟨by simp,by simpa using hn⟩
   rw[Array.eq_empty_of_size_eq_zero g1] at this;simp at this
  have:(ents[j]).born∈seen.toList:=by simpa using hmem
  rw[h4,W4] at this;obtain⟨q,hq,hqe⟩:=this;have hqv:q∈vs:=by simpa using hq
  have hq':q<ents.size:=by rw[h3.size];exact h5 q hqv
  rw[h3.DZ hq'] at hqe;have:=h3.inj q j ents[q] ents[j] (by simp[hq']) (by simp[hj']) hqe;rw[←this];exact hqv
 ·have hrun:(execOp a.eval o).run P w= .ok (.value (.tuple #[.bool true,x.key,x.val])) (rZ w1 (N.aG i) (.mapIter (some b) clock (seen.push x.born) clock)):=by
   simp only[execOp,ho,hev];rw[Sem.run_bind,g2];rfl
  rw[hrun];simp only[Oper.upon];simp only[leftOf,Array.mem_toList_iff,ZC] at hx1;obtain⟨hx2,hx3⟩:=hx1;obtain⟨j,hj,hje⟩:=Array.getElem_of_mem hx2;have hjm:j<m.length:=by rw[←h3.size];exact hj
  have hmj:m[j]? =some m[j]:=Wt hjm
  have hnv:j∉vs:=by
   intro hv
   have:(ents[j]).born∈seen.toList:=by
    rw[h4,W4];exact⟨j,by simpa using hv,by rw[h3.DZ hj]⟩
   rw[hje] at this;have:x.born∈seen:=by simpa using this
   simp[this] at hx3
  obtain⟨t,ht,hte⟩:=hput (.bP [.kb true,kc.pk m[j].1,(e m[j].2).pv]) ⟨s.f,(i,some (.bq kc e m (j::vs) (some m[j])))::s.h,s.nx⟩
  have hw1h:w1.heap=w.heap∧w1.os=w.os∧w1.tape=w.tape∧w1.output=w.output:=by
   rcases hw1 with rfl|rfl<;>exact⟨rfl,rfl,rfl,rfl⟩
  have hor:OR M N (· <s.nx) (rZ w1 (N.aG i) (.mapIter (some b) clock (seen.push x.born) clock)) i (.bq kc e m (j::vs) (some m[j])):=by
   refine .inr ⟨b,ents,clock,seen.push x.born,?_,h2,h3,?_,?_,?_,?_⟩
   ·show(w1.heap.setIfInBounds _ _)[_]? =_
    rw[W1,if_pos rfl,hw1h.1,if_pos hblk]
   ·simp only[Array.toList_push,h4,List.reverse_cons,Wq,WI,Xd]
    rw[h3.DZ hj,hje]
   ·intro q hq
    rcases WG.1 hq with rfl|hq
    ·exact hjm
    ·exact h5 q hq
   ·exact Xu.2 ⟨hnv,h6⟩
   ·intro y hy
    simp only[Wo] at hy;subst hy;exact⟨j,vs,rfl,hmj⟩
  obtain⟨q1,q2⟩:=hf.1.write hi rfl (rZ w1 (N.aG i) (.mapIter (some b) clock (seen.push x.born) clock)) _ hw1h.2.1 hw1h.2.2.1 hw1h.2.2.2 (by simp[rZ,hw1h.1]) (fun c hc=>by
   show(w1.heap.setIfInBounds _ _)[c]? =_
   rw[W1,if_neg (fun e=>hc e.symm),hw1h.1]) hor
  have hkey:=h3.key j _ hmj;have hval:=h3.val j _ hmj;rw[h3.DZ hj,hje] at hkey hval
  refine hk M N t _ _ (by rw[hte];exact q1) (by
   rw[hte,hd];refine Fits.put (s:=⟨s.f,(i,some (.bq kc e m (j::vs) (some m[j])))::s.h,s.nx⟩) ⟨q2,hf.2⟩ d _ _ hlt (.bP _ _ rfl fun q p hp=>?_)
   match q with
   |0=>simp at hp;subst hp;exact .kb _
   |1=>simp at hp;subst hp;simp only[Wm];simp;rw[hkey];exact zY kc _
   |2=>simp at hp;subst hp;exact zX hval
   |q+3=>simp at hp) (.inr ⟨j,m[j],hmj,hnv,ht⟩)
theorem db {all rest:List Oper} {o:Oper} {it:Operand} {i:Nat} {kc:KC} {V:Type} {e:V→IV} {m:List (kc.K×V)} {vs:List Nat} {cur:Option (kc.K×V)} {d:Nat}
  (ho:o.op= .next it false) (hg:o.guard=none) (hit:ev s.f it= .ptr i 0) (hi:s.h.get i=some (.bq kc e m vs cur)) (hd:o.dst=some d) (hlt:d<nt)
  (h1:(∀j,j<m.length→j∈vs)→GO P nt (.ops all rest::k) Q ⟨(d, .bP [.kb false])::s.f,s.h,s.nx⟩)
  (h2: ∀j x,m[j]? =some x→j∉vs→GO P nt (.ops all rest::k) Q ⟨(d, .bP [.kb true,kc.pk x.1,(e x.2).pv])::s.f,(i,some (.bq kc e m (j::vs) (some x)))::s.h,s.nx⟩):
  GO P nt (.ops all (o::rest)::k) Q s:=by
 refine dE hg (JW ho hit hi hd hlt) fun t ht=>?_;have hb:WU d nt=true:=Xi hlt;rcases ht with⟨g1,g2⟩|⟨j,x,g1,g2,g3⟩
 ·obtain⟨f,h,n⟩:=s
  simp only[putDst,hd,hb,cond_true,c8,Wo] at g2;subst g2;exact h1 g1
 ·simp only[putDst,hd,hb,cond_true,c8,Wo] at g3
  subst g3;exact h2 j x g1 g2
mutual
def PV.eQ (i:Nat) (x:IV):PV→PV
 | .iv x=> .iv x
 | .agg cs=> .agg (sX i x cs)
 | .bP cs=> .bP (sX i x cs)
 | .sl j off len sz'=> .sl j off len sz'
 | .ptr j o=> .ptr j o
 | .c4 j a b c=> .c4 j a b c
 | .eC z j=> .eC z j
 | .mp j=>bif WO j i then .iv x else .mp j
 | .cH fn a b=> .cH fn a b
 | .kb b=> .kb b
 | .any=> .any
def sX (i:Nat) (x:IV):List PV→List PV
 | []=> []
 |p::r=>PV.eQ i x p::sX i x r
end
theorem gf (i:Nat) (x:IV): ∀l:List PV,sX i x l=l.map (PV.eQ i x)
 | []=>rfl
 |p::r=>by simp[sX,gf i x r]
theorem Kn {M:Mem} {N:Nm} {n:Nat} {h:AH} {w:World} (hr:Rel M N (· <n) h w) {i:Nat} {kc:KC} {V:Type} {e:V→IV} {z:V} {zv:Value} {dv:PV→V} {m:List (kc.K×V)} (hi:h.get i=some (.map kc e z zv dv m)):
  ∃M',Ext M N (· <n) h w M' N (· <n) ((i,none)::h) w∧Rel M' N (· <n) ((i,none)::h) w∧M.le M'∧
   ∀p x,VR M N (· <n) p x→VR M' N (· <n) (p.eQ i (.dK kc e z zv m)) x:=by
 have hMi:=hr.dA i _ hi rfl;obtain⟨ents,clock,h1,h2,h3⟩:=hr.obj i _ hi
 let M':Mem:=M.set (N.aG i) (.map ents clock) hMi
 have hM:M.le M':=fun b d hb=>by
  simp only[M',Mem.set];by_cases hb2:b=N.aG i
  ·rw[hb2,hMi] at hb;cases hb
  ·rw[if_neg hb2];exact hb
 have hnew: ∀b d,M b=none→M' b=some d→b=N.aG i:=fun b d h1 h2=>by
  simp only[M',Mem.set] at h2;by_cases hb2:b=N.aG i
  ·exact hb2
  ·rw[if_neg hb2,h1] at h2;cases h2
 refine⟨M',?_,?_,hM,fun p x hx=>?_⟩
 ·exact⟨rfl,rfl,rfl,Wz _,fun _ _ _=>rfl,hM,fun b d h1 h2=> .inr ⟨i,_,hi,rfl,(hnew b d h1 h2).symm⟩, .refl _ _,fun _ h=>h,fun j o hj hre=> .inr ⟨j,o,(ba j o hj).2,hre,rfl⟩⟩
 ·refine⟨fun b d hb=>?_,fun j o hj=>hr.used j o (ba j o hj).2,fun j o hj hre'=>?_,fun j o hj=>?_,fun j k o p hj hk=>hr.inj j k o p (ba j o hj).2 (ba k p hk).2⟩
  ·simp only[M',Mem.set] at hb
   by_cases hb2:b=N.aG i
   ·rw[if_pos hb2] at hb;cases hb;rw[hb2];exact h1
   ·rw[if_neg hb2] at hb;exact hr.cZ b d hb
  ·obtain⟨g1,g2⟩:=ba j o hj
   simp only[M',Mem.set];rw[if_neg fun e=>g1 (hr.inj j i o _ g2 hi hre' rfl e)];exact hr.dA j o g2 hre'
  ·obtain⟨g1,g2⟩:=ba j o hj
   exact(hr.obj j o g2).mono hM (.refl _ _) (fun _ h=>h) (hr.used j o g2) rfl
 ·induction hx with
  |iv x y h=>exact .iv _ _ (h.mono hM)
  |agg cs ys hl _ ih=>
   refine .agg _ _ (by simpa[gf] using hl) fun j q hq=>?_;rw[gf,Ww,Wx] at hq;obtain⟨q0,hq0,rfl⟩:=hq
   exact ih j q0 hq0
  |bP cs ys hl _ ih=>
   refine .bP _ _ (by simpa[gf] using hl) fun j q hq=>?_;rw[gf,Ww,Wx] at hq;obtain⟨q0,hq0,rfl⟩:=hq
   exact ih j q0 hq0
  |ptr i off h=>exact .ptr _ _ h
  |c4 i sz k off h=>exact .c4 _ _ _ _ h
  |eC z i h=>exact .eC _ _ h
  |sl j off len sz' cap h h0 hl hc he=>exact .sl _ _ _ _ _ h h0 hl hc he
  |lQ j sz' h=>exact .lQ _ _ h
  |sle j sz' cap h hc he=>exact .sle _ _ _ h hc he
  |mp j h=>
   simp only[PV.eQ]
   cases hb:WO j i with
   |true=>
    have hj:=WK hb;subst hj
    exact .iv _ _ (.dK _ _ _ _ _ _ ents clock (by simp[M',Mem.set]) h2.size h2.key (fun j x hx=>(h2.val j x hx).mono hM) (h3.mono hM) h2.inj h2.lt)
   |false=>exact .mp _ h
  |cH fn first caps f' c' h1 h2 hr1 hr2 _ _=>exact .cH _ _ _ _ _ h1 h2 (fun j p hj=>(hr1 j p hj).mono hM (.refl _ _) (fun _ h=>h)) (fun j p hj=>(hr2 j p hj).mono hM (.refl _ _) (fun _ h=>h))
  |kb b=>exact .kb _
  |any x=>exact .any _
def AO.eQ (i:Nat) (x:IV):AO→AO
 | .cells cs T=> .cells (sX i x cs) T
 | .row sz es=> .row sz (es.map (sX i x))
 | .bx l T=> .bx l T
 | .eE=> .eE
 | .map kc e z zv dv m=> .map kc e z zv dv m
 | .bq kc e m vs c=> .bq kc e m vs c
 | .dt s p=> .dt s p
def AH.eQ (i:Nat) (x:IV):AH→AH
 | []=> []
 |(k,none)::r=>(k,none)::AH.eQ i x r
 |(k,some o)::r=>(k,some (o.eQ i x))::AH.eQ i x r
theorem AH.jo (i:Nat) (x:IV): ∀(h:AH) (j:Nat),(AH.eQ i x h).get j=(h.get j).map (AO.eQ i x)
 | [],_=>rfl
 |(k,none)::r,j=>by
  simp only[AH.eQ,AH.aA,AH.jo i x r j]
  split<;>rfl
 |(k,some o)::r,j=>by
  simp only[AH.eQ,AH.aA,AH.jo i x r j];split<;>rfl
theorem AO.qi (i:Nat) (x:IV) (o:AO):(o.eQ i x).real=o.real:=by
 cases o with
 |row sz es=>cases es<;>rfl
 |bx l T=>cases l<;>rfl
 |_=>rfl
theorem o9 {M:Mem} {N:Nm} {n:Nat} {h:AH} {w:World} (hr:Rel M N (· <n) h w) {i:Nat} {kc:KC} {V:Type} {e:V→IV} {z:V} {zv:Value} {dv:PV→V} {m:List (kc.K×V)} (hi:h.get i=some (.map kc e z zv dv m)):
  ∃M',Ext M N (· <n) h w M' N (· <n) ((i,none)::h.eQ i (.dK kc e z zv m)) w∧Rel M' N (· <n) ((i,none)::h.eQ i (.dK kc e z zv m)) w∧M.le M'∧
   ∀p x,VR M N (· <n) p x→VR M' N (· <n) (p.eQ i (.dK kc e z zv m)) x:=by
 obtain⟨M',h1,h2,h3,h4⟩:=Kn hr hi
 have hg: ∀j o,AH.get ((i,none)::h.eQ i (.dK kc e z zv m)) j=some o→ ∃p,AH.get ((i,none)::h) j=some p∧h.get j=some p∧o=p.eQ i (.dK kc e z zv m):=by
  intro j o hj;obtain⟨g1,g2⟩:=ba j o hj;rw[AH.jo,Wx] at g2;obtain⟨p,g3,g4⟩:=g2;exact⟨p,by rw[AH.aA,if_neg g1];exact g3,g3,g4.symm⟩
 refine⟨M',⟨h1.os,h1.tape,h1.output,h1.size,h1.gd,h1.ow,h1.gn,h1.nm,h1.ule,fun j o hj hre=>?_⟩,⟨h2.cZ,fun j o hj=>?_,fun j o hj hre=>?_,fun j o hj=>?_,fun j k o p hj hk ho hp=>?_⟩,h3,h4⟩
 ·obtain⟨p,g1,_,rfl⟩:=hg j o hj
  rw[AO.qi] at hre;exact h1.fQ j p g1 hre
 ·obtain⟨p,g1,_,rfl⟩:=hg j o hj
  exact h2.used j p g1
 ·obtain⟨p,g1,_,rfl⟩:=hg j o hj
  rw[AO.qi] at hre;exact h2.dA j p g1 hre
 ·obtain⟨p,g1,g2,rfl⟩:=hg j o hj
  have hor:=hr.obj j p g2
  cases p with
  |cells cs T0=>
   obtain⟨c,T,q1,q2,q3,q4,q5⟩:=hor;refine⟨c,T,q1,q2,by simpa[gf] using q3,fun k q hq=>?_,q5⟩;rw[gf,Ww,Wx] at hq;obtain⟨q0,hq0,rfl⟩:=hq
   exact h4 _ _ (q4 k q0 hq0)
  |row sz es=>
   rcases hor with rfl|⟨q0,c,T,q1,q2,q3,q4,q5⟩
   ·exact .inl rfl
   refine .inr ⟨q0,c,T,q1,q2,by simpa using q3,fun k e he=>?_,fun k e j q he hq=>?_⟩
   ·rw[Ww,Wx] at he
    obtain⟨e0,he0,rfl⟩:=he;rw[gf,W3];exact q4 k e0 he0
   ·rw[Ww,Wx] at he
    obtain⟨e0,he0,rfl⟩:=he;rw[gf,Ww,Wx] at hq;obtain⟨q',hq',rfl⟩:=hq
    exact h4 _ _ (q5 k e0 j q' he0 hq')
  |bx=>exact h2.obj j _ g1
  |eE=>exact h2.obj j _ g1
  |map=>exact h2.obj j _ g1
  |bq=>exact h2.obj j _ g1
  |dt=>exact h2.obj j _ g1
 ·obtain⟨o',g1,_,rfl⟩:=hg j o hj
  obtain⟨p',g2,_,rfl⟩:=hg k p hk;rw[AO.qi] at ho hp;exact h2.inj j k o' p' g1 g2 ho hp
def AF.eQ (i:Nat) (x:IV):AF→AF
 | []=> []
 |(d,p)::r=>(d,p.eQ i x)::AF.eQ i x r
theorem AF.jo (i:Nat) (x:IV): ∀(f:AF) (d:Nat),(AF.eQ i x f).get d=(f.get d).eQ i x
 | [],_=>rfl
 |(k,p)::r,d=>by
  simp only[AF.eQ,AF.aA,AF.jo i x r d];split<;>rfl
theorem Ke {c:Code} (i:Nat) {kc:KC} {V:Type} {e:V→IV} {z:V} {zv:Value} {dv:PV→V} {m:List (kc.K×V)} (hi:s.h.get i=some (.map kc e z zv dv m))
  (h:GO P nt (.code c::k) Q ⟨s.f.eQ i (.dK kc e z zv m),(i,none)::s.h.eQ i (.dK kc e z zv m),s.nx⟩):GO P nt (.code c::k) Q s:=by
 intro M N a w hf;obtain⟨M',h1,h2,h3,h4⟩:=o9 hf.1 hi
 have hf':Fits M' N ⟨s.f.eQ i (.dK kc e z zv m),(i,none)::s.h.eQ i (.dK kc e z zv m),s.nx⟩ nt a w:=⟨h2,fun d=>by
  rw[AF.jo];exact h4 _ _ (hf.2.1 d),hf.2.2⟩
 exact AW.then h hf' fun e a2 w2 M2 N2 s2 hx2 hf2 hr2=>⟨M2,N2,s2,h1.trans hx2,hf2,hr2⟩
end
def RQ (ty:Ty) (s:AS):Op→Option (PV×AS)
 | .range t x=>match ev s.f x with
  | .mp i=>match s.h.get i with
   |some (.map kc e z zv _ m)=>match ty t with
    |some ⟨.ai (.map _ _),_,_,_,_⟩=>match s with
     |⟨f,h,n⟩=>some (.ptr n 0,⟨f.eQ i (.dK kc e z zv m),(n,some (.bq kc e m [] none))::(i,none)::h.eQ i (.dK kc e z zv m),n+1⟩)
    |_=>none
   |_=>none
  |_=>none
 |_=>none
theorem JC {P:Program} {ty:Ty} {nt:Nat} {s:AS} (hty:bE P ty) {o:Oper} {p:PV} {s1 s':AS} (h:RQ ty s o.op=some (p,s1)) (hp:putDst nt o p s1=some s'):OT P nt o s (fun t=>t=s'):=by
 unfold RQ at h;split at h
 ·rename_i t x ho
  split at h
  ·rename_i i hev
   split at h
   ·rename_i V kc e z zv dv m hi
    split at h
    ·rename_i kt et _ _ _ _ he
     have hu:=(hty _ _ he).2.1.1;obtain⟨f,hh,n⟩:=s;simp only[Wo,WA] at h;obtain⟨rfl,rfl⟩:=h;refine OT.value hp fun M N a w hf=>?_;have hx:=aS hf.2.1 x;simp only at hev hi;rw[hev] at hx;obtain⟨ents,clock,g1,g2,g3⟩:=hf.1.obj i _ hi;obtain⟨M',h1,h2,h3,h4⟩:=o9 hf.1 hi;have hix:VR M' N (· <n) ((PV.mp i).eQ i (.dK kc e z zv m)) (.map (some (N.aG i))):=h4 _ _ (.mp i (hf.1.used i _ hi));have hb:WO i i=true:=by simp
     simp only[PV.eQ,hb,cond_true] at hix
     cases hix with
     |iv _ _ hix=>cases hix with
      |dK _ _ _ _ _ b ents' clock' hb' hs hk hv' hz hi' hc=>
       obtain⟨N',q1,q2,q3,q4,q5⟩:=h2.alloc (.mapIter (some (N.aG i)) clock' #[] clock') (.bq kc e m [] none) 0 (fun N' r1 r2 r3=>
        .inr ⟨N.aG i,ents',clock', #[],by rw[r1];exact heap_alloc_new w _,hb',⟨hs,hk,hv',hi',hc⟩,rfl,by simp,Xk,by simp⟩)
       have hheap:w.heap[N.aG i]? =some (.map ents' clock'):=h2.cZ _ _ hb'
       have hev':a.eval x= .map (some (N.aG i)):=by
        generalize a.eval x=y at hx;cases hx;rfl
       refine⟨.pointer (some ⟨w.heap.size,0,none⟩),_,M',N',?_,h1.trans q4,⟨q5,fun d=>?_,hf.2.2⟩,?_⟩
       ·simp only[execOp,ho,hev']
        simp[Instr.range,run_underlying hu,getObj,Sem.run,hheap,Result.andThen]
       ·rw[AF.jo]
        exact(h4 _ _ (hf.2.1 d)).mono (.refl _) q3 (fun i hi=>X3 hi)
       ·have:=VR.ptr (M:=M') (N:=N') (U:=(· <n+1)) n 0 (by omega)
        rw[q1] at this;exact this
    ·cases h
   ·cases h
  ·cases h
 ·cases h
def RF (h:AH) (sz:Nat):PV→Option (List (List PV)×Nat×Prop)
 | .iv (.cz sz' n el)=>match WO sz' sz with
  |true=>some ((WL n).map fun k=>(el k).map .iv,n,True)
  |false=>none
 | .iv (.v (.slice none 0 0))=>some ([],0,True)
 | .sl j off n sz'=>match WO sz' sz,h.get j with
  |true,some (.row sz2 fs)=>match WO sz2 sz with
   |true=>some ((fs.drop off).take n,n,off+n≤fs.length)
   |_=>none
  |_,_=>none
 |_=>none
theorem Jn {h:AH} {sz n:Nat} {p:PV} {news:List (List PV)} {C:Prop} (hs:RF h sz p=some (news,n,C)) (hC:C):Src h sz p news∧news.length=n:=by
 unfold RF at hs;split at hs
 ·split at hs
  ·rename_i hb
   simp only[Wo,WA] at hs;have:=WK hb;obtain⟨rfl,rfl,rfl⟩:=hs;subst this;exact⟨.cz _ _,by simp⟩
  ·cases hs
 ·simp only[Wo,WA] at hs
  obtain⟨rfl,rfl,rfl⟩:=hs;exact⟨.nil,rfl⟩
 ·split at hs
  ·rename_i hb1 hj
   split at hs
   ·rename_i hb2
    simp only[Wo,WA] at hs;have h1:=WK hb1;have h2:=WK hb2;subst h1;subst h2;obtain⟨rfl,rfl,rfl⟩:=hs;exact⟨.row _ _ _ _ hj hC,by simp;omega⟩
   ·cases hs
  ·cases hs
 ·cases hs
def KF (ty:Ty) (s:AS) (op:Op):Option (Prop×PV×AS):=
 match op with
 | .call ⟨.builtin .append,args,tys⟩=>match args.toList,tys.toList with
  | [x,y],[t,t']=>match WO t' t,ty t with
   |true,some ⟨.ai (.slice u),_,_,_,_⟩=>match ty u with
    |some ⟨_,esz,eby,ez,_⟩=>match WO ez.cells.size esz,WU 0 esz,ev s.f x with
     |true,true, .sl i 0 len sz=>match WO esz sz,s.h.get i with
      |true,some (.row sz' es)=>match WO sz' sz,RF s.h sz (ev s.f y) with
       |true,some (news,n,C)=>match s with
        |⟨f,h,nx⟩=>some (es.length=len∧C∧allOnes news=true∧(len+n)*eby≤140737488355328∧len+n≤140737488355328, .sl nx 0 (len+n) sz,⟨f,(nx,some (.row sz (es++news)))::(i,none)::h,nx+1⟩)
       |_,_=>none
      |_,_=>none
     |_,_,_=>none
    |none=>none
   |_,_=>none
  |_,_=>none
 |_=>none
section
variable {P:Program} {ty:Ty} {nt:Nat} {s:AS}
theorem AP (hty:bE P ty) {o:Oper} {p:PV} {C:Prop} {s1 s':AS} (h:KF ty s o.op=some (C,p,s1)) (hC:C) (hp:putDst nt o p s1=some s'):OT P nt o s (fun t=>t=s'):=by
 unfold KF at h;split at h
 ·rename_i args tys ho
  split at h
  ·rename_i x y t t' ha ht
   split at h
   ·rename_i u _ _ _ _ hb0 he
    split at h
    ·rename_i ek esz eby ez eeq hu
     split at h
     ·rename_i i len sz hb1 hb2 hx
      split at h
      ·rename_i sz' es hb3 hi
       split at h
       ·rename_i news n C' hb4 hs
        have h:some (es.length=len∧C'∧allOnes news=true∧(len+n)*eby≤140737488355328∧len+n≤140737488355328,PV.sl s.nx 0 (len+n) sz,ot s i sz es news)=some (C,p,s1):=by
         rw[←h];cases s;rfl
        simp only[Wo,WA] at h;obtain⟨rfl,rfl,rfl⟩:=h;have e0:=WK hb0;have e4:=WK hb4;have e3:=WK hb3;subst e0;subst e4
        have ho':o.op= .call ⟨.builtin .append, #[x,y], #[t',t']⟩:=by
         rw[ho];have h1:args= #[x,y]:=by rw[←XG (xs:=args),ha]
         have h2:tys= #[t',t']:=by rw[←XG (xs:=tys),ht]
         rw[h1,h2]
        obtain⟨g1,g2,g3,g4,g5⟩:=hC;obtain⟨g6,g7⟩:=Jn hs g2;subst g7;exact Su hty ho' he rfl hu hx hi g1 e3 (by rw[WK hb1,e3]) (by rw[←e3];exact Wj hb2) rfl g6 (jF g3) g4 g5 hp
       ·cases h
      ·cases h
     ·cases h
    ·cases h
   ·cases h
  ·cases h
 ·cases h
def EE (ty:Ty) (s:AS) (op:Op):Option (Prop×PV×AS):=
 match KF ty s op with
 |some r=>some r
 |none=>match yT s op with
  |some (t0,t)=>match ty t with
   |some ⟨.ai (.slice u),_,_,_,_⟩=>match ty u with
    |some ⟨_,esz,_,_,_⟩=>KF ty (rS s t0 esz) op
    |none=>none
   |_=>none
  |none=>none
theorem ED (hty:bE P ty) {o:Oper} {p:PV} {C:Prop} {s1 s':AS} (h:EE ty s o.op=some (C,p,s1)) (hC:C) (hp:putDst nt o p s1=some s'):OT P nt o s (fun t=>t=s'):=by
 unfold EE at h;split at h
 ·rename_i r hr
  simp only[Wo] at h;subst h;exact AP hty hr hC hp
 ·split at h
  ·rename_i t0 t hn
   split at h
   ·split at h
    ·exact EP (BB hn) (AP hty h hC hp)
    ·cases h
   ·cases h
  ·cases h
def SH (ty:Ty) (s:AS) (op:Op):Option (Prop×PV×AS):=
 match PR ty s op with
 |some (C,s1)=>some (C, .any,s1)
 |none=>match RQ ty s op with
  |some (p,s1)=>some (True,p,s1)
  |none=>EE ty s op
theorem yp (hty:bE P ty) {o:Oper} {p:PV} {C:Prop} {s1 s':AS} (h:SH ty s o.op=some (C,p,s1)) (hC:C) (hp:putDst nt o p s1=some s'):OT P nt o s (fun t=>t=s'):=by
 unfold SH at h;split at h
 ·rename_i C' s2 hu
  simp only[Wo,WA] at h;obtain⟨rfl,rfl,rfl⟩:=h;exact EU hty hu hC hp
 ·split at h
  ·rename_i p' s2 hr
   simp only[Wo,WA] at h;obtain⟨rfl,rfl,rfl⟩:=h;exact JC hty hr hp
  ·exact ED hty h hC hp
end
end Go.Al
namespace Go.Al
def vB:Op→Bool
  | .binOp .add _ _ _ _=>true
  | .binOp .sub _ _ _ _=>true
  | .binOp .mul _ _ _ _=>true
  | .binOp .rem _ _ _ _=>true
  | .binOp .quo _ _ _ _=>true
  | .indexAddr ..=>true
  | .index ..=>true
  | .slice ..=>true
  |_=>false
theorem ry {ty:Ty} {s:AS} {o:Op} {p:PV} {C:Prop} (h:il ty s o=some (p,C)) (ho:vB o=false):C:=by
  cases o with
  | binOp op t x y t'=>
    simp only[il] at h;split at h
    · unfold AV at h
      split at h
      · split at h<;>first|(cases h;done)|(simp only[Wo,WA] at h;rw[←h.2];trivial)
      · split at h<;>first|(cases h;done)|(simp only[Wo,WA] at h;rw[←h.2];trivial)
      · cases h
    unfold wh at h;split at h
    · split at h
      · unfold Ai at h
        split at h<;>first|(cases h;done)|(simp[vB] at ho;done)|(simp only[Wo,WA] at h;rw[←h.2];trivial)
      · unfold zM at h
        split at h<;>first
          |(cases h;done)
          |(split at h<;>first|(cases h;done)|(simp only[Wo,WA] at h;rw[←h.2];trivial))
    · unfold zJ at h
      split at h<;>first|(cases h;done)|(simp[vB] at ho;done)|(simp only[Wo,WA] at h;rw[←h.2];trivial)
    · split at h
      all_goals first
        |(cases h;done)
        | (unfold mM at h
           split at h
           · split at h<;>first|(cases h;done)|(simp only[Wo,WA] at h;rw[←h.2];trivial)
           · cases h)
    · split at h
      all_goals first
        |(cases h;done)
        | (unfold mM at h
           split at h
           · split at h<;>first|(cases h;done)|(simp only[Wo,WA] at h;rw[←h.2];trivial)
           · cases h)
    · cases h
  |indexAddr t x i=>simp[vB] at ho
  |index t x i=>simp[vB] at ho
  |slice t x lo hi mx=>simp[vB] at ho
  | call c=>
    obtain⟨callee,args,argTypes⟩:=c
    cases callee with
    | builtin b=>
      cases b with
      | len=>
        simp only[il] at h;split at h
        · split at h
          · split at h<;>first|(cases h;done)|(simp only[tL,Wo,WA] at h;rw[←h.2];trivial)
          · split at h<;>first|(cases h;done)|(simp only[tL,Wo,WA] at h;rw[←h.2];trivial)
          · split at h
            · simp only[Wo,WA] at h;rw[←h.2];trivial
            · split at h<;>first|(cases h;done)|(simp only[Wo,WA] at h;rw[←h.2];trivial)
            · cases h
          · cases h
        · cases h
      | max=>
        simp only[il] at h;split at h
        · split at h<;>first|(cases h;done)|(simp only[Wo,WA] at h;rw[←h.2];trivial)
        · cases h
      | min=>
        simp only[il] at h;split at h
        · split at h<;>first|(cases h;done)|(simp only[Wo,WA] at h;rw[←h.2];trivial)
        · cases h
      |_=>simp[il] at h
    |_=>simp[il] at h
  | unOp op t x=>
    cases op with
    |not=>simp only[il] at h;split at h<;>first|(cases h;done)|(simp only[Wo,WA] at h;rw[←h.2];trivial)
    |_=>simp[il] at h
  | lookup t x i ok=>
    have key: ∀{kc:KC} {V:Type} {e:V→IV} {z:V} {zv:Value} {m:List (kc.K×V)},sH ty t ok kc e z zv m (ev s.f i)=some (p,C)→C:=by
      intro kc V e z zv m h;unfold sH at h;split at h
      · split at h
        · split at h
          · split at h<;>(simp only[Wo,WA] at h;rw[←h.2];trivial)
          · cases h
        · cases h
      · cases h
    simp only[il] at h;split at h
    · exact key h
    · split at h
      · exact key h
      · cases h
    · cases h
  | _=>
    simp only[il] at h
    repeat' (first|(cases h;done)|(simp only[force_eq,Wo,WA] at h;rw[←h.2];trivial)|split at h)
inductive EL where
  |read (i:Nat) (o:Oper) (p:PV) (C:Prop)
  |skip (i:Nat) (o:Oper)
  |split (d:Nat) (t:Bool)
def jR (ty:Ty) (nt:Nat) (s:AS) (all:List Oper) (todo pend:List (Nat×Oper)):List (Nat×Oper)→Option EL
  | []=>none
  | (i,o)::r=>match todo.any (fun y=>waits o y.1)||aO o with
    |true=>jR ty nt s all todo pend r
    | false=>match ck nt all s.f o with
      | some true=>match il ty s o.op with
        | some (p,C)=>match tw all pend o with
          |true=>some (.read i o p C)
          |false=>jR ty nt s all todo pend r
        |none=>jR ty nt s all todo pend r
      | some false=>match tw all pend o with
        |true=>some (.skip i o)
        |false=>jR ty nt s all todo pend r
      | none=>match o.guard with
        | some (g,_)=>match guardOf all s.f g with
          |some (d, .iv (.v (.bool t)))=>some (.split d t)
          |_=>jR ty nt s all todo pend r
        |none=>jR ty nt s all todo pend r
def dU (ty:Ty) (nt:Nat) (all:List Oper) (s:AS):List (Nat×Oper)→Option Prop
  | []=>some True
  | (_,o)::r=>match dU ty nt all s r with
    |none=>none
    | some R=>match ck nt all s.f o with
      | some true=>match il ty s o.op with
        | some (p,C)=>match o.dst with
          |some d=>bif WU d nt then some ((ah p (s.f.get d)∧C)∧R) else none
          |none=>some (C∧R)
        |none=>none
      | some false=>match o.dst with
        |some d=>some (s.f.get d= .iv (.v (.tuple #[]))∧R)
        |none=>some R
      |none=>none
def fk (todo:List (Nat×Oper)):List (Nat×Oper):=todo.filter fun x=>!(aO x.2||todo.any fun y=>waits x.2 y.1)
def tv (ty:Ty) (nt:Nat) (all:List Oper) (s:AS) (todo pend:List (Nat×Oper)):Option Prop:=
  match todo.any fun y=>aO y.2 with
  |true=>dU ty nt all s pend
  |false=>some True
def mR (all:List Oper) (i:Nat) (o:Oper):Nat→List Oper→Bool
  |_,[]=>true
  |k,q::r=>(WO k i||((waits q i||!looks all q o)&&(match o.dst,q.dst with|some d,some e=>!WO d e|_,_=>true)))&&mR all i o (k+1) r
def jD (ty:Ty) (nt:Nat) (all:List Oper):Nat→List Oper→Bool
  |_,[]=>true
  | i,o::r=>(match o.op with
    | .alloc t=>match o.guard,o.dst,ty t with
      |none,some d,some _=>WU d nt&&((o.after.toList.all fun e=>!Region.binds .any e)&&mR all i o 0 all)
      |_,_,_=>false
    |_=>true)&&jD ty nt all (i+1) r
def xp (todo:List (Nat×Oper)):List (Nat×Oper)→Option (Nat×Oper)
  | []=>none
  | (i,o)::r=>match aO o,wj todo i with
    |true,true=>some (i,o)
    |_,_=>xp todo r
inductive Stop where
  |fin (e:Exit) (s:AS)
  |cond (c:Operand) (t:Bool) (x y:Code) (k:List KI) (s:AS)
  |guard (all rest:List Oper) (o:Oper) (d:Nat) (want t:Bool) (k:List KI) (s:AS)
  |op (all rest:List Oper) (o:Oper) (k:List KI) (s:AS)
  |loop (b:Code) (k:List KI) (s:AS)
  |draw (id:Nat) (ops:Array Oper) (k:List KI) (s:AS)
  |again (R:AS→Prop) (s:AS)
  |RH (all rest:List Oper) (o:Oper) (d:Nat) (want t:Bool) (k:List KI) (s:AS)
  |Ee (all:List Oper) (todo pend:List (Nat×Oper)) (d:Nat) (t:Bool) (k:List KI) (s:AS)
  |Ei (all:List Oper) (todo pend:List (Nat×Oper)) (k:List KI) (s:AS)
  |bad (why:Nat) (k:List KI) (s:AS)
  |out (k:List KI) (s:AS)
def l3 (id:Nat):List KI→Option (List KI)
  | []=>none
  | .aG j::k=>bif WO id j then some k else l3 id k
  | .code _::k=>l3 id k
  | .ops _ _::k=>l3 id k
  | .lp _::k=>l3 id k
  | .q8 _ _::k=>l3 id k
  | .cv _ _ _::k=>l3 id k
  | .A3 _ _::k=>l3 id k
  | .Cc::k=>l3 id k
  | .Ko ..::_=>none
  | .Kp ..::_=>none
def fm:List KI→Option (List KI)
  | []=>none
  | .aG _::k=>fm k
  | .code _::k=>fm k
  | .ops _ _::k=>fm k
  | .lp _::k=>fm k
  | .q8 _ _::k=>fm k
  | .cv _ _ _::k=>fm k
  | .A3 _ _::k=>fm k
  | .Cc::k=>fm k
  |k=>some k
structure Wi where
  nt:Nat
  res:List ResultVar
  body:Code
abbrev Vs:=Nat→Option Wi
def EK (P:Program) (fns:Vs):Prop:= ∀g e,fns g=some e→ ∃fn,P.funcs[g]? =some fn∧fn.body=some e.body∧(fn.name== "runtime.NumGoroutine")=false∧fn.ntmps=e.nt∧fn.results.toList=e.res
def yk {α:Type _}:Nat→List PV→(AF→α)→α
  |_,[],k=>k []
  |n,p::r,k=>sY p fun p'=>yk (n+1) r fun f=>k ((n,p')::f)
theorem tp {α:Type _}: ∀(l:List PV) (n:Nat) (k:AF→α),yk n l k=k (mQ n l)
  | [],_,_=>rfl
  |p::r,n,k=>by simp only[yk,c8,tp r,mQ]
def callee (fns:Vs) (s:AS):Op→Option (Wi×List PV)
  | .call c=>match cK s.f c with
    | some (g,asv)=>match fns g with
      | some e=>match YG asv.length e.nt with
        |true=>some (e,asv)
        |false=>none
      |none=>none
    |none=>none
  |_=>none
structure Way where
  fns:Vs
  un:Nat
  cl:Bool
def bA (ty:Ty) (y:Way):Nat→Nat→List KI→AS→Prop→Option (Prop×Nat×Stop)
  |0,nt,k,s,C=>some (C,nt, .out k s)
  |_+1,nt,[],s,C=>some (C,nt, .fin .normal s)
  |n+1,nt, .aG _::k,s,C=>bA ty y n nt k s C
  |_+1,nt, .lp R::_,s,C=>some (C,nt, .again R s)
  |n+1,nt, .Cc::k,s,C=>bA ty y n nt k s C
  |n+1,nt, .code (.scope b)::k,s,C=>bA ty y n nt (.code b:: .Cc::k) s C
  | n+1,nt, .A3 b m::k,s,C=>match m with
    |0=>some (C,nt, .bad 2 k s)
    |m+1=>bA ty y n nt (.code b:: .A3 b m::k) s C
  | n+1,_, .Ko nt f res o all rest::k,s,C=>match res s with
    |none=>some (C,nt, .bad 3 k s)
    | some r=>match putDst nt o r ⟨f,s.h,s.nx⟩ with
      |none=>some (C,nt, .bad 4 k s)
      |some s'=>bA ty y n nt (.ops all rest::k) s' C
  | n+1,_, .Kp nt f res j o all todo pend::k,s,C=>match res s with
    |none=>some (C,nt, .bad 5 k s)
    | some r=>match putDst nt o r ⟨f,s.h,s.nx⟩ with
      |none=>some (C,nt, .bad 6 k s)
      | some s'=>match dU ty nt all s' (bg pend o) with
        |none=>some (C,nt, .bad 7 k s)
        |some C''=>bA ty y n nt (.cv all (todo.filter fun x=>!WO x.1 j) (bg pend o)::k) s' (C∧C'')
  |n+1,nt, .code .skip::k,s,C=>bA ty y n nt k s C
  |n+1,nt, .code (.label _)::k,s,C=>bA ty y n nt k s C
  |n+1,nt, .code (.seq a b)::k,s,C=>bA ty y n nt (.code a:: .code b::k) s C
  |n+1,nt, .code (.block id b)::k,s,C=>bA ty y n nt (.code b:: .aG id::k) s C
  | n+1,nt, .code (.region id ops d)::k,s,C=>match d with
    |false=>bA ty y n nt (.ops ops.toList ops.toList::k) s C
    | true=>match pV ops.toList,eS 0 ops.toList,jD ty nt ops.toList 0 ops.toList with
      |true,true,true=>bA ty y n nt (.cv ops.toList (eN 0 ops.toList) []::k) s C
      |_,_,_=>some (C,nt, .draw id ops k s)
  |n+1,nt, .cv _ [] _::k,s,C=>bA ty y n nt k s C
  | n+1,nt, .cv all (x::todo) pend::k,s,C=>match jR ty nt s all (x::todo) pend (x::todo) with
    | some (.read i o p C')=>match putDst nt o p s with
      |none=>some (C,nt, .bad 8 k s)
      | some s'=>match vB o.op with
        |true=>bA ty y n nt (.cv all ((x::todo).filter fun x=>!WO x.1 i) ((i,o)::pend)::k) s' (C∧C')
        |false=>bA ty y n nt (.cv all ((x::todo).filter fun x=>!WO x.1 i) ((i,o)::pend)::k) s' C
    |some (.skip i o)=>bA ty y n nt (.cv all ((x::todo).filter fun x=>!WO x.1 i) ((i,o)::pend)::k) (fj o s) C
    | some (.split d _)=>match s.f.get d with
      | .iv (.v (.bool t'))=>match y.cl with
        |false=>some (C,nt, .Ee all (x::todo) pend d t' k s)
        | true=>match t' with
          |true=>bA ty y n nt (.cv all (x::todo) pend::k) (setBool s (.tmp d) true) C
          |false=>bA ty y n nt (.cv all (x::todo) pend::k) (setBool s (.tmp d) false) C
      |_=>some (C,nt, .bad 9 k s)
    | none=>match fk (x::todo) with
      | [(j,o)]=>match ck nt all s.f o,jd all pend o,pg (x::todo) [j] with
        | some true,true,true=>match tv ty nt all s (x::todo) pend with
          |none=>some (C,nt, .bad 101 k s)
          | some CA=>match il ty s o.op with
            | some (p,C')=>match putDst nt o p s with
              |none=>some (C,nt, .bad 102 k s)
              | some s'=>match dU ty nt all s' (bg pend o) with
                |none=>some (C,nt, .bad 103 k s)
                |some C''=>bA ty y n nt (.cv all ((x::todo).filter fun x=>!WO x.1 j) (bg pend o)::k) s' (C∧(CA∧C'∧C''))
            | none=>match Ce ty s o.op with
              | none=>match callee y.fns s o.op with
                | none=>match SH ty s o.op with
                  |none=>some (C,nt, .Ei all (x::todo) pend k s)
                  | some (C',p,s1)=>match putDst nt o p s1 with
                    |none=>some (C,nt, .bad 109 k s)
                    | some s'=>match dU ty nt all s' (bg pend o) with
                      |none=>some (C,nt, .bad 110 k s)
                      |some C''=>bA ty y n nt (.cv all ((x::todo).filter fun x=>!WO x.1 j) (bg pend o)::k) s' (C∧(CA∧C'∧C''))
                |some (e,asv)=>yk 0 asv fun f=>bA ty y n e.nt (.code e.body:: .Kp nt s.f (lR ty · e.res) j o all (x::todo) pend::k) ⟨f,s.h,s.nx⟩ (C∧CA)
              | some (p,s1)=>match putDst nt o p s1 with
                |none=>some (C,nt, .bad 104 k s)
                | some s'=>match dU ty nt all s' (bg pend o) with
                  |none=>some (C,nt, .bad 105 k s)
                  |some C''=>bA ty y n nt (.cv all ((x::todo).filter fun x=>!WO x.1 j) (bg pend o)::k) s' (C∧(CA∧C''))
        |_,_,_=>some (C,nt, .Ei all (x::todo) pend k s)
      | []=>match xp (x::todo) (x::todo) with
        |none=>some (C,nt, .Ei all (x::todo) pend k s)
        | some (i,o)=>match o.op,o.dst with
          | .alloc t,some d=>match ty t with
            |none=>some (C,nt, .bad 106 k s)
            | some e=>force (bW e.zero) fun cs=>match dU ty nt all s pend,dU ty nt all (jE s d cs) pend with
              |some C1,some C2=>bA ty y n nt (.cv all ((x::todo).filter fun x=>!WO x.1 i) pend::k) (jE s d cs) (C∧(C1∧C2))
              |_,_=>some (C,nt, .bad 107 k s)
          |_,_=>some (C,nt, .bad 108 k s)
      |_=>some (C,nt, .Ei all (x::todo) pend k s)
  | n+1,nt, .code (.cond c u v)::k,s,C=>match ev s.f c with
    | .iv (.v (.bool t))=>match y.cl with
      |false=>some (C,nt, .cond c t u v k s)
      | true=>match t with
        |true=>bA ty y n nt (.code u::k) s C
        |false=>bA ty y n nt (.code v::k) s C
    | .kb true=>bA ty y n nt (.code u::k) s C
    | .kb false=>bA ty y n nt (.code v::k) s C
    |_=>some (C,nt, .bad 14 k s)
  | n+1,nt, .code .ret::k,s,C=>match fm k with
    |some k'=>bA ty y n nt k' s C
    |none=>some (C,nt, .fin .ret s)
  | n+1,nt, .code (.exit id)::k,s,C=>match l3 id k with
    |some k'=>bA ty y n nt k' s C
    |none=>some (C,nt, .bad 15 k s)
  | n+1,nt, .code (.loop b)::k,s,C=>match y.un with
    |0=>some (C,nt, .loop b k s)
    |u+1=>bA ty y n nt (.code b:: .A3 b u::k) s C
  |_+1,nt, .code _::k,s,C=>some (C,nt, .bad 16 k s)
  |_+1,nt, .q8 _ _::k,s,C=>some (C,nt, .bad 17 k s)
  |n+1,nt, .ops _ []::k,s,C=>bA ty y n nt k s C
  | n+1,nt, .ops all (o::r)::k,s,C=>match o.guard with
    | some (j,want)=>match guardOf all s.f j with
      | some (d, .iv (.v (.bool t)))=>bif WU d nt then(match y.cl with
        |false=>some (C,nt, .guard all r o d want t k s)
        | true=>match t with
          |true=>bA ty y n nt (.ops all (o::r)::k) (setBool s (.tmp d) true) C
          |false=>bA ty y n nt (.ops all (o::r)::k) (setBool s (.tmp d) false) C) else some (C,nt, .bad 18 k s)
      | some (d, .kb t)=>bif WU d nt then(match t,want,o with
        |true,true,⟨a1,a2,a3,a4,a5,_⟩=>bA ty y n nt (.ops all (⟨a1,a2,a3,a4,a5,none⟩::r)::k) s C
        |false,false,⟨a1,a2,a3,a4,a5,_⟩=>bA ty y n nt (.ops all (⟨a1,a2,a3,a4,a5,none⟩::r)::k) s C
        |_,_,o=>bA ty y n nt (.ops all r::k) (fj o s) C) else some (C,nt, .bad 19 k s)
      |some (_, .iv (.v (.tuple _)))=>bA ty y n nt (.ops all r::k) (fj o s) C
      |_=>some (C,nt, .bad 20 k s)
    | none=>match il ty s o.op with
      | none=>match Ce ty s o.op with
        | none=>match callee y.fns s o.op with
          | none=>match SH ty s o.op with
            |none=>some (C,nt, .op all r o k s)
            | some (C',p,s1)=>match putDst nt o p s1 with
              |none=>some (C,nt, .bad 111 k s)
              |some s'=>bA ty y n nt (.ops all r::k) s' (C∧C')
          |some (e,asv)=>yk 0 asv fun f=>bA ty y n e.nt (.code e.body:: .Ko nt s.f (lR ty · e.res) o all r::k) ⟨f,s.h,s.nx⟩ C
        | some (p,s1)=>match putDst nt o p s1 with
          |none=>some (C,nt, .bad 21 k s)
          |some s'=>bA ty y n nt (.ops all r::k) s' C
      | some (p,C')=>match putDst nt o p s with
        |none=>some (C,nt, .bad 22 k s)
        | some s'=>match vB o.op with
          |true=>bA ty y n nt (.ops all r::k) s' (C∧C')
          |false=>bA ty y n nt (.ops all r::k) s' C
def fA (P:Program) (nt:Nat) (Q:AQ):Stop→Prop
  | .fin e s=>Q e s
  | .cond c t x y k s=>(t=true→GO P nt (.code x::k) Q (setBool s c true))∧(t=false→GO P nt (.code y::k) Q (setBool s c false))
  | .guard all r o d want t k s=>(t=want→GO P nt (.ops all ({o with guard:=none}::r)::k) Q (setBool s (.tmp d) want))∧(t=!want→GO P nt (.ops all r::k) Q (fj o (setBool s (.tmp d) (!want))))
  | .op all r o k s=>GO P nt (.ops all (o::r)::k) Q s
  | .loop b k s=>GO P nt (.code (.loop b)::k) Q s
  | .draw id ops k s=>GO P nt (.code (.region id ops true)::k) Q s
  | .again R s=>R s
  | .RH all r o d want t k s=>(t=want→GO P nt (.q8 all ({o with guard:=none}::r)::k) Q (setBool s (.tmp d) want))∧(t=!want→GO P nt (.q8 all r::k) Q (fj o (setBool s (.tmp d) (!want))))
  | .Ee all todo pend d t k s=>(t=true→GO P nt (.cv all todo pend::k) Q (setBool s (.tmp d) true))∧(t=false→GO P nt (.cv all todo pend::k) Q (setBool s (.tmp d) false))
  | .Ei all todo pend k s=>GO P nt (.cv all todo pend::k) Q s
  | .bad _ _ _=>False
  | .out k s=>GO P nt k Q s
section
variable {P:Program} {ty:Ty} {nt:Nat} {Q:AQ}
theorem lB: ∀(k:List KI) {nt:Nat} {s:AS},fm k=none→Q .ret s→kp P nt k Q .ret s
  | [],_,_,_,h=>h
  | .code _::k,_,_,g,h=>lB k g h
  | .aG _::k,_,_,g,h=>lB k g h
  | .ops _ _::k,_,_,g,h=>lB k g h
  | .lp _::k,_,_,g,h=>lB k g h
  | .q8 _ _::k,_,_,g,h=>lB k g h
  | .cv _ _ _::k,_,_,g,h=>lB k g h
  | .A3 _ _::k,_,_,g,h=>lB k g h
  | .Cc::k,_,_,g,h=>lB k g h
  | .Ko ..::_,_,_,g,_=>by simp[fm] at g
  | .Kp ..::_,_,_,g,_=>by simp[fm] at g
theorem da: ∀(k:List KI) {nt:Nat} {s:AS} {k':List KI},fm k=some k'→GO P nt k' Q s→kp P nt k Q .ret s
  | [],_,_,_,g,_=>by simp[fm] at g
  | .code _::k,_,_,_,g,h=>da k g h
  | .aG _::k,_,_,_,g,h=>da k g h
  | .ops _ _::k,_,_,_,g,h=>da k g h
  | .lp _::k,_,_,_,g,h=>da k g h
  | .q8 _ _::k,_,_,_,g,h=>da k g h
  | .cv _ _ _::k,_,_,_,g,h=>da k g h
  | .A3 _ _::k,_,_,_,g,h=>da k g h
  | .Cc::k,_,_,_,g,h=>da k g h
  | .Ko ..::_,_,_,_,g,h=>by
    simp only[fm,Wo] at g;subst g
    exact⟨.inr rfl,h.2⟩
  | .Kp ..::_,_,_,_,g,h=>by
    simp only[fm,Wo] at g;subst g;exact⟨.inr rfl,h.2⟩
theorem cO {id:Nat}: ∀(k:List KI) {nt:Nat} {k':List KI} {s:AS},l3 id k=some k'→GO P nt k' Q s→kp P nt k Q (.exit id) s
  | [],_,_,_,h,_=>by cases h
  | .code _::k,_,_,_,h,g=>cO k h g
  | .ops _ _::k,_,_,_,h,g=>cO k h g
  | .lp _::k,_,_,_,h,g=>cO k h g
  | .q8 _ _::k,_,_,_,h,g=>cO k h g
  | .cv _ _ _::k,_,_,_,h,g=>cO k h g
  | .A3 _ _::k,_,_,_,h,g=>cO k h g
  | .Cc::k,_,_,_,h,g=>cO k h g
  | .Ko ..::_,_,_,_,h,_=>by cases h
  | .Kp ..::_,_,_,_,h,_=>by cases h
  | .aG j::k,nt,k',s,h,g=>by
    simp only[l3] at h;show if id=j then _ else _
    cases hb:WO id j with
    | true=>
      simp only[hb,cond_true,Wo] at h;subst h;rw[if_pos (WK hb)]
      exact g
    | false=>
      simp only[hb,cond_false] at h;rw[if_neg (fun e=>by subst e;simp at hb)];exact cO k h g
theorem pL (hty:bE P ty) {s s':AS} {o:Oper} {p:PV} {C:Prop} (h:il ty s o.op=some (p,C)) (hC:C) (hp:putDst nt o p s=some s'):OT P nt o s (fun t=>t=s'):=by
  intro M N a w hf K Z hk;obtain⟨x,hx,hv⟩:=sb hty hf h hC;unfold Oper.wp;rw[hx];simp only[Oper.upon]
  cases hd:o.dst with
  | none=>
    have:=dM hp hd;subst this
    exact hk M N s' _ w (.refl _ _ _ _ _) hf rfl
  | some d=>
    obtain⟨h1,rfl⟩:=dL hp hd;exact hk M N {s with f:=(d,p)::s.f} _ w (.refl _ _ _ _ _) (hf.put d p x h1 hv) rfl
theorem iJ (hty:bE P ty) {s s':AS} {o:Oper} {p:PV} {C:Prop} (h:il ty s o.op=some (p,C)) (hC:C) (hp:putDst nt o p s=some s'):
    (s'.h=s.h∧s'.nx=s.nx)∧ ∀M N a w,Fits M N s nt a w→ ∃x,(execOp a.eval o).run P w= .ok (.value x) w∧Fits M N s' nt (a.put o.dst x) w:=by
  cases hd:o.dst with
  | none=>
    have:=dM hp hd;subst this
    exact⟨⟨rfl,rfl⟩,fun M N a w hf=>let ⟨x,hx,_⟩:=sb hty hf h hC;⟨x,hx,hf⟩⟩
  | some d=>
    obtain⟨h1,rfl⟩:=dL hp hd;exact⟨⟨rfl,rfl⟩,fun M N a w hf=>let ⟨x,hx,hv⟩:=sb hty hf h hC;⟨x,hx,hf.put d p x h1 hv⟩⟩
theorem l9 {s:AS} {all:List Oper} {todo pend:List (Nat×Oper)}: ∀{l:List (Nat×Oper)} {i:Nat} {o:Oper},(∀x∈l,x∈todo)→
    ((∀{p C},jR ty nt s all todo pend l=some (.read i o p C)→(i,o)∈todo∧aO o=false∧(∀x∈todo,waits o x.1=false)∧ck nt all s.f o=some true∧tw all pend o=true∧il ty s o.op=some (p,C))∧
     (jR ty nt s all todo pend l=some (.skip i o)→(i,o)∈todo∧aO o=false∧(∀x∈todo,waits o x.1=false)∧ck nt all s.f o=some false∧tw all pend o=true))
  | [],i,o,_=>⟨fun h=>by simp[jR] at h,fun h=>by simp[jR] at h⟩
  | (j,q)::r,i,o,hl=>by
    have ih:=l9 (s:=s) (all:=all) (todo:=todo) (pend:=pend) (l:=r) (i:=i) (o:=o) (fun x hx=>hl x (WE _ hx))
    have hno:(todo.any (fun y=>waits q y.1)||aO q)=false→aO q=false∧ ∀x∈todo,waits q x.1=false:=fun h=>by
      simp only[XY,Xg] at h;exact⟨h.2,fun x hx=>by simpa using h.1 x hx⟩
    constructor
    · intro p C h
      simp only[jR] at h;split at h
      · exact ih.1 h
      · rename_i h0
        split at h
        · rename_i hg
          split at h
          · rename_i hr
            split at h
            · rename_i ha
              simp only[Wo,EL.read.injEq] at h;obtain⟨rfl,rfl,rfl,rfl⟩:=h;exact⟨hl _ (by simp),(hno h0).1,(hno h0).2,hg,ha,hr⟩
            · exact ih.1 h
          · exact ih.1 h
        · split at h
          · cases h
          · exact ih.1 h
        · split at h
          · split at h
            · cases h
            · exact ih.1 h
          · exact ih.1 h
    · intro h
      simp only[jR] at h;split at h
      · exact ih.2 h
      · rename_i h0
        split at h
        · split at h
          · split at h
            · cases h
            · exact ih.2 h
          · exact ih.2 h
        · rename_i hg
          split at h
          · rename_i ha
            simp only[Wo,EL.skip.injEq] at h;obtain⟨rfl,rfl⟩:=h;exact⟨hl _ (by simp),(hno h0).1,(hno h0).2,hg,ha⟩
          · exact ih.2 h
        · split at h
          · split at h
            · cases h
            · exact ih.2 h
          · exact ih.2 h
theorem ym {s s1:AS} {o:Oper} {d:Nat} {p:PV} (hd:o.dst=some d) (hs:s1={s with f:=(d,p)::s.f}) (hp:ah p (s.f.get d)) {M:Mem} {N:Nm} {a:Act} {w:World} (hf:Fits M N s1 nt a w):Fits M N s nt a w:=by
  subst hs;refine⟨hf.1,fun k=>?_,hf.2.2⟩;have:=hf.2.1 k;rw[AF.aA] at this;split at this
  · rename_i hk;subst hk;exact hp _ _ _ _ this
  · exact this
theorem cV (hty:bE P ty) {all:List Oper} {s:AS}: ∀{l:List (Nat×Oper)} {C:Prop},dU ty nt all s l=some C→C→ ∀x∈l,fh P nt all s x.2
  | [],_,_,_,x,hx=>(nomatch hx)
  | (i,o)::r,C,h,hC,x,hx=>by
    simp only[dU] at h;split at h
    · cases h
    · rename_i R hR
      have key:R→(∀M N b w,Fits M N s nt b w→ ∃v,YieldsAt P all.toArray w o v b∧Fits M N s nt (b.put o.dst v) w)→fh P nt all s x.2:=by
        intro hr hh;rcases WG.1 hx with rfl|hx
        · exact hh
        · exact cV hty hR hr x hx
      split at h
      · rename_i hg
        split at h
        · rename_i p C' hr
          split at h
          · rename_i d hd
            cases hb:WU d nt with
            |false=>simp[hb] at h
            | true=>
              simp only[hb,cond_true,Wo] at h;subst h;obtain⟨⟨h1,h2⟩,h3⟩:=hC;refine key h3 fun M N b w hf=>?_;obtain⟨v,hv,hvr⟩:=sb hty hf hr h2;refine⟨v, .inl ⟨cY hg hf, .inl hv⟩,?_⟩;rw[hd];exact ym hd rfl h1 (hf.put d p v (Wj hb) hvr)
          · rename_i hd
            simp only[Wo] at h;subst h;refine key hC.2 fun M N b w hf=>?_;obtain⟨v,hv,hvr⟩:=sb hty hf hr hC.1;exact⟨v, .inl ⟨cY hg hf, .inl hv⟩,by rw[hd];exact hf⟩
        · cases h
      · rename_i hg
        have hsk: ∀d,o.dst=some d→s.f.get d= .iv (.v (.tuple #[]))→ ∀M N b w,Fits M N s nt b w→ ∃v,YieldsAt P all.toArray w o v b∧Fits M N s nt (b.put o.dst v) w:=fun d hd h1 M N b w hf=>by
          refine⟨undef, .inr ⟨cY hg hf,rfl⟩,?_⟩;have:=hf.skip o;unfold fj at this;rw[hd] at this ⊢;exact ym hd rfl (h1▸ah.refl _) this
        split at h
        · rename_i d hd
          simp only[Wo] at h;subst h;exact key hC.2 (hsk d hd hC.1)
        · rename_i hd
          simp only[Wo] at h;subst h;exact key hC fun M N b w hf=>⟨undef, .inr ⟨cY hg hf,rfl⟩,by rw[hd];exact hf⟩
      · cases h
theorem Ap {all:List Oper} {o:Oper} {r:List Oper} {d:Nat} {t:Bool} {k:List KI} {s:AS} {c:Bool} (hc:c=t) (hy:s.f.get d= .iv (.v (.bool t))) (h:GO P nt (.ops all (o::r)::k) Q (setBool s (.tmp d) c)):GO P nt (.ops all (o::r)::k) Q s:=by
  subst hc;intro M N a w hf;have hf':=hf.setBool (c:= .tmp d) hy;exact AL.same (s:=s) h (iA _ _ _) hf'
theorem sW {c:Operand} {u v:Code} {t:Bool} {k:List KI} {s:AS} (hc:ev s.f c= .iv (.v (.bool t))) (h:GO P nt (.code (bif t then u else v)::k) Q s):GO P nt (.code (.cond c u v)::k) Q s:=by
  intro M N a w hf;refine wp_cond (hf.bool hc) ?_;cases t
  · exact h M N a w hf
  · exact h M N a w hf
theorem qM {all:List Oper} {f:AF} {j d:Nat} {p:PV} (h:guardOf all f j=some (d,p)):f.get d=p:=by
  unfold guardOf at h;split at h
  · split at h
    · simp only[Wo,WA] at h;rw[←h.1];exact h.2
    · cases h
  · cases h
theorem xo {todo:List (Nat×Oper)}: ∀{l:List (Nat×Oper)} {i:Nat} {o:Oper},(∀x∈l,x∈todo)→xp todo l=some (i,o)→(i,o)∈todo∧wj todo i=true
  | [],_,_,_,h=>by simp[xp] at h
  | (j,q)::r,i,o,hl,h=>by
    simp only[xp] at h;split at h
    · rename_i h2
      simp only[Wo,WA] at h;obtain⟨rfl,rfl⟩:=h;exact⟨hl _ (by simp),h2⟩
    · exact xo (fun x hx=>hl x (WE _ hx)) h
theorem qY {all:List Oper} {i:Nat} {o:Oper}: ∀{l:List Oper} {n:Nat},mR all i o n l=true→ ∀k q,l[k]? =some q→n+k≠i→(waits q i=true∨looks all q o=false)∧ ∀d,o.dst=some d→q.dst≠some d
  | [],_,_,k,q,hk,_=>by simp at hk
  | c::l,n,h,k,q,hk,hne=>by
    simp only[mR,WN,Xl,W5] at h
    cases k with
    | zero=>
      simp at hk;subst hk;rcases h.1 with h1|⟨h1,h2⟩
      · exact absurd (WK h1) (by simpa using hne)
      · refine⟨h1,fun d hd1 hd2=>?_⟩
        rw[hd1,hd2] at h2
        simp at h2
    |succ k=>exact qY h.2 k q (by simpa using hk) (by omega)
theorem tT (hty:bE P ty) {all:List Oper} (h:jD ty nt all 0 all=true):gl P nt all:=by
  have key: ∀(l:List Oper) (n:Nat),jD ty nt all n l=true→ ∀k o,l[k]? =some o→aO o=true→
      o.guard=none∧(∃d,o.dst=some d∧d<nt)∧(∃t v,o.op= .alloc t∧ ∀w,(zeroValue t).run P w= .ok v w)∧(∀k,waits o k=false)∧mR all (n+k) o 0 all=true:=by
    intro l
    induction l with
    |nil=>intro n _ k o hk;simp at hk
    | cons c l ih=>
      intro n h k o hk ha;simp only[jD,WN] at h
      cases k with
      | zero=>
        simp at hk;subst hk;have h1:=h.1;split at h1
        · rename_i t ht
          split at h1
          · rename_i d e hg hd he
            simp only[WN] at h1;refine⟨hg,⟨d,hd,Wj h1.1⟩,⟨t,_,ht,fun w=>cX (hty _ _ he)⟩,fun k=>?_,h1.2.2⟩;unfold waits;refine Xg.2 fun e he=>?_;have:=WX.1 h1.2.1 e he;simp only[W5] at this;simp[this]
          · cases h1
        · rename_i hno
          unfold aO at ha;split at ha
          · rename_i t ht;exact absurd ht (hno t)
          · cases ha
      | succ k=>
        have:=ih (n+1) h.2 k o (by simpa using hk) ha;rw[show n+(k+1)=n+1+k by omega];exact this
  intro i o ho ha;obtain⟨h1,h2,h3,h4,h5⟩:=key all 0 h i o ho ha;refine⟨h1,h2,h3,h4,fun k q hk hne=>?_⟩;rw[WQ] at h5;exact qY h5 k q hk (by omega)
theorem u4 {fns:Vs} (hfn:EK P fns) {s:AS} {o:Op} {e:Wi} {asv:List PV} (h:callee fns s o=some (e,asv)):
    ∃g c fn,o= .call c∧cK s.f c=some (g,asv)∧asv.length≤e.nt∧P.funcs[g]? =some fn∧fn.body=some e.body∧(fn.name== "runtime.NumGoroutine")=false∧fn.ntmps=e.nt∧fn.results.toList=e.res:=by
  unfold callee at h;split at h
  · rename_i c
    split at h
    · rename_i g asv' ha
      split at h
      · rename_i e' he
        split at h
        · rename_i hb
          simp only[Wo,WA] at h;obtain⟨rfl,rfl⟩:=h;obtain⟨fn,h1,h2,h3,h4,h5⟩:=hfn _ _ he;exact⟨g,c,fn,rfl,ha,Wj hb,h1,h2,h3,h4,h5⟩
        · cases h
      · cases h
    · cases h
  · cases h
theorem RN (hm:P.follows .mixedOrders=true) (hty:bE P ty) {y:Way} (hfn:EK P y.fns): ∀(n nt:Nat) (k:List KI) (s:AS) (C0 C:Prop) (nt':Nat) (st:Stop),bA ty y n nt k s C0=some (C,nt',st)→(C→C0)∧(C→fA P nt' Q st→GO P nt k Q s):=by
  intro n
  induction n with
  | zero=>
    intro nt k s C0 C nt' st h;simp only[bA,Wo,WA] at h;obtain⟨rfl,rfl,rfl⟩:=h
    exact⟨fun h=>h,fun _ g=>g⟩
  | succ n ih=>
    intro nt k s C0 C nt' st h
    have fwd: ∀{nt2:Nat} {k2:List KI} {s2:AS},bA ty y n nt2 k2 s2 C0=some (C,nt',st)→(GO P nt2 k2 Q s2→GO P nt k Q s)→(C→C0)∧(C→fA P nt' Q st→GO P nt k Q s):=
      fun h f=>have:=ih _ _ _ _ _ _ _ h;⟨this.1,fun hC g=>f (this.2 hC g)⟩
    have fwdC: ∀{nt2:Nat} {k2:List KI} {s2:AS} {C1:Prop},bA ty y n nt2 k2 s2 (C0∧C1)=some (C,nt',st)→(C1→GO P nt2 k2 Q s2→GO P nt k Q s)→(C→C0)∧(C→fA P nt' Q st→GO P nt k Q s):=
      fun h f=>have:=ih _ _ _ _ _ _ _ h;⟨fun hC=>(this.1 hC).1,fun hC g=>f (this.1 hC).2 (this.2 hC g)⟩
    have here: ∀{st0:Stop},some (C0,nt,st0)=some (C,nt',st)→(fA P nt Q st0→GO P nt k Q s)→(C→C0)∧(C→fA P nt' Q st→GO P nt k Q s):=by
      intro st0 h f;simp only[Wo,WA] at h;obtain⟨rfl,rfl,rfl⟩:=h;exact⟨fun h=>h,fun _ g=>f g⟩
    have bad: ∀{nt2:Nat} {why:Nat} {k2:List KI} {s2:AS},some (C0,nt2,Stop.bad why k2 s2)=some (C,nt',st)→(C→C0)∧(C→fA P nt' Q st→GO P nt k Q s):=by
      intro nt2 why k2 s2 h;simp only[Wo,WA] at h;obtain⟨rfl,rfl,rfl⟩:=h;exact⟨fun h=>h,fun _ g=>g.elim⟩
    cases k with
    |nil=>simp only[bA] at h;exact here h fun g=>g
    | cons i k=>
      cases i with
      |lp R=>simp only[bA] at h;exact here h fun g=>g
      |aG id=>simp only[bA] at h;exact fwd h Sd
      |Cc=>simp only[bA] at h;exact fwd h fun g=>g
      | A3 b m=>
        simp only[bA] at h;split at h
        · exact bad h
        · exact fwd h go_round
      | Ko nt2 f res o all rest=>
        simp only[bA] at h;split at h
        · exact bad h
        · rename_i r hr
          split at h
          · exact bad h
          · rename_i s' hp
            exact fwd h fun g=>⟨.inl rfl,r,s',hr,hp,g⟩
      | Kp nt2 f res j o all todo pend=>
        simp only[bA] at h;split at h
        · exact bad h
        · rename_i r hr
          split at h
          · exact bad h
          · rename_i s' hp
            split at h
            · exact bad h
            · rename_i C'' hag
              exact fwdC h fun hC g=>⟨.inl rfl,r,s',hr,hp,cV hty hag hC,g⟩
      | code c=>
        cases c with
        |skip=>simp only[bA] at h;exact fwd h go_skip
        |scope b=>simp only[bA] at h;exact fwd h DT
        |label l=>simp only[bA] at h;exact fwd h DU
        |seq a b=>simp only[bA] at h;exact fwd h Sa
        |block id b=>simp only[bA] at h;exact fwd h DY
        | region id ops d=>
          cases d with
          |false=>simp only[bA] at h;exact fwd h go_region
          | true=>
            simp only[bA] at h;split at h
            · rename_i h1 h2 h3
              exact fwd h (DX hm (uB h1) h2 (tT hty h3))
            · exact here h fun g=>g
        | cond c u v=>
          simp only[bA] at h;split at h
          · rename_i t he
            split at h
            · exact here h fun g=>Ki he g.1 g.2
            · split at h
              · exact fwd h (sW he)
              · exact fwd h (sW he)
          · rename_i he
            exact fwd h (sU he)
          · rename_i he
            exact fwd h (sU he)
          · exact bad h
        | ret=>
          simp only[bA] at h;split at h
          · rename_i k' hp
            exact fwd h fun g=>go_ret (da k hp g)
          · rename_i hp
            exact here h fun g=>go_ret (lB k hp g)
        | exit id=>
          simp only[bA] at h;split at h
          · rename_i k' hp
            exact fwd h fun g=>Kf (cO k hp g)
          · exact bad h
        | loop b=>
          simp only[bA] at h;split at h
          · exact here h fun g=>g
          · exact fwd h DS
        |_=>simp only[bA] at h;exact bad h
      |q8 all rest=>simp only[bA] at h;exact bad h
      | cv all todo pend=>
        cases todo with
        |nil=>simp only[bA] at h;exact fwd h xQ
        | cons x todo=>
          have hrdy: ∀{j:Nat} {o:Oper},fk (x::todo)=[(j,o)]→(j,o)∈(x::todo)∧aO o=false∧ ∀y∈(x::todo),waits o y.1=false:=by
            intro j o h1;have h2:(j,o)∈fk (x::todo):=by rw[h1];simp
            obtain⟨h3,h4⟩:=WW.1 h2;simp only[W5,XY,Xg] at h4;exact⟨h3,h4.1,fun y hy=>by simpa using h4.2 y hy⟩
          have hagn: ∀{CA:Prop},tv ty nt all s (x::todo) pend=some CA→CA→ ∀y∈(x::todo),aO y.2=true→ ∀y∈pend,fh P nt all s y.2:=by
            intro CA h1 hCA y hy hya;unfold tv at h1;split at h1
            · exact cV hty h1 hCA
            · rename_i h2
              have:=Xg.1 h2 y hy;rw[hya] at this;exact absurd rfl this
          have heff: ∀{j:Nat} {o:Oper} {s':AS},fk (x::todo)=[(j,o)]→ck nt all s.f o=some true→jd all pend o=true→pg (x::todo) [j]=true→(∀y∈(x::todo),aO y.2=true→ ∀y∈pend,fh P nt all s y.2)→OT P nt o s (fun t=>t=s')→
              (∀y∈bg pend o,fh P nt all s' y.2)→GO P nt (.cv all ((x::todo).filter fun x=>!WO x.1 j) (bg pend o)::k) Q s'→GO P nt (.cv all (x::todo) pend::k) Q s:=by
            intro j o s' h1 h2 h3 h4 ha h5 h6 h7;obtain⟨hmem,hna,hwa⟩:=hrdy h1;refine rF h4 ⟨_,hmem,hna⟩ ha fun j' o' hj _ hu=>?_;simp only[Wy] at hj;subst hj;have:=hu o hmem;subst this;exact⟨hna,fun y hy _=>hwa y hy,h3,h2,_,h5,fun t ht=>by subst ht;exact⟨h6,h7⟩⟩
          simp only[bA] at h;split at h
          · rename_i i o p C' hpk
            obtain⟨g1,ga,gb,g2,g3,g4⟩:=(l9 (fun _ h=>h)).1 hpk;split at h
            · exact bad h
            · rename_i s' hp
              split at h
              · exact fwdC h fun hC g=>sT g1 ga gb g2 g3 (iJ hty g4 hC hp).1 (iJ hty g4 hC hp).2 g
              · rename_i ho
                exact fwd h fun g=>sT g1 ga gb g2 g3 (iJ hty g4 (ry g4 ho) hp).1 (iJ hty g4 (ry g4 ho) hp).2 g
          · rename_i i o hpk
            obtain⟨g1,ga,gb,g2,g3⟩:=(l9 (fun _ h=>h)).2 hpk;exact fwd h (DW g1 ga gb g2 g3)
          · split at h
            · rename_i t' hy
              split at h
              · exact here h fun g=>p6 hy g.1 g.2
              · split at h
                · exact fwd h fun g=>p6 hy (fun _=>g) (fun h=>by cases h)
                · exact fwd h fun g=>p6 hy (fun h=>by cases h) (fun _=>g)
            · exact bad h
          · split at h
            · rename_i j o hrd
              split at h
              · rename_i hg1 hg2 hg3
                split at h
                · exact bad h
                · rename_i CA hCA
                  split at h
                  · rename_i p C' hr
                    split at h
                    · exact bad h
                    · rename_i s' hp
                      split at h
                      · exact bad h
                      · rename_i C'' hag
                        exact fwdC h fun hC g=>heff hrd hg1 hg2 hg3 (hagn hCA hC.1) (pL hty hr hC.2.1 hp) (cV hty hag hC.2.2) g
                  · split at h
                    · split at h
                      · split at h
                        · exact here h fun g=>g
                        · rename_i C' p s1 hap
                          split at h
                          · exact bad h
                          · rename_i s' hp
                            split at h
                            · exact bad h
                            · rename_i C'' hag
                              exact fwdC h fun hC g=>heff hrd hg1 hg2 hg3 (hagn hCA hC.1) (yp hty hap hC.2.1 hp) (cV hty hag hC.2.2) g
                      · rename_i e asv hce
                        rw[tp] at h;obtain⟨g,c,fn,ho,ha,he,h1,h2,h3,h4,h5⟩:=u4 hfn hce;obtain⟨hmem,hna,hwa⟩:=hrdy hrd;exact fwdC h fun hC gg=>Kg hty hmem hg3 hwa (hagn hCA hC) hg2 hg1 ho ha h1 h2 h3 h4 h5 he gg
                    · rename_i p s1 hmo
                      split at h
                      · exact bad h
                      · rename_i s' hp
                        split at h
                        · exact bad h
                        · rename_i C'' hag
                          exact fwdC h fun hC g=>heff hrd hg1 hg2 hg3 (hagn hCA hC.1) (yU hty hmo hp) (cV hty hag hC.2) g
              · exact here h fun g=>g
            · split at h
              · exact here h fun g=>g
              · rename_i i o hpa
                split at h
                · rename_i t d hot hod
                  split at h
                  · exact bad h
                  · rename_i e he
                    rw[force_eq] at h;split at h
                    · rename_i C1 C2 hc1 hc2
                      obtain⟨m1,m2⟩:=xo (fun _ h=>h) hpa;exact fwdC h fun hC g=>BS m1 hot (fun w=>cX (hty _ _ he)) hod m2 (cV hty hc1 hC.1) (cV hty hc2 hC.2) g
                    · exact bad h
                · exact bad h
            · exact here h fun g=>g
      | ops all rest=>
        cases rest with
        |nil=>simp only[bA] at h;exact fwd h zc
        | cons o r=>
          simp only[bA] at h;split at h
          · rename_i j want hg
            split at h
            · rename_i d t hy
              cases hb:WU d nt with
              |false=>simp only[hb,cond_false] at h;exact bad h
              | true=>
                simp only[hb,cond_true] at h;split at h
                · exact here h fun g=>DV hg hy (Wj hb) g.1 g.2
                · split at h
                  · exact fwd h (Ap rfl (qM hy))
                  · exact fwd h (Ap rfl (qM hy))
            · rename_i d t hy
              cases hb:WU d nt with
              |false=>simp only[hb,cond_false] at h;exact bad h
              | true=>
                simp only[hb,cond_true] at h;obtain⟨a1,a2,a3,a4,a5,a6⟩:=o;cases t<;>cases want<;>simp only at h
                all_goals exact fwd h fun g=>xO hg hy (Wj hb) g
            · rename_i d vs hy
              exact fwd h fun g=>xN hg hy g
            · exact bad h
          · rename_i hg
            split at h
            · split at h
              · split at h
                · split at h
                  · exact here h fun g=>g
                  · rename_i C' p s1 hap
                    split at h
                    · exact bad h
                    · rename_i s' hp
                      exact fwdC h fun hC g=>dE hg (yp hty hap hC hp) fun t ht=>by subst ht;exact g
                · rename_i e asv hce
                  rw[tp] at h;obtain⟨g,c,fn,ho,ha,he,h1,h2,h3,h4,h5⟩:=u4 hfn hce;exact fwd h fun gg=>Sb hty hg ho ha h1 h2 h3 h4 h5 he gg
              · rename_i p s1 hmo
                split at h
                · exact bad h
                · rename_i s' hp
                  exact fwd h fun g=>dE hg (yU hty hmo hp) fun t ht=>by subst ht;exact g
            · rename_i p C' hr
              split at h
              · exact bad h
              · rename_i s' hp
                split at h
                · exact fwdC h fun hC g=>dE hg (pL hty hr hC hp) fun t ht=>by subst ht;exact g
                · rename_i ho
                  exact fwd h fun g=>dE hg (pL hty hr (ry hr ho) hp) fun t ht=>by subst ht;exact g
theorem R1:EK P (fun _=>none):=fun _ _ h=>nomatch h
theorem zb (hm:P.follows .mixedOrders=true) (hty:bE P ty) (n:Nat) {k:List KI} {s:AS} {C:Prop} {nt':Nat} {st:Stop} (h:bA ty ⟨fun _=>none,0,false⟩ n nt k s True=some (C,nt',st)) (hC:C) (hg:fA P nt' Q st):GO P nt k Q s:=
  (RN hm hty R1 n nt k s True C nt' st h).2 hC hg
end
end Go.Al
namespace Go.Al
mutual
def PV.low (n:Nat):PV→Bool
 | .iv _=>true
 | .agg cs=>bz n cs
 | .bP cs=>bz n cs
 | .ptr i _=>WU i n
 | .c4 i _ _ _=>WU i n
 | .eC _ i=>WU i n
 | .sl i _ _ _=>WU i n
 | .mp i=>WU i n
 | .cH _ first caps=>match bz n first with
  |true=>bz n caps
  |false=>false
 | .kb _=>true
 | .any=>true
def bz (n:Nat):List PV→Bool
 | []=>true
 |p::r=>match PV.low n p with
  |true=>bz n r
  |false=>false
end
theorem fI {n:Nat}: ∀{l:List PV},bz n l=true→ ∀(j:Nat) (p:PV),l[j]? =some p→p.low n=true
 | [],_,j,p,h=>by simp at h
 |c::l,hb,j,p,h=>by
  simp only[bz] at hb;split at hb
  ·rename_i hc
   cases j with
   |zero=>simp at h;subst h;exact hc
   |succ j=>exact fI hb j p (by simpa using h)
  ·cases hb
def AO.low (n:Nat):AO→Prop
 | .cells cs _=>bz n cs=true
 | .row _ es=> ∀(k:Nat) (e:List PV),es[k]? =some e→bz n e=true
 | .bx _ _=>True
 | .eE=>True
 | .map ..=>True
 | .bq ..=>True
 | .dt _ _=>True
section
variable {M:Mem} {N:Nm} {U:Nat→Prop} {n:Nat}
theorem VR.down {p:PV} {x:Value} (h:VR M N U p x):p.low n=true→VR M N (· <n) p x:=by
 induction h with
 |iv x y h=>exact fun _=> .iv x y h
 |agg cs ys hl hr ih=>exact fun hb=> .agg _ _ hl fun j p hj=>ih j p hj (fI hb j p hj)
 |bP cs ys hl hr ih=>exact fun hb=> .bP _ _ hl fun j p hj=>ih j p hj (fI hb j p hj)
 |ptr i off h=>exact fun hb=> .ptr i off (Wj hb)
 |c4 i sz k off h=>exact fun hb=> .c4 i sz k off (Wj hb)
 |eC z i h=>exact fun hb=> .eC z i (Wj hb)
 |sl i off len sz cap h h0 hl hc he=>exact fun hb=> .sl i off len sz cap (Wj hb) h0 hl hc he
 |lQ i sz h=>exact fun hb=> .lQ i sz (Wj hb)
 |sle i sz cap h hc he=>exact fun hb=> .sle i sz cap (Wj hb) hc he
 |mp i h=>exact fun hb=> .mp i (Wj hb)
 |cH fn first caps f' c' h1 h2 hr1 hr2 ih1 ih2=>
  intro hb;simp only[PV.low] at hb;split at hb
  ·rename_i h0
   exact .cH _ _ _ _ _ h1 h2 (fun j p hj=>ih1 j p hj (fI h0 j p hj)) (fun j p hj=>ih2 j p hj (fI hb j p hj))
  ·cases hb
 |kb b=>exact fun _=> .kb b
 |any x=>exact fun _=> .any x
theorem OR.down {w:World} {i:Nat} {o:AO} (h:OR M N U w i o) (hb:o.low n):OR M N (· <n) w i o:=by
 cases o with
 |cells cs T0=>obtain⟨c,T,h1,h2,h3,h4,h5⟩:=h;exact⟨c,T,h1,h2,h3,fun j p hj=>(h4 j p hj).down (fI hb j p hj),h5⟩
 |row sz es=>
  rcases h with h|⟨h0,c,T,h1,h2,h3,h4,h5⟩
  ·exact .inl h
  exact .inr ⟨h0,c,T,h1,h2,h3,h4,fun k e j p he hp=>(h5 k e j p he hp).down (fI (hb k e he) j p hp)⟩
 |bx l T=>exact h
 |eE=>exact h
 |map kc ev z zv dv m=>exact h
 |bq kc ev m l cu=>exact h
 |dt s p=>exact h
end
def Cl (n:Nat) (f:AF):AF→Prop
 | []=>True
 |(d,p)::r=>f.get d=p∧p.low n=true∧Cl n f r
def zB (n:Nat) (h:AH):AH→Prop
 | []=>True
 |(_,none)::r=>zB n h r
 |(i,some o)::r=>h.get i=some o∧i<n∧o.low n∧zB n h r
structure KO (s t:AS):Prop where
 nx:t.nx≤s.nx
 f:Cl t.nx s.f t.f
 h:zB t.nx s.h t.h
theorem tY {n:Nat} {f:AF}: ∀{g:AF},Cl n f g→ ∀d,g.get d= .any∨(f.get d=g.get d∧(g.get d).low n=true)
 | [],_,_=> .inl rfl
 |(k,p)::r,h,d=>by
  obtain⟨h1,h2,h3⟩:=h;rw[AF.aA];by_cases hd:d=k
  ·subst hd;rw[if_pos rfl];exact .inr ⟨h1,h2⟩
  ·rw[if_neg hd];exact tY h3 d
theorem fK {n:Nat} {h:AH}: ∀{g:AH},zB n h g→ ∀i o,g.get i=some o→h.get i=some o∧i<n∧o.low n
 | [],_,i,o,hi=>by simp[AH.get] at hi
 |(k,none)::r,hw,i,o,hi=>by
  rw[AH.aA] at hi;split at hi
  ·cases hi
  ·exact fK (g:=r) hw i o hi
 |(k,some p)::r,hw,i,o,hi=>by
  obtain⟨h1,h2,h3,h4⟩:=hw;rw[AH.aA] at hi;split at hi
  ·rename_i e;subst e;simp only[Wo] at hi;subst hi;exact⟨h1,h2,h3⟩
  ·exact fK h4 i o hi
theorem KO.fits {s t:AS} (hw:KO s t) {M:Mem} {N:Nm} {nt:Nat} {a:Act} {w:World} (hf:Fits M N s nt a w):Fits M N t nt a w:=by
 refine⟨⟨hf.1.cZ,fun i o hi=>(fK hw.h i o hi).2.1,fun i o hi hre=>hf.1.dA i o (fK hw.h i o hi).1 hre,fun i o hi=>?_,fun i j o p hi hj=>hf.1.inj i j o p (fK hw.h i o hi).1 (fK hw.h j p hj).1⟩,fun d=>?_,hf.2.2⟩
 ·obtain⟨h1,h2,h3⟩:=fK hw.h i o hi
  exact(hf.1.obj i o h1).down h3
 ·rcases tY hw.f d with h|⟨h1,h2⟩
  ·rw[h];exact .any _
  ·have:=hf.2.1 d
   rw[h1] at this;exact this.down h2
theorem KO.ext {s t:AS} (hw:KO s t) {M M':Mem} {N N':Nm} {n:Nat} {h:AH} {w w':World} (hx:Ext M N (· <n) h w M' N' (· <s.nx) s.h w') (hn:n≤t.nx):Ext M N (· <n) h w M' N' (· <t.nx) t.h w':=
 ⟨hx.os,hx.tape,hx.output,hx.size,hx.gd,hx.ow,hx.gn,hx.nm,fun _ hi=>X7 hi hn,fun i o hi hre=>hx.fQ i o (fK hw.h i o hi).1 hre⟩
theorem cJ {p:Nat→Prop} (h: ∃n,p n): ∃n,p n∧ ∀m,p m→n≤m:=by
 obtain⟨n,hn⟩:=h
 induction n using Nat.strongRecOn with
 |_ n ih=>
  by_cases hm: ∃m,m<n∧p m
  ·obtain⟨m,h1,h2⟩:=hm;exact ih m h1 h2
  ·exact⟨n,hn,fun m h2=>Xc fun h1=>hm ⟨m,h1,h2⟩⟩
section
variable {P:Program} {nt:Nat} {Q:AQ} {k:List KI} {s:AS}
end
section
variable {P:Program}
def Pure (P:Program) (k:FuncId) (args:List PV) (r:PV):Prop:=Fn P k args [] fun q h n=>q=r∧h=[]∧n=0
end
mutual
theorem PV.jQ (σ:Nat→Nat): ∀p:PV,p.low 0=true→p.cL σ=p
 | .iv _,_=>rfl
 | .agg cs,h=>by simp only[PV.cL];rw[fV σ cs (by simpa[PV.low] using h)]
 | .bP cs,h=>by simp only[PV.cL];rw[fV σ cs (by simpa[PV.low] using h)]
 | .ptr i o,h=>by simp[PV.low,WU] at h
 | .c4 i _ _ o,h=>by simp[PV.low,WU] at h
 | .eC _ i,h=>by simp[PV.low,WU] at h
 | .sl i _ _ _,h=>by simp[PV.low,WU] at h
 | .mp i,h=>by simp[PV.low,WU] at h
 | .cH fn a b,h=>by
  simp only[PV.low] at h;simp only[PV.cL];split at h
  ·rename_i ha
   rw[fV σ a ha,fV σ b h]
  ·cases h
 | .kb _,_=>rfl
 | .any,_=>rfl
theorem fV (σ:Nat→Nat): ∀l:List PV,bz 0 l=true→dJ σ l=l
 | [],_=>rfl
 |p::r,h=>by
  simp only[bz] at h;split at h
  ·rename_i hp
   simp only[dJ];rw[PV.jQ σ p hp,fV σ r h]
  ·cases h
end
section
variable {P:Program} {nt:Nat} {Q:AQ} {k:List KI} {s:AS}
theorem an {all rest:List Oper} {o:Oper} {c:Call} {g:FuncId} {args:List PV} {r:PV} {s':AS} (hc:Pure P g args r) (ho:o.op= .call c) (hg:o.guard=none) (ha:cK s.f c=some (g,args)) (hl:bz 0 args=true)
  (hr:r.low 0=true) (hp:putDst nt o r s=some s') (h:GO P nt (.ops all rest::k) Q s'):GO P nt (.ops all (o::rest)::k) Q s:=by
 refine dE (R:=fun t=>t=s') hg ?_ (fun t ht=>by subst ht;exact h);refine jY ho ha hc (L:=[]) (by simp) (by simp) rfl (fV _ _ hl).symm ?_
 rintro q h' n' ⟨rfl,rfl,rfl⟩
 exact⟨s',by rw[PV.jQ _ _ hr];exact hp,rfl⟩
end
end Go.Al
namespace Go.Al
def eU (o q:AO):Prop:=(q.real=true→o.real=true)∧ ∀(M:Mem) (N:Nm) (U:Nat→Prop) (w:World) (i:Nat),OR M N U w i o→OR M N U w i q
theorem ah.of_eq {p q:PV} (h:p=q):ah p q:=h▸ .refl p
theorem ah.trans {p q r:PV} (a:ah p q) (b:ah q r):ah p r:=fun M N U x h=>b M N U x (a M N U x h)
theorem ah.any (p:PV):ah p .any:=fun _ _ _ _ _=> .any _
theorem ke.refl (p:IV):ke p p:=fun _ _ h=>h
theorem ke.of_eq {p q:IV} (h:p=q):ke p q:=h▸ .refl p
theorem eU.refl (o:AO):eU o o:=⟨id,fun _ _ _ _ _ h=>h⟩
theorem eU.of_eq {o q:AO} (h:o=q):eU o q:=h▸ .refl o
theorem eU.trans {o q r:AO} (a:eU o q) (b:eU q r):eU o r:=⟨fun h=>a.1 (b.1 h),fun M N U w i h=>b.2 M N U w i (a.2 M N U w i h)⟩
theorem ah.iv {p q:IV} (h:ke p q):ah (.iv p) (.iv q):=fun M N U x hx=>by
 cases hx with
 |iv _ _ hi=>exact .iv _ _ (h M x hi)
theorem ke.nil (sz:Nat) (el:Nat→List IV):ke (.v (.slice none 0 0)) (.cz sz 0 el):=fun M x h=>by
 cases h;exact .gp _ _ _ _
theorem ah.nil (sz:Nat) (el:Nat→List IV):ah (.iv (.v (.slice none 0 0))) (.iv (.cz sz 0 el)):= .iv (.nil sz el)
theorem ah.kb (b:Bool):ah (.kb b) (.iv (.v (.bool b))):=fun M N U x h=>by
 cases h;exact .iv _ _ (.v _)
theorem ke.cz {sz n n':Nat} {el el':Nat→List IV} (hn:n=n') (h: ∀k,k<n→el k=el' k):ke (.cz sz n el) (.cz sz n' el'):=by
 subst hn;intro M x hx
 cases hx with
 |gp=>exact .gp _ _ _ _
 |cz _ _ _ b off cap hn hc hl hm hr=>
  exact .cz _ _ _ _ _ _ hn hc (fun k hk=>by rw[←h k hk];exact hl k hk) hm (fun k j p hk hp=>hr k j p hk (by rw[h k hk];exact hp))
theorem ah.cz {sz n n':Nat} {el el':Nat→List IV} (hn:n=n') (h: ∀k,k<n→el k=el' k):ah (.iv (.cz sz n el)) (.iv (.cz sz n' el')):= .iv (.cz hn h)
def kU:List PV→List PV→Prop
 | [],[]=>True
 |p::r,q::s=>ah p q∧kU r s
 |_,_=>False
theorem kU.length: ∀{a b:List PV},kU a b→a.length=b.length
 | [],[],_=>rfl
 |_::_,_::_,h=>congrArg (· +1) (kU.length h.2)
 | [],_::_,h=>h.elim
 |_::_,[],h=>h.elim
theorem kU.get: ∀{a b:List PV},kU a b→ ∀(j:Nat) (q:PV),b[j]? =some q→ ∃p,a[j]? =some p∧ah p q
 | [],[],_,j,q,h=>by simp at h
 |p::r,q0::s,hh,j,q,h=>by
  cases j with
  |zero=>simp at h;subst h;exact⟨p,rfl,hh.1⟩
  |succ j=>simpa using kU.get hh.2 j q (by simpa using h)
 | [],_::_,hh,_,_,_=>hh.elim
 |_::_,[],hh,_,_,_=>hh.elim
theorem ah.agg {a b:List PV} (h:kU a b):ah (.agg a) (.agg b):=fun M N U x hx=>by
 cases hx with
 |agg _ ys hl hr=>exact .agg _ _ (h.length▸hl) fun j q hj=>let ⟨p,hp,hle⟩:=h.get j q hj;hle M N U _ (hr j p hp)
theorem ah.bP {a b:List PV} (h:kU a b):ah (.bP a) (.bP b):=fun M N U x hx=>by
 cases hx with
 |bP _ ys hl hr=>exact .bP _ _ (h.length▸hl) fun j q hj=>let ⟨p,hp,hle⟩:=h.get j q hj;hle M N U _ (hr j p hp)
theorem eU.cells {a b:List PV} {T0:Option TypeId} (h:kU a b):eU (.cells a T0) (.cells b T0):=⟨fun h=>h,fun M N U w i ⟨c,T,h1,h2,h3,h4,h5⟩=>
 ⟨c,T,h1,h2,h.length▸h3,fun j q hj=>let ⟨p,hp,hle⟩:=h.get j q hj;hle M N U _ (h4 j p hp),h5⟩⟩
theorem eU.SO (a:List PV) (T0:Option TypeId):eU (.cells a T0) (.cells a):=⟨fun h=>h,fun M N U w i ⟨c,T,h1,h2,h3,h4,_⟩=>⟨c,T,h1,h2,h3,h4, .none _⟩⟩
theorem Fn.le {P:Program} {k:FuncId} {aa args:List PV} {os:List AO} {R:PV→AH→Nat→Prop} (h:Fn P k args os R) (hle:kU aa args):Fn P k aa os R:=
 ⟨h.1,fun M N w vs hr hl hv=>h.2 M N w vs hr (by rw[←hle.length];exact hl) fun j q hj=>let ⟨p,hp,hpq⟩:=hle.get j q hj;hpq M N _ _ (hv j p hp)⟩
theorem Pure.le {P:Program} {k:FuncId} {aa args:List PV} {r:PV} (h:Pure P k args r) (hle:kU aa args):Pure P k aa r:=Fn.le h hle
theorem Fn.mono {P:Program} {k:FuncId} {args:List PV} {os:List AO} {R R':PV→AH→Nat→Prop} (h:Fn P k args os R) (hR: ∀r h n,R r h n→R' r h n):Fn P k args os R':=
 ⟨h.1,fun M N w vs hr hl hv=>(h.2 M N w vs hr hl hv).mono fun _ _ ⟨x,M',N',r,h',n',e,hh,rest⟩=>⟨x,M',N',r,h',n',e,hR _ _ _ hh,rest⟩⟩
def sg (n0:Nat) (L:List Nat) (i:Nat):Nat:=bif WU i n0 then i else L.getD (i-n0) 0
theorem fc {n0:Nat} {L:List Nat} {i:Nat} (h:i<n0):sg n0 L i=i:=by
 have:WU i n0=true:=Xi h;simp[sg,this]
def PM (n:Nat) (σ:Nat→Nat) (f:AF):AF→Prop
 | []=>True
 |(d,p)::r=>ah (f.get d) (p.cL σ)∧p.low n=true∧PM n σ f r
def tU (n:Nat) (σ:Nat→Nat) (h:AH):AH→Prop
 | []=>True
 |(_,none)::r=>tU n σ h r
 |(i,some o)::r=>(∃o',h.get (σ i)=some o'∧eU o' (o.cL σ))∧i<n∧o.low n∧tU n σ h r
def fx (σ:Nat→Nat):AH→List Nat
 | []=> []
 |(_,none)::r=>fx σ r
 |(i,some _)::r=>σ i::fx σ r
structure Wk (n0:Nat) (L:List Nat) (s t:AS):Prop where
 nx:t.nx=n0+L.length
 ns:n0≤s.nx
 lt: ∀j∈L,j<s.nx
 f:PM t.nx (sg n0 L) s.f t.f
 h:tU t.nx (sg n0 L) s.h t.h
 inj:(fx (sg n0 L) t.h).Nodup
theorem zA {n:Nat} {σ:Nat→Nat} {f:AF}: ∀{g:AF},PM n σ f g→ ∀d,g.get d= .any∨(ah (f.get d) ((g.get d).cL σ)∧(g.get d).low n=true)
 | [],_,_=> .inl rfl
 |(k,p)::r,h,d=>by
  obtain⟨h1,h2,h3⟩:=h;rw[AF.aA];by_cases hd:d=k
  ·subst hd;rw[if_pos rfl];exact .inr ⟨h1,h2⟩
  ·rw[if_neg hd];exact zA h3 d
theorem gG {n:Nat} {σ:Nat→Nat} {h:AH}: ∀{g:AH},tU n σ h g→ ∀i o,g.get i=some o→(∃o',h.get (σ i)=some o'∧eU o' (o.cL σ))∧i<n∧o.low n
 | [],_,i,o,hi=>by simp[AH.get] at hi
 |(k,none)::r,hw,i,o,hi=>by
  rw[AH.aA] at hi;split at hi
  ·cases hi
  ·exact gG (g:=r) hw i o hi
 |(k,some p)::r,hw,i,o,hi=>by
  obtain⟨h1,h2,h3,h4⟩:=hw;rw[AH.aA] at hi;split at hi
  ·rename_i e;subst e;simp only[Wo] at hi;subst hi;exact⟨h1,h2,h3⟩
  ·exact gG h4 i o hi
theorem iC {σ:Nat→Nat}: ∀{g:AH} {i:Nat} {o:AO},g.get i=some o→σ i∈fx σ g
 | [],i,o,h=>by simp[AH.get] at h
 |(k,none)::r,i,o,h=>by
  rw[AH.aA] at h;split at h
  ·cases h
  ·exact iC (g:=r) h
 |(k,some p)::r,i,o,h=>by
  rw[AH.aA] at h;split at h
  ·rename_i e;subst e;simp[fx]
  ·exact WE _ (iC h)
theorem lj {σ:Nat→Nat}: ∀{g:AH},(fx σ g).Nodup→ ∀i j o p,g.get i=some o→g.get j=some p→σ i=σ j→i=j
 | [],_,i,j,o,p,h,_,_=>by simp[AH.get] at h
 |(k,none)::r,hn,i,j,o,p,hi,hj,he=>by
  rw[AH.aA] at hi hj;split at hi
  ·cases hi
  ·split at hj
   ·cases hj
   ·exact lj (g:=r) hn i j o p hi hj he
 |(k,some q)::r,hn,i,j,o,p,hi,hj,he=>by
  rw[AH.aA] at hi hj;simp only[fx,Xu] at hn;split at hi
  ·rename_i e1
   split at hj
   ·rename_i e2;rw[e1,e2]
   ·subst e1
    exact absurd (he▸iC hj) hn.1
  ·split at hj
   ·rename_i e2
    subst e2;exact absurd (he▸iC hi) hn.1
   ·exact lj hn.2 i j o p hi hj he
section
variable {n0:Nat} {L:List Nat} {s t:AS} {M:Mem} {N:Nm} {w:World}
theorem eU.real {o q:AO} (h:eU o q) (hq:q.real=true):o.real=true:=h.1 hq
theorem Wk.fits (hw:Wk n0 L s t) {nt:Nat} {a:Act} (hf:Fits M N s nt a w):Fits M (N.comp (sg n0 L)) t nt a w:=by
 refine⟨⟨hf.1.cZ,fun i o hi=>(gG hw.h i o hi).2.1,fun i o hi hre=>?_,fun i o hi=>?_,fun i j o p hi hj ho hp he=>?_⟩,fun d=>?_,hf.2.2⟩
 ·obtain⟨⟨o',h1,h2⟩,h3,h4⟩:=gG hw.h i o hi
  exact hf.1.dA _ o' h1 (h2.real ((AO.bQ _ o).trans hre))
 ·obtain⟨⟨o',h1,h2⟩,h3,h4⟩:=gG hw.h i o hi
  exact(OR.rW (h2.2 M N _ w _ (hf.1.obj _ _ h1))).down h4
 ·obtain⟨⟨o',h1,h2⟩,_⟩:=gG hw.h i o hi
  obtain⟨⟨p',h3,h4⟩,_⟩:=gG hw.h j p hj;have:=hf.1.inj _ _ _ _ h1 h3 (h2.real ((AO.bQ _ o).trans ho)) (h4.real ((AO.bQ _ p).trans hp)) he;exact lj hw.inj i j o p hi hj this
 ·rcases zA hw.f d with h|⟨h1,h2⟩
  ·rw[h];exact .any _
  ·exact((h1 M N _ _ (hf.2.1 d)).rW rfl).down h2
theorem Wk.ext (hw:Wk n0 L s t) {M0:Mem} {N0:Nm} {h0:AH} {w0:World} (hx:Ext M0 N0 (· <n0) h0 w0 M N (· <s.nx) s.h w):Ext M0 N0 (· <n0) h0 w0 M (N.comp (sg n0 L)) (· <t.nx) t.h w:=by
 refine⟨hx.os,hx.tape,hx.output,hx.size,hx.gd,hx.ow,hx.gn,⟨fun i hi=>?_,fun i hi=>?_⟩,fun i hi=>by have:=hw.nx;omega,fun i o hi hre=>?_⟩
 ·simp only[Nm.comp,fc hi];exact hx.nm.aG i hi
 ·simp only[Nm.comp,fc hi];exact hx.nm.ext i hi
 ·obtain⟨⟨o',h1,h2⟩,_⟩:=gG hw.h i o hi
  exact hx.fQ _ o' h1 (h2.real ((AO.bQ _ o).trans hre))
end
theorem ob {P:Program} {nt:Nat} {Q:AQ} {k:List KI} {s:AS} {c:Code} {R R':AS→Prop} (h: ∀t,R t→R' t) (hg:GO P nt (.code c:: .lp R::k) Q s):GO P nt (.code c:: .lp R'::k) Q s:=by
 intro M N a w hf;refine AW.then hg hf fun e a' w' M' N' s' hx hf' hr=>⟨M',N',s',hx,hf',?_⟩
 cases e with
 |normal=>exact h _ hr
 |_=>exact hr
section
variable {P:Program} {nt:Nat} {Q:AQ} {k:List KI} {s:AS}
theorem bU {L:List Nat} {t:AS} {c:Code} (hw:Wk s.nx L s t) (h:GO P nt (.code c::k) Q t):GO P nt (.code c::k) Q s:=by
 intro M N a w hf;exact AW.then h (hw.fits hf) fun e a2 w2 M2 N2 s2 hx2 hf2 hr2=>⟨M2,N2,s2,(hw.ext (.refl _ _ _ _ _)).trans hx2,hf2,hr2⟩
theorem mu {body:Code} {σ:Type} (I:σ→AS) (μ:σ→Nat) (i0:σ) (L0:List Nat) (h0:Wk s.nx L0 s (I i0))
  (round: ∀i,GO P nt (.code body:: .lp (fun t=> ∃j L,μ j<μ i∧Wk s.nx L t (I j))::k) Q (I i)):GO P nt (.code (.loop body)::k) Q s:=by
 intro M0 N0 a0 w0 hf0
 let J:Act→World→Nat→Prop:=fun a w n=> ∃i M N,μ i=n∧Ext M0 N0 (· <s.nx) s.h w0 M N (· <(I i).nx) (I i).h w∧Fits M N (I i) nt a w
 have hJ0:J a0 w0 (μ i0):=⟨i0,M0,N0.comp (sg s.nx L0),rfl,h0.ext (.refl _ _ _ _ _),h0.fits hf0⟩
 refine wp_loop (fun a w=> ∃n,J a w n) (fun a w=>by classical exact if h: ∃n,J a w n then YI (cJ h) else 0) ⟨_,hJ0⟩ fun a w hex=>?_;obtain⟨⟨i,M,N,hi,hx,hf⟩,hmin⟩:=X5 (cJ hex);refine AW.then (round i) hf fun e a' w' M' N' s' hx' hf' hr=>?_
 cases e with
 |normal=>
  obtain⟨j,L,hj,hw⟩:=hr;have hJ:J a' w' (μ j):=⟨j,M',N'.comp (sg s.nx L),rfl,hw.ext (hx.trans hx'),hw.fits hf'⟩
  refine⟨⟨_,hJ⟩,?_⟩;simp only[dif_pos hex,dif_pos (⟨_,hJ⟩: ∃n,J a' w' n)];rw[←hi]
  exact Nat.lt_of_le_of_lt ((X5 (cJ (⟨_,hJ⟩: ∃n,J a' w' n))).2 _ hJ) hj
 |_=>exact⟨M',N',s',hx.trans hx',hf',hr⟩
end
section
variable {P:Program} {nt:Nat} {Q:AQ} {k:List KI} {s:AS}
theorem aK {body:Code} (i0 n:Nat) (hi0:i0≤n) (I:Nat→AS) (J:Nat→Prop) (L0:List Nat) (j0:J i0) (h0:Wk s.nx L0 s (I i0))
  (round: ∀i,i≤n→J i→GO P nt (.code body:: .lp (fun t=>i<n∧J (i+1)∧ ∃L,Wk s.nx L t (I (i+1)))::k) Q (I i)):GO P nt (.code (.loop body)::k) Q s:=by
 refine mu (σ:={i:Nat//i≤n∧J i}) (fun i=>I i.1) (fun i=>n-i.1) ⟨i0,hi0,j0⟩ L0 h0 fun i=>?_;obtain⟨i,h1,h2⟩:=i;have:=round i h1 h2;refine ob ?_ this
 rintro t ⟨h3,h4,L,h5⟩
 exact⟨⟨i+1,h3,h4⟩,L,by show n-(i+1)<n-i;omega,h5⟩
end
theorem jW {P:Program} {nt:Nat} {Q:AQ} {k:List KI} {s:AS} {c:Code} (t sz:Nat) (ht:s.f.get t= .iv (.v (.slice none 0 0))) (h:GO P nt (.code c::k) Q (rS s t sz)):GO P nt (.code c::k) Q s:=by
 intro M N a w hf;obtain⟨sf,sh,sn⟩:=s;obtain⟨h1,h2⟩:=hf.1.ER sz
 have hf1:Fits M N (rS ⟨sf,sh,sn⟩ t sz) nt a w:=by
  refine⟨h2,fun k=>?_,hf.2.2⟩;simp only[rS];rw[AF.aA];split
  ·rename_i hk2
   subst hk2;have:=hf.2.1 k;simp only at ht this;rw[ht] at this;generalize a.tmps.getD k undef=v at this
   cases this with
   |iv _ _ h=>cases h with
    |v=>exact .lQ _ _ (XT _)
  ·exact(hf.2.1 k).mono (.refl _) (.refl _ _) (fun i hi=>X3 hi)
 exact AW.then h hf1 fun e a2 w2 M2 N2 s2 hx2 hf2 hr2=>⟨M2,N2,s2,h1.trans hx2,hf2,hr2⟩
mutual
def PV.cZ (i sz:Nat) (el:Nat→List IV):PV→PV
 | .iv x=> .iv x
 | .agg cs=> .agg (mv i sz el cs)
 | .bP cs=> .bP (mv i sz el cs)
 | .sl j off len sz'=>bif WO j i then .iv (.cz sz len (fun k=>el (off+k))) else .sl j off len sz'
 | .ptr j o=> .ptr j o
 | .c4 j a b c=> .c4 j a b c
 | .eC z j=> .eC z j
 | .mp j=> .mp j
 | .cH fn a b=> .cH fn a b
 | .kb b=> .kb b
 | .any=> .any
def mv (i sz:Nat) (el:Nat→List IV):List PV→List PV
 | []=> []
 |p::r=>PV.cZ i sz el p::mv i sz el r
end
theorem gh (i sz:Nat) (el:Nat→List IV): ∀l:List PV,mv i sz el l=l.map (PV.cZ i sz el)
 | []=>rfl
 |p::r=>by simp[mv,gh i sz el r]
mutual
def PV.bm (i sz n:Nat):PV→Prop
 | .agg cs=>b5 i sz n cs
 | .bP cs=>b5 i sz n cs
 | .sl j off len sz'=>if j=i then sz'=sz∧off+len≤n else True
 |_=>True
def b5 (i sz n:Nat):List PV→Prop
 | []=>True
 |p::r=>PV.bm i sz n p∧b5 i sz n r
end
theorem gC {i sz n:Nat}: ∀{l:List PV},b5 i sz n l→ ∀(j:Nat) (p:PV),l[j]? =some p→p.bm i sz n
 | [],_,j,p,h=>by simp at h
 |c::l,hh,j,p,h=>by
  cases j with
  |zero=>simp at h;subst h;exact hh.1
  |succ j=>exact gC hh.2 j p (by simpa using h)
theorem vW {M:Mem} {N:Nm} {n:Nat} {h:AH} {w:World} (hr:Rel M N (· <n) h w) {i sz:Nat} {es:List (List PV)} (hi:h.get i=some (.row sz es)) {el:Nat→List IV}
  (hel: ∀k e,es[k]? =some e→e=(el k).map .iv): ∃M',Ext M N (· <n) h w M' N (· <n) ((i,none)::h) w∧Rel M' N (· <n) ((i,none)::h) w∧
   ∀p x,VR M N (· <n) p x→p.bm i sz es.length→VR M' N (· <n) (p.cZ i sz el) x:=by
 have key: ∀M':Mem,M.le M'→(∀off len cap b,off+len≤es.length→0<len→len≤cap→cap≤maxLen→b=N.aG i→IR M' (.cz sz len (fun k=>el (off+k))) (.slice (some ⟨b,off*sz,none⟩) len cap))→
   ∀p x,VR M N (· <n) p x→p.bm i sz es.length→VR M' N (· <n) (p.cZ i sz el) x:=by
  intro M' hM hs p x hx
  induction hx with
  |iv x y h=>exact fun _=> .iv _ _ (h.mono hM)
  |agg cs ys hl hr ih=>
   intro hp;refine .agg _ _ (by simpa[gh] using hl) fun j q hq=>?_;rw[gh,Ww,Wx] at hq;obtain⟨q0,hq0,rfl⟩:=hq
   exact ih j q0 hq0 (gC (by simpa[PV.bm] using hp) j q0 hq0)
  |bP cs ys hl hr ih=>
   intro hp;refine .bP _ _ (by simpa[gh] using hl) fun j q hq=>?_;rw[gh,Ww,Wx] at hq;obtain⟨q0,hq0,rfl⟩:=hq
   exact ih j q0 hq0 (gC (by simpa[PV.bm] using hp) j q0 hq0)
  |ptr i off h=>exact fun _=> .ptr _ _ h
  |c4 i sz k off h=>exact fun _=> .c4 _ _ _ _ h
  |eC z i h=>exact fun _=> .eC _ _ h
  |sl j off len sz' cap h h0 hl hc he=>
   intro hp;simp only[PV.bm] at hp;simp only[PV.cZ];by_cases hj:j=i
   ·subst hj
    rw[if_pos rfl] at hp;obtain⟨rfl,hp⟩:=hp;have:WO j j=true:=by simp
    rw[this,cond_true];exact .iv _ _ (hs off len cap _ hp h0 hl hc rfl)
   ·have:WO j i=false:=XD.2 (fun e=>hj (WK e))
    rw[this,cond_false]
    exact .sl _ _ _ _ _ h h0 hl hc he
  |lQ j sz' h=>
   intro hp;simp only[PV.cZ]
   cases hb:WO j i with
   |true=>exact .iv _ _ (.gp _ _ _ _)
   |false=>exact .lQ _ _ h
  |sle j sz' cap h hc he=>
   intro hp;simp only[PV.cZ]
   cases hb:WO j i with
   |true=>exact .iv _ _ (.gp _ _ _ _)
   |false=>exact .sle _ _ _ h hc he
  |mp i h=>exact fun _=> .mp _ h
  |cH fn first caps f' c' h1 h2 hr1 hr2 ih1 ih2=>exact fun _=> .cH _ _ _ _ _ h1 h2 (fun j p hj=>(hr1 j p hj).mono hM (.refl _ _) (fun _ h=>h)) (fun j p hj=>(hr2 j p hj).mono hM (.refl _ _) (fun _ h=>h))
  |kb b=>exact fun _=> .kb _
  |any x=>exact fun _=> .any _
 rcases hr.obj i _ hi with h0|⟨h0,c,T,h1,h2,h3,h4,h5⟩
 ·subst h0
  exact⟨M,(Ext.refl _ _ _ _ _).del i,hr.del i,key M (.refl _) fun off len cap b h1 h2=>by simp at h1;omega⟩
 ·have hne:es≠ []∨es=[]:=by cases es<;>simp
  rcases hne with hne|rfl;rotate_left
  ·exact⟨M,(Ext.refl _ _ _ _ _).del i,hr.del i,key M (.refl _) fun off len cap b h1 h2=>by simp at h1;omega⟩
  have hre:(AO.row sz es).real=true:=by cases es with
   |nil=>exact absurd rfl hne
   |cons=>rfl
  have hMi:=hr.dA i _ hi hre
  let M':Mem:=M.set (N.aG i) (.cells c) hMi
  have hM:M.le M':=fun b d hb=>by
   simp only[M',Mem.set];by_cases hb2:b=N.aG i
   ·rw[hb2,hMi] at hb;cases hb
   ·rw[if_neg hb2];exact hb
  have hnew: ∀b d,M b=none→M' b=some d→b=N.aG i:=fun b d h1 h2=>by
   simp only[M',Mem.set] at h2;by_cases hb2:b=N.aG i
   ·exact hb2
   ·rw[if_neg hb2,h1] at h2;cases h2
  refine⟨M',?_,?_,key M' hM fun off len cap b hb h6 h7 h8 hbe=>?_⟩
  ·exact⟨rfl,rfl,rfl,Wz _,fun _ _ _=>rfl,hM,fun b d h1 h2=> .inr ⟨i,_,hi,hre,(hnew b d h1 h2).symm⟩, .refl _ _,fun _ h=>h,fun j o hj hre=> .inr ⟨j,o,(ba j o hj).2,hre,rfl⟩⟩
  ·refine⟨fun b d hb=>?_,fun j o hj=>hr.used j o (ba j o hj).2,fun j o hj hre'=>?_,fun j o hj=>?_,fun j k o p hj hk=>hr.inj j k o p (ba j o hj).2 (ba k p hk).2⟩
   ·simp only[M',Mem.set] at hb
    by_cases hb2:b=N.aG i
    ·rw[if_pos hb2] at hb;cases hb;exact⟨T,(0,0),by rw[hb2,h1]⟩
    ·rw[if_neg hb2] at hb;exact hr.cZ b d hb
   ·obtain⟨g1,g2⟩:=ba j o hj
    simp only[M',Mem.set];rw[if_neg fun e=>g1 (hr.inj j i o _ g2 hi hre' hre e)];exact hr.dA j o g2 hre'
   ·obtain⟨g1,g2⟩:=ba j o hj
    exact(hr.obj j o g2).mono hM (.refl _ _) (fun _ h=>h) (hr.used j o g2) rfl
  ·subst hbe
   have hcell: ∀o,M'.cell (N.aG i) o=c[o]? :=fun o=>by simp[Mem.cell,M',Mem.set]
   have hlt: ∀k j,k<len→j<sz→off*sz+k*sz+j<c.size:=by
    intro k j hk hj;have:(off+k+1)*sz≤es.length*sz:=WR _ (by omega);rw[Xw,Xw] at this;omega
   have hek: ∀k,k<len→ ∃e,es[off+k]? =some e:=fun k hk=>⟨_,Wt (by omega)⟩
   refine .cz _ _ _ _ _ _ h7 h8 (fun k hk=>?_) (fun k j hk hj=>?_) (fun k j p hk hp=>?_)
   ·obtain⟨e,he⟩:=hek k hk
    have:=h4 _ e he;rw[hel _ e he] at this;simpa using this
   ·rw[hcell];simp[hlt k j hk hj]
   ·obtain⟨e,he⟩:=hek k hk
    have h9:=h4 _ e he;have h10:=hel _ e he;have hj:j<sz:=by rw[←h9,h10,W3];exact(Wr.1 hp).1
    have:=h5 _ e j (.iv p) he (by rw[h10,Ww,hp];rfl);rw[hcell];have e2:off*sz+k*sz+j=(off+k)*sz+j:=by rw[Xw]
    rw[e2];rw[Wm] at this
    cases this with
    |iv _ _ h=>exact h.mono hM
def fB (h:AH) (n:Nat) (r:PV) (K:AH→PV→Prop):Prop:= ∀M N w,Rel M N (· <n) h w→ ∃M' h2 r2,Ext M N (· <n) h w M' N (· <n) h2 w∧Rel M' N (· <n) h2 w∧(∀x,VR M N (· <n) r x→VR M' N (· <n) r2 x)∧K h2 r2
theorem fB.done {h:AH} {n:Nat} {r:PV} {K:AH→PV→Prop} (hk:K h r):fB h n r K:=fun M N w hr=>⟨M,h,r, .refl _ _ _ _ _,hr,fun _ h=>h,hk⟩
theorem fB.row {h:AH} {n:Nat} {r:PV} {K:AH→PV→Prop} (i:Nat) {sz:Nat} {es:List (List PV)} (el:Nat→List IV) (hi:h.get i=some (.row sz es)) (hel: ∀k e,es[k]? =some e→e=(el k).map .iv)
  (hin:r.bm i sz es.length) (hk:fB ((i,none)::h) n (r.cZ i sz el) K):fB h n r K:=by
 intro M N w hr;obtain⟨M1,h1,h2,h3⟩:=vW hr hi hel;obtain⟨M2,h',r2,g1,g2,g3,g4⟩:=hk M1 N w h2;exact⟨M2,h',r2,h1.trans g1,g2,fun x hx=>g3 x (h3 _ _ hx hin),g4⟩
def KU (ty:Ty) (l:List ResultVar) (m:Nat) (R:PV→AH→Nat→Prop):AQ:=fun e s=>
 (e= .normal∨e= .ret)∧ ∃r0,lR ty s l=some r0∧fB s.h s.nx r0 fun h2 r2=> ∃r h' n' L,R r h' n'∧Wk m L ⟨[(0,r2)],h2,s.nx⟩ ⟨[(0,r)],h',n'⟩
section
variable {P:Program}
theorem sZ {ty:Ty} (hty:bE P ty) {k:FuncId} {fn:Func} {c:Code} (hf:P.funcs[k]? =some fn) (hb:fn.body=some c) (hn:(fn.name== "runtime.NumGoroutine")=false) {nt:Nat} (hnt:fn.ntmps=nt)
  {l:List ResultVar} (hl:fn.results.toList=l) {args:List PV} (hle:args.length≤nt) {os:List AO} {R:PV→AH→Nat→Prop}
  (h:GO P nt [.code c] (KU ty l os.length R) ⟨mQ 0 args,dC 0 os,os.length⟩):Fn P k args os R:=by
 have key:Fn P k args os (fun r0 h0 n0=>fB h0 n0 r0 fun h2 r2=> ∃r h' n' L,R r h' n'∧Wk os.length L ⟨[(0,r2)],h2,n0⟩ ⟨[(0,r)],h',n'⟩):=by
  refine zh hty hf hb hn hnt hl hle ?_;intro M N a w hfit;refine wp_mono (h M N a w hfit) fun e a' w' hp=>?_;obtain⟨M',N',s',h1,h2,h3⟩:=hp;refine⟨M',N',s',h1,h2,?_⟩;simp only[kp] at h3 ⊢;obtain⟨he,r,g1,g2⟩:=h3;exact⟨he,r,g1,g2⟩
 refine⟨key.1,fun M N w vs hr hlen hv=>(key.2 M N w vs hr hlen hv).mono ?_⟩
 rintro e w' ⟨x,M',N',r0,h0,n0,rfl,hF,hx,hr',hvr⟩
 obtain⟨M2,h2,r2,g1,g2,g3,r,h',n',L,hR,hw⟩:=hF M' N' w' hr'
 have hf0:Fits M2 N' ⟨[(0,r2)],h2,n0⟩ 1 ⟨#[x],[]⟩ w':=⟨g2,fun d=>by
  rw[AF.aA];by_cases hd:d=0
  ·subst hd;rw[if_pos rfl];exact g3 x hvr
  ·rw[if_neg hd];exact .any _,rfl,rfl⟩
 have hf1:=hw.fits hf0;refine⟨x,M2,_,r,h',n',rfl,hR,hw.ext (hx.trans g1),hf1.1,?_⟩;have:=hf1.2.1 0;exact this
def KT (ty:Ty) (l:List ResultVar) (r:PV):AQ:=fun e s=>
 (e= .normal∨e= .ret)∧ ∃r0,lR ty s l=some r0∧fB s.h s.nx r0 fun _ r2=>ah r2 r
theorem ax {ty:Ty} (hty:bE P ty) {k:FuncId} {fn:Func} {c:Code} (hf:P.funcs[k]? =some fn) (hb:fn.body=some c) (hn:(fn.name== "runtime.NumGoroutine")=false) {nt:Nat} (hnt:fn.ntmps=nt)
  {l:List ResultVar} (hl:fn.results.toList=l) {args:List PV} (hle:args.length≤nt) {r:PV} (hlow:r.low 0=true)
  (h:GO P nt [.code c] (KT ty l r) ⟨mQ 0 args,[],0⟩):Pure P k args r:=by
 refine sZ hty hf hb hn hnt hl hle ?_;intro M N a w hfit;refine wp_mono (h M N a w hfit) fun e a' w' hp=>?_;obtain⟨M',N',s',h1,h2,h3⟩:=hp;refine⟨M',N',s',h1,h2,?_⟩;simp only[kp] at h3 ⊢;obtain⟨he,r0,g1,g2⟩:=h3;refine⟨he,r0,g1,fun M N w hr=>?_⟩;obtain⟨M2,h2,r2,q1,q2,q3,q4⟩:=g2 M N w hr;refine⟨M2,h2,r2,q1,q2,q3,r,[],0,[],⟨rfl,rfl,rfl⟩,rfl,WC _,by simp,⟨?_,hlow,trivial⟩,trivial,Xk⟩;rw[PV.jQ _ _ hlow];exact q4
theorem aw {ty:Ty} {l:List ResultVar} {r r0:PV} {e:Exit} {s:AS} (he:e= .normal∨e= .ret) (h:lR ty s l=some r0) (hle:ah r0 r):KT ty l r e s:=⟨he,r0,h, .done hle⟩
end
section
variable {P:Program}
theorem D8 {k:FuncId} {args:List PV} {os:List AO} {R:PV→AH→Nat→Prop} (hc:kW P k) {n:Nat} (hn: ∃sz el,PV.iv (.cz sz n el)∈args) (h:n≤maxLen→Fn P k args os R):Fn P k args os R:=by
 refine⟨hc,fun M N w vs hr hl hv=>?_⟩;obtain⟨sz,el,hn⟩:=hn;obtain⟨j,hj⟩:=W6 hn;have:=hv j _ hj
 have hle:n≤maxLen:=by
  generalize vs.getD j undef=v at this
  cases this with
  |iv _ _ hi=>cases hi with
   |gp=>exact WC _
   |cz=>omega
 exact(h hle).2 M N w vs hr hl hv
theorem Dh {k:FuncId} {args:List PV} {r:PV} (hc:kW P k) {n:Nat} (hn: ∃sz el,PV.iv (.cz sz n el)∈args) (h:n≤maxLen→Pure P k args r):Pure P k args r:=D8 hc hn h
end
end Go.Al
namespace Go.Al
inductive FT where
 |leaf
 |node (l:FT) (k e:Nat) (r:FT)
def FT.find:FT→Nat→Option Nat
 | .leaf,_=>none
 | .node l k e r,t=>bif WO t k then some e else bif WU t k then l.find t else r.find t
def FT.PK (p:Nat→Nat→Prop):FT→Prop
 | .leaf=>True
 | .node l k e r=>p k e∧l.PK p∧r.PK p
theorem FT.kO {p:Nat→Nat→Prop}: ∀{x:FT},x.PK p→ ∀t e,x.find t=some e→p t e
 | .leaf,_,t,e,h=>by simp[FT.find] at h
 | .node l k e0 r,ha,t,e,h=>by
  simp only[FT.find] at h
  cases hb:WO t k with
  |true=>
   simp only[hb,cond_true,Wo] at h;have:=WK hb;subst this;subst h
   exact ha.1
  |false=>
   simp only[hb,cond_false] at h
   cases hc:WU t k with
   |true=>simp only[hc,cond_true] at h;exact FT.kO ha.2.1 t e h
   |false=>simp only[hc,cond_false] at h;exact FT.kO ha.2.2 t e h
end Go.Al
namespace Go.Al
abbrev iI (n:Int):IV:= .v (.int .i64 n)
abbrev iS (s:ByteArray):IV:= .v (.string s)
abbrev pI (n:Int):PV:= .iv (iI n)
abbrev pS (s:ByteArray):PV:= .iv (iS s)
abbrev pB (b:Bool):PV:= .iv (.v (.bool b))
abbrev ag (l:List IV):PV:= .agg (l.map .iv)
abbrev cM {α:Type} [Inhabited α] (sz:Nat) (l:List α) (f:α→List IV):IV:= .cz sz l.length (fun k=>f (l.getD k default))
def aD {α:Type} (sz:Nat) (l:List α) (f:α→List IV):AO:= .row sz (l.map fun x=>(f x).map .iv)
theorem oJ (σ:Nat→Nat): ∀l:List IV,dJ σ (l.map .iv)=l.map .iv
 | []=>rfl
 |x::r=>by simp only[WI,dJ,PV.cL,oJ σ r]
theorem qu (n:Nat): ∀l:List IV,bz n (l.map .iv)=true
 | []=>rfl
 |x::r=>by simp only[WI,bz,PV.low,qu n r]
section
variable {α:Type} {sz:Nat} {l:List α} {f:α→List IV}
theorem cm (σ:Nat→Nat):(aD sz l f).cL σ=aD sz l f:=by
 simp only[aD,AO.cL,List.map_map];congr 1;exact List.map_congr_left fun x _=>oJ σ _
theorem dX (n:Nat):(aD sz l f).low n:=by
 intro k e he;rw[Ww,Wx] at he;obtain⟨x,_,rfl⟩:=he;exact qu n _
theorem JB {es:List (List PV)} (σ:Nat→Nat) (h:es=l.map fun x=>(f x).map .iv):eU (.row sz es) ((aD sz l f).cL σ):=by
 rw[cm];exact .of_eq (by rw[h];rfl)
theorem ch [Inhabited α] {es:List (List PV)} (h:es=l.map fun x=>(f x).map .iv): ∀k e,es[k]? =some e→e=(f (l.getD k default)).map .iv:=by
 subst h;intro k e he;rw[Ww,Wx] at he;obtain⟨x,hx,rfl⟩:=he;rw[Ws,hx];rfl
theorem mU [Inhabited α] (l:List α) (f:α→List IV):(WL l.length).map (fun k=>(f (l.getD k default)).map PV.iv)=l.map fun x=>(f x).map .iv:=by
 apply Yo;intro k;rw[Ww,Ww];rcases W9 k l.length with h|h
 ·rw[Yr h,Wt h];simp[Ws,h]
 ·simp[h]
theorem qZ (h: ∀x,fv ((f x).map .iv)=true) (l:List α):allOnes (l.map fun x=>(f x).map .iv)=true:=by
 induction l with
 |nil=>rfl
 |cons x r ih=>simp only[WI,allOnes,h x,ih]
theorem ic [Inhabited α] (h: ∀x,fv ((f x).map .iv)=true) (l:List α):allOnes ((WL l.length).map (fun k=>(f (l.getD k default)).map PV.iv))=true:=by
 rw[mU];exact qZ h l
end
def aE (l:List IV):AO:= .cells (l.map .iv)
theorem zt (σ:Nat→Nat) (l:List IV):(aE l).cL σ=aE l:=by
 simp only[aE,AO.cL,oJ]
theorem B7 {cs:List PV} {T0:Option TypeId} {l:List IV} (σ:Nat→Nat) (h:cs=l.map .iv):eU (.cells cs T0) ((aE l).cL σ):=by
 rw[zt];exact .trans (.SO cs T0) (.of_eq (by rw[h];rfl))
def ei:List Nat→Bool
 | []=>true
 |x::r=>!r.elem x&&ei r
theorem ef: ∀{l:List Nat},ei l=true→l.Nodup
 | [],_=>Xk
 |x::r,h=>by
  simp only[ei,WN,W5,List.elem_eq_mem,decide_eq_false_iff_not] at h;exact Xu.2 ⟨h.1,ef h.2⟩
theorem wk {n0:Nat} {L:List Nat} {s t:AS} (h1:WO t.nx (n0+L.length)=true) (h2:YG n0 s.nx=true) (h3:L.all (fun j=>WU j s.nx)=true) (hf:PM t.nx (sg n0 L) s.f t.f) (hh:tU t.nx (sg n0 L) s.h t.h)
  (h4:ei (fx (sg n0 L) t.h)=true):Wk n0 L s t:=
 ⟨WK h1,Wj h2,fun j hj=>Wj (WX.1 h3 j hj),hf,hh,ef h4⟩
theorem Cj {n0:Nat} {s t:AS} (h1:t.nx=n0) (h2:YG n0 s.nx=true) (hf:PM t.nx (sg n0 []) s.f t.f) (hh:t.h=[]):Wk n0 [] s t:=
 ⟨by simpa using h1,Wj h2,by simp,hf,by rw[hh];trivial,by rw[hh];exact Xk⟩
section
variable {n i:Nat} {σ:Nat→Nat} {h r:AH}
theorem hC {cs:List PV} {T0:Option TypeId} {c:List IV} (ho:h.get (σ i)=some (.cells cs T0)) (he:cs=c.map .iv) (hi:WU i n=true) (hr:tU n σ h r):tU n σ h ((i,some (aE c))::r):=
 ⟨⟨_,ho,B7 σ he⟩,Wj hi,qu n c,hr⟩
theorem hR {α:Type} {sz:Nat} {es:List (List PV)} {l:List α} {f:α→List IV} (ho:h.get (σ i)=some (.row sz es)) (he:es=l.map fun x=>(f x).map .iv) (hi:WU i n=true) (hr:tU n σ h r):tU n σ h ((i,some (aD sz l f))::r):=
 ⟨⟨_,ho,JB σ he⟩,Wj hi,dX n,hr⟩
theorem hM {V:Type} {kc:KC} {ev:V→IV} {z:V} {zv:Value} {dv:PV→V} {m m':List (kc.K×V)} (ho:h.get (σ i)=some (.map kc ev z zv dv m)) (he:m=m') (hi:WU i n=true) (hr:tU n σ h r):tU n σ h ((i,some (.map kc ev z zv dv m'))::r):=
 ⟨⟨_,ho, .of_eq (by rw[he];rfl)⟩,Wj hi,trivial,hr⟩
theorem DO {V:Type} {kc:KC} {ev:V→IV} {z:V} {zv:Value} {dv:PV→V} (ho:h.get (σ i)=some .eE) (hz: ∀M,IR M (ev z) zv) (hi:WU i n=true) (hr:tU n σ h r):tU n σ h ((i,some (.map kc ev z zv dv []))::r):=
 ⟨⟨_,ho,id,fun M N U w j hj=>⟨#[],0,hj,⟨rfl,by simp,by simp,by simp,by simp⟩,hz M⟩⟩,Wj hi,trivial,hr⟩
theorem hI {V:Type} {kc:KC} {ev:V→IV} {m:List (kc.K×V)} {vs vs':List Nat} {cu cu':Option (kc.K×V)} (ho:h.get (σ i)=some (.bq kc ev m vs cu)) (he:vs=vs') (hc:cu'=cu∨cu'=none) (hi:WU i n=true) (hr:tU n σ h r):tU n σ h ((i,some (.bq kc ev m vs' cu'))::r):=by
 refine⟨⟨_,ho,id,fun M N U w j hj=>?_⟩,Wj hi,trivial,hr⟩;subst he;rcases hc with rfl|rfl
 ·exact hj
 ·rcases hj with⟨h1,h2,_,h4⟩|⟨b,ents,clock,seen,h1,h2,h3,h4,h5,h6,h7⟩
  ·exact .inl ⟨h1,h2,rfl,h4⟩
  ·exact .inr ⟨b,ents,clock,seen,h1,h2,h3,h4,h5,h6,by simp⟩
end
theorem gj {ty:Ty} {rl:List ResultVar} {e:Exit} {s:AS} {α:Type} [Inhabited α] {i n sz:Nat} {es:List (List PV)} {L:List α} {f:α→List IV} (he:e= .normal∨e= .ret) (h:lR ty s rl=some (.sl i 0 n sz)) (hi:s.h.get i=some (.row sz es))
  (hes:es=L.map fun x=>(f x).map .iv) (hn:n=L.length):KT ty rl (.iv (cM sz L f)) e s:=by
 refine⟨he,_,h, .row i (fun k=>f (L.getD k default)) hi (ch hes) ?_ (.done ?_)⟩
 ·subst hes;subst hn;simp[PV.bm]
 ·have:WO i i=true:=by simp
  simp only[PV.cZ,this,cond_true,WQ];subst hn;exact .refl _
theorem ah.bk {b c:Bool} (h:b=c):ah (pB b) (.kb c):=fun _ _ _ _ hx=>by
 subst h
 cases hx with
 |iv _ _ h=>cases h;exact .kb _
theorem ah.VB {b c:Bool} (h:b=c):ah (.kb b) (pB c):=h▸ .kb b
theorem ah.row {i n m sz:Nat} (h:n=m):ah (.sl i 0 n sz) (.sl i 0 m sz):= .of_eq (by rw[h])
section
variable {α:Type} [Inhabited α] {l:List α} {f:α→Bool} {i:Nat}
theorem cN (h:(l.take i).any f=false) (hi:i<l.length):((l.take (i+1)).any f=false↔f (l.getD i default)=false):=by
 rw[YV hi,List.any_append,h,Ws,Wt hi];simp
theorem AU (hi:i<l.length) (h:f (l.getD i default)=true):l.any f=true:=by
 rw[Ws,Wt hi] at h;exact Xr.2 ⟨_,Xj hi,h⟩
omit [Inhabited α] in
theorem any_none (h:(l.take i).any f=false) (hi:l.length≤i):l.any f=false:=by
 rwa[WB hi] at h
theorem aW (hi:i<l.length):l.take (i+1)=l.take i++ [l.getD i default]:=by
 rw[YV hi,Ws,Wt hi];rfl
theorem iL {β:Type} {g:β→α→β} {b:β} (hi:i<l.length):(l.take (i+1)).foldl g b=g ((l.take i).foldl g b) (l.getD i default):=by
 rw[aW hi,Ye];rfl
end
theorem eP {P:Program} {nt:Nat} {Q:AQ} {k:List KI} {s:AS} {body:Code} {K:Type} (m:List K) (I:List Nat→AS) (J:List Nat→Prop) (L0:List Nat) (j0:J []) (h0:Wk s.nx L0 s (I []))
  (round: ∀vs:List Nat,J vs→GO P nt (.code body:: .lp (fun t=> ∃j x,m[j]? =some x∧j∉vs∧J (j::vs)∧ ∃L,Wk s.nx L t (I (j::vs)))::k) Q (I vs)):GO P nt (.code (.loop body)::k) Q s:=by
 refine mu (σ:={vs:List Nat//vs.Nodup∧(∀j∈vs,j<m.length)∧J vs}) (fun v=>I v.1) (fun v=>m.length-v.1.length) ⟨[],Xk,by simp,j0⟩ L0 h0 fun v=>?_;obtain⟨vs,h1,h2,h3⟩:=v;refine ob ?_ (round vs h3)
 rintro t ⟨j,x,g1,g2,g3,L,g4⟩
 have hj:j<m.length:=(Wr.1 g1).1
 have hall: ∀i∈j::vs,i<m.length:=by
  intro i hi;rcases WG.1 hi with rfl|hi
  ·exact hj
  ·exact h2 i hi
 have hnd:(j::vs).Nodup:=Xu.2 ⟨g2,h1⟩
 have hlen:(j::vs).length≤m.length:=by
  have:=Xm hnd (l₂:=WL m.length) (fun i hi=>WZ.2 (hall i hi));simpa using this
 refine⟨⟨j::vs,hnd,hall,g3⟩,L,?_,g4⟩;show m.length-(j::vs).length<m.length-vs.length;simp only[W2] at hlen ⊢;omega
end Go.Al
namespace Go.Al
def cf (P:Program) (k:FuncId) (args:List PV) (os:List AO) (r:PV) (h:AH) (n:Nat):Prop:=Fn P k args os fun q h' n'=>q=r∧h'=h∧n'=n
def px:List AO→List AO→Prop
 | [],[]=>True
 |p::r,q::s=>eU p q∧px r s
 |_,_=>False
theorem px.length: ∀{a b:List AO},px a b→a.length=b.length
 | [],[],_=>rfl
 |_::_,_::_,h=>congrArg (· +1) (px.length h.2)
 | [],_::_,h=>h.elim
 |_::_,[],h=>h.elim
theorem px.get: ∀{a b:List AO},px a b→ ∀(j:Nat) (q:AO),b[j]? =some q→ ∃p,a[j]? =some p∧eU p q
 | [],[],_,j,q,h=>by simp at h
 |p::r,q0::s,hh,j,q,h=>by
  cases j with
  |zero=>simp at h;subst h;exact⟨p,rfl,hh.1⟩
  |succ j=>simpa using px.get hh.2 j q (by simpa using h)
 | [],_::_,hh,_,_,_=>hh.elim
 |_::_,[],hh,_,_,_=>hh.elim
theorem Fn.Pv {P:Program} {k:FuncId} {args:List PV} {os ps:List AO} {R:PV→AH→Nat→Prop} (h:Fn P k args os R) (hle:px ps os):Fn P k args ps R:=by
 have hlen:=hle.length
 have hin: ∀i o,(dC 0 os).get i=some o→ ∃p,(dC 0 ps).get i=some p∧eU p o:=by
  intro i o hi;rw[p4,if_pos (WC _)] at hi ⊢;exact hle.get _ _ hi
 refine⟨h.1,fun M N w vs hr hl hv=>?_⟩;rw[hlen] at hr hv ⊢
 have hr':Rel M N (· <os.length) (dC 0 os) w:=by
  refine⟨hr.cZ,fun i o hi=>?_,fun i o hi hre=>?_,fun i o hi=>?_,fun i j o p hi hj ho hp he=>?_⟩
  ·obtain⟨p,h1,h2⟩:=hin i o hi;exact hr.used i p h1
  ·obtain⟨p,h1,h2⟩:=hin i o hi;exact hr.dA i p h1 (h2.1 hre)
  ·obtain⟨p,h1,h2⟩:=hin i o hi;exact h2.2 _ _ _ _ _ (hr.obj i p h1)
  ·obtain⟨o',h1,h2⟩:=hin i o hi
   obtain⟨p',h3,h4⟩:=hin j p hj;exact hr.inj i j o' p' h1 h3 (h2.1 ho) (h4.1 hp) he
 refine(h.2 M N w vs hr' hl hv).mono ?_
 rintro e w' ⟨x,M',N',r,h',n',rfl,hR,hx,hrr,hvr⟩
 refine⟨x,M',N',r,h',n',rfl,hR,⟨hx.os,hx.tape,hx.output,hx.size,fun b hb hn=>hx.gd b hb fun i o hi ho=>?_,hx.ow,fun b c h1 h2=>?_,hx.nm,hx.ule,fun i o hi ho=>?_⟩,hrr,hvr⟩
 ·obtain⟨p,h1,h2⟩:=hin i o hi;exact hn i p h1 (h2.1 ho)
 ·rcases hx.gn b c h1 h2 with h3|⟨i,o,h3,h4,h5⟩
  ·exact .inl h3
  ·obtain⟨p,g1,g2⟩:=hin i o h3;exact .inr ⟨i,p,g1,g2.1 h4,h5⟩
 ·rcases hx.fQ i o hi ho with h3|⟨j,q,h3,h4,h5⟩
  ·exact .inl h3
  ·obtain⟨p,g1,g2⟩:=hin j q h3;exact .inr ⟨j,p,g1,g2.1 h4,h5⟩
theorem cf.Pv {P:Program} {k:FuncId} {args:List PV} {os ps:List AO} {r:PV} {h:AH} {n:Nat} (hc:cf P k args os r h n) (hle:px ps os):cf P k args ps r h n:=Fn.Pv hc hle
theorem cf.le {P:Program} {k:FuncId} {aa args:List PV} {os:List AO} {r:PV} {h:AH} {n:Nat} (hc:cf P k args os r h n) (hle:kU aa args):cf P k aa os r h n:=Fn.le hc hle
theorem Pure.lS {P:Program} {k:FuncId} {args:List PV} {r:PV} (h:Pure P k args r):cf P k args [] r [] 0:=h
section
variable {P:Program} {ty:Ty} {nt:Nat} {Q:AQ} {k:List KI} {s:AS}
theorem Eh {o:Oper} {c:Call} {g:FuncId} {asv args:List PV} {os:List AO} {r:PV} {h':AH} {n':Nat} {s':AS} (L:List Nat) (hc:cf P g args os r h' n') (ho:o.op= .call c) (ha:cK s.f c=some (g,asv))
  (hn:ei L=true) (hl:L.all (fun j=>WU j s.nx)=true) (hob:L.map s.h.get=os.map fun o=>some (o.cL (sig L s.nx))) (hargs:asv=dJ (sig L s.nx) args) (hp:putDst nt o (r.cL (sig L s.nx)) (bj s L h' n')=some s'):
  OT P nt o s (fun t=>t=s'):=
 jY ho ha hc (ef hn) (fun j hj=>Wj (WX.1 hl j hj)) hob hargs (by rintro q h0 n0 ⟨rfl,rfl,rfl⟩;exact⟨s',hp,rfl⟩)
theorem aN {all rest:List Oper} {o:Oper} {c:Call} {g:FuncId} {asv args:List PV} {os:List AO} {r:PV} {h':AH} {n':Nat} {s':AS} (L:List Nat) (hc:cf P g args os r h' n') (ho:o.op= .call c) (hg:o.guard=none) (ha:cK s.f c=some (g,asv))
  (hn:ei L=true) (hl:L.all (fun j=>WU j s.nx)=true) (hob:L.map s.h.get=os.map fun o=>some (o.cL (sig L s.nx))) (hargs:asv=dJ (sig L s.nx) args) (hp:putDst nt o (r.cL (sig L s.nx)) (bj s L h' n')=some s')
  (h:GO P nt (.ops all rest::k) Q s'):GO P nt (.ops all (o::rest)::k) Q s:=
 dE hg (Eh L hc ho ha hn hl hob hargs hp) fun t ht=>by subst ht;exact h
theorem lD (hty:bE P ty) {all:List Oper} {todo pend:List (Nat×Oper)} {j:Nat} {o:Oper} {s':AS} {CA C2:Prop} (hrd:fk todo=[(j,o)]) (hg:ck nt all s.f o=some true) (hpb:jd all pend o=true) (hE:pg todo [j]=true)
  (hag:tv ty nt all s todo pend=some CA) (hCA:CA) (hOT:OT P nt o s (fun t=>t=s')) (hag2:dU ty nt all s' (bg pend o)=some C2) (hC2:C2)
  (h:GO P nt (.cv all (todo.filter fun x=>!WO x.1 j) (bg pend o)::k) Q s'):GO P nt (.cv all todo pend::k) Q s:=by
 have hmem:(j,o)∈fk todo:=by rw[hrd];simp
 obtain⟨h3,h4⟩:=WW.1 hmem;simp only[W5,XY,Xg] at h4
 have hagn: ∀y∈todo,aO y.2=true→ ∀y∈pend,fh P nt all s y.2:=by
  intro y hy hya;unfold tv at hag;split at hag
  ·exact cV hty hag hCA
  ·rename_i h2
   have:=Xg.1 h2 y hy;rw[hya] at this;exact absurd rfl this
 refine rF hE ⟨_,h3,h4.1⟩ hagn fun j' o' hj _ hu=>?_;simp only[Wy] at hj;subst hj;have:=hu o h3;subst this;exact⟨h4.1,fun y hy _=>by simpa using h4.2 y hy,hpb,hg,_,hOT,fun t ht=>by subst ht;exact⟨cV hty hag2 hC2,h⟩⟩
theorem aX (hty:bE P ty) {all:List Oper} {todo pend:List (Nat×Oper)} {j:Nat} {o:Oper} {c:Call} {g:FuncId} {asv args:List PV} {os:List AO} {r:PV} {h':AH} {n':Nat} {s':AS} {CA C2:Prop} (L:List Nat) (hc:cf P g args os r h' n')
  (hrd:fk todo=[(j,o)]) (ho:o.op= .call c) (ha:cK s.f c=some (g,asv))
  (hn:ei L=true) (hl:L.all (fun j=>WU j s.nx)=true) (hob:L.map s.h.get=os.map fun o=>some (o.cL (sig L s.nx))) (hargs:asv=dJ (sig L s.nx) args) (hp:putDst nt o (r.cL (sig L s.nx)) (bj s L h' n')=some s')
  (hg:ck nt all s.f o=some true) (hpb:jd all pend o=true) (hE:pg todo [j]=true)
  (hag:tv ty nt all s todo pend=some CA) (hCA:CA) (hag2:dU ty nt all s' (bg pend o)=some C2) (hC2:C2)
  (h:GO P nt (.cv all (todo.filter fun x=>!WO x.1 j) (bg pend o)::k) Q s'):GO P nt (.cv all todo pend::k) Q s:=
 lD hty hrd hg hpb hE hag hCA (Eh L hc ho ha hn hl hob hargs hp) hag2 hC2 h
def KV (ty:Ty) (l:List ResultVar) (m:Nat) (r:PV) (h:AH) (n:Nat):AQ:=KU ty l m fun q h' n'=>q=r∧h'=h∧n'=n
theorem aH (hty:bE P ty) {g:FuncId} {fn:Func} {c:Code} (hf:P.funcs[g]? =some fn) (hb:fn.body=some c) (hn:(fn.name== "runtime.NumGoroutine")=false) (hnt:fn.ntmps=nt)
  {l:List ResultVar} (hl:fn.results.toList=l) {args:List PV} (hle:args.length≤nt) {os:List AO} {r:PV} {h:AH} {n:Nat}
  (hgo:GO P nt [.code c] (KV ty l os.length r h n) ⟨mQ 0 args,dC 0 os,os.length⟩):cf P g args os r h n:=sZ hty hf hb hn hnt hl hle hgo
theorem az {l:List ResultVar} {m:Nat} {r r0:PV} {h:AH} {n:Nat} {e:Exit} (L:List Nat) (he:e= .normal∨e= .ret) (hr:lR ty s l=some r0) (hw:Wk m L ⟨[(0,r0)],s.h,s.nx⟩ ⟨[(0,r)],h,n⟩):KV ty l m r h n e s:=
 ⟨he,r0,hr, .done ⟨r,h,n,L,⟨rfl,rfl,rfl⟩,hw⟩⟩
end
theorem fB.map {h:AH} {n:Nat} {r:PV} {K:AH→PV→Prop} (i:Nat) {kc:KC} {V:Type} {e:V→IV} {z:V} {zv:Value} {dv:PV→V} {m:List (kc.K×V)} (hi:h.get i=some (.map kc e z zv dv m))
  (hk:fB ((i,none)::h.eQ i (.dK kc e z zv m)) n (r.eQ i (.dK kc e z zv m)) K):fB h n r K:=by
 intro M N w hr;obtain⟨M1,h1,h2,_,h3⟩:=o9 hr hi;obtain⟨M2,h',r2,g1,g2,g3,g4⟩:=hk M1 N w h2;exact⟨M2,h',r2,h1.trans g1,g2,fun x hx=>g3 x (h3 _ _ hx),g4⟩
mutual
def PV.D6 (i:Nat) (l:List IV):PV→PV
 | .iv x=> .iv x
 | .agg cs=> .agg (xV i l cs)
 | .bP cs=> .bP (xV i l cs)
 | .ptr j o=>bif WO j i then .iv (.jI (l.drop o)) else .ptr j o
 | .sl j off len sz'=> .sl j off len sz'
 | .c4 j a b c=> .c4 j a b c
 | .eC z j=> .eC z j
 | .mp j=> .mp j
 | .cH fn a b=> .cH fn a b
 | .kb b=> .kb b
 | .any=> .any
def xV (i:Nat) (l:List IV):List PV→List PV
 | []=> []
 |p::r=>PV.D6 i l p::xV i l r
end
theorem mw (i:Nat) (x:List IV): ∀l:List PV,xV i x l=l.map (PV.D6 i x)
 | []=>rfl
 |p::r=>by simp[xV,mw i x r]
theorem BT {M:Mem} {N:Nm} {n:Nat} {h:AH} {w:World} (hr:Rel M N (· <n) h w) {i:Nat} {l:List IV} {cs:List PV} {T0:Option TypeId} (hi:h.get i=some (.cells cs T0)) (hcs:cs=l.map .iv):
  ∃M',Ext M N (· <n) h w M' N (· <n) ((i,none)::h) w∧Rel M' N (· <n) ((i,none)::h) w∧ ∀p x,VR M N (· <n) p x→VR M' N (· <n) (p.D6 i l) x:=by
 subst hcs;have hMi:=hr.dA i _ hi rfl;obtain⟨c,T,h1,h2,h3,h4,h5⟩:=hr.obj i _ hi
 let M':Mem:=M.set (N.aG i) (.cells c) hMi
 have hM:M.le M':=fun b d hb=>by
  simp only[M',Mem.set];by_cases hb2:b=N.aG i
  ·rw[hb2,hMi] at hb;cases hb
  ·rw[if_neg hb2];exact hb
 have hnew: ∀b d,M b=none→M' b=some d→b=N.aG i:=fun b d h1 h2=>by
  simp only[M',Mem.set] at h2;by_cases hb2:b=N.aG i
  ·exact hb2
  ·rw[if_neg hb2,h1] at h2;cases h2
 have hcell: ∀o,M'.cell (N.aG i) o=c[o]? :=fun o=>by simp[Mem.cell,M',Mem.set]
 refine⟨M',?_,?_,fun p x hx=>?_⟩
 ·exact⟨rfl,rfl,rfl,Wz _,fun _ _ _=>rfl,hM,fun b d h1 h2=> .inr ⟨i,_,hi,rfl,(hnew b d h1 h2).symm⟩, .refl _ _,fun _ h=>h,fun j o hj hre=> .inr ⟨j,o,(ba j o hj).2,hre,rfl⟩⟩
 ·refine⟨fun b d hb=>?_,fun j o hj=>hr.used j o (ba j o hj).2,fun j o hj hre'=>?_,fun j o hj=>?_,fun j k o p hj hk=>hr.inj j k o p (ba j o hj).2 (ba k p hk).2⟩
  ·simp only[M',Mem.set] at hb
   by_cases hb2:b=N.aG i
   ·rw[if_pos hb2] at hb;cases hb;exact⟨T,(0,0),by rw[hb2];exact h1⟩
   ·rw[if_neg hb2] at hb;exact hr.cZ b d hb
  ·obtain⟨g1,g2⟩:=ba j o hj
   simp only[M',Mem.set];rw[if_neg fun e=>g1 (hr.inj j i o _ g2 hi hre' rfl e)];exact hr.dA j o g2 hre'
  ·obtain⟨g1,g2⟩:=ba j o hj
   exact(hr.obj j o g2).mono hM (.refl _ _) (fun _ h=>h) (hr.used j o g2) rfl
 ·induction hx with
  |iv x y h=>exact .iv _ _ (h.mono hM)
  |agg cs ys hl _ ih=>
   refine .agg _ _ (by simpa[mw] using hl) fun j q hq=>?_;rw[mw,Ww,Wx] at hq;obtain⟨q0,hq0,rfl⟩:=hq
   exact ih j q0 hq0
  |bP cs ys hl _ ih=>
   refine .bP _ _ (by simpa[mw] using hl) fun j q hq=>?_;rw[mw,Ww,Wx] at hq;obtain⟨q0,hq0,rfl⟩:=hq
   exact ih j q0 hq0
  |ptr j off h=>
   simp only[PV.D6]
   cases hb:WO j i with
   |true=>
    have hj:=WK hb;subst hj;have hlen:l.length=c.size:=by simpa using h3
    refine .iv _ _ (.jI _ _ _ (fun k hk=>?_) fun k q hq=>?_)
    ·rw[X8] at hk
     rw[hcell];simp[show off+k<c.size by omega]
    ·rw[Xx] at hq
     have hlt:off+k<c.size:=by rw[←hlen];exact(Wr.1 hq).1
     have:=h4 (off+k) (.iv q) (by rw[Ww,hq];rfl);rw[hcell];rw[Wm] at this
     cases this with
     |iv _ _ h=>exact h.mono hM
   |false=>exact .ptr _ _ h
  |c4 i sz k off h=>exact .c4 _ _ _ _ h
  |eC z i h=>exact .eC _ _ h
  |sl j off len sz' cap h h0 hl hc he=>exact .sl _ _ _ _ _ h h0 hl hc he
  |lQ j sz' h=>exact .lQ _ _ h
  |sle j sz' cap h hc he=>exact .sle _ _ _ h hc he
  |mp j h=>exact .mp _ h
  |cH fn first caps f' c' h1 h2 hr1 hr2 _ _=>exact .cH _ _ _ _ _ h1 h2 (fun j p hj=>(hr1 j p hj).mono hM (.refl _ _) (fun _ h=>h)) (fun j p hj=>(hr2 j p hj).mono hM (.refl _ _) (fun _ h=>h))
  |kb b=>exact .kb _
  |any x=>exact .any _
theorem fB.cells {h:AH} {n:Nat} {r:PV} {K:AH→PV→Prop} (i:Nat) (l:List IV) {cs:List PV} {T0:Option TypeId} (hi:h.get i=some (.cells cs T0)) (hcs:cs=l.map .iv) (hk:fB ((i,none)::h) n (r.D6 i l) K):fB h n r K:=by
 intro M N w hr;obtain⟨M1,h1,h2,h3⟩:=BT hr hi hcs;obtain⟨M2,h',r2,g1,g2,g3,g4⟩:=hk M1 N w h2;exact⟨M2,h',r2,h1.trans g1,g2,fun x hx=>g3 x (h3 _ _ hx),g4⟩
theorem gP {ty:Ty} {l:List ResultVar} {r r0:PV} {e:Exit} {s:AS} (he:e= .normal∨e= .ret) (h:lR ty s l=some r0) (hk:fB s.h s.nx r0 fun _ r2=>ah r2 r):KT ty l r e s:=⟨he,r0,h,hk⟩
section
variable {P:Program} {ty:Ty} {nt:Nat} {Q:AQ} {k:List KI} {s:AS}
theorem xP {all rest:List Oper} {o:Oper} {c:Call} {g:FuncId} {asv args:List PV} {os:List AO} {R:PV→AH→Nat→Prop} (L:List Nat) (hc:Fn P g args os R) (ho:o.op= .call c) (hg:o.guard=none) (ha:cK s.f c=some (g,asv))
  (hn:ei L=true) (hl:L.all (fun j=>WU j s.nx)=true) (hob:L.map s.h.get=os.map fun o=>some (o.cL (sig L s.nx))) (hargs:asv=dJ (sig L s.nx) args)
  (h: ∀r h' n',R r h' n'→ ∃s',putDst nt o (r.cL (sig L s.nx)) (bj s L h' n')=some s'∧GO P nt (.ops all rest::k) Q s'):GO P nt (.ops all (o::rest)::k) Q s:=
 dE (R:=fun t=>GO P nt (.ops all rest::k) Q t) hg (jY ho ha hc (ef hn) (fun j hj=>Wj (WX.1 hl j hj)) hob hargs h) fun t ht=>ht
theorem Av {R:PV→AH→Nat→Prop} {l:List ResultVar} {m:Nat} {r r0:PV} {h:AH} {n:Nat} {e:Exit} (L:List Nat) (he:e= .normal∨e= .ret) (hr:lR ty s l=some r0) (hR:R r h n) (hw:Wk m L ⟨[(0,r0)],s.h,s.nx⟩ ⟨[(0,r)],h,n⟩):KU ty l m R e s:=
 ⟨he,r0,hr, .done ⟨r,h,n,L,hR,hw⟩⟩
end
end Go.Al
namespace Go.Al
theorem jk {P:Program} {nt:Nat} {Q:AQ} {k:List KI} {s:AS} {c:Code} (i j sz:Nat) {cs:List PV} {T0:Option TypeId} (hi:s.h.get i=some (.cells cs T0)) (hj:cs[j]? =some (.iv (.v (.slice none 0 0))))
  (h:GO P nt (.code c::k) Q ⟨s.f,(i,some (.cells (cs.set j (.sl s.nx 0 0 sz)) T0))::(s.nx,some (.row sz []))::s.h,s.nx+1⟩):GO P nt (.code c::k) Q s:=by
 intro M N a w hf;obtain⟨sf,sh,sn⟩:=s;obtain⟨h1,h2⟩:=hf.1.ER sz;have hne:i≠sn:=fun e=>by have:=hf.1.used i _ hi;simp only at this;omega
 have hget:AH.get ((sn,some (AO.row sz []))::sh) i=some (.cells cs T0):=by
  rw[AH.aA,if_neg hne];exact hi
 obtain⟨c0,T,e1,e2,e3,e4,e5⟩:=h2.obj i _ hget
 obtain⟨g1,g2⟩:=h2.write (i:=i) (o0:= .cells cs T0) hget rfl w (.cells (cs.set j (.sl sn 0 0 sz)) T0) rfl rfl rfl rfl (fun _ _=>rfl) ⟨c0,T,e1,e2,by rw[List.length_set];exact e3,fun k p hp=>by
  rw[XP] at hp;split at hp
  ·rename_i hk
   subst hk;split at hp
   ·cases hp
    have:=e4 j _ hj;generalize c0.getD j undef=v at this ⊢
    cases this with
    |iv _ _ h=>cases h with
     |v=>exact .lQ _ _ (XT _)
   ·cases hp
  ·exact e4 k p hp,e5⟩
 have hf1:Fits M N ⟨sf,(i,some (.cells (cs.set j (.sl sn 0 0 sz)) T0))::(sn,some (.row sz []))::sh,sn+1⟩ nt a w:=
  ⟨g2,fun k=>(hf.2.1 k).mono (.refl _) (.refl _ _) (fun i hi=>X3 hi),hf.2.2⟩
 exact AW.then h hf1 fun e a2 w2 M2 N2 s2 hx2 hf2 hr2=>⟨M2,N2,s2,(h1.trans g1).trans hx2,hf2,hr2⟩
theorem fB.sa {h:AH} {n:Nat} {r:PV} {K:AH→PV→Prop} {α:Type} [Inhabited α] (i:Nat) {sz:Nat} {es:List (List PV)} (L:List α) (f:α→List IV) (hi:h.get i=some (.row sz es)) (hes:es=L.map fun x=>(f x).map .iv)
  (hin:r.bm i sz L.length) (hk:fB ((i,none)::h) n (r.cZ i sz fun k=>f (L.getD k default)) K):fB h n r K:=
 .row i (fun k=>f (L.getD k default)) hi (ch hes) (by subst hes;simpa using hin) hk
def AO.ft (i sz:Nat) (el:Nat→List IV):AO→AO
 | .cells cs T=> .cells (mv i sz el cs) T
 |o=>o
def AO.kX (i sz n:Nat):AO→Prop
 | .cells cs _=>b5 i sz n cs
 | .row _ es=> ∀(k:Nat) (e:List PV) (j:Nat) (p:PV),es[k]? =some e→e[j]? =some p→ ∃y,p= .iv y
 |_=>True
def AH.ft (i sz:Nat) (el:Nat→List IV):AH→AH
 | []=> []
 |(k,none)::r=>(k,none)::AH.ft i sz el r
 |(k,some o)::r=>(k,some (o.ft i sz el))::AH.ft i sz el r
def AH.kX (i sz n:Nat):AH→Prop
 | []=>True
 |(_,none)::r=>AH.kX i sz n r
 |(_,some o)::r=>o.kX i sz n∧AH.kX i sz n r
def AF.ft (i sz:Nat) (el:Nat→List IV):AF→AF
 | []=> []
 |(d,p)::r=>(d,p.cZ i sz el)::AF.ft i sz el r
def AF.kX (i sz n:Nat):AF→Prop
 | []=>True
 |(_,p)::r=>p.bm i sz n∧AF.kX i sz n r
theorem AH.jm (i sz:Nat) (el:Nat→List IV): ∀(h:AH) (j:Nat),(AH.ft i sz el h).get j=(h.get j).map (AO.ft i sz el)
 | [],_=>rfl
 |(k,none)::r,j=>by
  simp only[AH.ft,AH.aA,AH.jm i sz el r j]
  split<;>rfl
 |(k,some o)::r,j=>by
  simp only[AH.ft,AH.aA,AH.jm i sz el r j];split<;>rfl
theorem AH.ll {i sz n:Nat}: ∀{h:AH} (_:h.kX i sz n) (j:Nat) (o:AO),h.get j=some o→o.kX i sz n
 | [],_,j,o,ho=>nomatch ho
 |(k,none)::r,hh,j,o,ho=>by
  rw[AH.aA] at ho;split at ho
  ·cases ho
  ·exact AH.ll (h:=r) hh j o ho
 |(k,some q)::r,hh,j,o,ho=>by
  rw[AH.aA] at ho;split at ho
  ·cases ho;exact hh.1
  ·exact AH.ll (h:=r) hh.2 j o ho
theorem AF.jm (i sz:Nat) (el:Nat→List IV): ∀(f:AF) (d:Nat),(AF.ft i sz el f).get d=(f.get d).cZ i sz el
 | [],_=>rfl
 |(k,p)::r,d=>by
  simp only[AF.ft,AF.aA,AF.jm i sz el r d];split<;>rfl
theorem AF.ll {i sz n:Nat}: ∀{f:AF} (_:f.kX i sz n) (d:Nat),(f.get d).bm i sz n
 | [],_,d=>trivial
 |(k,p)::r,h,d=>by
  rw[AF.aA];split
  ·exact h.1
  ·exact AF.ll (f:=r) h.2 d
theorem AO.p9 (i sz:Nat) (el:Nat→List IV) (o:AO):(o.ft i sz el).real=o.real:=by
 cases o<;>rfl
theorem mZ {P:Program} {nt:Nat} {Q:AQ} {k:List KI} {s:AS} {c:Code} (i:Nat) {sz:Nat} {es:List (List PV)} (el:Nat→List IV) (hi:s.h.get i=some (.row sz es)) (hel: ∀k e,es[k]? =some e→e=(el k).map .iv)
  (hf:s.f.kX i sz es.length) (hh:s.h.kX i sz es.length) (h:GO P nt (.code c::k) Q ⟨s.f.ft i sz el,(i,none)::s.h.ft i sz el,s.nx⟩):GO P nt (.code c::k) Q s:=by
 intro M N a w hfit;obtain⟨M',h1,h2,h4⟩:=vW hfit.1 hi hel;have hM:M.le M':=h1.ow
 have hg: ∀j o,AH.get ((i,none)::s.h.ft i sz el) j=some o→ ∃p,AH.get ((i,none)::s.h) j=some p∧s.h.get j=some p∧o=p.ft i sz el:=by
  intro j o hj;obtain⟨g1,g2⟩:=ba j o hj;rw[AH.jm,Wx] at g2;obtain⟨p,g3,g4⟩:=g2;exact⟨p,by rw[AH.aA,if_neg g1];exact g3,g3,g4.symm⟩
 have hE:Ext M N (· <s.nx) s.h w M' N (· <s.nx) ((i,none)::s.h.ft i sz el) w:=⟨h1.os,h1.tape,h1.output,h1.size,h1.gd,h1.ow,h1.gn,h1.nm,h1.ule,fun j o hj hre=>by
  obtain⟨p,g1,_,rfl⟩:=hg j o hj;rw[AO.p9] at hre
  exact h1.fQ j p g1 hre⟩
 have hR:Rel M' N (· <s.nx) ((i,none)::s.h.ft i sz el) w:=by
  refine⟨h2.cZ,fun j o hj=>?_,fun j o hj hre=>?_,fun j o hj=>?_,fun j k o p hj hk ho hp=>?_⟩
  ·obtain⟨p,g1,_,rfl⟩:=hg j o hj
   exact h2.used j p g1
  ·obtain⟨p,g1,_,rfl⟩:=hg j o hj
   rw[AO.p9] at hre;exact h2.dA j p g1 hre
  ·obtain⟨p,g1,g2,rfl⟩:=hg j o hj
   cases p with
   |cells cs T0=>
    obtain⟨c,T,q1,q2,q3,q4,q5⟩:=hfit.1.obj j _ g2;have hok:=AH.ll hh j _ g2;refine⟨c,T,q1,q2,by simpa[gh] using q3,fun k q hq=>?_,q5⟩;rw[gh,Ww,Wx] at hq;obtain⟨q0,hq0,rfl⟩:=hq
    exact h4 _ _ (q4 k q0 hq0) (gC hok k q0 hq0)
   |row=>exact h2.obj j _ g1
   |bx=>exact h2.obj j _ g1
   |eE=>exact h2.obj j _ g1
   |map=>exact h2.obj j _ g1
   |bq=>exact h2.obj j _ g1
   |dt=>exact h2.obj j _ g1
  ·obtain⟨o',g1,_,rfl⟩:=hg j o hj
   obtain⟨p',g2,_,rfl⟩:=hg k p hk;rw[AO.p9] at ho hp;exact h2.inj j k o' p' g1 g2 ho hp
 have hf':Fits M' N ⟨s.f.ft i sz el,(i,none)::s.h.ft i sz el,s.nx⟩ nt a w:=⟨hR,fun d=>by
  rw[AF.jm];exact h4 _ _ (hfit.2.1 d) (AF.ll hf d),hfit.2.2⟩
 exact AW.then h hf' fun e a2 w2 M2 N2 s2 hx2 hf2 hr2=>⟨M2,N2,s2,hE.trans hx2,hf2,hr2⟩
def AO.jn (i sz:Nat) (el:Nat→List IV):AO→AO
 | .cells cs T=> .cells (mv i sz el cs) T
 | .row s es=> .row s (es.map (mv i sz el))
 |o=>o
def AO.xu (i sz n:Nat):AO→Prop
 | .cells cs _=>b5 i sz n cs
 | .row _ es=> ∀e∈es,b5 i sz n e
 |_=>True
def AH.jn (i sz:Nat) (el:Nat→List IV):AH→AH
 | []=> []
 |(k,none)::r=>(k,none)::AH.jn i sz el r
 |(k,some o)::r=>(k,some (o.jn i sz el))::AH.jn i sz el r
def AH.xu (i sz n:Nat):AH→Prop
 | []=>True
 |(_,none)::r=>AH.xu i sz n r
 |(_,some o)::r=>o.xu i sz n∧AH.xu i sz n r
theorem AH.qh (i sz:Nat) (el:Nat→List IV): ∀(h:AH) (j:Nat),(AH.jn i sz el h).get j=(h.get j).map (AO.jn i sz el)
 | [],_=>rfl
 |(k,none)::r,j=>by
  simp only[AH.jn,AH.aA,AH.qh i sz el r j]
  split<;>rfl
 |(k,some o)::r,j=>by
  simp only[AH.jn,AH.aA,AH.qh i sz el r j];split<;>rfl
theorem AH.oO {i sz n:Nat}: ∀{h:AH} (_:h.xu i sz n) (j:Nat) (o:AO),h.get j=some o→o.xu i sz n
 | [],_,j,o,ho=>nomatch ho
 |(k,none)::r,hh,j,o,ho=>by
  rw[AH.aA] at ho;split at ho
  ·cases ho
  ·exact AH.oO (h:=r) hh j o ho
 |(k,some q)::r,hh,j,o,ho=>by
  rw[AH.aA] at ho;split at ho
  ·cases ho;exact hh.1
  ·exact AH.oO (h:=r) hh.2 j o ho
theorem AO.od (i sz:Nat) (el:Nat→List IV) (o:AO):(o.jn i sz el).real=o.real:=by
 cases o with
 |row s es=>cases es<;>rfl
 |_=>rfl
def RI:List Code→Code→Code
 | [],r=>r
 |c::l,r=> .seq c (RI l r)
def vk:Nat→Code→List Code
 |n+1, .seq a b=>a::vk n b
 |_,_=> []
def rI:Nat→Code→Code
 |n+1, .seq _ b=>rI n b
 |_,c=>c
theorem Ae {P:Program} {nt:Nat} {R:AQ}: ∀{l:List Code} {e:Exit} {s:AS},e≠ .normal→kp P nt (l.map KI.code) R e s→R e s
 | [],_,_,_,h=>h
 |c::l,e,s,he,h=>by
  cases e with
  |normal=>exact absurd rfl he
  |_=>exact Ae (l:=l) he h
end Go.Al
namespace Go.Al
open Go.ChangeShapes Go.WideShapes Go.RowKit
def uT (W:World) (b:Nat):Option MB:=match W.heap[b]? with
 |some (.cells c _ _)=>some (.cells c)
 |some (.map es cl)=>some (.map es cl)
 |_=>none
def mS (W:World):Prop:= ∀b c,R8 b=some c→ ∃T fr,W.heap[b]? =some (.cells c T fr)
def Mem.ou (W:World) (h:mS W):Mem:=⟨uT W,fun b c hb=>by obtain⟨T,fr,e⟩:=h b c hb;simp[uT,e]⟩
def UL:Nm:=⟨fun _=>0,fun _=>0⟩
theorem JE (W:World) (h:mS W):Rel (Mem.ou W h) UL (· <0) [] W:=by
 refine⟨fun b c hb=>?_,fun i o hi=>by simp[AH.get] at hi,fun i o hi=>by simp[AH.get] at hi,fun i o hi=>by simp[AH.get] at hi,fun i j o p hi=>by simp[AH.get] at hi⟩;have hb':uT W b=some c:=hb;unfold uT at hb';split at hb'
 ·rename_i c' T fr e
  obtain rfl:=Xt hb';exact⟨T,fr,e⟩
 ·rename_i es cl e
  obtain rfl:=Xt hb';exact e
 ·cases hb'
theorem yi {W:World} {h:mS W} {b o:Nat} {v:Value} (hc:W.cell? ⟨b,o,none⟩=some v):(Mem.ou W h).cell b o=some v:=by
 show(match uT W b with|some (.cells c)=>c[o]? |_=>none)=some v;unfold World.cell? at hc;unfold uT;split at hc
 ·rename_i c T fr e
  simp only at e;rw[e];simpa using hc
 ·cases hc
def CR (M:Mem) (l:List IV) (cs:List Value):Prop:=l.length=cs.length∧ ∀j p,l[j]? =some p→IR M p (cs.getD j undef)
theorem CR.nil (M:Mem):CR M [] []:=⟨rfl,fun j p h=>by simp at h⟩
theorem CR.one {M:Mem} {p:IV} {v:Value} (h:IR M p v):CR M [p] [v]:=⟨rfl,fun j q hq=>by
 cases j with
 |zero=>simp at hq;subst hq;simpa using h
 |succ j=>simp at hq⟩
theorem CR.append {M:Mem} {l l':List IV} {cs cs':List Value} (h:CR M l cs) (k:CR M l' cs'):CR M (l++l') (cs++cs'):=by
 refine⟨by simp[h.1,k.1],fun j p hp=>?_⟩;rcases W9 j l.length with hj|hj
 ·rw[WH hj] at hp
  have:=h.2 j p hp;rw[Ws] at this ⊢;rwa[WH (by rw[←h.1];exact hj)]
 ·rw[WJ hj] at hp
  have:=k.2 _ p hp;rw[Ws] at this ⊢;rw[WJ (by rw[←h.1];exact hj),←h.1];exact this
theorem CR.eW {M:Mem} {l r:List IV} {cs:List Value} {o n o':Nat} (h:CR M l ((cs.drop o).take n)) (e:o'=o+n) (k:CR M r (cs.drop o')):CR M (l++r) (cs.drop o):=by
 subst e;have:=h.append k;rwa[←List.drop_drop,X6] at this
theorem CR.end_ {M:Mem} {cs:List Value} {o:Nat} (h:cs.length=o):CR M [] (cs.drop o):=by
 rw[List.drop_eq_nil_of_le (by omega)];exact .nil M
theorem CR.agg {M:Mem} {N:Nm} {U:Nat→Prop} {l:List IV} {ys:Array Value} (h:CR M l ys.toList):VR M N U (ag l) (.agg ys):=by
 refine .agg _ _ (by simpa using h.1) fun j p hp=>?_;rw[Ww,Wx] at hp;obtain⟨q,hq,rfl⟩:=hp;have:=h.2 j q hq;exact .iv _ _ (by simpa[Wm,Ws] using this)
theorem CR.le {M:Mem} {l l':List IV} {cs:List Value} (h:CR M l cs) (hl:l.length=l'.length) (hle: ∀(j:Nat) (p q:IV),l[j]? =some p→l'[j]? =some q→ke p q):CR M l' cs:=by
 refine⟨hl▸h.1,fun j q hq=>?_⟩;have hj:j<l.length:=by rw[hl];exact(Wr.1 hq).1
 exact hle j _ q (Wt hj) hq M _ (h.2 j _ (Wt hj))
theorem CR.Ac {M:Mem} {p q:IV} {cs:List Value} (h:CR M [p] cs) (hle:ke p q):CR M [q] cs:=
 h.le rfl fun j p' q' hp hq=>by
  cases j with
  |zero=>simp at hp hq;subst hp;subst hq;exact hle
  |succ j=>simp at hp
section
variable {H:Type} {enc:TypeId×Value→H} {P:Program} {W:World} {hT:mS W} {sp:Nat→Bool} {held:Bool}
def Rd (enc:TypeId×Value→H) (P:Program) (W:World) (hT:mS W) (sp:Nat→Bool) (held:Bool) (t:TypeId) {α:Type} (c:α→List IV) (Q:α→DataW H→Prop) (n:Nat):Prop:=
 ∀m,m≤n→ ∀cs y,DataW.trod enc P W 0 sp held m t cs=some y→ ∃x,CR (Mem.ou W hT) (c x) cs∧Q x y.1
theorem Rd.mono {t:TypeId} {α:Type} {c:α→List IV} {Q:α→DataW H→Prop} {n m:Nat} (h:Rd enc P W hT sp held t c Q n) (hm:m≤n):Rd enc P W hT sp held t c Q m:=fun k hk=>h k (WV hk hm)
theorem jb {t:TypeId} {k:IntKind} (ht:P.underlying t=some (.int k)) (n:Nat):Rd enc P W hT sp held t (fun z=> [.v (.int k z)]) (fun z d=>d= .lit (.int k z)∧(Lit.int k z).wf=true) n:=by
 intro m _ cs y h
 cases m with
 |zero=>simp[DataW.trod] at h
 |succ m=>
  unfold DataW.trod at h;rw[ht] at h;split at h<;>simp_all;obtain⟨⟨rfl,hw⟩,rfl⟩:=h;exact⟨_, .one (.v _),rfl,hw⟩
theorem iK {t:TypeId} (ht:P.underlying t=some .string) (n:Nat):Rd enc P W hT sp held t (fun s=> [.v (.string s)]) (fun s d=>d= .lit (.string s.data.toList)∧s.size≤maxLen) n:=by
 intro m _ cs y h
 cases m with
 |zero=>simp[DataW.trod] at h
 |succ m=>
  unfold DataW.trod at h;rw[ht] at h;split at h<;>simp_all;rename_i s;obtain⟨hw,rfl⟩:=h;exact⟨s, .one (.v _),rfl,hw⟩
def QL {α:Type} (Q:α→DataW H→Prop) (l:List α) (d:DataW H):Prop:=
 ∃el:List (DataW H),(d= .nil∧el=[]∨ ∃sp,d= .slice el sp)∧l.length=el.length∧ ∀(i:Nat) (x:α) (e:DataW H),l[i]? =some x→el[i]? =some e→Q x e
theorem ja {α:Type} [Inhabited α] {t e:TypeId} {sz:Nat} {c:α→List IV} {Q:α→DataW H→Prop} {n:Nat} (ht:P.underlying t=some (.slice e)) (hc:P.cellsOf e=sz) (hpos:0<sz) (hl: ∀x,(c x).length=sz)
  (he:Rd enc P W hT sp held e c Q n):Rd enc P W hT sp held t (fun l:List α=> [cM sz l c]) (QL Q) (n+1):=by
 intro m hm cs y h;rcases DataW.trod_slice ht h with⟨rfl,rfl⟩|⟨a,len,cap,elems,rest,k,rfl,rfl,rfl,_,h1,h2,h3,h4,_⟩
 ·exact⟨[], .one (.gp ..),[], .inl ⟨rfl,rfl⟩,rfl,fun i x e h=>by simp at h⟩
 have key: ∀i,i<len→ ∃x,(∃cs',W.cells? 0 (a.add (i*sz)) sz=some cs'∧CR (Mem.ou W hT) (c x) cs')∧ ∃y,elems[i]? =some y∧Q x y.1:=by
  intro i hi;have h5:=h4 i hi;rw[hc,Wt (by omega)] at h5;obtain⟨cs',h6,h7⟩:=Option.bind_eq_some_iff.1 h5;obtain⟨x,h8,h9⟩:=he k (by omega) _ _ h7;exact⟨x,⟨cs',h6,h8⟩,_,Wt (by omega),h9⟩
 obtain⟨f,hf⟩:=Deep.choose_lt key;refine⟨(WL len).map f, .one ?_,elems.map (·.1), .inr ⟨_,rfl⟩,by simp[h3],fun i x e hx hex=>?_⟩
 ·cases len with
  |zero=>exact .gp ..
  |succ len=>
   have hsp: ∀i,i<len+1→ ∀j,j<sz→W.cell? ((a.add (i*sz)).add j)=((c (f i))[j]?).bind fun _=>(W.cell? ((a.add (i*sz)).add j)):=by
    intro i hi j hj;rw[Wt (by rw[hl];exact hj)];rfl
   have hcell: ∀i,i<len+1→ ∀j,j<sz→ ∃v,W.cell? ⟨a.block,a.off+i*sz+j,none⟩=some v∧(∀p,(c (f i))[j]? =some p→IR (Mem.ou W hT) p v)∧a.spot=none:=by
    intro i hi j hj;obtain⟨⟨cs',h6,h8⟩,_⟩:=hf i hi;obtain⟨_,h9,h10⟩:=World.cells?_some h6;have h11:=h10 j hj;rw[Wt (by omega)] at h11
    have hs: ∀j,j<sz→(a.add (i*sz+j)).spot=none:=fun j hj=>by
     have h12:=h10 j hj;rw[Wt (by omega),Deep.add_add] at h12;exact World.cell?_spot h12
    have hadd:a.add (i*sz+j)=⟨a.block,a.off+i*sz+j,none⟩:=by
     have:=hs j hj;unfold Addr.add at this ⊢;split
     ·rename_i h0
      rw[if_pos h0] at this;cases a;simp_all
     ·rw[XZ]
    refine⟨cs'[j]'(by omega),?_,fun p hp=>?_,?_⟩
    ·rw[←hadd,←Deep.add_add];exact h11
    ·have:=h8.2 j p hp
     rwa[Ws,Wt (by omega)] at this
    ·obtain⟨⟨cs0,g6,_⟩,_⟩:=hf 0 (by omega)
     obtain⟨_,g9,g10⟩:=World.cells?_some g6;have g11:=g10 0 hpos;rw[Wt (by omega),Deep.add_add] at g11;have:=World.cell?_spot g11;simpa[Addr.add] using this
   have ha:some a=some (⟨a.block,a.off,none⟩:Addr):=by
    obtain⟨_,_,_,hs⟩:=hcell 0 (by omega) 0 hpos;cases a;simp_all
   rw[ha];have hlen:((WL (len+1)).map f).length=len+1:=by simp
   have hget: ∀k,k<len+1→((WL (len+1)).map f).getD k default=f k:=fun k hk=>by
    simp[Ws,Yr hk]
   unfold cM;rw[hlen];refine .cz _ _ _ _ _ _ h1 h2 (fun k _=>hl _) (fun k j hk hj=>?_) (fun k j p hk hp=>?_)
   ·obtain⟨v,hv,_⟩:=hcell k hk j hj
    rw[yi hv];rfl
   ·rw[hget k hk] at hp
    have hj:j<sz:=by rw[←hl (f k)];exact(Wr.1 hp).1
    obtain⟨v,hv,hp',_⟩:=hcell k hk j hj;rw[yi hv];exact hp' p hp
 ·have hi:i<len:=by simpa using(Wr.1 hx).1
  obtain⟨_,y,hy,hq⟩:=hf i hi;rw[Ww,hy] at hex;rw[Ww,Yr hi] at hx;simp at hex hx;subst hex;subst hx;exact hq
theorem nh {n:Nat} {fs:Array Field} {cs:List Value} {xs:List (DataW H×List MemPlace)} (hf: ∀(i:Nat) (f:Field),fs[i]? =some f→DataW.trod enc P W 0 sp held n f.type ((cs.drop f.offset).take (P.cellsOf f.type))=xs[i]?)
  (i:Nat) {f:Field} (h1:fs[i]? =some f) {t o sz:Nat} (h2:f.type=t) (h3:f.offset=o) (h4:P.cellsOf t=sz) {x:DataW H×List MemPlace} (hx:xs[i]? =some x):DataW.trod enc P W 0 sp held n t ((cs.drop o).take sz)=some x:=by
 subst h2;subst h3;subst h4;rw[hf i f h1,hx]
end
section
variable {H:Type} {enc:TypeId×Value→H} {P:Program} {W W':World} {T:TypeId→Prop}
theorem Bh {W W':World} (hk: ∀b,b<W.heap.size→W'.heap[b]? =W.heap[b]?) {p:MemPlace} (hp:p.block<W.heap.size):W.sameAt W' p:=by
 cases p with
 |cell b o=>exact World.cell?_of_block (a:=⟨b,o,none⟩) (hk b hp)
 |map b=>exact hk b hp
theorem nA (K:Kids P T) (hz: ∀{t e},T t→P.underlying t=some (.slice e)→0<P.cellsOf e) (hk: ∀b,b<W.heap.size→W'.heap[b]? =W.heap[b]?) {sp:Nat→Bool}:
  ∀{ts:List TypeId} {vs:List Value} {ds:List (DataW H)} {ps:List MemPlace},(∀t∈ts,T t)→DataW.TrodAll enc P W 0 (fun _=>true) true ts vs ds ps→(∀p∈ps,p.block<W.heap.size)→(∀p∈ps,sp p.block=true)→
   DataW.TrodAll enc P W' 0 sp true ts vs ds ps
 | [],vs,ds,ps,_,h,_,_=>by
  obtain⟨rfl,rfl,rfl⟩:=trodAll_nil h
  exact trodAll_mk0
 |t::ts,vs,ds,ps,hT,h,hlt,hsp=>by
  obtain⟨v,vs',d,ds',p,q,rfl,rfl,rfl,⟨n,h1⟩,h2⟩:=trodAll_cons h;refine⟨p,q,⟨n,DataW.trod_stays K hz (fun h=>by cases h) (hT t (by simp)) h1 (fun x hx=>Bh hk (hlt x (W0 _ hx))) (fun x hx=>hsp x (W0 _ hx))⟩,?_,rfl⟩;exact nA K hz hk (fun t ht=>hT t (WE _ ht)) h2 (fun x hx=>hlt x (XV _ hx)) (fun x hx=>hsp x (XV _ hx))
theorem Kb {W W':World} (hos:W'.os=W.os) (hout:W'.output=W.output) (hk: ∀b,b<W.heap.size→W'.heap[b]? =W.heap[b]?) (may:MemPlace→Prop):W.keptBut W' may:=by
 refine World.keptBut_mono (fun p hp=>(hp:False).elim) (World.keptBut_none_iff.2 ⟨hos,hout,hk⟩)
theorem vy {f:Func} {s:ChangeSpec} {apart fresh handsOn again:Bool} {args:Array Value} {v:Value} {ds gs:List (DataW H)} {before:List MemPlace}
  (K:Kids P T) (hz: ∀{t e},T t→P.underlying t=some (.slice e)→0<P.cellsOf e) (hTs: ∀t∈f.params.toList,T t) (hvars:s.vars=[])
  (hW:DataW.Whole enc P f.params.toList s.vars apart W args.toList ds gs before) (hos:W'.os=W.os) (hout:W'.output=W.output) (hk: ∀b,b<W.heap.size→W'.heap[b]? =W.heap[b]?)
  (hres: ∀(b:Nat) (sp:Nat→Bool) (hd:Bool),DataW.TrodAll enc P W' b sp hd f.resultTypes.toList (v.resultList f.resultTypes.size) (s.fn H (ds++gs)).results [])
  (hargs:(s.fn H (ds++gs)).args=ds) (hvs:(s.fn H (ds++gs)).vars=[])
  (hok: ∀(j:Nat) (t:TypeId) (r:Value),f.resultTypes[j]? =some t→(v.resultList f.resultTypes.size)[j]? =some r→Value.okWide P W' .any 0 t r):
  s.post enc P f apart fresh handsOn again W args v W':=by
 have hlt: ∀p∈before,p.block<W.heap.size:=fun p hp=>by simpa using hW.lt p hp
 have hold: ∀p∈before,(fun b=>decide (b<W.heap.size)) p.block=true:=fun p hp=>by simpa using hW.lt p hp
 obtain⟨pa,pv,hA,hV,rfl,hfz,hnd⟩:=id hW;rw[hvars] at hV
 obtain⟨rfl,rfl⟩:gs=[]∧pv=[]:=by
  cases gs with
  |nil=>exact⟨rfl,hV⟩
  |cons _ _=>exact hV.elim
 rw[Xo] at hlt hold
 have hagain: ∀sp:Nat→Bool,(∀p∈pa,sp p.block=true)→DataW.TrodAll enc P W' 0 sp true f.params.toList args.toList (s.fn H (ds++ [])).args pa:=fun sp hsp=>by
  rw[hargs];exact nA K hz hk hTs hA hlt hsp
 have hva: ∀sp:Nat→Bool,DataW.TrodVars enc P W' sp s.vars (s.fn H (ds++ [])).vars []:=fun sp=>by
  rw[hvs,hvars];rfl
 refine⟨ds,[],pa++ [],[],pa,[],hW,hres _ _ _,hagain _ hold,hva _,?_,fun _=>⟨hok,_,_,([]++pa)++ [],⟨[]++pa,[],trodAll_append (hagain _ (fun _ _=>rfl)) (hres _ _ _),hva _,rfl,?_,?_⟩,?_⟩⟩
 ·exact Kb hos hout hk _
 ·intro b off hp
  have hp':MemPlace.cell b off∈pa:=by simpa using hp
  have hb:=hlt _ hp';have:=hfz b off (by simpa using hp');rw[←this];simp only[World.frozen?];rw[hk b hb]
 ·intro ha
  have:=hnd ha;simpa using this
 ·intro p hp _
  simpa using hp
end
end Go.Al
