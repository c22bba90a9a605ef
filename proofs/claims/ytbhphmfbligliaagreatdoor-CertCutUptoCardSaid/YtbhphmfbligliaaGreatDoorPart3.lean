/-
  What the proofs of the claims need: part 3 of 5.
-/
import Derived.Test.YtbhphmfbligliaaGreatDoorPart2
import Derived.KernelRfl
import Derived.Test.YtbhphmfbligliaaGreatDoorProg
import Derived.Sort.EncStr
import Derived.Sort.Grow
import Derived.Sort.Walk0
import Derived.Shelf.Sort.Plain
import Derived.Shelf.Slices.In.SortNone
import Derived.Shelf.Slices.In.SortNone2
import Derived.WalkKit
import Derived.Lib.Builder
import Derived.Lib.UnsafeStr
import Derived.Laws.Externs
import Derived.Shelf.RegionOpenPlain
import Derived.Laws.RangeString
import Derived.Shelf.LaysM
import Derived.Shelf.Strconv.Itoa3
import Derived.Lib.ItoaLen
open And renaming intro→Tq
open Array renaming getD_eq_getD_getElem?→Tl,getElem?_append_left→T6,getElem?_eq_getElem→Uq,getElem?_eq_some_iff→Uf,getElem?_modify→T8,getElem?_setIfInBounds→Ua
open Bool renaming and_eq_true→TZ,and_false→Vy,eq_iff_iff→UN,false_and→Vc,false_eq_true→VK,false_or→Vn,not_false→Wp,not_true→VY,or_eq_true→Vr,true_and→Vo,true_or→Wm
open ByteArray renaming empty→Tx,size→WQ
open Classical renaming byContradiction→UU
open Int renaming fdiv_eq_ediv_of_nonneg→UT,ofNat_eq_zero→W3,ofNat_lt→VL,toNat→VB,toNat_natCast→Tt
open List.Nodup renaming length_le_of_subset→U7
open List.Pairwise renaming nil→W1
open List renaming all_cons→VZ,all_eq_false→W2,all_eq_true→T7,any_cons→WW,any_eq_false→Uo,any_eq_true→UO,append_assoc→Tz,append_nil→T1,cons_append→TV,ext_getElem?→VD,filterMap_append→WJ,filterMap_cons→WT,filter_cons→Vv,filter_eq_self→WU,filter_sublist→Wh,findIdx?_eq_none_iff→Wt,findIdx?_eq_some_iff_getElem→V3,flatMap_append→U8,flatMap_cons→T9,foldl_cons→Uc,getD_cons_succ→UK,getD_eq_getElem?_getD→Tr,getElem?_eq_getElem→Ts,getElem?_eq_some_iff→Tp,getElem?_map→Tu,getElem?_of_mem→UB,getElem?_take→T4,getElem_map→We,getElem_mem→Uw,le_antisymm→WA,length_append→Tn,length_cons→TO,length_filter_le→UY,length_map→T2,length_nil→UJ,length_pos_iff→UE,length_reverse→Vt,length_singleton→Ui,length_take→TY,map_append→TA,map_cons→TD,map_map→Ve,map_nil→TX,mem_append→TP,mem_append_left→Ue,mem_append_right→UQ,mem_cons→TQ,mem_cons_of_mem→TH,mem_cons_self→TJ,mem_filter→Ub,mem_flatMap→Wd,mem_map→UG,mem_of_getElem?→Uv,mem_range→Vx,mem_singleton→TF,nodup_append→Va,nodup_cons→UF,nodup_nil→Us,not_lt→Xd,not_mem_nil→Wc,pairwise_cons→UW,range→Uk,sum_cons→Vj,take_append_drop→Um,take_length→Uj,take_of_length_le→TE,take_succ_cons→UL
open Nat renaming add_assoc→Ux,add_zero→Vd,beq→TR,ble→Vm,ble_eq_true_of_le→Uu,blt→TU,le_add_left→V0,le_add_right→Wz,le_of_ble_eq_true→Tk,le_of_not_lt→UR,le_refl→Tv,le_succ→Vg,lt_or_ge→Un,lt_succ_of_lt→U0,lt_succ_self→US,min_le_right→Xb,mul_one→VP,sub_zero→V4,zero_add→TL,zero_le→TB
open Option renaming bind_some→Wy,getD_some→UI,map_eq_some_iff→Tw,map_some→Ut
open Option.some renaming injEq→Tm
open Prod renaming fst→Ur
set_option maxRecDepth 100000
open Bool renaming false→jp,true→is
open Decidable renaming decide→kw
open Inhabited renaming default→co
open Option renaming none→io,some→dl
open Array renaming range→Wu
open Array renaming getElem?_map→Vw
open Nat renaming mul_le_mul_right→TN
open Nat renaming add_mul→Ug
open Array renaming append_assoc→V1
open List renaming getElem?_append_right→TI
open Nat renaming sub_mul→WO
open Array renaming getElem?_append_right→Vu
open Array renaming getElem?_toList→T5
open Nat renaming add_comm→V6
open Nat renaming mod_eq_of_lt→VU
open List renaming getElem?_cons_succ→VH
open Array renaming toList_append→VG
namespace Go.Al
theorem bi{a b:PV}{c:Bool}{X:Prop}(h:X)(h1:a=b:=by rfl)(h2:c=true:=by rfl):aj a b∧c=true∧X:=⟨by subst h1;exact fun _ _ _ _ h=>h,h2,h⟩
theorem bv{i n:Nat}(h:decide ((i:Int)<(n:Int))=true):i<n:=by simpa using h
theorem ci{i n:Nat}(h:decide ((i:Int)<(n:Int))=false):n≤i:=by simpa using h
end Go.Al
namespace Go.Proofs.YtbhphmfbligliaaGreatDoor
open Go Go.Al Go.Proofs.Tryz
def ty2:bJ:=⟨.aR (.int .i64),1,8,.int .i64 (0),jp⟩
theorem PU:ah prog 2 ty2:=⟨ad (by kernel_rfl),⟨underlying2,rfl⟩,fun h=>nomatch h⟩
def ty3:bJ:=⟨.aR (.int .i64),1,8,.int .i64 (0),jp⟩
theorem PT:ah prog 3 ty3:=⟨ad (by kernel_rfl),⟨underlying3,rfl⟩,fun h=>nomatch h⟩
def ty4:bJ:=⟨.aR (.bool),1,1,.bool jp,jp⟩
theorem PS:ah prog 4 ty4:=⟨ad (by kernel_rfl),⟨underlying4,rfl⟩,fun h=>nomatch h⟩
def Px:bJ:=⟨.aR (.int .u8),1,1,.int .u8 (0),jp⟩
theorem PR:ah prog 5 Px:=⟨ad (by kernel_rfl),⟨underlying5,rfl⟩,fun h=>nomatch h⟩
def ty9:bJ:=⟨.aR (.string),1,16,.string Tx,jp⟩
theorem PQ:ah prog 9 ty9:=⟨ad (by kernel_rfl),⟨underlying9,rfl⟩,fun h=>nomatch h⟩
def Qi:bJ:=⟨.aR (.int .i32),1,4,.int .i32 (0),jp⟩
theorem NK:ah prog 21 Qi:=⟨ad (by kernel_rfl),⟨underlying21,rfl⟩,fun h=>nomatch h⟩
def Qh:bJ:=⟨.aR (.slice 99),1,24,.slice io 0 0,jp⟩
theorem NJ:ah prog 22 Qh:=⟨ad (by kernel_rfl),⟨underlying22,rfl⟩,fun h=>nomatch h⟩
def Qg:bJ:=⟨.aR (.slice 105),1,24,.slice io 0 0,jp⟩
theorem NI:ah prog 23 Qg:=⟨ad (by kernel_rfl),⟨underlying23,rfl⟩,fun h=>nomatch h⟩
def Qf:bJ:=⟨.cq [(0,22),(1,23)],2,48,.agg #[.slice io 0 0,.slice io 0 0],is⟩
theorem NH:ah prog 25 Qf:=⟨ad (by kernel_rfl),⟨_,underlying25,rfl⟩,fun _=>bH underlying25 Tryz.stoodInHeld25 Tryz.eqGuardType25 (by decide)⟩
def Qe:bJ:=⟨.aR (.slice 62),1,24,.slice io 0 0,jp⟩
theorem NG:ah prog 26 Qe:=⟨ad (by kernel_rfl),⟨underlying26,rfl⟩,fun h=>nomatch h⟩
def Qd:bJ:=⟨.cq [(0,9),(1,26)],2,40,.agg #[.string Tx,.slice io 0 0],is⟩
theorem NF:ah prog 28 Qd:=⟨ad (by kernel_rfl),⟨_,underlying28,rfl⟩,fun _=>bH underlying28 Tryz.stoodInHeld28 Tryz.eqGuardType28 (by decide)⟩
def Qc:bJ:=⟨.aR (.slice 31),1,24,.slice io 0 0,jp⟩
theorem ND:ah prog 29 Qc:=⟨ad (by kernel_rfl),⟨underlying29,rfl⟩,fun h=>nomatch h⟩
def Qb:bJ:=⟨.cq [(0,28),(2,3),(3,29)],4,72,.agg #[.string Tx,.slice io 0 0,.int .i64 (0),.slice io 0 0],is⟩
theorem NC:ah prog 31 Qb:=⟨ad (by kernel_rfl),⟨_,underlying31,rfl⟩,fun _=>bH underlying31 Tryz.stoodInHeld31 Tryz.eqGuardType31 (by decide)⟩
def Qa:bJ:=⟨.aR (.slice 5),1,24,.slice io 0 0,jp⟩
theorem NB:ah prog 33 Qa:=⟨ad (by kernel_rfl),⟨underlying33,rfl⟩,fun h=>nomatch h⟩
def P9:bJ:=⟨.aR (.int .i64),1,8,.int .i64 (0),jp⟩
theorem NA:ah prog 34 P9:=⟨ad (by kernel_rfl),⟨underlying34,rfl⟩,fun h=>nomatch h⟩
def P8:bJ:=⟨.aR (.slice 60),1,24,.slice io 0 0,jp⟩
theorem Nz:ah prog 43 P8:=⟨ad (by kernel_rfl),⟨underlying43,rfl⟩,fun h=>nomatch h⟩
def P7:bJ:=⟨.aR (.int .u32),1,4,.int .u32 (0),jp⟩
theorem Ny:ah prog 50 P7:=⟨ad (by kernel_rfl),⟨underlying50,rfl⟩,fun h=>nomatch h⟩
def P6:bJ:=⟨.aR (.slice 3),1,24,.slice io 0 0,jp⟩
theorem Nx:ah prog 58 P6:=⟨ad (by kernel_rfl),⟨underlying58,rfl⟩,fun h=>nomatch h⟩
def P5:bJ:=⟨.cq [(0,28),(2,3),(3,58)],4,72,.agg #[.string Tx,.slice io 0 0,.int .i64 (0),.slice io 0 0],is⟩
theorem Nw:ah prog 60 P5:=⟨ad (by kernel_rfl),⟨_,underlying60,rfl⟩,fun _=>bH underlying60 Tryz.stoodInHeld60 Tryz.eqGuardType60 (by decide)⟩
def P4:bJ:=⟨.cq [(0,3),(1,3),(2,9)],3,32,.agg #[.int .i64 (0),.int .i64 (0),.string Tx],is⟩
theorem Nv:ah prog 62 P4:=⟨ad (by kernel_rfl),⟨_,underlying62,rfl⟩,fun _=>bH underlying62 Tryz.stoodInHeld62 Tryz.eqGuardType62 (by decide)⟩
def P3:bJ:=⟨.cq [(0,31)],4,72,.agg #[.string Tx,.slice io 0 0,.int .i64 (0),.slice io 0 0],is⟩
theorem Nu:ah prog 68 P3:=⟨ad (by kernel_rfl),⟨_,underlying68,rfl⟩,fun _=>bH underlying68 Tryz.stoodInHeld68 Tryz.eqGuardType68 (by decide)⟩
def P2:bJ:=⟨.aR (.slice 81),1,24,.slice io 0 0,jp⟩
theorem Nt:ah prog 69 P2:=⟨ad (by kernel_rfl),⟨underlying69,rfl⟩,fun h=>nomatch h⟩
def P1:bJ:=⟨.aR (.pointer 3),1,8,.pointer io,jp⟩
theorem Ns:ah prog 76 P1:=⟨ad (by kernel_rfl),⟨underlying76,rfl⟩,fun h=>nomatch h⟩
def P0:bJ:=⟨.cq [(0,43)],1,24,.agg #[.slice io 0 0],is⟩
theorem Nr:ah prog 79 P0:=⟨ad (by kernel_rfl),⟨_,underlying79,rfl⟩,fun _=>bH underlying79 Tryz.stoodInHeld79 Tryz.eqGuardType79 (by decide)⟩
def PZ:bJ:=⟨.cq [(0,28),(2,3),(3,3),(4,58)],5,80,.agg #[.string Tx,.slice io 0 0,.int .i64 (0),.int .i64 (0),.slice io 0 0],is⟩
theorem Nq:ah prog 81 PZ:=⟨ad (by kernel_rfl),⟨_,underlying81,rfl⟩,fun _=>bH underlying81 Tryz.stoodInHeld81 Tryz.eqGuardType81 (by decide)⟩
def PY:bJ:=⟨.cq [(0,3),(1,3)],2,16,.agg #[.int .i64 (0),.int .i64 (0)],is⟩
theorem Np:ah prog 91 PY:=⟨ad (by kernel_rfl),⟨_,underlying91,rfl⟩,fun _=>bH underlying91 Tryz.stoodInHeld91 Tryz.eqGuardType91 (by decide)⟩
def PX:bJ:=⟨.cq [(0,34),(1,91)],3,24,.agg #[.int .i64 (0),.int .i64 (0),.int .i64 (0)],is⟩
theorem No:ah prog 93 PX:=⟨ad (by kernel_rfl),⟨_,underlying93,rfl⟩,fun _=>bH underlying93 Tryz.stoodInHeld93 Tryz.eqGuardType93 (by decide)⟩
def PW:bJ:=⟨.cq [(0,9),(1,58),(2,91)],4,56,.agg #[.string Tx,.slice io 0 0,.int .i64 (0),.int .i64 (0)],is⟩
theorem Nn:ah prog 99 PW:=⟨ad (by kernel_rfl),⟨_,underlying99,rfl⟩,fun _=>bH underlying99 Tryz.stoodInHeld99 Tryz.eqGuardType99 (by decide)⟩
def MD:bJ:=⟨.aR (.slice 196),1,24,.slice io 0 0,jp⟩
theorem Jq:ah prog 100 MD:=⟨ad (by kernel_rfl),⟨underlying100,rfl⟩,fun h=>nomatch h⟩
def MC:bJ:=⟨.cq [(0,9),(1,100)],2,40,.agg #[.string Tx,.slice io 0 0],is⟩
theorem Jp:ah prog 102 MC:=⟨ad (by kernel_rfl),⟨_,underlying102,rfl⟩,fun _=>bH underlying102 Tryz.stoodInHeld102 Tryz.eqGuardType102 (by decide)⟩
def MA:bJ:=⟨.aR (.slice 205),1,24,.slice io 0 0,jp⟩
theorem Jo:ah prog 103 MA:=⟨ad (by kernel_rfl),⟨underlying103,rfl⟩,fun h=>nomatch h⟩
def Mz:bJ:=⟨.cq [(0,102),(2,103),(3,91)],5,80,.agg #[.string Tx,.slice io 0 0,.slice io 0 0,.int .i64 (0),.int .i64 (0)],is⟩
theorem Jn:ah prog 105 Mz:=⟨ad (by kernel_rfl),⟨_,underlying105,rfl⟩,fun _=>bH underlying105 Tryz.stoodInHeld105 Tryz.eqGuardType105 (by decide)⟩
def My:bJ:=⟨.aR (.int .u64),1,8,.int .u64 (0),jp⟩
theorem Jm:ah prog 108 My:=⟨ad (by kernel_rfl),⟨underlying108,rfl⟩,fun h=>nomatch h⟩
def Mx:bJ:=⟨.aR (.slice 9),1,24,.slice io 0 0,jp⟩
theorem Jl:ah prog 109 Mx:=⟨ad (by kernel_rfl),⟨underlying109,rfl⟩,fun h=>nomatch h⟩
def Mw:bJ:=⟨.aR (.int .u64),1,8,.int .u64 (0),jp⟩
theorem Jk:ah prog 116 Mw:=⟨ad (by kernel_rfl),⟨underlying116,rfl⟩,fun h=>nomatch h⟩
def Mv:bJ:=⟨.aR (.pointer 138),1,8,.pointer io,jp⟩
theorem Jj:ah prog 124 Mv:=⟨ad (by kernel_rfl),⟨underlying124,rfl⟩,fun h=>nomatch h⟩
def Mu:bJ:=⟨.aR (.pointer 211),1,8,.pointer io,jp⟩
theorem Ji:ah prog 127 Mu:=⟨ad (by kernel_rfl),⟨underlying127,rfl⟩,fun h=>nomatch h⟩
def Mt:bJ:=⟨.aR (.func #[9] #[3] jp),1,8,.nilFunc,jp⟩
theorem Jh:ah prog 130 Mt:=⟨ad (by kernel_rfl),⟨underlying130,rfl⟩,fun h=>nomatch h⟩
def Ms:bJ:=⟨.aR (.pointer 215),1,8,.pointer io,jp⟩
theorem Jg:ah prog 131 Ms:=⟨ad (by kernel_rfl),⟨underlying131,rfl⟩,fun h=>nomatch h⟩
def Mr:bJ:=⟨.aR (.map 9 3),1,8,.map io,jp⟩
theorem Jf:ah prog 136 Mr:=⟨ad (by kernel_rfl),⟨underlying136,rfl⟩,fun h=>nomatch h⟩
def Mq:bJ:=⟨.cq [(0,25),(2,50),(3,136),(4,58)],5,88,.agg #[.slice io 0 0,.slice io 0 0,.int .u32 (0),.map io,.slice io 0 0],is⟩
theorem Je:ah prog 138 Mq:=⟨ad (by kernel_rfl),⟨_,underlying138,rfl⟩,fun _=>bH underlying138 Tryz.stoodInHeld138 Tryz.eqGuardType138 (by decide)⟩
def Mp:bJ:=⟨.aR (.func #[217] #[] jp),1,8,.nilFunc,jp⟩
theorem Jd:ah prog 141 Mp:=⟨ad (by kernel_rfl),⟨underlying141,rfl⟩,fun h=>nomatch h⟩
def Mo:bJ:=⟨.aR (.func #[217] #[] jp),1,8,.nilFunc,jp⟩
theorem Jc:ah prog 142 Mo:=⟨ad (by kernel_rfl),⟨underlying142,rfl⟩,fun h=>nomatch h⟩
def Mn:bJ:=⟨.aR (.pointer 153),1,8,.pointer io,jp⟩
theorem Jb:ah prog 149 Mn:=⟨ad (by kernel_rfl),⟨underlying149,rfl⟩,fun h=>nomatch h⟩
def Mm:bJ:=⟨.aR (.pointer 221),1,8,.pointer io,jp⟩
theorem Ja:ah prog 150 Mm:=⟨ad (by kernel_rfl),⟨underlying150,rfl⟩,fun h=>nomatch h⟩
def Ml:bJ:=⟨.cq [(0,150),(1,124),(2,109),(3,4)],4,48,.agg #[.pointer io,.pointer io,.slice io 0 0,.bool jp],is⟩
theorem I9:ah prog 153 Ml:=⟨ad (by kernel_rfl),⟨_,underlying153,rfl⟩,fun _=>bH underlying153 Tryz.stoodInHeld153 Tryz.eqGuardType153 (by decide)⟩
def Mk:bJ:=⟨.aR (.map 9 136),1,8,.map io,jp⟩
theorem I8:ah prog 177 Mk:=⟨ad (by kernel_rfl),⟨underlying177,rfl⟩,fun h=>nomatch h⟩
def Mj:bJ:=⟨.aR (.map 9 136),1,8,.map io,jp⟩
theorem I7:ah prog 178 Mj:=⟨ad (by kernel_rfl),⟨underlying178,rfl⟩,fun h=>nomatch h⟩
def Mi:bJ:=⟨.aR (.pointer 188),1,8,.pointer io,jp⟩
theorem I6:ah prog 183 Mi:=⟨ad (by kernel_rfl),⟨underlying183,rfl⟩,fun h=>nomatch h⟩
def Mh:bJ:=⟨.aR (.pointer 186),1,8,.pointer io,jp⟩
theorem I5:ah prog 184 Mh:=⟨ad (by kernel_rfl),⟨underlying184,rfl⟩,fun h=>nomatch h⟩
def Mg:bJ:=⟨.cq [(0,184),(1,33)],2,32,.agg #[.pointer io,.slice io 0 0],is⟩
theorem I4:ah prog 186 Mg:=⟨ad (by kernel_rfl),⟨_,underlying186,rfl⟩,fun _=>bH underlying186 Tryz.stoodInHeld186 Tryz.eqGuardType186 (by decide)⟩
def Mf:bJ:=⟨.cq [(0,186),(2,4),(3,3)],4,48,.agg #[.pointer io,.slice io 0 0,.bool jp,.int .i64 (0)],is⟩
theorem I3:ah prog 188 Mf:=⟨ad (by kernel_rfl),⟨_,underlying188,rfl⟩,fun _=>bH underlying188 Tryz.stoodInHeld188 Tryz.eqGuardType188 (by decide)⟩
def Me:bJ:=⟨.cq [(0,3),(1,9),(2,62)],5,56,.agg #[.int .i64 (0),.string Tx,.int .i64 (0),.int .i64 (0),.string Tx],is⟩
theorem I2:ah prog 196 Me:=⟨ad (by kernel_rfl),⟨_,underlying196,rfl⟩,fun _=>bH underlying196 Tryz.stoodInHeld196 Tryz.eqGuardType196 (by decide)⟩
def Md:bJ:=⟨.aR (.slice 201),1,24,.slice io 0 0,jp⟩
theorem I1:ah prog 199 Md:=⟨ad (by kernel_rfl),⟨underlying199,rfl⟩,fun h=>nomatch h⟩
def Mc:bJ:=⟨.cq [(0,3),(1,9),(2,62),(5,3),(6,199)],7,88,.agg #[.int .i64 (0),.string Tx,.int .i64 (0),.int .i64 (0),.string Tx,.int .i64 (0),.slice io 0 0],is⟩
theorem I0:ah prog 201 Mc:=⟨ad (by kernel_rfl),⟨_,underlying201,rfl⟩,fun _=>bH underlying201 Tryz.stoodInHeld201 Tryz.eqGuardType201 (by decide)⟩
def Mb:bJ:=⟨.cq [(0,3),(1,9),(2,201),(9,103)],10,136,.agg #[.int .i64 (0),.string Tx,.int .i64 (0),.string Tx,.int .i64 (0),.int .i64 (0),.string Tx,.int .i64 (0),.slice io 0 0,.slice io 0 0],is⟩
theorem IZ:ah prog 203 Mb:=⟨ad (by kernel_rfl),⟨_,underlying203,rfl⟩,fun _=>bH underlying203 Tryz.stoodInHeld203 Tryz.eqGuardType203 (by decide)⟩
def Ma:bJ:=⟨.cq [(0,3),(1,102),(3,3),(4,201),(11,201),(18,203),(28,91)],30,384,.agg #[.int .i64 (0),.string Tx,.slice io 0 0,.int .i64 (0),.int .i64 (0),.string Tx,.int .i64 (0),.int .i64 (0),.string Tx,.int .i64 (0),.slice io 0 0,.int .i64 (0),.string Tx,.int .i64 (0),.int .i64 (0),.string Tx,.int .i64 (0),.slice io 0 0,.int .i64 (0),.string Tx,.int .i64 (0),.string Tx,.int .i64 (0),.int .i64 (0),.string Tx,.int .i64 (0),.slice io 0 0,.slice io 0 0,.int .i64 (0),.int .i64 (0)],is⟩
theorem IY:ah prog 205 Ma:=⟨ad (by kernel_rfl),⟨_,underlying205,rfl⟩,fun _=>bH underlying205 Tryz.stoodInHeld205 Tryz.eqGuardType205 (by decide)⟩
def L9:bJ:=⟨.cq [(0,136),(1,109)],2,32,.agg #[.map io,.slice io 0 0],is⟩
theorem IX:ah prog 211 L9:=⟨ad (by kernel_rfl),⟨_,underlying211,rfl⟩,fun _=>bH underlying211 Tryz.stoodInHeld211 Tryz.eqGuardType211 (by decide)⟩
def L8:bJ:=⟨.cq [(0,33)],1,24,.agg #[.slice io 0 0],is⟩
theorem IW:ah prog 213 L8:=⟨ad (by kernel_rfl),⟨_,underlying213,rfl⟩,fun _=>bH underlying213 Tryz.stoodInHeld213 Tryz.eqGuardType213 (by decide)⟩
def L7:bJ:=⟨.cq [(0,213)],1,24,.agg #[.slice io 0 0],is⟩
theorem IU:ah prog 215 L7:=⟨ad (by kernel_rfl),⟨_,underlying215,rfl⟩,fun _=>bH underlying215 Tryz.stoodInHeld215 Tryz.eqGuardType215 (by decide)⟩
def L6:bJ:=⟨.aR (.func #[3,9] #[4] jp),1,8,.nilFunc,jp⟩
theorem IT:ah prog 217 L6:=⟨ad (by kernel_rfl),⟨underlying217,rfl⟩,fun h=>nomatch h⟩
def L5:bJ:=⟨.cq [(0,33),(1,3),(2,34)],3,40,.agg #[.slice io 0 0,.int .i64 (0),.int .i64 (0)],is⟩
theorem IS:ah prog 219 L5:=⟨ad (by kernel_rfl),⟨_,underlying219,rfl⟩,fun _=>bH underlying219 Tryz.stoodInHeld219 Tryz.eqGuardType219 (by decide)⟩
def L4:bJ:=⟨.cq [(0,219)],3,40,.agg #[.slice io 0 0,.int .i64 (0),.int .i64 (0)],is⟩
theorem IQ:ah prog 221 L4:=⟨ad (by kernel_rfl),⟨_,underlying221,rfl⟩,fun _=>bH underlying221 Tryz.stoodInHeld221 Tryz.eqGuardType221 (by decide)⟩
def L3:bJ:=⟨.aR (.func #[93] #[4] jp),1,8,.nilFunc,jp⟩
theorem IP:ah prog 245 L3:=⟨ad (by kernel_rfl),⟨underlying245,rfl⟩,fun h=>nomatch h⟩
def L2:bJ:=⟨.aR (.pointer 205),1,8,.pointer io,jp⟩
theorem IN:ah prog 258 L2:=⟨ad (by kernel_rfl),⟨underlying258,rfl⟩,fun h=>nomatch h⟩
def L1:bJ:=⟨.aR (.func #[62] #[4] jp),1,8,.nilFunc,jp⟩
theorem IM:ah prog 262 L1:=⟨ad (by kernel_rfl),⟨underlying262,rfl⟩,fun h=>nomatch h⟩
def LZ:bJ:=⟨.aR (.map 9 99),1,8,.map io,jp⟩
theorem IL:ah prog 264 LZ:=⟨ad (by kernel_rfl),⟨underlying264,rfl⟩,fun h=>nomatch h⟩
def LY:bJ:=⟨.aR (.pointer 213),1,8,.pointer io,jp⟩
theorem IK:ah prog 267 LY:=⟨ad (by kernel_rfl),⟨underlying267,rfl⟩,fun h=>nomatch h⟩
def LX:bJ:=⟨.aR (.pointer 219),1,8,.pointer io,jp⟩
theorem IJ:ah prog 268 LX:=⟨ad (by kernel_rfl),⟨underlying268,rfl⟩,fun h=>nomatch h⟩
def LW:bJ:=⟨.aR (.map 9 3),1,8,.map io,jp⟩
theorem II:ah prog 282 LW:=⟨ad (by kernel_rfl),⟨underlying282,rfl⟩,fun h=>nomatch h⟩
def LV:bJ:=⟨.aR (.func #[201] #[4] jp),1,8,.nilFunc,jp⟩
theorem IH:ah prog 284 LV:=⟨ad (by kernel_rfl),⟨underlying284,rfl⟩,fun h=>nomatch h⟩
def LU:bJ:=⟨.aR (.func #[203] #[4] jp),1,8,.nilFunc,jp⟩
theorem IG:ah prog 285 LU:=⟨ad (by kernel_rfl),⟨underlying285,rfl⟩,fun h=>nomatch h⟩
def LS:bJ:=⟨.aR (.func #[205] #[4] jp),1,8,.nilFunc,jp⟩
theorem IF:ah prog 288 LS:=⟨ad (by kernel_rfl),⟨underlying288,rfl⟩,fun h=>nomatch h⟩
def LR:bJ:=⟨.aR (.pointer 5),1,8,.pointer io,jp⟩
theorem IE:ah prog 292 LR:=⟨ad (by kernel_rfl),⟨underlying292,rfl⟩,fun h=>nomatch h⟩
def LQ:bJ:=⟨.aR (.func #[102] #[4] jp),1,8,.nilFunc,jp⟩
theorem ID:ah prog 303 LQ:=⟨ad (by kernel_rfl),⟨underlying303,rfl⟩,fun h=>nomatch h⟩
def LP:bJ:=⟨.aR (.func #[3] #[4] jp),1,8,.nilFunc,jp⟩
theorem IC:ah prog 307 LP:=⟨ad (by kernel_rfl),⟨underlying307,rfl⟩,fun h=>nomatch h⟩
def LO:bJ:=⟨.aR (.pointer 350),1,8,.pointer io,jp⟩
theorem IB:ah prog 310 LO:=⟨ad (by kernel_rfl),⟨underlying310,rfl⟩,fun h=>nomatch h⟩
def LN:bJ:=⟨.aR (.slice 102),1,24,.slice io 0 0,jp⟩
theorem IA:ah prog 313 LN:=⟨ad (by kernel_rfl),⟨underlying313,rfl⟩,fun h=>nomatch h⟩
def LM:bJ:=⟨.cq [(0,34),(1,307)],2,16,.agg #[.int .i64 (0),.nilFunc],is⟩
theorem Iz:ah prog 315 LM:=⟨ad (by kernel_rfl),⟨_,underlying315,rfl⟩,fun _=>bH underlying315 Tryz.stoodInHeld315 Tryz.eqGuardType315 (by decide)⟩
def LL:bJ:=⟨.aR (.pointer 359),1,8,.pointer io,jp⟩
theorem Iy:ah prog 317 LL:=⟨ad (by kernel_rfl),⟨underlying317,rfl⟩,fun h=>nomatch h⟩
def LK:bJ:=⟨.aR (.slice 315),1,24,.slice io 0 0,jp⟩
theorem Ix:ah prog 319 LK:=⟨ad (by kernel_rfl),⟨underlying319,rfl⟩,fun h=>nomatch h⟩
def LJ:bJ:=⟨.aR (.func #[21] #[4] jp),1,8,.nilFunc,jp⟩
theorem Iw:ah prog 326 LJ:=⟨ad (by kernel_rfl),⟨underlying326,rfl⟩,fun h=>nomatch h⟩
def LI:bJ:=⟨.aR (.unsafePointer),1,8,.pointer io,jp⟩
theorem Iv:ah prog 327 LI:=⟨ad (by kernel_rfl),⟨underlying327,rfl⟩,fun h=>nomatch h⟩
def LH:bJ:=⟨.arr 7 9,7,112,.agg #[.string Tx,.string Tx,.string Tx,.string Tx,.string Tx,.string Tx,.string Tx],jp⟩
theorem Iu:ah prog 329 LH:=⟨ad (by kernel_rfl),underlying329,fun h=>nomatch h⟩
def LG:bJ:=⟨.cq [(0,105),(5,282)],6,88,.agg #[.string Tx,.slice io 0 0,.slice io 0 0,.int .i64 (0),.int .i64 (0),.map io],is⟩
theorem It:ah prog 350 LG:=⟨ad (by kernel_rfl),⟨_,underlying350,rfl⟩,fun _=>bH underlying350 Tryz.stoodInHeld350 Tryz.eqGuardType350 (by decide)⟩
def LF:bJ:=⟨.aR (.func #[196] #[4] jp),1,8,.nilFunc,jp⟩
theorem Is:ah prog 354 LF:=⟨ad (by kernel_rfl),⟨underlying354,rfl⟩,fun h=>nomatch h⟩
def LD:bJ:=⟨.aR (.map 365 365),1,8,.map io,jp⟩
theorem Ir:ah prog 355 LD:=⟨ad (by kernel_rfl),⟨underlying355,rfl⟩,fun h=>nomatch h⟩
def LB:bJ:=⟨.aR (.map 365 3),1,8,.map io,jp⟩
theorem Iq:ah prog 356 LB:=⟨ad (by kernel_rfl),⟨underlying356,rfl⟩,fun h=>nomatch h⟩
def LA:bJ:=⟨.aR (.slice 367),1,24,.slice io 0 0,jp⟩
theorem Ip:ah prog 357 LA:=⟨ad (by kernel_rfl),⟨underlying357,rfl⟩,fun h=>nomatch h⟩
def Lz:bJ:=⟨.cq [(0,310),(1,355),(2,357),(3,356)],4,48,.agg #[.pointer io,.map io,.slice io 0 0,.map io],is⟩
theorem Io:ah prog 359 Lz:=⟨ad (by kernel_rfl),⟨_,underlying359,rfl⟩,fun _=>bH underlying359 Tryz.stoodInHeld359 Tryz.eqGuardType359 (by decide)⟩
def Ly:bJ:=⟨.cq [(0,9),(1,3)],2,24,.agg #[.string Tx,.int .i64 (0)],is⟩
theorem Im:ah prog 365 Ly:=⟨ad (by kernel_rfl),⟨_,underlying365,rfl⟩,fun _=>bH underlying365 Tryz.stoodInHeld365 Tryz.eqGuardType365 (by decide)⟩
def Lx:bJ:=⟨.cq [(0,3),(1,365),(3,3),(4,3)],5,48,.agg #[.int .i64 (0),.string Tx,.int .i64 (0),.int .i64 (0),.int .i64 (0)],is⟩
theorem Il:ah prog 367 Lx:=⟨ad (by kernel_rfl),⟨_,underlying367,rfl⟩,fun _=>bH underlying367 Tryz.stoodInHeld367 Tryz.eqGuardType367 (by decide)⟩
def Lw:bJ:=⟨.aR (.int .i64),1,8,.int .i64 (0),jp⟩
theorem Ik:ah prog 371 Lw:=⟨ad (by kernel_rfl),⟨underlying371,rfl⟩,fun h=>nomatch h⟩
def Lv:bJ:=⟨.arr 5 9,5,80,.agg #[.string Tx,.string Tx,.string Tx,.string Tx,.string Tx],jp⟩
theorem Ij:ah prog 382 Lv:=⟨ad (by kernel_rfl),underlying382,fun h=>nomatch h⟩
def Lu:bJ:=⟨.aR (.int .u64),1,8,.int .u64 (0),jp⟩
theorem Ii:ah prog 393 Lu:=⟨ad (by kernel_rfl),⟨underlying393,rfl⟩,fun h=>nomatch h⟩
def Lt:bJ:=⟨.aR (.pointer 393),1,8,.pointer io,jp⟩
theorem Ih:ah prog 405 Lt:=⟨ad (by kernel_rfl),⟨underlying405,rfl⟩,fun h=>nomatch h⟩
def Ls:bJ:=⟨.arr 24 5,24,24,.agg (.replicate 24 (.int .u8 (0))),jp⟩
theorem Ig:ah prog 414 Ls:=⟨ad (by kernel_rfl),underlying414,fun h=>nomatch h⟩
def Lr:bJ:=⟨.arr 20 116,20,160,.agg (.replicate 20 (.int .u64 (0))),jp⟩
theorem Ie:ah prog 420 Lr:=⟨ad (by kernel_rfl),underlying420,fun h=>nomatch h⟩
def Lq:bJ:=⟨.arr 65 5,65,65,.agg (.replicate 65 (.int .u8 (0))),jp⟩
theorem Ic:ah prog 421 Lq:=⟨ad (by kernel_rfl),underlying421,fun h=>nomatch h⟩
def Lp:bJ:=⟨.arr 32 5,32,32,.agg (.replicate 32 (.int .u8 (0))),jp⟩
theorem Ib:ah prog 423 Lp:=⟨ad (by kernel_rfl),underlying423,fun h=>nomatch h⟩
def Lo:bJ:=⟨.arr 64 5,64,64,.agg (.replicate 64 (.int .u8 (0))),jp⟩
theorem Ia:ah prog 424 Lo:=⟨ad (by kernel_rfl),underlying424,fun h=>nomatch h⟩
def Fc:TT:=(.node (.node (.node (.node (.node (.node (.node .leaf 2 ty2 .leaf) 3 ty3 (.node .leaf 4 ty4 .leaf)) 5 Px (.node (.node .leaf 9 ty9 .leaf) 21 Qi .leaf)) 22 Qh (.node (.node (.node .leaf 23 Qg .leaf) 25 Qf .leaf) 26 Qe (.node (.node .leaf 28 Qd .leaf) 29 Qc .leaf))) 31 Qb (.node (.node (.node (.node .leaf 33 Qa .leaf) 34 P9 (.node .leaf 43 P8 .leaf)) 50 P7 (.node (.node .leaf 58 P6 .leaf) 60 P5 .leaf)) 62 P4 (.node (.node (.node .leaf 68 P3 .leaf) 69 P2 .leaf) 76 P1 (.node (.node .leaf 79 P0 .leaf) 81 PZ .leaf)))) 91 PY (.node (.node (.node (.node (.node .leaf 93 PX .leaf) 99 PW (.node .leaf 100 MD .leaf)) 102 MC (.node (.node .leaf 103 MA .leaf) 105 Mz .leaf)) 108 My (.node (.node (.node .leaf 109 Mx .leaf) 116 Mw .leaf) 124 Mv (.node (.node .leaf 127 Mu .leaf) 130 Mt .leaf))) 131 Ms (.node (.node (.node (.node .leaf 136 Mr .leaf) 138 Mq .leaf) 141 Mp (.node (.node .leaf 142 Mo .leaf) 149 Mn .leaf)) 150 Mm (.node (.node (.node .leaf 153 Ml .leaf) 177 Mk .leaf) 178 Mj (.node (.node .leaf 183 Mi .leaf) 184 Mh .leaf))))) 186 Mg (.node (.node (.node (.node (.node (.node .leaf 188 Mf .leaf) 196 Me (.node .leaf 199 Md .leaf)) 201 Mc (.node (.node .leaf 203 Mb .leaf) 205 Ma .leaf)) 211 L9 (.node (.node (.node .leaf 213 L8 .leaf) 215 L7 .leaf) 217 L6 (.node (.node .leaf 219 L5 .leaf) 221 L4 .leaf))) 245 L3 (.node (.node (.node (.node .leaf 258 L2 .leaf) 262 L1 (.node .leaf 264 LZ .leaf)) 267 LY (.node (.node .leaf 268 LX .leaf) 282 LW .leaf)) 284 LV (.node (.node (.node .leaf 285 LU .leaf) 288 LS .leaf) 292 LR (.node (.node .leaf 303 LQ .leaf) 307 LP .leaf)))) 310 LO (.node (.node (.node (.node (.node .leaf 313 LN .leaf) 315 LM (.node .leaf 317 LL .leaf)) 319 LK (.node (.node .leaf 326 LJ .leaf) 327 LI .leaf)) 329 LH (.node (.node (.node .leaf 350 LG .leaf) 354 LF .leaf) 355 LD (.node (.node .leaf 356 LB .leaf) 357 LA .leaf))) 359 Lz (.node (.node (.node (.node .leaf 365 Ly .leaf) 367 Lx .leaf) 371 Lw (.node (.node .leaf 382 Lv .leaf) 393 Lu .leaf)) 405 Lt (.node (.node (.node .leaf 414 Ls .leaf) 420 Lr .leaf) 421 Lq (.node (.node .leaf 423 Lp .leaf) 424 Lo .leaf))))))
theorem A9:Fc.R9 (ah prog):=⟨I4,⟨Np,⟨NC,⟨NJ,⟨PR,⟨PT,⟨PU,ac,ac⟩,⟨PS,ac,ac⟩⟩,⟨NK,⟨PQ,ac,ac⟩,ac⟩⟩,⟨NG,⟨NH,⟨NI,ac,ac⟩,ac⟩,⟨ND,⟨NF,ac,ac⟩,ac⟩⟩⟩,⟨Nv,⟨Ny,⟨NA,⟨NB,ac,ac⟩,⟨Nz,ac,ac⟩⟩,⟨Nw,⟨Nx,ac,ac⟩,ac⟩⟩,⟨Ns,⟨Nt,⟨Nu,ac,ac⟩,ac⟩,⟨Nq,⟨Nr,ac,ac⟩,ac⟩⟩⟩⟩,⟨Jg,⟨Jm,⟨Jp,⟨Nn,⟨No,ac,ac⟩,⟨Jq,ac,ac⟩⟩,⟨Jn,⟨Jo,ac,ac⟩,ac⟩⟩,⟨Jj,⟨Jk,⟨Jl,ac,ac⟩,ac⟩,⟨Jh,⟨Ji,ac,ac⟩,ac⟩⟩⟩,⟨Ja,⟨Jd,⟨Je,⟨Jf,ac,ac⟩,ac⟩,⟨Jb,⟨Jc,ac,ac⟩,ac⟩⟩,⟨I7,⟨I8,⟨I9,ac,ac⟩,ac⟩,⟨I5,⟨I6,ac,ac⟩,ac⟩⟩⟩⟩⟩,⟨IB,⟨IP,⟨IX,⟨I0,⟨I2,⟨I3,ac,ac⟩,⟨I1,ac,ac⟩⟩,⟨IY,⟨IZ,ac,ac⟩,ac⟩⟩,⟨IT,⟨IU,⟨IW,ac,ac⟩,ac⟩,⟨IQ,⟨IS,ac,ac⟩,ac⟩⟩⟩,⟨IH,⟨IK,⟨IM,⟨IN,ac,ac⟩,⟨IL,ac,ac⟩⟩,⟨II,⟨IJ,ac,ac⟩,ac⟩⟩,⟨IE,⟨IF,⟨IG,ac,ac⟩,ac⟩,⟨IC,⟨ID,ac,ac⟩,ac⟩⟩⟩⟩,⟨Io,⟨Iu,⟨Ix,⟨Iz,⟨IA,ac,ac⟩,⟨Iy,ac,ac⟩⟩,⟨Iv,⟨Iw,ac,ac⟩,ac⟩⟩,⟨Ir,⟨Is,⟨It,ac,ac⟩,ac⟩,⟨Ip,⟨Iq,ac,ac⟩,ac⟩⟩⟩,⟨Ih,⟨Ik,⟨Il,⟨Im,ac,ac⟩,ac⟩,⟨Ii,⟨Ij,ac,ac⟩,ac⟩⟩,⟨Ic,⟨Ie,⟨Ig,ac,ac⟩,ac⟩,⟨Ia,⟨Ib,ac,ac⟩,ac⟩⟩⟩⟩⟩⟩
def mB:Ty:=Fc.find
theorem ab:bE prog mB:=TT.u2 A9
theorem OU:prog.follows .mixedOrders=is:=rfl
theorem iq{Q:AQ}{nt:NT}{k:List KI}{s:AS}{C:Prop}{d:NT}{st:Stop}(h:bK mB ⟨fun _=>io,0,jp⟩ 400 nt k s True=dl (C,d,st))(hC:C)(hg:fq prog d Q st):GO prog nt k Q s:=BS OU ab 400 h hC hg
theorem gA{Q:AQ}{nt:NT}{k:List KI}{s:AS}{C:Prop}{d:NT}{st:Stop}(h:bK mB ⟨fun _=>io,0,jp⟩ 400 nt k s True=dl (C,d,st))(hg:fq prog d Q st)
  (hC:C:=by(repeat' (first|exact ac|exact rfl|exact aj.refl _|exact aj.bk (by assumption)|apply Tq))<;>first|omega|exact gW (fun _=>rfl) _|(simp only[Tt];omega)|(simp;done)|(simp;omega)):GO prog nt k Q s:=BS OU ab 400 h hC hg
theorem gM(N:Nat){Q:AQ}{nt:NT}{k:List KI}{s:AS}{C:Prop}{d:NT}{st:Stop}(h:bK mB ⟨fun _=>io,0,jp⟩ N nt k s True=dl (C,d,st))(hg:fq prog d Q st)
  (hC:C:=by(repeat' (first|exact ac|exact rfl|exact aj.refl _|exact aj.bk (by assumption)|apply Tq))<;>first|omega|exact gW (fun _=>rfl) _|(simp only[Tt];omega)|(simp;done)|(simp;omega)):GO prog nt k Q s:=BS OU ab N h hC hg
theorem zp{nt:NT}{Q:AQ}{k:List KI}{s:AS}{all rest:List Oper}{o:Oper}{c:Call}{g:FuncId}{args:List PV}{r:PV}{s':AS}(hc:Al.Pure prog g args r)(h:GO prog nt (.ops all rest::k) Q s')(ho:o.op= .call c:=by exact rfl)(hg:o.guard=io:=by exact rfl)(ha:bM s.f c=dl (g,args):=by exact rfl)(d:bD 0 args=is:=by exact rfl)(hr:r.low 0=is:=by exact rfl)(hp:putDst nt o r s=dl s':=by exact rfl):GO prog nt (.ops all (o::rest)::k) Q s:=aP hc ho hg ha d hr hp h
theorem zL{ty:Ty}{j:List ResultVar}{e:Exit}{s:AS}{r r0:PV}(d:aj r0 r)(he:e= .normal∨e= .ret:=by first|exact .inr I|exact .inl I)(h:jy ty s j=dl r0:=by exact rfl):pH ty j r e s:=aN he h d
theorem zq{nt:NT}{Q:AQ}{k:List KI}{s:AS}{all rest:List Oper}{o:Oper}{c:Call}{g:FuncId}{asv args:List PV}{os:List AO}{r:PV}{x:AH}{y:Nat}{s':AS}(L:List Nat)(hc:bC prog g args os r x y)(h:GO prog nt (.ops all rest::k) Q s')(ho:o.op= .call c:=by exact rfl)(hg:o.guard=io:=by exact rfl)(ha:bM s.f c=dl (g,asv):=by exact rfl)(hn:cz L=is:=by exact rfl)(A:L.all (fun j=>TU j s.nx)=is:=by exact rfl)(u:L.map s.h.get=os.map fun o=>dl (o.bZ (sig L s.nx)):=by exact rfl)(d:asv=db (sig L s.nx) args:=by exact rfl)(hp:putDst nt o (r.bZ (sig L s.nx)) (aO s L x y)=dl s':=by exact rfl):GO prog nt (.ops all (o::rest)::k) Q s:=aE L hc ho hg ha hn A u d hp h
theorem zd{nt:NT}{Q:AQ}{k:List KI}{s:AS}{all:List Oper}{todo pend:List (Nat×Oper)}{j:Nat}{o:Oper}{c:Call}{g:FuncId}{asv args:List PV}{os:List AO}{r:PV}{B:AH}{C:Nat}{s':AS}{A y:Prop}(L:List Nat)(hc:bC prog g args os r B C)(h:GO prog nt (.bY all (todo.filter fun x=>!TR x.1 j) (a8 pend o)::k) Q s')(hrd:dX todo=[(j,o)]:=by exact rfl)(ho:o.op= .call c:=by exact rfl)(ha:bM s.f c=dl (g,asv):=by exact rfl)(hn:cz L=is:=by exact rfl)(D:L.all (fun j=>TU j s.nx)=is:=by exact rfl)(u:L.map s.h.get=os.map fun o=>dl (o.bZ (sig L s.nx)):=by exact rfl)(d:asv=db (sig L s.nx) args:=by exact rfl)(hp:putDst nt o (r.bZ (sig L s.nx)) (aO s L B C)=dl s':=by exact rfl)(hg:bV nt all s.f o=dl is:=by exact rfl)(hpb:hQ all pend o=is:=by exact rfl)(hE:mC todo [j]=is:=by exact rfl)(hag:mF mB nt all s todo pend=dl A:=by exact rfl)(hCA:A:=by(repeat' (first|exact ac|exact rfl|exact aj.refl _|exact aj.bk (by assumption)|apply Tq))<;>first|omega|(simp only[Tt];omega)|(simp;done)|(simp;omega))(hag2:de mB nt all s' (a8 pend o)=dl y:=by exact rfl)(hC2:y:=by(repeat' (first|exact ac|exact rfl|exact aj.refl _|exact aj.bk (by assumption)|apply Tq))<;>first|omega|(simp only[Tt];omega)|(simp;done)|(simp;omega)):GO prog nt (.bY all todo pend::k) Q s:=ck ab L hc hrd ho ha hn D u d hp hg hpb hE hag hCA hag2 hC2 h
theorem B9{nt:NT}{Q:AQ}{k:List KI}{s:AS}{all:List Oper}{todo pend:List (Nat×Oper)}{j:Nat}{o:Oper}{c:Call}{g:FuncId}{asv args:List PV}{r:PV}{s':AS}{y u:Prop}(hc:Al.Pure prog g args r)(h:GO prog nt (.bY all (todo.filter fun x=>!TR x.1 j) (a8 pend o)::k) Q s')(hrd:dX todo=[(j,o)]:=by exact rfl)(ho:o.op= .call c:=by exact rfl)(ha:bM s.f c=dl (g,asv):=by exact rfl)(d:asv=db (sig [] s.nx) args:=by exact rfl)(hp:putDst nt o (r.bZ (sig [] s.nx)) (aO s [] [] 0)=dl s':=by exact rfl)(hg:bV nt all s.f o=dl is:=by exact rfl)(hpb:hQ all pend o=is:=by exact rfl)(hE:mC todo [j]=is:=by exact rfl)(hag:mF mB nt all s todo pend=dl y:=by exact rfl)(hCA:y:=by(repeat' (first|exact ac|exact rfl|exact aj.refl _|exact aj.bk (by assumption)|apply Tq))<;>first|omega|(simp only[Tt];omega)|(simp;done)|(simp;omega))(hag2:de mB nt all s' (a8 pend o)=dl u:=by exact rfl)(hC2:u:=by(repeat' (first|exact ac|exact rfl|exact aj.refl _|exact aj.bk (by assumption)|apply Tq))<;>first|omega|(simp only[Tt];omega)|(simp;done)|(simp;omega)):GO prog nt (.bY all todo pend::k) Q s:=ck ab [] hc.A6 hrd ho ha I I I d hp hg hpb hE hag hCA hag2 hC2 h
theorem zW{n0:Nat}{L:List Nat}{s t:AS}(hh:mH t.nx (sg n0 L) s.h t.h)(h1:TR t.nx (n0+L.length)=is:=by exact rfl)(d:Vm n0 s.nx=is:=by exact rfl)(u:L.all (fun j=>TU j s.nx)=is:=by exact rfl)(hf:EU t.nx (sg n0 L) s.f t.f:=by repeat' (first|exact ac|exact aj.refl _|exact rfl|apply Tq))(x:cz (fi (sg n0 L) t.h)=is:=by exact rfl):Wk n0 L s t:=wk h1 d u hf hh x
theorem zM{n0:Nat}{L:List Nat}{s t:AS}(hf:EU t.nx (sg n0 L) s.f t.f)(hh:mH t.nx (sg n0 L) s.h t.h)(h1:TR t.nx (n0+L.length)=is:=by exact rfl)(d:Vm n0 s.nx=is:=by exact rfl)(u:L.all (fun j=>TU j s.nx)=is:=by exact rfl)(x:cz (fi (sg n0 L) t.h)=is:=by exact rfl):Wk n0 L s t:=wk h1 d u hf hh x
theorem zK{n i:Nat}{σ:Nat->Nat}{h r:AH}{cs:List PV}{d:Option TypeId}{c:List IV}(hr:mH n σ h r)(ho:h.get (σ i)=dl (.cells cs d):=by exact rfl)(he:cs=c.map .iv:=by exact rfl)(hi:TU i n=is:=by exact rfl):mH n σ h ((i,dl (az c))::r):=hC ho he hi hr
theorem zS{n i:Nat}{σ:Nat->Nat}{h r:AH}{α:Type}{sz:Nat}{es:List (List PV)}{l:List α}{f:α->List IV}(hr:mH n σ h r)(ho:h.get (σ i)=dl (.row sz es):=by exact rfl)(he:es=l.map fun x=>(f x).map .iv:=by exact rfl)(hi:TU i n=is:=by exact rfl):mH n σ h ((i,dl (aX sz l f))::r):=hR ho he hi hr
theorem zI{a b:Prop}(l:a)(r:b):a∧b:=⟨l,r⟩
theorem zO{n i:Nat}{σ:Nat->Nat}{h r:AH}{o:AO}(hr:mH n σ h r)(he: ∃p,h.get (σ i)=dl p∧dK p (o.bZ σ):=by exact⟨_,rfl,.of_eq I⟩)(hi:i<n:=by exact Tk I)(d:o.low n:=by exact rfl):mH n σ h ((i,dl o)::r):=⟨he,hi,d,hr⟩
theorem zD{ty:Ty}{s:AS}{l:List ResultVar}{m:Nat}{r r0:PV}{h:AH}{n:Nat}{e:Exit}(L:List Nat)(hr:jy ty s l=dl r0)(hw:Wk m L ⟨[(0,r0)],s.h,s.nx⟩ ⟨[(0,r)],h,n⟩)(he:e= .normal∨e= .ret:=by first|exact .inr I|exact .inl I):B8 ty l m r h n e s:=aD L he hr hw
theorem zU{ty:Ty}{j:List ResultVar}{nt:NT}{k:List KI}{s s':AS}{e:Exit}{C:Prop}{d:NT}{r r0:PV}(h:bK mB ⟨fun _=>io,0,jp⟩ 400 nt k s True=dl (C,d,.fin e s'))(hr:r0=r:=by exact rfl)(he:e= .normal∨e= .ret:=by first|exact .inr I|exact .inl I)(h1:jy ty s' j=dl r0:=by exact rfl)(hC:C:=by(repeat' (first|exact ac|exact rfl|exact aj.refl _|exact aj.bk (by assumption)|apply Tq))<;>first|omega|exact gW (fun _=>rfl) _|(simp only[Tt];omega)|(simp;done)|(simp;omega)):GO prog nt k (pH ty j r) s:=gA h (aN he h1 (.of_eq hr)) hC
theorem zC{n i:Nat}{σ:Nat->Nat}{h r:AH}{V:Type}{kc:KC}{ev:V->IV}{z:V}{u:Value}{d:PV->V}{m j:List (kc.K×V)}(hr:mH n σ h r)(ho:h.get (σ i)=dl (.map kc ev z u d m):=by exact rfl)(he:m=j:=by exact rfl)(hi:TU i n=is:=by exact rfl):mH n σ h ((i,dl (.map kc ev z u d j))::r):=hM ho he hi hr
theorem zJ{Q:AQ}{nt:NT}{k:List KI}{s:AS}{C:Prop}{d:NT}{st:Stop}{a b:Prop}(h:bK mB ⟨fun _=>io,0,jp⟩ 400 nt k s True=dl (C,d,st))(e:fq prog d Q st=(a∧b))(l:a)(r:b)(hC:C:=by(repeat' (first|exact ac|exact rfl|exact aj.refl _|exact aj.bk (by assumption)|apply Tq))<;>first|omega|exact gW (fun _=>rfl) _|(simp only[Tt];omega)|(simp;done)|(simp;omega)):GO prog nt k Q s:=gA h (e.mpr ⟨l,r⟩) hC
theorem zE{Q:AQ}{nt:NT}{k:List KI}{s:AS}{C:Prop}{d:NT}{st:Stop}{a b:Prop}(h:bK mB ⟨fun _=>io,0,jp⟩ 400 nt k s True=dl (C,d,st))(e:fq prog d Q st=(a∧b))(r:b)(l:a)(hC:C:=by(repeat' (first|exact ac|exact rfl|exact aj.refl _|exact aj.bk (by assumption)|apply Tq))<;>first|omega|exact gW (fun _=>rfl) _|(simp only[Tt];omega)|(simp;done)|(simp;omega)):GO prog nt k Q s:=gA h (e.mpr ⟨l,r⟩) hC
theorem zT{p:Prop}[Decidable p](h:decide p=is):p:=of_decide_eq_true h
theorem zF{p:Prop}[Decidable p](h:decide p=jp): ¬p:=of_decide_eq_false h
theorem zN{a b:Nat}(h:kw ((a:Int)<(b:Int))=is):a<b:=VL.1 (of_decide_eq_true h)
theorem zG{a b:Nat}(h:kw ((a:Int)<(b:Int))=jp):b<=a:=UR fun hh=>absurd (VL.2 hh) (of_decide_eq_false h)
end Go.Proofs.YtbhphmfbligliaaGreatDoor
namespace Go.Proofs.YtbhphmfbligliaaGreatDoor
open Go Go.Al
abbrev ae:=ByteArray
structure ei where
 kind:Int
 num:Int
 sym:ae
 deriving Inhabited,DecidableEq
structure Term where
 kind:Int
 var:ae
 val:ei
 deriving Inhabited,DecidableEq
inductive Expr where
 |mk (kind:Int) (var:ae) (val:ei) (op:Int) (args:List Expr)
instance:Inhabited Expr:=⟨.mk 0 Tx ⟨0,0,Tx⟩ 0 []⟩
def Expr.kind:Expr->Int| .mk k _ _ _ _=>k
def Expr.var:Expr->ae| .mk _ v _ _ _=>v
def Expr.val:Expr->ei| .mk _ _ v _ _=>v
def Expr.op:Expr->Int| .mk _ _ _ o _=>o
def Expr.args:Expr->List Expr| .mk _ _ _ _ a=>a
structure Atom where
 rel:ae
 ak:List Term
 deriving Inhabited,DecidableEq
structure Pos where
 line:Int
 H2:Int
 deriving Inhabited,DecidableEq
inductive Lit where
 |mk (kind:Int) (atom:Atom) (op:Int) (left right:Expr) (dT:Int) (bI:ae) (j8:Expr) (ay:List Lit) (at_:Pos)
instance:Inhabited Lit:=⟨.mk 0 co 0 co co 0 Tx co [] ⟨0,0⟩⟩
def Lit.kind:Lit->Int| .mk k _ _ _ _ _ _ _ _ _=>k
def Lit.atom:Lit->Atom| .mk _ a _ _ _ _ _ _ _ _=>a
def Lit.op:Lit->Int| .mk _ _ o _ _ _ _ _ _ _=>o
def Lit.left:Lit->Expr| .mk _ _ _ l _ _ _ _ _ _=>l
def Lit.right:Lit->Expr| .mk _ _ _ _ r _ _ _ _ _=>r
def Lit.dT:Lit->Int| .mk _ _ _ _ _ f _ _ _ _=>f
def Lit.bI:Lit->ae| .mk _ _ _ _ _ _ v _ _ _=>v
def Lit.j8:Lit->Expr| .mk _ _ _ _ _ _ _ o _ _=>o
def Lit.ay:Lit->List Lit| .mk _ _ _ _ _ _ _ _ b _=>b
def Lit.at:Lit->Pos| .mk _ _ _ _ _ _ _ _ _ p=>p
structure gp where
 func:Int
 var:ae
 jt:Expr
 body:List Lit
 deriving Inhabited
def Lit.agg(l:Lit):gp:=⟨l.dT,l.bI,l.j8,l.ay⟩
structure ar where
 head:Atom
 body:List Lit
 at_:Pos
 deriving Inhabited
structure Decl where
 name:ae
 types:List Int
 at_:Pos
 deriving Inhabited
structure Prog where
 aw:List Decl
 rules:List ar
 deriving Inhabited
structure Fact where
 rel:ae
 args:List ei
 deriving Inhabited
def ei.c(v:ei):List IV:=[iI v.kind,iI v.num,iS v.sym]
def Term.c(t:Term):List IV:=[iI t.kind,iS t.var,iI t.val.kind,iI t.val.num,iS t.val.sym]
def cB(s:ae):List IV:=[iS s]
def eO(n:Int):List IV:=[iI n]
abbrev strs(l:List ae):IV:=bp 1 l cB
def Atom.c(a:Atom):List IV:=[iS a.rel,bp 5 a.ak Term.c]
mutual
def Expr.cr:Expr->List IV
 | .mk k v val op args=> [iI k,iS v,iI val.kind,iI val.num,iS val.sym,iI op,.bU 7 args.length (fun j=>(Expr.qR args).getD j [])]
def Expr.qR:List Expr->List (List IV)
 | []=> []
 |e::r=>e.cr::Expr.qR r
end
def Expr.c(e:Expr):List IV:=[iI e.kind,iS e.var,iI e.val.kind,iI e.val.num,iS e.val.sym,iI e.op,.bU 7 e.args.length (fun j=>(Expr.qR e.args).getD j [])]
def Expr.c1(e:Expr):List IV:=[iI e.kind,iS e.var,iI e.val.kind,iI e.val.num,iS e.val.sym,iI e.op,bp 7 e.args Expr.c]
theorem Expr.AV(e:Expr):e.cr=e.c:=by cases e;rfl
theorem Expr.j6: ∀(l:List Expr) (k:Nat),k<l.length->(Expr.qR l).getD k []=(l.getD k co).c
 |e::r,0,_=>by simp[Expr.qR,Expr.AV]
 |e::r,k+1,h=>by simpa[Expr.qR]using Expr.j6 r k (by simpa using h)
 | [],k,h=>by simp at h
theorem Pf(e:Expr):jG (.bU 7 e.args.length (fun j=>(Expr.qR e.args).getD j [])) (bp 7 e.args Expr.c):= .bU I (Expr.j6 e.args)
theorem Dn(e:Expr):jG (bp 7 e.args Expr.c) (.bU 7 e.args.length (fun j=>(Expr.qR e.args).getD j [])):= .bU I (fun k d=>(Expr.j6 e.args k d).symm)
mutual
def Lit.cr:Lit->List IV
 | .mk kind atom op left right dT bI j8 ay at_=>
  iI kind::(atom.c++(iI op::(left.c++(right.c++(iI dT::iS bI::(j8.c++ [.bU 30 ay.length (fun j=>(Lit.qR ay).getD j []),iI at_.line,iI at_.H2]))))))
def Lit.qR:List Lit->List (List IV)
 | []=> []
 |e::r=>e.cr::Lit.qR r
end
def Lit.cw(l:Lit)(b:IV):List IV:=
 [iI l.kind,iS l.atom.rel,bp 5 l.atom.ak Term.c,iI l.op,
  iI l.left.kind,iS l.left.var,iI l.left.val.kind,iI l.left.val.num,iS l.left.val.sym,iI l.left.op,.bU 7 l.left.args.length (fun j=>(Expr.qR l.left.args).getD j []),
  iI l.right.kind,iS l.right.var,iI l.right.val.kind,iI l.right.val.num,iS l.right.val.sym,iI l.right.op,.bU 7 l.right.args.length (fun j=>(Expr.qR l.right.args).getD j []),
  iI l.dT,iS l.bI,
  iI l.j8.kind,iS l.j8.var,iI l.j8.val.kind,iI l.j8.val.num,iS l.j8.val.sym,iI l.j8.op,.bU 7 l.j8.args.length (fun j=>(Expr.qR l.j8.args).getD j []),
  b,iI l.at.line,iI l.at.H2]
def vi(l:List Lit):IV:= .bU 30 l.length (fun j=>(Lit.qR l).getD j [])
def Lit.c(l:Lit):List IV:=l.cw (vi l.ay)
abbrev lits(l:List Lit):IV:=bp 30 l Lit.c
def Lit.c1(l:Lit):List IV:=l.cw (lits l.ay)
theorem Lit.AV(e:Lit):e.cr=e.c:=by cases e;rfl
theorem Lit.j6: ∀(l:List Lit) (k:Nat),k<l.length->(Lit.qR l).getD k []=(l.getD k co).c
 |e::r,0,_=>by simp[Lit.qR,Lit.AV]
 |e::r,k+1,h=>by simpa[Lit.qR]using Lit.j6 r k (by simpa using h)
 | [],k,h=>by simp at h
theorem nh(l:List Lit):jG (vi l) (lits l):= .bU I (Lit.j6 l)
theorem BF(l:List Lit):jG (lits l) (vi l):= .bU I (fun k d=>(Lit.j6 l k d).symm)
def gp.cw(a:gp)(b:IV):List IV:=[iI a.func,iS a.var,iI a.jt.kind,iS a.jt.var,iI a.jt.val.kind,iI a.jt.val.num,iS a.jt.val.sym,iI a.jt.op,.bU 7 a.jt.args.length (fun j=>(Expr.qR a.jt.args).getD j []),b]
def gp.c(a:gp):List IV:=a.cw (vi a.body)
def gp.c1(a:gp):List IV:=a.cw (lits a.body)
def ar.c(r:ar):List IV:=[iS r.head.rel,bp 5 r.head.ak Term.c,lits r.body,iI r.at_.line,iI r.at_.H2]
def Decl.c(r:Decl):List IV:=[iS r.name,bp 1 r.types eO,iI r.at_.line,iI r.at_.H2]
def Prog.c(p:Prog):List IV:=[bp 4 p.aw Decl.c,bp 5 p.rules ar.c]
def Fact.c(f:Fact):List IV:=[iS f.rel,bp 3 f.args ei.c]
theorem Expr.wY(e:Expr):aj (ag e.c) (ag e.c1):= .agg ⟨.refl _,.refl _,.refl _,.refl _,.refl _,.refl _,.iv (Pf e),ac⟩
theorem Expr.BJ(e:Expr):aj (ag e.c1) (ag e.c):= .agg ⟨.refl _,.refl _,.refl _,.refl _,.refl _,.refl _,.iv (Dn e),ac⟩
theorem Lit.Ds(l:Lit){b d:IV}(h:jG b d):aj (ag (l.cw b)) (ag (l.cw d)):=
 .agg ⟨.refl _,.refl _,.refl _,.refl _,.refl _,.refl _,.refl _,.refl _,.refl _,.refl _,.refl _,.refl _,.refl _,.refl _,.refl _,.refl _,.refl _,.refl _,.refl _,.refl _,.refl _,.refl _,.refl _,.refl _,.refl _,.refl _,.refl _,.iv h,.refl _,.refl _,ac⟩
theorem Lit.wY(l:Lit):aj (ag l.c) (ag l.c1):=l.Ds (nh _)
theorem gp.Ds(l:gp){b d:IV}(h:jG b d):aj (ag (l.cw b)) (ag (l.cw d)):=
 .agg ⟨.refl _,.refl _,.refl _,.refl _,.refl _,.refl _,.refl _,.refl _,.refl _,.iv h,ac⟩
theorem gp.wY(l:gp):aj (ag l.c) (ag l.c1):=l.Ds (nh _)
theorem gp.BJ(l:gp):aj (ag l.c1) (ag l.c):=l.Ds (BF _)
mutual
def Expr.size:Expr->Nat
 | .mk _ _ _ _ args=>1+Expr.an args
def Expr.an:List Expr->Nat
 | []=>0
 |e::r=>e.size+Expr.an r
end
mutual
def Lit.size:Lit->Nat
 | .mk _ a _ l r _ _ o b _=>2+a.ak.length+l.size+r.size+o.size+Lit.an b
def Lit.an:List Lit->Nat
 | []=>0
 |e::r=>e.size+Lit.an r
end
theorem Expr.size_eq(e:Expr):e.size=1+Expr.an e.args:=by cases e;rfl
theorem Lit.size_eq(l:Lit):l.size=2+l.atom.ak.length+l.left.size+l.right.size+l.j8.size+Lit.an l.ay:=by cases l;rfl
theorem Expr.cf: ∀(l:List Expr) (k:Nat),k<l.length->(l.getD k co).size<=Expr.an l
 |e::r,0,_=>by simp[Expr.an]
 |e::r,k+1,h=>by
  have:=Expr.cf r k (by simpa using h);simp only[UK,Expr.an];omega
 | [],k,h=>by simp at h
theorem Lit.cf: ∀(l:List Lit) (k:Nat),k<l.length->(l.getD k co).size<=Lit.an l
 |e::r,0,_=>by simp[Lit.an]
 |e::r,k+1,h=>by
  have:=Lit.cf r k (by simpa using h);simp only[UK,Lit.an];omega
 | [],k,h=>by simp at h
theorem Expr.size_pos(e:Expr):1<=e.size:=by rw[e.size_eq];omega
theorem Lit.size_pos(e:Lit):2<=e.size:=by rw[e.size_eq];omega
theorem Expr.aA: ∀(l:List Expr),l.length<=Expr.an l
 | []=>Tv _
 |e::r=>by have:=e.size_pos;have:=Expr.aA r;simp only[TO,Expr.an];omega
theorem Lit.aA: ∀(l:List Lit),l.length<=Lit.an l
 | []=>Tv _
 |e::r=>by have:=e.size_pos;have:=Lit.aA r;simp only[TO,Lit.an];omega
def ar.size(r:ar):Nat:=r.head.ak.length+Lit.an r.body
def dU(l:List ae)(s:ae):Bool:=l.any fun x=>kw (x=s)
def eB(s:ae)(a:List ae×Bool)(x:ae):List ae×Bool:=
 if(a.2||decide (x=s))=jp∧(!(Op.bytesLess x.toList s.toList||decide (x=s)))=is then(a.1++ [s]++ [x],is) else(a.1++ [x],a.2||decide (x=s))
def gQ(l:List ae)(s:ae):List ae:=
 let r:=l.foldl (eB s) ([],jp)
 if r.2 then r.1 else r.1++ [s]
def nI(l m:List ae):List ae:=m.foldl gQ l
def Ba(a:List ae)(t:Term):List ae:=if t.kind=1 then gQ a t.var else a
def qN(a:Atom):List ae:=a.ak.foldl Ba []
theorem Lit.lP: ∀(l:List Lit) (i:Nat),Lit.an (l.take i)<=Lit.an l
 | [],i=>by simp
 |e::r,0=>by simp[Lit.an]
 |e::r,i+1=>by have:=Lit.lP r i;simp only[UL,Lit.an];omega
theorem Expr.dV: ∀(l:List Expr) (i:Nat),i<l.length->Expr.an (l.take i)+(l.getD i co).size<=Expr.an l
 |e::r,0,_=>by simp[Expr.an]
 |e::r,i+1,h=>by have:=Expr.dV r i (by simpa using h);simp only[UL,UK,Expr.an];omega
 | [],i,h=>by simp at h
theorem Lit.dV: ∀(l:List Lit) (i:Nat),i<l.length->Lit.an (l.take i)+(l.getD i co).size<=Lit.an l
 |e::r,0,_=>by simp[Lit.an]
 |e::r,i+1,h=>by have:=Lit.dV r i (by simpa using h);simp only[UL,UK,Lit.an];omega
 | [],i,h=>by simp at h
def gp.size(a:gp):Nat:=a.jt.size+Lit.an a.body
section
def yS(n:Int):IV:= .v (.int .i64 n)
def SF(p:PV):Int:=match p with
 | .iv (.v (.int _ n))=>n
 |_=>0
abbrev NM:=List ((KC.str).K×Int)
abbrev cO(m:NM):AO:= .map .str yS 0 (.int .i64 0) SF m
abbrev wM(m:NM):IV:= .eP .str yS 0 (.int .i64 0) m
theorem eJ: ∀M,IR M (yS 0) (.int .i64 0):=fun _=> .v _
def vg(m:NM)(s:ae):NM:=cJ .str m s (cK .str m s 0+1)
def aI(l:List ae):NM:=l.foldl vg []
theorem dz(l:List ae)(s:ae):aI (l++ [s])=vg (aI l) s:=by simp[aI]
section
variable {V:Type}
theorem eI{m:List ((KC.str).K×V)}{s t:ae}{v z:V}:cK .str (cJ .str m s v) t z=if s=t then v else cK .str m t z:=by
 induction m with
 |nil=>simp only[cJ,cK]
 |cons x r ih=>
  obtain⟨a,b⟩:=x;simp only[cJ];by_cases h:a=s
  .rw[am h];simp only[cK];by_cases d:s=t
   .simp[d]
   .have: ¬a=t:=fun e=>d (h▸e)
    rw[be d,be d,be this]
  .rw[be h];simp only[cK,ih];by_cases d:a=t
   .have: ¬s=t:=fun e=>h (d.trans e.symm)
    simp[d,this]
   .simp[d]
theorem nj{m:List ((KC.str).K×V)}{t:ae}:cZ .str m t=is↔t∈m.map Ur:=by
 induction m with
 |nil=>simp[cZ]
 |cons x r ih=>
  obtain⟨a,b⟩:=x;simp only[cZ,TD,TQ];by_cases h:a=t
  .simp[h]
  .have: ¬t=a:=fun e=>h e.symm
   simp[h,this,ih]
theorem l5{m:List ((KC.str).K×V)}{s:ae}{v:V}(h:s∈m.map Ur):(cJ .str m s v).map Ur=m.map Ur:=by
 induction m with
 |nil=>simp at h
 |cons x r ih=>
  obtain⟨a,b⟩:=x;simp only[cJ];by_cases d:a=s
  .rw[am d];simp[d]
  .have: ¬s=a:=fun e=>d e.symm
   rw[be d,TD,ih (by simpa[this]using h)];rfl
theorem cV{m:List ((KC.str).K×V)}{s:ae}{v:V}(h:s∉m.map Ur):(cJ .str m s v).map Ur=m.map Ur++ [s]:=by
 induction m with
 |nil=>simp[cJ]
 |cons x r ih=>
  obtain⟨a,b⟩:=x;simp only[TD,TQ,not_or]at h;have: ¬a=s:=fun e=>h.1 e.symm;simp only[cJ,be this,TD,ih h.2];rfl
theorem BE{m:List ((KC.str).K×V)}{t:ae}{z:V}(h:t∉m.map Ur):cK .str m t z=z:=by
 induction m with
 |nil=>rfl
 |cons x r ih=>
  obtain⟨a,b⟩:=x;simp only[TD,TQ,not_or]at h;have: ¬a=t:=fun e=>h.1 e.symm;simp only[cK,be this];exact ih h.2
end
theorem pT{α:Type}{p:List α->Prop}(h0:p [])(h1: ∀l a,p l->p (l++ [a]))(l:List α):p l:=by
 have key: ∀r:List α,p r.reverse:=by
  intro r
  induction r with
  |nil=>exact h0
  |cons a r ih=>rw[List.reverse_cons];exact h1 _ _ ih
 simpa using key l.reverse
def pC(l:List ae)(t:ae):Nat:=(l.filter fun x=>kw (x=t)).length
theorem AY(l m:List ae)(t:ae):pC (l++m) t=pC l t+pC m t:=by simp[pC]
theorem gz(l:List ae)(t:ae):pC l t<=l.length:=UY _ _
theorem u9{l:List ae}{t:ae}:0<pC l t↔t∈l:=by
 rw[pC,List.length_pos_iff_exists_mem];constructor
 .rintro⟨x,hx⟩;obtain⟨d,j⟩:=Ub.1 hx;exact(zT j)▸d
 .exact fun h=>⟨t,Ub.2 ⟨h,by simp⟩⟩
theorem rQ{l:List ae}{t:ae}:pC l t=0↔t∉l:=by
 rw[<-u9];omega
theorem bO(l:List ae)(t:ae):cK .str (aI l) t 0=(pC l t:Int):=by
 induction l using pT with
 |h0=>rfl
 |h1 l s ih=>
  rw[dz,vg,eI,AY];by_cases h:s=t
  .subst h;rw[ih];simp[pC]
  .rw[be h,ih];simp[h,pC]
theorem eF(l:List ae):((aI l).map Ur).Nodup∧ ∀t:ae,t∈(aI l).map Ur↔t∈l:=by
 induction l using pT with
 |h0=>simp[aI]
 |h1 l s ih=>
  rw[dz,vg];obtain⟨h1,d⟩:=ih;by_cases h:s∈(aI l).map Ur
  .rw[l5 h];refine⟨h1,fun t=>?_⟩;rw[d,TP,TF];exact⟨.inl,fun j=>j.elim id fun e=>e▸(d s).1 h⟩
  .rw[cV h];refine⟨?_,fun t=>by rw[TP,d,TP]⟩;rw[Va];refine⟨h1,UF.2 ⟨Wc,Us⟩,fun a u b hb e=>?_⟩;rw[TF]at hb;exact h ((e.trans hb)▸u)
def cW(a:Atom):List ae:=a.ak.flatMap fun t=>if t.kind=1 then[t.var] else[]
theorem bx{α β:Type}[Inhabited α]{l:List α}{f:α->List β}{i:Nat}(h:i<l.length):(l.take (i+1)).flatMap f=(l.take i).flatMap f++f (l.getD i co):=by
 rw[bc h,U8];simp
theorem tQ: ∀l:List Term,(l.flatMap fun t=>if t.kind=1 then[t.var] else[]).length<=l.length
 | []=>by simp
 |t::r=>by
  have:=tQ r;have d:(if t.kind=1 then[t.var] else[]).length<=1:=by split<;>simp
  rw[T9,Tn,TO];omega
theorem jg(a:Atom):(cW a).length<=a.ak.length:=tQ a.ak
theorem d88(occ:List ae)(a:Atom)(hb:occ.length+a.ak.length<=1000000000000):bC Tryz.prog 228 [.mp 0,ag a.c] [cO (aI occ)] (.aZ []) [(0,dl (cO (aI (occ++cW a))))] 1:=by
 refine aq ab Tryz.func228 I (by decide) Tryz.ntmps228 I (by simp) ?_;refine gA I ?_;refine aG 0 a.ak.length (TB _) (fun i=>⟨[(0,.mp 0),(3,.ptr 1 0),(7,.iv (bp 5 a.ak Term.c)),(8,pI a.ak.length),(9,pI i)],[(0,dl (cO (aI (occ++(a.ak.take i).flatMap fun t=>if t.kind=1 then[t.var] else[]))))],2⟩) (fun _=>True) [] ac
  (zW (hM I (by simp) I trivial)) fun i C _=>?_
 have A:=tQ (a.ak.take i);simp only[TY]at A;refine zJ I I (fun d=>?_) fun d=>?_
 .have d:i<a.ak.length:=by simpa using d
  have u:=bx (f:=fun t:Term=>if t.kind=1 then[t.var] else[]) d;have B:=bO (occ++(a.ak.take i).flatMap fun t=>if t.kind=1 then[t.var] else[]) (a.ak.getD i co).var;have x:=gz (occ++(a.ak.take i).flatMap fun t=>if t.kind=1 then[t.var] else[]) (a.ak.getD i co).var;rw[Tn]at x;refine zJ I I (fun j=>?_) fun j=>?_
  .have j:(a.ak.getD i co).kind=1:=by simpa using j
   rw[am j]at u;refine gA I ⟨d,ac,[],zW (hM I (by rw[u,<-Tz,dz];rfl) I ac)⟩
  .have j: ¬(a.ak.getD i co).kind=1:=by simpa using j
   rw[be j,T1]at u;refine gA I ⟨d,ac,[],zW (hM I (by rw[u]) I ac)⟩
 .have d:a.ak.length<=i:=by simpa using d
  have y:a.ak.take i=a.ak:=TE d;refine gA I (zD [] I (zW (hM I (by rw[y];rfl) I ac)))
end
end Go.Proofs.YtbhphmfbligliaaGreatDoor
namespace Go.Proofs.YtbhphmfbligliaaGreatDoor
open Go Go.Al Go.Proofs.Tryz
mutual
def cF:Expr->List ae
 | .mk k v _ _ args=>if k=1 then[v] else if k=4 then j5 args else[]
def j5:List Expr->List ae
 | []=> []
 |e::r=>cF e++j5 r
end
theorem nu: ∀l:List Expr,j5 l=l.flatMap cF
 | []=>rfl
 |e::r=>by simp only[j5,T9,nu r]
theorem BY(e:Expr):cF e=if e.kind=1 then[e.var] else if e.kind=4 then e.args.flatMap cF else[]:=by
 cases e with
 |mk k v val op args=>simp only[cF,Expr.kind,Expr.var,Expr.args,nu];rfl
mutual
theorem gU: ∀e:Expr,(cF e).length<=e.size
 | .mk k v _ _ args=>by
  have:=mh args;simp only[cF,Expr.size];split
  .simp
  .split
   .omega
   .simp
theorem mh: ∀l:List Expr,(j5 l).length<=Expr.an l
 | []=>by simp[j5]
 |e::r=>by
  have d:=gU e;have j:=mh r;simp only[j5,Expr.an,Tn];omega
end
theorem d135: ∀(n:Nat) (e:Expr) (occ:List ae),e.size<=n->occ.length+e.size<=1000000000000->bC prog 300 [.mp 0,ag e.c] [cO (aI occ)] (.aZ []) [(0,dl (cO (aI (occ++cF e))))] 1
 |0,e,_,h,_=>by have:=e.size_pos;omega
 |n+1,e,occ,h,hb=>by
  refine bC.le (args:=[.mp 0,ag e.c1]) ?_ ⟨.refl _,e.wY,ac⟩;have x:=BY e;have F:=e.size_eq;have C:=bO occ e.var;have B:=gz occ e.var;refine aq ab func300 I (by decide) ntmps300 I (by simp) ?_;refine zJ I I (fun j=>?_) fun j=>?_
  .have j:e.kind=1:=by simpa using j
   rw[am j]at x;refine gA I (zD [] I (zW (hM I (by rw[x,dz];rfl) I ac)))
  have j: ¬e.kind=1:=by simpa using j
  rw[be j]at x;refine zJ I I (fun u=>?_) fun u=>?_
  .have u:e.kind=4:=by simpa using u
   rw[am u]at x;refine gA I ?_;refine aG 0 e.args.length (TB _) (fun i=>⟨[(0,.mp 0),(3,.ptr 1 0),(18,.iv (bp 7 e.args Expr.c)),(19,pI e.args.length),(20,pI i)],[(0,dl (cO (aI (occ++(e.args.take i).flatMap cF))))],2⟩) (fun _=>True) [] ac
    (zW (hM I (by simp) I trivial)) fun i J _=>?_
   have A:=Expr.aA e.args;refine zJ I I (fun d=>?_) fun d=>?_
   .have d:i<e.args.length:=by simpa using d
    have D:=bx (f:=cF) d;have Y:=Expr.dV e.args i d;have G:=mh (e.args.take i);rw[nu]at G;refine gA I (aE [0] (d135 n (e.args.getD i co) _ (by omega) (by rw[Tn];omega)) I I I I I I I I ?_);refine gA I ⟨d,ac,[],zW (hM I (by rw[D,Tz]) I ac)⟩
   .have d:e.args.length<=i:=by simpa using d
    have y:e.args.take i=e.args:=TE d;refine gA I (zD [] I (zW (hM I (by rw[x,y]) I ac)))
  .have u: ¬e.kind=4:=by simpa using u
   rw[be u]at x;refine gA I (zD [] I (zW (hM I (by rw[x,T1]) I ac)))
theorem Hm(e:Expr)(occ:List ae)(hb:occ.length+e.size<=1000000000000):bC prog 300 [.mp 0,ag e.c] [cO (aI occ)] (.aZ []) [(0,dl (cO (aI (occ++cF e))))] 1:=d135 e.size e occ (Tv _) hb
def cY(l:Lit):List ae:=if l.kind=1∨l.kind=2 then cW l.atom else if l.kind=3 then cF l.left++cF l.right else[]
theorem lZ(l:Lit):(cY l).length+2<=l.size:=by
 have d:=jg l.atom;have j:=gU l.left;have u:=gU l.right;rw[l.size_eq];unfold cY;split
 .omega
 .split
  .rw[Tn];omega
  .simp;omega
theorem d89(l:Lit)(occ:List ae)(hb:occ.length+l.size<=1000000000000):bC prog 257 [.mp 0,ag l.c] [cO (aI occ)] (.aZ []) [(0,dl (cO (aI (occ++cY l))))] 1:=by
 have A:=l.size_eq;have B:=gU l.left;refine aq ab func257 I (by decide) ntmps257 I (by simp) ?_;refine zJ I I (fun j=>?_) fun j=>?_
 .have j:l.kind=1:=zT j;have y:cY l=cW l.atom:=am (.inl j);refine gA I (zq [0] (d88 occ l.atom (by omega)) ?_);refine gA I (zD [] I (zW (hM I (by rw[y]) I ac)))
 have j: ¬l.kind=1:=zF j;refine zJ I I (fun u=>?_) fun u=>?_
 .have u:l.kind=2:=zT u;have y:cY l=cW l.atom:=am (.inr u);refine gA I (zq [0] (d88 occ l.atom (by omega)) ?_);refine gA I (zD [] I (zW (hM I (by rw[y]) I ac)))
 have u: ¬l.kind=2:=zF u;have d:cY l=if l.kind=3 then cF l.left++cF l.right else[]:=be (by simp[j,u]);refine zJ I I (fun x=>?_) fun x=>?_
 .have x:l.kind=3:=zT x;rw[am x]at d;refine gA I (zq [0] (Hm l.left occ (by omega)) ?_);refine gA I (aE [0] (Hm l.right _ (by rw[Tn];omega)) I I I I I I I I ?_);refine gA I (zD [] I (zW (hM I (by rw[d,Tz]) I ac)))
 .have x: ¬l.kind=3:=zF x;rw[be x]at d;refine gA I (zD [] I (zW (hM I (by rw[d,T1]) I ac)))
def bq(a:gp):List ae:=(if a.func=1 then[] else cF a.jt)++a.body.flatMap cY
theorem kE: ∀l:List Lit,(l.flatMap cY).length<=Lit.an l
 | []=>by simp
 |e::r=>by
  have d:=lZ e;have j:=kE r;rw[T9,Tn];simp only[Lit.an];omega
theorem MZ(e:Expr)(hb:e.size<=1000000000000):bC prog 300 [.mp 0,ag e.c] [.fx] (.aZ []) [(0,dl (cO (aI (cF e))))] 1:=
 (Hm e [] (by simpa using hb)).MS ⟨⟨id,fun M N U w j d=>⟨#[],0,d,⟨rfl,by simp[aI],by simp[aI],by simp,by simp⟩,eJ M⟩⟩,ac⟩
theorem SJ(a:Atom)(hb:a.ak.length<=1000000000000):bC prog 228 [.mp 0,ag a.c] [.fx] (.aZ []) [(0,dl (cO (aI (cW a))))] 1:=
 (d88 [] a (by simpa using hb)).MS ⟨⟨id,fun M N U w j d=>⟨#[],0,d,⟨rfl,by simp[aI],by simp[aI],by simp,by simp⟩,eJ M⟩⟩,ac⟩
theorem d127(a:gp)(hb:a.size<=1000000000000):bC prog 263 [ag a.c] [] (.mp 0) [(0,dl (cO (aI (bq a))))] 1:=by
 refine bC.le (args:=[ag a.c1]) ?_ ⟨a.wY,ac⟩;unfold gp.size at hb;have B:=gU a.jt;have A:=Lit.aA a.body;refine aq ab func263 I (by decide) ntmps263 I (by simp) ?_;refine zJ I I (fun j=>?_) fun j=>?_
 .have j: ¬a.func=1:=by simpa using j
  have u:bq a=cF a.jt++a.body.flatMap cY:=by unfold bq;rw[be j]
  refine gA I (zq [1] (MZ a.jt (by omega)) ?_);refine gA I ?_;refine aG 0 a.body.length (TB _) (fun i=>⟨[(3,.mp 1),(15,.iv (lits a.body)),(16,pI a.body.length),(17,pI i)],[(1,dl (cO (aI (cF a.jt++(a.body.take i).flatMap cY))))],2⟩) (fun _=>True) [] ac
   (zW (hM I (by simp) I trivial)) fun i C _=>?_
  refine zJ I I (fun d=>?_) fun d=>?_
  .have d:i<a.body.length:=by simpa using d
   have y:=bx (f:=cY) d;have D:=Lit.dV a.body i d;have F:=kE (a.body.take i);refine gA I (aE [1] (d89 (a.body.getD i co) _ (by rw[Tn];omega)) I I I I I I I I ?_);refine gA I ⟨d,ac,[],zW (hM I (by rw[y,Tz]) I ac)⟩
  .have d:a.body.length<=i:=by simpa using d
   have x:a.body.take i=a.body:=TE d;refine gA I (zD [1] I (zW (hM I (by rw[x,u]) I ac)))
 .have j:a.func=1:=by simpa using j
  have u:bq a=a.body.flatMap cY:=by unfold bq;rw[am j];rfl
  refine gA I ?_;refine aG 0 a.body.length (TB _) (fun i=>⟨[(3,.mp 1),(15,.iv (lits a.body)),(16,pI a.body.length),(17,pI i)],[(1,dl (cO (aI ((a.body.take i).flatMap cY))))],2⟩) (fun _=>True) [] ac
   (zW (O4 I eJ I trivial)) fun i C _=>?_
  refine zJ I I (fun d=>?_) fun d=>?_
  .have d:i<a.body.length:=by simpa using d
   have y:=bx (f:=cY) d;have D:=Lit.dV a.body i d;have F:=kE (a.body.take i);refine gA I (aE [1] (d89 (a.body.getD i co) _ (by omega)) I I I I I I I I ?_);refine gA I ⟨d,ac,[],zW (hM I (by rw[y]) I ac)⟩
  .have d:a.body.length<=i:=by simpa using d
   have x:a.body.take i=a.body:=TE d;refine gA I (zD [1] I (zW (hM I (by rw[x,u]) I ac)))
def ins:List ae->ae->List ae
 | [],s=> [s]
 |x::r,s=>if x=s then x::r else if Op.bytesLess x.toList s.toList=is then x::ins r s else s::x::r
theorem jY(s:ae): ∀(l a:List ae),l.foldl (eB s) (a,is)=(a++l,is)
 | [],a=>by simp
 |x::r,a=>by
  have:eB s (a,is) x=(a++ [x],is):=by simp[eB]
  rw[Uc,this,jY s r];simp
theorem xe(s:ae): ∀(l a:List ae),(if(l.foldl (eB s) (a,jp)).2 then(l.foldl (eB s) (a,jp)).1 else(l.foldl (eB s) (a,jp)).1++ [s])=a++ins l s
 | [],a=>by simp[ins]
 |x::r,a=>by
  by_cases d:x=s
  .have:eB s (a,jp) x=(a++ [x],is):=by simp[eB,d]
   rw[Uc,this,jY];simp[ins,d]
  .cases h2:Op.bytesLess x.toList s.toList with
   |true=>
    have:eB s (a,jp) x=(a++ [x],jp):=by simp[eB,d,h2]
    rw[Uc,this,xe s r];simp[ins,d,h2]
   |false=>
    have:eB s (a,jp) x=(a++ [s]++ [x],is):=by simp[eB,d,h2]
    rw[Uc,this,jY];simp[ins,d,h2]
theorem v7(l:List ae)(s:ae):gQ l s=ins l s:=by
 have:=xe s l [];simpa[gQ]using this
theorem yn{x:ae}: ∀{l:List ae} {s:ae},x∈ins l s↔x∈l∨x=s
 | [],s=>by simp[ins]
 |y::r,s=>by
  simp only[ins];split
  .rename_i h;subst h;simp;exact fun h=> .inl h
  .split
   .simp[yn (l:=r),or_assoc]
   .simp;constructor
    .rintro(h|h|h)
     .exact .inr h
     .exact .inl (.inl h)
     .exact .inl (.inr h)
    .rintro((h|h)|h)
     .exact .inr (.inl h)
     .exact .inr (.inr h)
     .exact .inl h
theorem dN{x s:ae}{l:List ae}:x∈gQ l s↔x∈l∨x=s:=by rw[v7];exact yn
theorem sv{x:ae}: ∀{m l:List ae},x∈nI l m↔x∈l∨x∈m
 | [],l=>by simp[nI]
 |y::r,l=>by
  have h:=sv (x:=x) (m:=r) (l:=gQ l y);simp only[nI,Uc]at h ⊢;rw[h,dN,TQ,or_assoc]
theorem bP{l:List ae}{s:ae}:dU l s=is↔s∈l:=by
 simp[dU]
theorem fv{l:List ae}{s:ae}:dU l s=jp↔s∉l:=by
 rw[<-Bool.not_eq_true,bP]
def jl(l:Lit):List ae:=cY l++if l.kind=4 then[l.bI] else[]
def aF(r:ar):List ae:=cW r.head++r.body.flatMap jl
theorem BG(l:Lit):(jl l).length+1<=l.size:=by
 have:=lZ l;unfold jl;rw[Tn];split<;>simp<;>omega
theorem nf: ∀l:List Lit,(l.flatMap jl).length<=Lit.an l
 | []=>by simp
 |e::r=>by
  have d:=BG e;have j:=nf r;rw[T9,Tn];simp only[Lit.an];omega
theorem yg(r:ar):(aF r).length<=r.size:=by
 have d:=nf r.body;have j:=jg r.head;unfold aF ar.size;rw[Tn];omega
def M5(r:ar):List IV:=[iS r.head.rel,bp 5 r.head.ak Term.c,lits r.body,iI r.at_.line,iI r.at_.H2,wM (aI (aF r))]
abbrev cG(r:ar):IV:= .i7 (M5 r)
theorem c48(r:ar)(hb:r.size<=1000000000000):Pure prog 212 [ag r.c] (.iv (cG r)):=by
 unfold ar.size at hb;have C:=jg r.head;have B:=Lit.aA r.body;refine ai ab func212 I (by decide) ntmps212 I (by simp) I ?_;refine gA I (zd [1] (SJ r.head (by omega)) ?_);refine gA I ?_
 refine aG 0 r.body.length (TB _) (fun i=>⟨[(3,.ptr 2 0),(18,.iv (lits r.body)),(19,pI r.body.length),(20,pI i)],
   [(1,dl (cO (aI (cW r.head++(r.body.take i).flatMap jl)))),(2,dl (.cells [pS r.head.rel,.iv (bp 5 r.head.ak Term.c),.iv (lits r.body),pI r.at_.line,pI r.at_.H2,.mp 1]))],3⟩) (fun _=>True) [] ac
  (zW (hM I (by simp) I (zO trivial))) fun i G _=>?_
 refine zJ I I (fun j=>?_) fun j=>?_
 .have j:i<r.body.length:=by simpa using j
  have x:=bx (f:=jl) j;have J:=Lit.dV r.body i j;have Y:=nf (r.body.take i);have F:=lZ (r.body.getD i co);refine gA I (ck ab [1] (d89 (r.body.getD i co) _ (by rw[Tn];omega)) I I I I I I I I I I I I (by(repeat' (first|exact ac|exact rfl|exact aj.refl _|exact aj.bk (by assumption)|apply Tq))<;>first|omega|(simp only[Tt];omega)|(simp;done)|(simp;omega)) I (by(repeat' (first|exact ac|exact rfl|exact aj.refl _|exact aj.bk (by assumption)|apply Tq))<;>first|omega|(simp only[Tt];omega)|(simp;done)|(simp;omega)) ?_);refine zJ I I (fun u=>?_) fun u=>?_
  .have u:(r.body.getD i co).kind=4:=zT u;have d:jl (r.body.getD i co)=cY (r.body.getD i co)++ [(r.body.getD i co).bI]:=by unfold jl;rw[am u]
   rw[d]at x;have D:=bO (cW r.head++(r.body.take i).flatMap jl++cY (r.body.getD i co)) (r.body.getD i co).bI;have y:=gz (cW r.head++(r.body.take i).flatMap jl++cY (r.body.getD i co)) (r.body.getD i co).bI;rw[Tn,Tn]at y;refine gA I ⟨j,ac,[],zW (hM I (by rw[x,<-Tz,<-Tz,dz];rfl) I (zO ac))⟩
  .have u: ¬(r.body.getD i co).kind=4:=zF u;have d:jl (r.body.getD i co)=cY (r.body.getD i co):=by unfold jl;rw[be u,T1]
   rw[d]at x;refine gA I ⟨j,ac,[],zW (hM I (by rw[x,<-Tz]) I (zO ac))⟩
 .have j:r.body.length<=i:=by simpa using j
  have A:r.body.take i=r.body:=TE j;refine iq I ac (iP (.inr I) I (.map 1 I (.cells 2 _ I (show _=List.map PV.iv (M5 r) by rw[A];rfl) (.done (.of_eq I)))))
def bf(occ:List ae)(e:Expr):Bool:=(cF e).all fun x=>dU occ x
theorem td{l:List ae}{j:Nat}{x:(KC.str).K×Int}(h:(aI l)[j]? =dl x):x.1∈l:=
 ((eF l).2 x.1).1 (UG.2 ⟨x,Uv h,rfl⟩)
theorem all_keys{l:List ae}{vs:List Nat}(h: ∀j,j<(aI l).length->j∈vs){p:ae->Prop}(hp: ∀j∈vs,∀x,(aI l)[j]? =dl x->p x.1): ∀t∈l,p t:=by
 intro t u;obtain⟨x,y,rfl⟩:=UG.1 (((eF l).2 t).2 u);obtain⟨j,d⟩:=UB y;exact hp j (h j (Tp.1 d).1) x d
theorem d125(occ:List ae)(e:Expr)(hb:e.size<=1000000000000):bC prog 304 [.mp 0,ag e.c] [cO (aI occ)] (pB (bf occ e)) [(0,dl (cO (aI occ)))] 1:=by
 refine aq ab func304 I (by decide) ntmps304 I (by simp) ?_;refine gA I (zq [2] (MZ e hb) ?_);refine gA I ?_;refine ig (aI (cF e)) (fun vs=>⟨[(0,.mp 0),(12,.ptr 3 0)],[(0,dl (cO (aI occ))),(3,dl (.b5 .str yS (aI (cF e)) vs io))],4⟩) (fun vs=> ∀j∈vs,∀x,(aI (cF e))[j]? =dl x->x.1∈occ) [] (by simp)
  (zW (zC (hI I I (.inl I) I trivial))) fun vs F=>?_
 refine iq I ac (fB I I I I I (by decide) (fun u=>?_) fun j x C G=>?_)
 .refine gA I (zD [] I (zM ⟨.of_eq (by rw[show bf occ e=is from T7.2 fun t J=>bP.2 (all_keys u F t J)];rfl),rfl,ac⟩ (zC ac)))
 .have A:=bO occ x.1;refine zJ I I (fun d=>?_) fun d=>?_
  .have d:cK .str (aI occ) x.1 0=0:=zT d;have B:x.1∉occ:=rQ.1 (by rw[A]at d;omega);refine gA I (zD [] I (zM ⟨.of_eq (by rw[show bf occ e=jp from W2.2 ⟨x.1,td C,by rw[fv.2 B];simp⟩];rfl),rfl,ac⟩ (zC ac)))
  .have d: ¬cK .str (aI occ) x.1 0=0:=zF d;have B:x.1∈occ:=u9.1 (by rw[A]at d;omega);refine gA I ?_
   exact⟨j,x,C,G,fun i hi y D=>by
    rcases TQ.1 hi with rfl|hi
    .rw[C]at D;cases D;exact B
    .exact F i hi y D,[],zW (zC (hI I I (.inr I) I ac))⟩
def au(r:ar)(lit:Int):Lit:=r.body.getD lit.toNat co
theorem Lit.kg(l:Lit):l.agg.size+2<=l.size:=by
 rw[l.size_eq];unfold gp.size Lit.agg;dsimp only;omega
theorem oN{a b:ae×Bool}(h:a=b):PV.aZ [pS a.1,pB a.2]= .aZ [pS b.1,pB b.2]:=by rw[h]
def kG(l:Lit)(d:List ae):ae×Bool:=
 if¬l.kind=3∨ ¬l.op=1 then(Tx,jp)
 else if l.left.kind=1∧dU d l.left.var=jp∧(l.right.kind=2∨l.right.kind=1∧dU d l.right.var=is) then(l.left.var,is)
 else if l.right.kind=1∧(if l.left.kind=1 then dU d l.left.var else kw (l.left.kind=2))=is then(l.right.var,!dU d l.right.var)
 else(Tx,jp)
def bT(body:List Lit):List ae:=body.flatMap fun l=> [l.left.var,l.right.var,l.bI]
def cR(c k:List ae):Nat:=(c.filter fun x=>!dU k x).length
theorem jK: ∀body:List Lit,(bT body).length=3*body.length
 | []=>rfl
 |l::r=>by have:=jK r;simp only[bT,T9,Tn,TO,UJ]at this ⊢;omega
theorem qt(c k:List ae):cR c k<=c.length:=UY _ _
theorem qs{v:ae}{k:List ae}: ∀{c:List ae},v∈c->v∉k->cR c (gQ k v)<cR c k:=by
 have mono: ∀c:List ae,cR c (gQ k v)<=cR c k:=by
  intro c
  induction c with
  |nil=>exact Tv _
  |cons x r j=>
   simp only[cR]at j ⊢;simp only[Vv];by_cases d:x∈k
   .have:dU (gQ k v) x=is:=bP.2 (dN.2 (.inl d));rw[this,bP.2 d];exact j
   .simp only[fv.2 d,Wp,if_true,TO];split<;>(try simp only[TO])<;>omega
 intro c y A
 induction c with
 |nil=>cases y
 |cons x r j=>
  have B:=mono r;simp only[cR]at j B ⊢;simp only[Vv];by_cases u:x=v
  .subst u;have:dU (gQ k x) x=is:=bP.2 (dN.2 (.inr I));simp[this,fv.2 A];omega
  .have C:v∈r:=by
    rcases TQ.1 y with h|h
    .exact absurd h.symm u
    .exact h
   have j:=j C;by_cases d:x∈k
   .have:dU (gQ k v) x=is:=bP.2 (dN.2 (.inl d));simp[this,bP.2 d];exact j
   .have:dU (gQ k v) x=jp:=fv.2 fun h=>by rcases dN.1 h with h|h;exact d h;exact u h
    simp[this,fv.2 d];omega
def Ec(k:List ae)(l:Lit):List ae:=if l.kind=1 then nI k (qN l.atom) else k
theorem xr{body:List Lit}{l:Lit}(h:l∈body){v:ae}(d:v∈ [l.left.var,l.right.var,l.bI]):v∈bT body:=Wd.2 ⟨l,h,d⟩
def gl(may:Expr->Bool)(occ:List ae)(l:Lit):ae×Bool:=
 if¬l.kind=3∨ ¬l.op=1 then(Tx,jp)
 else if l.left.kind=1∧dU occ l.left.var=jp∧may l.right=is then(l.left.var,is)
 else if l.right.kind=1∧dU occ l.right.var=jp∧may l.left=is then(l.right.var,is)
 else(Tx,jp)
theorem cx{occ:List ae}{s:ae}:dU occ s=!kw (cK .str (aI occ) s 0=0):=by
 rw[bO];by_cases h:s∈occ
 .have:=u9.2 h;rw[bP.2 h];simp;omega
 .rw[fv.2 h,rQ.2 h];rfl
def cC(occ:List ae)(e:Expr):Bool:=kw (e.kind=2)||(kw (e.kind=1)&&dU occ e.var)
theorem mS{a b:Bool}(h:a=b):pB a=pB b:=by rw[h]
theorem d76(occ:List ae)(e:Expr)(hb:e.size<=1000000000000):bC prog 175 [ag e.c,.ptr 1 0] [cO (aI occ),.cells [.mp 0]] (pB (cC occ e)) [(0,dl (cO (aI occ))),(1,dl (.cells [.mp 0]))] 2:=by
 have d:=bO occ e.var;have j:=cx (occ:=occ) (s:=e.var);refine aq ab func175 I (by decide) ntmps175 I (by simp) ?_
 repeat' (first
  |(refine gA I (zI (fun _=>?_) (fun _=>?_)))
  |fail)
 all_goals first
  |(refine gA I (aD [] (.inr I) I (zM ⟨.of_eq (mS (a:=is) ?_),rfl,ac⟩ (zC (zO ac))));simp_all [cC];done)
  |(refine gA I (aD [] (.inr I) I (zM ⟨.of_eq (mS (a:=jp) ?_),rfl,ac⟩ (zC (zO ac))));simp_all [cC];done)
  |(refine gA I (aD [] (.inr I) I (zM ⟨.of_eq (mS (a:=kw (cK .str (aI occ) e.var 0>0)) ?_),rfl,ac⟩ (zC (zO ac))));rw[cC,j,d];simp_all;by_cases u:pC occ e.var=0<;>simp[u]<;>omega)
theorem c77(a:gp):Pure prog 176 [ag a.c] (pB jp):=by
 refine ai ab func176 I (by decide) ntmps176 I (by simp) I ?_;exact zU I
theorem SY(a:gp):Pure prog 306 [ag a.c] (pB jp):=by
 refine ai ab func306 I (by decide) ntmps306 I (by simp) I ?_;exact zU I
def mW(out occ:List ae)(a:gp):Bool:=(bq a).all fun x=>kw (x=a.var)||(!dU out x||dU occ x)
theorem d126(r:ar)(occ:List ae)(a:gp)(hb:a.size<=1000000000000):bC prog 305 [ag a.c,.ptr 1 0,.ptr 2 0] [cO (aI occ),.cells [.iv (cG r)],.cells [.mp 0]] (pB (mW (aF r) occ a)) [(0,dl (cO (aI occ))),(1,dl (.cells [.iv (cG r)])),(2,dl (.cells [.mp 0]))] 3:=by
 refine aq ab func305 I (by decide) ntmps305 I (by simp) ?_;refine gA I (zq [] (d127 a hb) ?_);refine gA I ?_;refine ig (aI (bq a)) (fun vs=>⟨[(1,.ptr 1 0),(2,.ptr 2 0),(3,.ptr 3 0),(8,.ptr 5 0)],[(0,dl (cO (aI occ))),(1,dl (.cells [.iv (cG r)])),(2,dl (.cells [.mp 0])),(3,dl (az a.c)),(5,dl (.b5 .str yS (aI (bq a)) vs io))],6⟩) (fun vs=> ∀j∈vs,∀x,(aI (bq a))[j]? =dl x->(kw (x.1=a.var)||(!dU (aF r) x.1||dU occ x.1))=is) [] (by simp)
  (zW (zC ⟨⟨_,rfl,.of_eq I⟩,Tk I,rfl,⟨_,rfl,.of_eq I⟩,Tk I,rfl,zK (hI I I (.inl I) I trivial)⟩)) fun vs F=>?_
 refine iq I ac (fB I I I I I (by decide) (fun d=>?_) fun j x u A=>?_)
 .refine gA I (zD [] I (zM ⟨.of_eq (mS (a:=is) (T7.2 fun t G=>all_keys (p:=fun t=>(kw (t=a.var)||(!dU (aF r) t||dU occ t))=is) d F t G).symm),rfl,ac⟩ (zC ⟨⟨_,rfl,.of_eq I⟩,Tk I,rfl,⟨_,rfl,.of_eq I⟩,Tk I,rfl,ac⟩)))
 .have more:(kw (x.1=a.var)||(!dU (aF r) x.1||dU occ x.1))=is-> ∀i∈j::vs,∀x,(aI (bq a))[i]? =dl x->(kw (x.1=a.var)||(!dU (aF r) x.1||dU occ x.1))=is:=fun h i hi y B=>by
   rcases TQ.1 hi with rfl|hi
   .rw[u]at B;cases B;exact h
   .exact F i hi y B
  have C:=cx (occ:=aF r) (s:=x.1);have D:=cx (occ:=occ) (s:=x.1);have J:=bO (aF r) x.1;have Y:=bO occ x.1;refine zJ I I (fun g1=>?_) fun g1=>?_
  .have g1:kw (x.1=a.var)=jp:=by simpa using g1
   refine zJ I I (fun g2=>?_) fun g2=>?_
   .have g2:dU (aF r) x.1=is:=by
     have:=zT g2;rw[C];simp;omega
    refine zJ I I (fun g3=>?_) fun g3=>?_
    .have g3:dU occ x.1=jp:=by rw[D,g3];rfl
     refine gA I (zD [] I (zM ⟨.of_eq (mS (a:=jp) (W2.2 ⟨x.1,td u,by rw[g1,g2,g3];simp⟩).symm),rfl,ac⟩ (zC ⟨⟨_,rfl,.of_eq I⟩,Tk I,rfl,⟨_,rfl,.of_eq I⟩,Tk I,rfl,ac⟩)))
    .have g3:dU occ x.1=is:=by rw[D,g3];rfl
     refine gA I ⟨j,x,u,A,more (by rw[g3];simp),[],zW (zC ⟨⟨_,rfl,.of_eq I⟩,Tk I,rfl,⟨_,rfl,.of_eq I⟩,Tk I,rfl,zK (hI I I (.inr I) I ac)⟩)⟩
   .have g2:dU (aF r) x.1=jp:=by
     have:=zF g2;rw[C];simp;omega
    refine gA I ⟨j,x,u,A,more (by rw[g2];simp),[],zW (zC ⟨⟨_,rfl,.of_eq I⟩,Tk I,rfl,⟨_,rfl,.of_eq I⟩,Tk I,rfl,zK (hI I I (.inr I) I ac)⟩)⟩
  .have g1:kw (x.1=a.var)=is:=by simpa using g1
   refine gA I ⟨j,x,u,A,more (by rw[g1];simp),[],zW (zC ⟨⟨_,rfl,.of_eq I⟩,Tk I,rfl,⟨_,rfl,.of_eq I⟩,Tk I,rfl,zK (hI I I (.inr I) I ac)⟩)⟩
def lV(may:Expr->Bool)(more:gp->Bool)(occ:List ae)(l:Lit):Option ae:=
 if(gl may occ l).2=is then dl (gl may occ l).1 else if l.kind=4∧dU occ l.bI=jp∧more l.agg=is then dl l.bI else io
def b6(may:Expr->Bool)(more:gp->Bool)(occ:List ae):List Lit->Option ae
 | []=>io
 |l::r=>match lV may more occ l with
  |some v=>dl v
  |none=>b6 may more occ r
def dt(may:List ae->Expr->Bool)(more:List ae->gp->Bool)(body:List Lit):Nat->List ae->List ae
 |0,occ=>occ
 |n+1,occ=>match b6 (may occ) (more occ) occ body with
  |some v=>dt may more body n (occ++ [v])
  |none=>occ
def bB(l:Lit):List ae:=if l.kind=1 then cW l.atom else[]
def b8(may:List ae->Expr->Bool)(more:List ae->gp->Bool)(body:List Lit)(occ:List ae):List ae:=dt may more body (3*body.length+1) (occ++body.flatMap bB)
theorem fb{may:List ae->Expr->Bool}{more:List ae->gp->Bool}{body:List Lit}{n:Nat}{occ:List ae}{v:ae}(h:b6 (may occ) (more occ) occ body=dl v):dt may more body (n+1) occ=dt may more body n (occ++ [v]):=by
 simp only[dt,h]
theorem fc{may:List ae->Expr->Bool}{more:List ae->gp->Bool}{body:List Lit}{n:Nat}{occ:List ae}(h:b6 (may occ) (more occ) occ body=io):dt may more body (n+1) occ=occ:=by
 simp only[dt,h]
theorem kQ{may:Expr->Bool}{more:gp->Bool}{occ:List ae}: ∀{l m:List Lit},b6 may more occ l=io->b6 may more occ (l++m)=b6 may more occ m
 | [],_,_=>rfl
 |x::r,m,h=>by
  simp only[b6]at h;split at h
  .cases h
  .rename_i d;simp only[TV,b6,d];exact kQ h
theorem dS{may:Expr->Bool}{more:gp->Bool}{occ:List ae}{l:List Lit}{i:Nat}(h:b6 may more occ (l.take i)=io)(hi:i<l.length)(d:lV may more occ (l.getD i co)=io):b6 may more occ (l.take (i+1))=io:=by
 rw[bc hi,kQ h];simp only[b6,d]
theorem pr{may:Expr->Bool}{more:gp->Bool}{occ:List ae}{l:List Lit}{i:Nat}{v:ae}(h:b6 may more occ (l.take i)=io)(hi:i<l.length)(d:lV may more occ (l.getD i co)=dl v):b6 may more occ l=dl v:=by
 have e:l=l.take i++(l.getD i co::l.drop (i+1)):=by
  rw[Tr,Ts hi,UI,List.getElem_cons_drop,Um]
 rw[e,kQ h];simp only[b6,d]
theorem uA{may:Expr->Bool}{more:gp->Bool}{occ:List ae}{l:Lit}{v:ae}(h:lV may more occ l=dl v):v∈ [l.left.var,l.right.var,l.bI]∧v∉occ:=by
 unfold lV at h;split at h
 .rename_i d;simp only[Tm]at h;subst h;unfold gl at d ⊢;split at d
  .cases d
  .rename_i x;rw[be x];split at d
   .rename_i j;rw[am j];exact⟨by simp,fv.1 j.2.1⟩
   .rename_i j;rw[be j];split at d
    .rename_i u;rw[am u];exact⟨by simp,fv.1 u.2.1⟩
    .cases d
 .split at h
  .rename_i j;simp only[Tm]at h;subst h;exact⟨by simp,fv.1 j.2.1⟩
  .cases h
theorem j4{may:Expr->Bool}{more:gp->Bool}{occ:List ae}{v:ae}: ∀{l:List Lit},b6 may more occ l=dl v->v∈bT l∧v∉occ
 | [],h=>by cases h
 |x::r,h=>by
  simp only[b6]at h;split at h
  .rename_i w u;simp only[Tm]at h;subst h;obtain⟨d,j⟩:=uA u;exact⟨xr TJ d,j⟩
  .obtain⟨d,j⟩:=j4 h;refine⟨?_,j⟩;simp only[bT,T9,TP]at d ⊢;exact .inr d
theorem fK: ∀l:List Lit,(l.flatMap bB).length<=Lit.an l
 | []=>by simp
 |e::r=>by
  have d:=fK r;have j:(bB e).length<=e.size:=by
   have:=jg e.atom;have:=e.size_eq;unfold bB;split
   .omega
   .simp
  rw[T9,Tn];simp only[Lit.an];omega
theorem RJ(occ:List ae)(l:Lit)(hb:l.size<=100000000000):bC prog 229 [ag l.c,.cN (.func 304) [.mp 0] [],.mp 0] [cO (aI occ)] (.aZ [pS (gl (bf occ) occ l).1,pB (gl (bf occ) occ l).2]) [(0,dl (cO (aI occ)))] 1:=by
 have A:=l.size_eq;have x:=bO occ l.left.var;have y:=bO occ l.right.var;refine aq ab func229 I (by decide) ntmps229 I (by simp) ?_;refine zE I I (fun d=>?_) fun d=>?_
 .have d: ¬l.kind=3:=by simpa using d
  refine gA I (zD [] I (zM ⟨.of_eq (oN (a:=(Tx,jp)) (by rw[gl,am (.inl d)])),rfl,ac⟩ (zC ac)))
 have d:l.kind=3:=by simpa using d
 refine zJ I I (fun j=>?_) fun j=>?_
 .have j: ¬l.op=1:=by simpa using j
  refine gA I (zD [] I (zM ⟨.of_eq (oN (a:=(Tx,jp)) (by rw[gl,am (.inr j)])),rfl,ac⟩ (zC ac)))
 have j:l.op=1:=by simpa using j
 have u:gl (bf occ) occ l=if l.left.kind=1∧dU occ l.left.var=jp∧(bf occ) l.right=is then(l.left.var,is) else if l.right.kind=1∧dU occ l.right.var=jp∧(bf occ) l.left=is then(l.right.var,is) else(Tx,jp):=by
  rw[gl,be (by simp[d,j])]
 repeat' (first
  |(refine gA I (zI (fun _=>?_) (fun _=>?_)))
  |(refine gA I (aE [0] (d125 occ l.left (by omega)) I I I I I I I I ?_))
  |(refine gA I (aE [0] (d125 occ l.right (by omega)) I I I I I I I I ?_))
  |fail)
 all_goals first
  |(refine gA I (aD [] (.inr I) I (zM ⟨.of_eq (oN (a:=(Tx,jp)) ?_),rfl,ac⟩ (zC ac)));rw[u];simp only[cx] at*;simp_all;done)
  |(refine gA I (aD [] (.inr I) I (zM ⟨.of_eq (oN (a:=(l.left.var,is)) ?_),rfl,ac⟩ (zC ac)));rw[u];simp only[cx] at*;simp_all;done)
  |(refine gA I (aD [] (.inr I) I (zM ⟨.of_eq (oN (a:=(l.right.var,is)) ?_),rfl,ac⟩ (zC ac)));rw[u];simp only[cx] at*;simp_all;done)
  |(exfalso;simp_all;done)
theorem SN(occ:List ae)(body:List Lit)(hb:occ.length+8*Lit.an body<=100000000000):bC prog 174 [.iv (lits body),.mp 0,.cN (.func 304) [.mp 0] [],.cN (.func 306) [] []] [cO (aI occ)] (.aZ []) [(0,dl (cO (aI (b8 (fun occ=>bf occ) (fun occ=>fun _=>jp) body occ))))] 1:=by
 have g0:=Lit.aA body;have l0:=fK body;have i0:=jK body;have k0:=qt (bT body) (occ++body.flatMap bB);refine aq ab func174 I (by decide) ntmps174 I (by simp) ?_;refine gA I ?_;refine aG 0 body.length (TB _) (fun i=>⟨[(0,.iv (lits body)),(1,.mp 0),(2,.cN (.func 304) [.mp 0] []),(3,.cN (.func 306) [] []),(14,.iv (lits body)),(15,pI body.length),(16,pI i)],[(0,dl (cO (aI (occ++(body.take i).flatMap bB))))],1⟩) (fun _=>True) [] ac
  (zW (hM I (by simp) I trivial)) fun i hi _=>?_
 refine zJ I I (fun u=>?_) fun u=>?_
 .have u:i<body.length:=by simpa using u
  have G:=bx (f:=bB) u;have hn:=Lit.dV body i u;have hv:=fK (body.take i);have n0:=(body.getD i co).size_eq;refine zJ I I (fun y=>?_) fun y=>?_
  .have y:(body.getD i co).kind=1:=by simpa using y
   rw[show bB (body.getD i co)=_ from am y]at G;refine gA I (zq [0] (d88 (occ++(body.take i).flatMap bB) (body.getD i co).atom (by rw[Tn];omega)) ?_);refine gA I ⟨u,ac,[],zW (hM I (by rw[G,Tz]) I ac)⟩
  .have y: ¬(body.getD i co).kind=1:=by simpa using y
   rw[show bB (body.getD i co)=_ from be y,T1]at G;refine gA I ⟨u,ac,[],zW (hM I (by rw[G]) I ac)⟩
 have u:body.length<=i:=by simpa using u
 have e0:body.take i=body:=TE u;rw[e0];refine gA I ?_;refine lA (σ:={x:List ae×Nat//b8 (fun occ=>bf occ) (fun occ=>fun _=>jp) body occ=dt (fun occ=>bf occ) (fun occ=>fun _=>jp) body (x.2+1) x.1∧cR (bT body) x.1<=x.2∧x.1.length+cR (bT body) x.1<=(occ++body.flatMap bB).length+cR (bT body) (occ++body.flatMap bB)})
  (fun x=>⟨[(0,.iv (lits body)),(1,.mp 0),(2,.cN (.func 304) [.mp 0] []),(3,.cN (.func 306) [] [])],[(0,dl (cO (aI x.1.1)))],1⟩) (fun x=>cR (bT body) x.1.1)
  ⟨(occ++body.flatMap bB,3*body.length),rfl,by dsimp only;omega,Tv _⟩ [] (zW (zC trivial)) ?_
 rintro⟨⟨ok,f⟩,hx1,hx2,hx3⟩;dsimp only at hx1 hx2 hx3 ⊢;rw[Tn]at hx3;refine gA I ?_;refine aG 0 body.length (TB _) (fun i=>⟨[(0,.iv (lits body)),(1,.mp 0),(2,.cN (.func 304) [.mp 0] []),(3,.cN (.func 306) [] []),(28,.iv (lits body)),(29,pI body.length),(30,pI i)],[(0,dl (cO (aI ok)))],1⟩) (fun i=>b6 ((fun occ=>bf occ) ok) ((fun occ=>fun _=>jp) ok) ok (body.take i)=io) [] I
  (zW (zC trivial)) fun i hi D=>?_
 refine zJ I I (fun d=>?_) fun d=>?_
 .have d:i<body.length:=by simpa using d
  have m0:=Lit.cf body i d;have f0:=(body.getD i co).kg;have j: ∀v,lV ((fun occ=>bf occ) ok) ((fun occ=>fun _=>jp) ok) ok (body.getD i co)=dl v->b8 (fun occ=>bf occ) (fun occ=>fun _=>jp) body occ=dt (fun occ=>bf occ) (fun occ=>fun _=>jp) body (f-1+1) (ok++ [v])∧cR (bT body) (ok++ [v])<=f-1∧
    (ok++ [v]).length+cR (bT body) (ok++ [v])<=(occ++body.flatMap bB).length+cR (bT body) (occ++body.flatMap bB)∧cR (bT body) (ok++ [v])<cR (bT body) ok:=by
   intro v hv;have hf:=pr D d hv;obtain⟨g1,g2⟩:=j4 hf;have j0:=qs g1 g2;have d0:cR (bT body) (ok++ [v])=cR (bT body) (gQ ok v):=by
    unfold cR;congr 2
    funext x
    congr 1;rw[UN,bP,bP,dN,TP,TF]
   have Y:f-1+1=f:=by omega
   refine⟨?_,by omega,?_,by omega⟩
   .rw[hx1,fb hf,Y]
   .rw[Tn,Tn,Ui];omega
  have b0:=bO ok (gl (bf ok) ok (body.getD i co)).1;have Z:=gz ok (gl (bf ok) ok (body.getD i co)).1;have c0:=bO ok (body.getD i co).bI;have a0:=gz ok (body.getD i co).bI;refine gA I (zq [0] (RJ ok (body.getD i co) (by omega)) ?_);refine zJ I I (fun C=>?_) fun C=>?_
  .obtain⟨g1,g2,g3,g4⟩:=j _ (am C);refine gA I ⟨⟨(_,f-1),g1,g2,g3⟩,[],g4,zW (hM I (by dsimp only;rw[dz];rfl) I ac)⟩
  .refine zJ I I (fun A=>?_) fun A=>?_
   .have A:(body.getD i co).kind=4:=by simpa using A
    refine zJ I I (fun B=>?_) fun B=>?_
    .have B:dU ok (body.getD i co).bI=jp:=by rw[cx];simpa using B
     refine gA I (zp (SY (body.getD i co).agg) ?_);refine zJ I I (fun J=>?_) fun J=>?_
     .obtain⟨g1,g2,g3,g4⟩:=j _ ((be (by rw[C];simp)).trans (am ⟨A,B,J⟩));refine gA I ⟨⟨(_,f-1),g1,g2,g3⟩,[],g4,zW (hM I (by dsimp only;rw[dz];rfl) I ac)⟩
     .refine gA I ?_;exact⟨d,dS D d ((be (by rw[C];simp)).trans (be (fun h=>nomatch (h.2.2.symm.trans J)))),[],zW (zC ac)⟩
    .have B:dU ok (body.getD i co).bI=is:=by rw[cx];simpa using B
     refine gA I ⟨d,dS D d ((be (by rw[C];simp)).trans (be (by rw[B];simp))),[],zW (zC ac)⟩
   .have A: ¬(body.getD i co).kind=4:=by simpa using A
    refine gA I ⟨d,dS D d ((be (by rw[C];simp)).trans (be (fun h=>A h.1))),[],zW (zC ac)⟩
 .have d:body.length<=i:=by simpa using d
  rw[TE d]at D;have F:b8 (fun occ=>bf occ) (fun occ=>fun _=>jp) body occ=ok:=by rw[hx1,fc D]
  refine gA I (zD [] I (zW (hM I (by rw[F]) I ac)))
theorem RI(occ:List ae)(l:Lit)(hb:l.size<=100000000000):bC prog 229 [ag l.c,.cN (.func 175) [] [.ptr 1 0],.mp 0] [cO (aI occ),.cells [.mp 0]] (.aZ [pS (gl (cC occ) occ l).1,pB (gl (cC occ) occ l).2]) [(0,dl (cO (aI occ))),(1,dl (.cells [.mp 0]))] 2:=by
 have A:=l.size_eq;have x:=bO occ l.left.var;have y:=bO occ l.right.var;refine aq ab func229 I (by decide) ntmps229 I (by simp) ?_;refine zE I I (fun d=>?_) fun d=>?_
 .have d: ¬l.kind=3:=by simpa using d
  refine gA I (zD [] I (zM ⟨.of_eq (oN (a:=(Tx,jp)) (by rw[gl,am (.inl d)])),rfl,ac⟩ (zC (zO ac))))
 have d:l.kind=3:=by simpa using d
 refine zJ I I (fun j=>?_) fun j=>?_
 .have j: ¬l.op=1:=by simpa using j
  refine gA I (zD [] I (zM ⟨.of_eq (oN (a:=(Tx,jp)) (by rw[gl,am (.inr j)])),rfl,ac⟩ (zC (zO ac))))
 have j:l.op=1:=by simpa using j
 have u:gl (cC occ) occ l=if l.left.kind=1∧dU occ l.left.var=jp∧(cC occ) l.right=is then(l.left.var,is) else if l.right.kind=1∧dU occ l.right.var=jp∧(cC occ) l.left=is then(l.right.var,is) else(Tx,jp):=by
  rw[gl,be (by simp[d,j])]
 repeat' (first
  |(refine gA I (zI (fun _=>?_) (fun _=>?_)))
  |(refine gA I (aE [0,1] (d76 occ l.left (by omega)) I I I I I I I I ?_))
  |(refine gA I (aE [0,1] (d76 occ l.right (by omega)) I I I I I I I I ?_))
  |fail)
 all_goals first
  |(refine gA I (aD [] (.inr I) I (zM ⟨.of_eq (oN (a:=(Tx,jp)) ?_),rfl,ac⟩ (zC (zO ac))));rw[u];simp only[cx] at*;simp_all;done)
  |(refine gA I (aD [] (.inr I) I (zM ⟨.of_eq (oN (a:=(l.left.var,is)) ?_),rfl,ac⟩ (zC (zO ac))));rw[u];simp only[cx] at*;simp_all;done)
  |(refine gA I (aD [] (.inr I) I (zM ⟨.of_eq (oN (a:=(l.right.var,is)) ?_),rfl,ac⟩ (zC (zO ac))));rw[u];simp only[cx] at*;simp_all;done)
  |(exfalso;simp_all;done)
theorem SM(occ:List ae)(body:List Lit)(hb:occ.length+8*Lit.an body<=100000000000):bC prog 174 [.iv (lits body),.mp 0,.cN (.func 175) [] [.ptr 1 0],.cN (.func 176) [] []] [cO (aI occ),.cells [.mp 0]] (.aZ []) [(0,dl (cO (aI (b8 (fun occ=>cC occ) (fun occ=>fun _=>jp) body occ)))),(1,dl (.cells [.mp 0]))] 2:=by
 have g0:=Lit.aA body;have l0:=fK body;have i0:=jK body;have k0:=qt (bT body) (occ++body.flatMap bB);refine aq ab func174 I (by decide) ntmps174 I (by simp) ?_;refine gA I ?_;refine aG 0 body.length (TB _) (fun i=>⟨[(0,.iv (lits body)),(1,.mp 0),(2,.cN (.func 175) [] [.ptr 1 0]),(3,.cN (.func 176) [] []),(14,.iv (lits body)),(15,pI body.length),(16,pI i)],[(0,dl (cO (aI (occ++(body.take i).flatMap bB)))),(1,dl (.cells [.mp 0]))],2⟩) (fun _=>True) [] ac
  (zW (hM I (by simp) I (zO trivial))) fun i hi _=>?_
 refine zJ I I (fun u=>?_) fun u=>?_
 .have u:i<body.length:=by simpa using u
  have G:=bx (f:=bB) u;have hn:=Lit.dV body i u;have hv:=fK (body.take i);have n0:=(body.getD i co).size_eq;refine zJ I I (fun y=>?_) fun y=>?_
  .have y:(body.getD i co).kind=1:=by simpa using y
   rw[show bB (body.getD i co)=_ from am y]at G;refine gA I (zq [0] (d88 (occ++(body.take i).flatMap bB) (body.getD i co).atom (by rw[Tn];omega)) ?_);refine gA I ⟨u,ac,[],zW (hM I (by rw[G,Tz]) I (zO ac))⟩
  .have y: ¬(body.getD i co).kind=1:=by simpa using y
   rw[show bB (body.getD i co)=_ from be y,T1]at G;refine gA I ⟨u,ac,[],zW (hM I (by rw[G]) I (zO ac))⟩
 have u:body.length<=i:=by simpa using u
 have e0:body.take i=body:=TE u;rw[e0];refine gA I ?_;refine lA (σ:={x:List ae×Nat//b8 (fun occ=>cC occ) (fun occ=>fun _=>jp) body occ=dt (fun occ=>cC occ) (fun occ=>fun _=>jp) body (x.2+1) x.1∧cR (bT body) x.1<=x.2∧x.1.length+cR (bT body) x.1<=(occ++body.flatMap bB).length+cR (bT body) (occ++body.flatMap bB)})
  (fun x=>⟨[(0,.iv (lits body)),(1,.mp 0),(2,.cN (.func 175) [] [.ptr 1 0]),(3,.cN (.func 176) [] [])],[(0,dl (cO (aI x.1.1))),(1,dl (.cells [.mp 0]))],2⟩) (fun x=>cR (bT body) x.1.1)
  ⟨(occ++body.flatMap bB,3*body.length),rfl,by dsimp only;omega,Tv _⟩ [] (zW (zC (zO trivial))) ?_
 rintro⟨⟨ok,f⟩,hx1,hx2,hx3⟩;dsimp only at hx1 hx2 hx3 ⊢;rw[Tn]at hx3;refine gA I ?_;refine aG 0 body.length (TB _) (fun i=>⟨[(0,.iv (lits body)),(1,.mp 0),(2,.cN (.func 175) [] [.ptr 1 0]),(3,.cN (.func 176) [] []),(28,.iv (lits body)),(29,pI body.length),(30,pI i)],[(0,dl (cO (aI ok))),(1,dl (.cells [.mp 0]))],2⟩) (fun i=>b6 ((fun occ=>cC occ) ok) ((fun occ=>fun _=>jp) ok) ok (body.take i)=io) [] I
  (zW (zC (zO trivial))) fun i hi D=>?_
 refine zJ I I (fun d=>?_) fun d=>?_
 .have d:i<body.length:=by simpa using d
  have m0:=Lit.cf body i d;have f0:=(body.getD i co).kg;have j: ∀v,lV ((fun occ=>cC occ) ok) ((fun occ=>fun _=>jp) ok) ok (body.getD i co)=dl v->b8 (fun occ=>cC occ) (fun occ=>fun _=>jp) body occ=dt (fun occ=>cC occ) (fun occ=>fun _=>jp) body (f-1+1) (ok++ [v])∧cR (bT body) (ok++ [v])<=f-1∧
    (ok++ [v]).length+cR (bT body) (ok++ [v])<=(occ++body.flatMap bB).length+cR (bT body) (occ++body.flatMap bB)∧cR (bT body) (ok++ [v])<cR (bT body) ok:=by
   intro v hv;have hf:=pr D d hv;obtain⟨g1,g2⟩:=j4 hf;have j0:=qs g1 g2;have d0:cR (bT body) (ok++ [v])=cR (bT body) (gQ ok v):=by
    unfold cR;congr 2
    funext x
    congr 1;rw[UN,bP,bP,dN,TP,TF]
   have Y:f-1+1=f:=by omega
   refine⟨?_,by omega,?_,by omega⟩
   .rw[hx1,fb hf,Y]
   .rw[Tn,Tn,Ui];omega
  have b0:=bO ok (gl (cC ok) ok (body.getD i co)).1;have Z:=gz ok (gl (cC ok) ok (body.getD i co)).1;have c0:=bO ok (body.getD i co).bI;have a0:=gz ok (body.getD i co).bI;refine gA I (zq [0,1] (RI ok (body.getD i co) (by omega)) ?_);refine zJ I I (fun C=>?_) fun C=>?_
  .obtain⟨g1,g2,g3,g4⟩:=j _ (am C);refine gA I ⟨⟨(_,f-1),g1,g2,g3⟩,[],g4,zW (hM I (by dsimp only;rw[dz];rfl) I (zO ac))⟩
  .refine zJ I I (fun A=>?_) fun A=>?_
   .have A:(body.getD i co).kind=4:=by simpa using A
    refine zJ I I (fun B=>?_) fun B=>?_
    .have B:dU ok (body.getD i co).bI=jp:=by rw[cx];simpa using B
     refine gA I (zp (c77 (body.getD i co).agg) ?_);refine zJ I I (fun J=>?_) fun J=>?_
     .obtain⟨g1,g2,g3,g4⟩:=j _ ((be (by rw[C];simp)).trans (am ⟨A,B,J⟩));refine gA I ⟨⟨(_,f-1),g1,g2,g3⟩,[],g4,zW (hM I (by dsimp only;rw[dz];rfl) I (zO ac))⟩
     .refine gA I ?_;exact⟨d,dS D d ((be (by rw[C];simp)).trans (be (fun h=>nomatch (h.2.2.symm.trans J)))),[],zW (zC (zO ac))⟩
    .have B:dU ok (body.getD i co).bI=is:=by rw[cx];simpa using B
     refine gA I ⟨d,dS D d ((be (by rw[C];simp)).trans (be (by rw[B];simp))),[],zW (zC (zO ac))⟩
   .have A: ¬(body.getD i co).kind=4:=by simpa using A
    refine gA I ⟨d,dS D d ((be (by rw[C];simp)).trans (be (fun h=>A h.1))),[],zW (zC (zO ac))⟩
 .have d:body.length<=i:=by simpa using d
  rw[TE d]at D;have F:b8 (fun occ=>cC occ) (fun occ=>fun _=>jp) body occ=ok:=by rw[hx1,fc D]
  refine gA I (zD [] I (zW (hM I (by rw[F]) I (zO ac))))
theorem RH(r:ar)(occ:List ae)(l:Lit)(hb:l.size<=100000000000):bC prog 229 [ag l.c,.cN (.func 304) [.mp 0] [],.mp 0] [cO (aI occ),.cells [.iv (cG r)],.cells [.mp 0]] (.aZ [pS (gl (bf occ) occ l).1,pB (gl (bf occ) occ l).2]) [(0,dl (cO (aI occ))),(1,dl (.cells [.iv (cG r)])),(2,dl (.cells [.mp 0]))] 3:=by
 have A:=l.size_eq;have x:=bO occ l.left.var;have y:=bO occ l.right.var;refine aq ab func229 I (by decide) ntmps229 I (by simp) ?_;refine zE I I (fun d=>?_) fun d=>?_
 .have d: ¬l.kind=3:=by simpa using d
  refine gA I (zD [] I (zM ⟨.of_eq (oN (a:=(Tx,jp)) (by rw[gl,am (.inl d)])),rfl,ac⟩ (zC ⟨⟨_,rfl,.of_eq I⟩,Tk I,rfl,⟨_,rfl,.of_eq I⟩,Tk I,rfl,ac⟩)))
 have d:l.kind=3:=by simpa using d
 refine zJ I I (fun j=>?_) fun j=>?_
 .have j: ¬l.op=1:=by simpa using j
  refine gA I (zD [] I (zM ⟨.of_eq (oN (a:=(Tx,jp)) (by rw[gl,am (.inr j)])),rfl,ac⟩ (zC ⟨⟨_,rfl,.of_eq I⟩,Tk I,rfl,⟨_,rfl,.of_eq I⟩,Tk I,rfl,ac⟩)))
 have j:l.op=1:=by simpa using j
 have u:gl (bf occ) occ l=if l.left.kind=1∧dU occ l.left.var=jp∧(bf occ) l.right=is then(l.left.var,is) else if l.right.kind=1∧dU occ l.right.var=jp∧(bf occ) l.left=is then(l.right.var,is) else(Tx,jp):=by
  rw[gl,be (by simp[d,j])]
 repeat' (first
  |(refine gA I (zI (fun _=>?_) (fun _=>?_)))
  |(refine gA I (aE [0] (d125 occ l.left (by omega)) I I I I I I I I ?_))
  |(refine gA I (aE [0] (d125 occ l.right (by omega)) I I I I I I I I ?_))
  |fail)
 all_goals first
  |(refine gA I (aD [] (.inr I) I (zM ⟨.of_eq (oN (a:=(Tx,jp)) ?_),rfl,ac⟩ (zC ⟨⟨_,rfl,.of_eq I⟩,Tk I,rfl,⟨_,rfl,.of_eq I⟩,Tk I,rfl,ac⟩)));rw[u];simp only[cx] at*;simp_all;done)
  |(refine gA I (aD [] (.inr I) I (zM ⟨.of_eq (oN (a:=(l.left.var,is)) ?_),rfl,ac⟩ (zC ⟨⟨_,rfl,.of_eq I⟩,Tk I,rfl,⟨_,rfl,.of_eq I⟩,Tk I,rfl,ac⟩)));rw[u];simp only[cx] at*;simp_all;done)
  |(refine gA I (aD [] (.inr I) I (zM ⟨.of_eq (oN (a:=(l.right.var,is)) ?_),rfl,ac⟩ (zC ⟨⟨_,rfl,.of_eq I⟩,Tk I,rfl,⟨_,rfl,.of_eq I⟩,Tk I,rfl,ac⟩)));rw[u];simp only[cx] at*;simp_all;done)
  |(exfalso;simp_all;done)
theorem SK(r:ar)(occ:List ae)(body:List Lit)(hb:occ.length+8*Lit.an body<=100000000000):bC prog 174 [.iv (lits body),.mp 0,.cN (.func 304) [.mp 0] [],.cN (.func 305) [] [.ptr 1 0,.ptr 2 0]] [cO (aI occ),.cells [.iv (cG r)],.cells [.mp 0]] (.aZ []) [(0,dl (cO (aI (b8 (fun occ=>bf occ) (fun occ=>mW (aF r) occ) body occ)))),(1,dl (.cells [.iv (cG r)])),(2,dl (.cells [.mp 0]))] 3:=by
 have g0:=Lit.aA body;have l0:=fK body;have i0:=jK body;have k0:=qt (bT body) (occ++body.flatMap bB);refine aq ab func174 I (by decide) ntmps174 I (by simp) ?_;refine gA I ?_;refine aG 0 body.length (TB _) (fun i=>⟨[(0,.iv (lits body)),(1,.mp 0),(2,.cN (.func 304) [.mp 0] []),(3,.cN (.func 305) [] [.ptr 1 0,.ptr 2 0]),(14,.iv (lits body)),(15,pI body.length),(16,pI i)],[(0,dl (cO (aI (occ++(body.take i).flatMap bB)))),(1,dl (.cells [.iv (cG r)])),(2,dl (.cells [.mp 0]))],3⟩) (fun _=>True) [] ac
  (zW (hM I (by simp) I ⟨⟨_,rfl,.of_eq I⟩,Tk I,rfl,⟨_,rfl,.of_eq I⟩,Tk I,rfl,ac⟩)) fun i hi _=>?_
 refine zJ I I (fun u=>?_) fun u=>?_
 .have u:i<body.length:=by simpa using u
  have G:=bx (f:=bB) u;have hn:=Lit.dV body i u;have hv:=fK (body.take i);have n0:=(body.getD i co).size_eq;refine zJ I I (fun y=>?_) fun y=>?_
  .have y:(body.getD i co).kind=1:=by simpa using y
   rw[show bB (body.getD i co)=_ from am y]at G;refine gA I (zq [0] (d88 (occ++(body.take i).flatMap bB) (body.getD i co).atom (by rw[Tn];omega)) ?_);refine gA I ⟨u,ac,[],zW (hM I (by rw[G,Tz]) I ⟨⟨_,rfl,.of_eq I⟩,Tk I,rfl,⟨_,rfl,.of_eq I⟩,Tk I,rfl,ac⟩)⟩
  .have y: ¬(body.getD i co).kind=1:=by simpa using y
   rw[show bB (body.getD i co)=_ from be y,T1]at G;refine gA I ⟨u,ac,[],zW (hM I (by rw[G]) I ⟨⟨_,rfl,.of_eq I⟩,Tk I,rfl,⟨_,rfl,.of_eq I⟩,Tk I,rfl,ac⟩)⟩
 have u:body.length<=i:=by simpa using u
 have e0:body.take i=body:=TE u;rw[e0];refine gA I ?_;refine lA (σ:={x:List ae×Nat//b8 (fun occ=>bf occ) (fun occ=>mW (aF r) occ) body occ=dt (fun occ=>bf occ) (fun occ=>mW (aF r) occ) body (x.2+1) x.1∧cR (bT body) x.1<=x.2∧x.1.length+cR (bT body) x.1<=(occ++body.flatMap bB).length+cR (bT body) (occ++body.flatMap bB)})
  (fun x=>⟨[(0,.iv (lits body)),(1,.mp 0),(2,.cN (.func 304) [.mp 0] []),(3,.cN (.func 305) [] [.ptr 1 0,.ptr 2 0])],[(0,dl (cO (aI x.1.1))),(1,dl (.cells [.iv (cG r)])),(2,dl (.cells [.mp 0]))],3⟩) (fun x=>cR (bT body) x.1.1)
  ⟨(occ++body.flatMap bB,3*body.length),rfl,by dsimp only;omega,Tv _⟩ [] (zW (zC ⟨⟨_,rfl,.of_eq I⟩,Tk I,rfl,⟨_,rfl,.of_eq I⟩,Tk I,rfl,ac⟩)) ?_
 rintro⟨⟨ok,f⟩,hx1,hx2,hx3⟩;dsimp only at hx1 hx2 hx3 ⊢;rw[Tn]at hx3;refine gA I ?_;refine aG 0 body.length (TB _) (fun i=>⟨[(0,.iv (lits body)),(1,.mp 0),(2,.cN (.func 304) [.mp 0] []),(3,.cN (.func 305) [] [.ptr 1 0,.ptr 2 0]),(28,.iv (lits body)),(29,pI body.length),(30,pI i)],[(0,dl (cO (aI ok))),(1,dl (.cells [.iv (cG r)])),(2,dl (.cells [.mp 0]))],3⟩) (fun i=>b6 ((fun occ=>bf occ) ok) ((fun occ=>mW (aF r) occ) ok) ok (body.take i)=io) [] I
  (zW (zC ⟨⟨_,rfl,.of_eq I⟩,Tk I,rfl,⟨_,rfl,.of_eq I⟩,Tk I,rfl,ac⟩)) fun i hi D=>?_
 refine zJ I I (fun d=>?_) fun d=>?_
 .have d:i<body.length:=by simpa using d
  have m0:=Lit.cf body i d;have f0:=(body.getD i co).kg;have j: ∀v,lV ((fun occ=>bf occ) ok) ((fun occ=>mW (aF r) occ) ok) ok (body.getD i co)=dl v->b8 (fun occ=>bf occ) (fun occ=>mW (aF r) occ) body occ=dt (fun occ=>bf occ) (fun occ=>mW (aF r) occ) body (f-1+1) (ok++ [v])∧cR (bT body) (ok++ [v])<=f-1∧
    (ok++ [v]).length+cR (bT body) (ok++ [v])<=(occ++body.flatMap bB).length+cR (bT body) (occ++body.flatMap bB)∧cR (bT body) (ok++ [v])<cR (bT body) ok:=by
   intro v hv;have hf:=pr D d hv;obtain⟨g1,g2⟩:=j4 hf;have j0:=qs g1 g2;have d0:cR (bT body) (ok++ [v])=cR (bT body) (gQ ok v):=by
    unfold cR;congr 2
    funext x
    congr 1;rw[UN,bP,bP,dN,TP,TF]
   have Y:f-1+1=f:=by omega
   refine⟨?_,by omega,?_,by omega⟩
   .rw[hx1,fb hf,Y]
   .rw[Tn,Tn,Ui];omega
  have b0:=bO ok (gl (bf ok) ok (body.getD i co)).1;have Z:=gz ok (gl (bf ok) ok (body.getD i co)).1;have c0:=bO ok (body.getD i co).bI;have a0:=gz ok (body.getD i co).bI;refine gA I (zq [0,1,2] (RH r ok (body.getD i co) (by omega)) ?_);refine zJ I I (fun C=>?_) fun C=>?_
  .obtain⟨g1,g2,g3,g4⟩:=j _ (am C);refine gA I ⟨⟨(_,f-1),g1,g2,g3⟩,[],g4,zW (hM I (by dsimp only;rw[dz];rfl) I ⟨⟨_,rfl,.of_eq I⟩,Tk I,rfl,⟨_,rfl,.of_eq I⟩,Tk I,rfl,ac⟩)⟩
  .refine zJ I I (fun A=>?_) fun A=>?_
   .have A:(body.getD i co).kind=4:=by simpa using A
    refine zJ I I (fun B=>?_) fun B=>?_
    .have B:dU ok (body.getD i co).bI=jp:=by rw[cx];simpa using B
     refine gA I (zq [0,1,2] (d126 r ok (body.getD i co).agg (by omega)) ?_);refine zJ I I (fun J=>?_) fun J=>?_
     .obtain⟨g1,g2,g3,g4⟩:=j _ ((be (by rw[C];simp)).trans (am ⟨A,B,J⟩));refine gA I ⟨⟨(_,f-1),g1,g2,g3⟩,[],g4,zW (hM I (by dsimp only;rw[dz];rfl) I ⟨⟨_,rfl,.of_eq I⟩,Tk I,rfl,⟨_,rfl,.of_eq I⟩,Tk I,rfl,ac⟩)⟩
     .refine gA I ?_;exact⟨d,dS D d ((be (by rw[C];simp)).trans (be (fun h=>nomatch (h.2.2.symm.trans J)))),[],zW (zC ⟨⟨_,rfl,.of_eq I⟩,Tk I,rfl,⟨_,rfl,.of_eq I⟩,Tk I,rfl,ac⟩)⟩
    .have B:dU ok (body.getD i co).bI=is:=by rw[cx];simpa using B
     refine gA I ⟨d,dS D d ((be (by rw[C];simp)).trans (be (by rw[B];simp))),[],zW (zC ⟨⟨_,rfl,.of_eq I⟩,Tk I,rfl,⟨_,rfl,.of_eq I⟩,Tk I,rfl,ac⟩)⟩
   .have A: ¬(body.getD i co).kind=4:=by simpa using A
    refine gA I ⟨d,dS D d ((be (by rw[C];simp)).trans (be (fun h=>A h.1))),[],zW (zC ⟨⟨_,rfl,.of_eq I⟩,Tk I,rfl,⟨_,rfl,.of_eq I⟩,Tk I,rfl,ac⟩)⟩
 .have d:body.length<=i:=by simpa using d
  rw[TE d]at D;have F:b8 (fun occ=>bf occ) (fun occ=>mW (aF r) occ) body occ=ok:=by rw[hx1,fc D]
  refine gA I (zD [] I (zW (hM I (by rw[F]) I ⟨⟨_,rfl,.of_eq I⟩,Tk I,rfl,⟨_,rfl,.of_eq I⟩,Tk I,rfl,ac⟩)))
theorem ta:dK .fx (cO (aI [])):=⟨id,fun M N U w j d=>⟨#[],0,d,⟨rfl,by simp[aI],by simp[aI],by simp,by simp⟩,eJ M⟩⟩
def b3(r:ar):List ae:=b8 (fun d=>bf d) (fun d=>mW (aF r) d) r.body []
theorem RE(r:ar)(hb:8*Lit.an r.body<=100000000000):bC prog 174 [.iv (lits r.body),.mp 0,.cN (.func 304) [.mp 0] [],.cN (.func 305) [] [.ptr 1 0,.ptr 2 0]] [.fx,.cells [.iv (cG r)],.cells [.mp 0]] (.aZ []) [(0,dl (cO (aI (b3 r)))),(1,dl (.cells [.iv (cG r)])),(2,dl (.cells [.mp 0]))] 3:=
 bC.MS (SK r [] r.body (by simp;omega)) ⟨ta,.refl _,.refl _,ac⟩
theorem d73(r:ar)(hb:8*r.size<=100000000000):bC prog 269 [.iv (cG r)] [] (.mp 0) [(0,dl (cO (aI (b3 r))))] 1:=by
 unfold ar.size at hb;refine aq ab func269 I (by decide) ntmps269 I (by simp) ?_;refine gA I (zd [1,0,2] (RE r (by omega)) ?_);refine gA I (zD [1] I (zW (zC ac)))
def Pu(p:List ae->Prop)(q:PV)(h:AH)(n:Nat):Prop:= ∃ok,p ok∧q= .mp 0∧h=[(0,dl (cO (aI ok)))]∧n=1
def GH(r:ar)(a:gp)(occ:List ae):Prop:=occ.Nodup∧ ∀x,x∈occ↔x∈bq a∧x∈aF r
theorem wK{l m:List ae}(h:l.Nodup)(hs: ∀x∈l,x∈m):l.length<=m.length:=U7 h hs
theorem kh(a:gp):(bq a).length<=a.size:=by
 have d:=kE a.body;have j:=gU a.jt;unfold bq gp.size;rw[Tn];split
 .rw[UJ];omega
 .omega
theorem M4(a:gp)(hb:a.size<=100000000000):bC prog 263 [ag a.c1] [] (.mp 0) [(0,dl (cO (aI (bq a))))] 1:=bC.le (d127 a (by omega)) ⟨a.BJ,ac⟩
theorem d161(r:ar)(a:gp)(hb:16*a.size<=100000000000):Al.Fn prog 270 [.iv (cG r),ag a.c] [] (Pu fun ok=> ∃occ,GH r a occ∧ok=b8 (fun occ=>bf occ) (fun _=>fun _=>jp) a.body occ):=by
 have e0:=kh a;have f0:Lit.an a.body<=a.size:=by unfold gp.size;omega
 refine Al.Fn.le (args:=[.iv (cG r),ag a.c1]) ?_ ⟨.refl _,a.wY,ac⟩;refine mc ab func270 I (by decide) ntmps270 I (by simp) ?_;refine gA I (zq [] (M4 a (by omega)) ?_);refine gA I ?_
 let d:List Nat->List ae:=fun vs=>(vs.reverse.filterMap fun j=>((aI (bq a))[j]?).bind fun x=>if dU (aF r) x.1 then dl x.1 else io)
 refine ig (aI (bq a)) (fun vs=>⟨[(0,.iv (cG r)),(3,.ptr 0 0),(5,.mp 1),(10,.ptr 3 0)],[(0,dl (az a.c1)),(1,dl (cO (aI (d vs)))),(3,dl (.b5 .str yS (aI (bq a)) vs io))],4⟩)
  (fun vs=>(d vs).Nodup∧ ∀x,x∈d vs↔x∈aF r∧ ∃j∈vs,∃y,(aI (bq a))[j]? =dl y∧y.1=x) [] ⟨Us,by simp[d]⟩
  (zW (zK (O4 I eJ I (hI I I (.inl I) I trivial)))) fun vs hJ=>?_
 obtain⟨B,C⟩:=hJ;have g0:(d vs).length<=(bq a).length:=wK B fun x D=>by
  obtain⟨_,j,_,y,h2,rfl⟩:=(C x).1 D;exact td h2
 refine iq I ac (fB I I I I I (by decide) (fun Z=>?_) fun j x D Y=>?_)
 .have b0:GH r a (d vs):=⟨B,fun x=>by
   rw[C];constructor
   .rintro⟨h1,j,h2,y,A,rfl⟩;exact⟨td A,h1⟩
   .rintro⟨h1,h2⟩;refine⟨h2,?_⟩;obtain⟨y,hy,rfl⟩:=UG.1 (((eF (bq a)).2 x).2 h1);obtain⟨j,Y⟩:=UB hy
    exact⟨j,Z j (Tp.1 Y).1,y,Y,rfl⟩⟩
  refine gA I (zq [1] (SN (d vs) a.body (by omega)) ?_);refine iq I ac (iO [1] (.inr I) I ⟨_,⟨d vs,b0,rfl⟩,rfl,rfl,rfl⟩ (zW (zC ac)))
 .have h5:=cx (occ:=aF r) (s:=x.1);have h7:=bO (aF r) x.1;have h8:=bO (d vs) x.1;have h9:=gz (d vs) x.1;have F:x.1∉d vs:=fun h=>by
   obtain⟨_,i,hi,y,h2,A⟩:=(C x.1).1 h;have d0:=(eF (bq a)).1;have:i=j:=by
    have G:=(Tp.1 h2)
    have J:=(Tp.1 D)
    obtain⟨G,a0⟩:=G;obtain⟨J,c0⟩:=J;refine(List.getElem_inj (i:=i) (j:=j) (h₀:=by rw[T2];exact G) (h₁:=by rw[T2];exact J) d0).1 ?_;rw[We,We,a0,c0,A]
   exact Y (this▸hi)
  have u:d (j::vs)=d vs++if dU (aF r) x.1 then[x.1] else[]:=by
   simp only[d,List.reverse_cons,WJ,WT,List.filterMap_nil,D,Wy];congr 1;cases dU (aF r) x.1<;>rfl
  have step:(d (j::vs)).Nodup∧ ∀z,z∈d (j::vs)↔z∈aF r∧ ∃i∈j::vs,∃y,(aI (bq a))[i]? =dl y∧y.1=z:=by
   rw[u];constructor
   .split
    .rw[Va];refine⟨B,UF.2 ⟨Wc,Us⟩,fun p hp q hq e=>?_⟩;rw[TF]at hq;exact F ((e.trans hq)▸hp)
    .rw[T1];exact B
   .intro z;rw[TP,C];constructor
    .rintro(⟨h1,i,h2,A⟩|h1)
     .exact⟨h1,i,TH _ h2,A⟩
     .split at h1
      .rename_i h2;rw[TF]at h1;exact⟨h1▸bP.1 h2,j,TJ,x,D,h1.symm⟩
      .cases h1
    .rintro⟨h1,i,h2,y,A,h4⟩;rcases TQ.1 h2 with rfl|h2
     .rw[D]at A;cases A;exact .inr (by rw[am (bP.2 (h4▸h1))];simp[h4])
     .exact .inl ⟨h1,i,h2,y,A,h4⟩
  refine zJ I I (fun g1=>?_) fun g1=>?_
  .have g1:dU (aF r) x.1=is:=by
    have:=zT g1;rw[h5];simp;omega
   rw[g1,am I]at u;refine gA I ⟨j,x,D,Y,step,[],zW (zK (hM I (by rw[u,dz];rfl) I (hI I I (.inr I) I ac)))⟩
  .have g1:dU (aF r) x.1=jp:=by
    have:=zF g1;rw[h5];simp;omega
   rw[g1,be (by simp),T1]at u;refine gA I ⟨j,x,D,Y,step,[],zW (zK (hM I (by rw[u]) I (hI I I (.inr I) I ac)))⟩
end Go.Proofs.YtbhphmfbligliaaGreatDoor
namespace Go.Proofs.YtbhphmfbligliaaGreatDoor
open Go Go.Al
def mL(s:ae):List UInt8:=s.data.toList
def OM(l:List UInt8):ae:=⟨l.toArray⟩
theorem s9(s:ae):OM (mL s)=s:=by simp[mL,OM]
theorem Jt(l:List UInt8):mL (OM l)=l:=by simp[mL,OM]
def dL(l:List (List UInt8)):List (List UInt8):=l.mergeSort fun x y=>kw (x<=y)
def dP(l:List ae):List ae:=(dL (l.map mL)).map OM
def dE:Prop:=
 (∀(d b0 a0:Nat) (j:List (List UInt8)) (w:World),Go.Sort.Holds encStr w d b0 j.toArray->d<w.heap.size->j.length<4611686018427387904->
  Calls Tryz.prog 173 #[.slice (dl ⟨d,b0,io⟩) j.length a0] w fun e u=>
   e= .returned (.tuple #[])∧ ∃n os,u=Go.Sort.grow (Go.Sort.putRow encStr (Go.Sort.ahead w n) d b0 (j.mergeSort fun x y=>kw (x<=y)).toArray) os)∧
 (∀(p:Option Addr) (a0:Nat) (w:World),Calls Tryz.prog 173 #[.slice p 0 a0] w fun e u=>e= .returned (.tuple #[])∧u=w)
theorem jI(l:List ae):(dP l).length=l.length:=by simp[dP,dL]
theorem nM:dP []=[]:=by simp[dP,dL]
theorem qW(l:List ae):(dP l).map mL=dL (l.map mL):=by
 unfold dP;rw[Ve];have:mL ∘ OM=id:=by funext x;exact Jt x
 rw[this,List.map_id]
theorem zt{l:List ae}{k:Nat}{e:List PV}(h:(l.map fun x=>(cB x).map PV.iv)[k]? =dl e): ∃s,l[k]? =dl s∧e=[pS s]:=by
 rw[Tu,Tw]at h;obtain⟨s,d,rfl⟩:=h;exact⟨s,d,rfl⟩
theorem Hw(hS:dE)(l:List ae)(hl:l.length<=1000000000000):bC Tryz.prog 173 [.sl 0 0 l.length 1] [aX 1 l cB] (.aZ []) [(0,dl (aX 1 (dP l) cB))] 1:=by
 refine⟨bQ Tryz.func173 I (by decide),fun M N w vs hr G hv=>?_⟩;obtain⟨v,rfl⟩: ∃v,vs=[v]:=by
  cases vs with
  |nil=>cases G
  |cons v r=>cases r with
   |nil=>exact⟨v,rfl⟩
   |cons a b=>simp at G
 have A:=hv 0 _ I;simp only[List.getD_cons_zero]at A;have m0:=hr.obj 0 _ I;cases l with
 |nil=>
  have e0:v= .slice io 0 0:=by
   generalize hq:PV.sl 0 0 ([]:List ae).length 1=q at A;cases A with
   |sl i off len sz a0 h h0 Y hc he=>cases hq;simp at h0
   |lK i sz h=>rfl
   |_=>cases hq
  subst e0;refine(hS.2 io 0 w).mono ?_;rintro e w' ⟨rfl,rfl⟩;refine⟨_,M,N,.aZ [],_,1,rfl,⟨rfl,rfl,rfl⟩,?_,?_,.aZ [] #[] I (by simp)⟩
  .rw[nM];exact .refl _ _ _ _ _
  .rw[nM];exact hr
 |cons s0 r=>
  generalize hL:s0::r=L at*
  have c0:0<L.length:=by rw[<-hL];simp
  obtain⟨a0,e0⟩: ∃a0,v= .slice (dl ⟨N.aC 0,0,io⟩) L.length a0:=by
   generalize hn:L.length=n at A c0;generalize hq:PV.sl 0 0 n 1=q at A;cases A with
   |sl i off len sz a0 h h0 Y hc he=>cases hq;exact⟨a0,by simp⟩
   |lK i sz h=>cases hq;omega
   |_=>cases hq
  subst e0;rcases m0 with h0|⟨_,c,T,Y,h2,h3,h4,h5⟩
  .rw[<-hL]at h0;cases h0
  rw[T2]at h3;have g0:(aX 1 L cB).real=is:=by rw[<-hL];rfl
  have d0: ∀j s,L[j]? =dl s->c.getD j undef= .string s:=fun j s F=>by
   have:=h5 j [pS s] 0 (pS s) (by rw[Tu,F];rfl) I;rw[VP,Vd]at this;generalize c.getD j undef=y at this ⊢;cases this with
   |iv _ _ h=>cases h;rfl
  have l0:=hr.lt (i:=0) I g0;have k0:(L.map mL).length=L.length:=by simp
  have hH:Go.Sort.Holds encStr w (N.aC 0) 0 (L.map mL).toArray:=by
   intro j F;have i0:j<L.length:=by simpa using F
   have f0:j<c.size:=by omega
   have:=d0 j L[j] (Ts i0);rw[Tl,Uq f0,UI]at this;constructor
   .simp only[World.cell?,Y,TL,Option.isSome_none,VK,if_false];rw[Uq f0,this,getElem!_pos _ j F];simp[encStr,mL]
   .simp[World.frozen?,Y]
  have B:=hS.1 (N.aC 0) 0 a0 (L.map mL) w hH l0 (by omega);rw[k0]at B;refine B.mono ?_;rintro e w' ⟨rfl,n,os,rfl⟩
  let J:=Go.Sort.putRow encStr (Go.Sort.ahead w n) (N.aC 0) 0 ((L.map mL).mergeSort fun x y=>kw (x<=y)).toArray
  have Z:(dL (L.map mL)).length=L.length:=by simp[dL]
  have u:Ext M N (· <1) (dD 0 [aX 1 L cB]) w M N (· <1) ((0,dl (aX 1 (dP L) cB))::dD 0 [aX 1 L cB]) J∧Rel M N (· <1) ((0,dl (aX 1 (dP L) cB))::dD 0 [aX 1 L cB]) J:=by
   refine hr.write (i:=0) (o0:=aX 1 L cB) I g0 J (aX 1 (dP L) cB) I I I ?_ ?_ ?_ (Wz _ _)
   .show(Go.Sort.putRow _ _ _ _ _).heap.size=_;rw[Go.Sort.size_putRow];rfl
   .intro b hb;show((w.heap.modify (N.aC 0) _))[b]? =_;rw[T8,be (fun e=>hb e.symm)]
   .refine .inr ⟨Nat.one_pos,Go.Sort.putCells encStr 0 (dL (L.map mL)).toArray c,T,?_,?_,?_,?_,?_⟩
    .show((w.heap.modify (N.aC 0) _))[N.aC 0]? =_;rw[T8,am I,Y];rfl
    .simp[Go.Sort.putCells,h2]
    .rw[T2,jI];simp[Go.Sort.putCells];omega
    .intro k e he;obtain⟨s,_,rfl⟩:=zt he;rfl
    .intro k e j p he hp;obtain⟨s,hs,rfl⟩:=zt he;have F:j=0:=by
      rcases j with _|j
      .rfl
      .simp at hp
     subst F;cases hp;have hk:k<L.length:=by
      have:=(Tp.1 hs).1;rwa[jI]at this
     have n0:(dL (L.map mL))[k]? =dl (mL s):=by
      rw[<-qW,Tu,hs];rfl
     have j0:k<c.size:=by omega
     have b0:(Go.Sort.putCells encStr 0 (dL (L.map mL)).toArray c).getD (k*1+0) undef= .string s:=by
      rw[VP,Vd,Tl];simp only[Go.Sort.putCells,Array.getElem?_mapIdx];rw[Uq j0,Ut,UI,am ⟨TB _,by simp[Z];omega⟩,V4];rw[getElem!_pos _ k (by simp[Z];omega)];have h9:(dL (L.map mL)).toArray[k]'(by simp[Z];omega)=mL s:=by
       rw[List.getElem_toArray];exact(Tp.1 n0).2
      rw[h9];simp[encStr,mL]
     rw[b0];exact .iv _ _ (.v _)
  have C:Rel M N (· <1) ((0,dl (aX 1 (dP L) cB))::dD 0 [aX 1 L cB]) (Go.Sort.grow J os):=u.2.more fun b hb=>by
   show(J.heap++os)[b]? =_;rw[T6 hb]
  have p0:J.heap.size=w.heap.size:=by
   show(Go.Sort.putRow _ _ _ _ _).heap.size=_;rw[Go.Sort.size_putRow];rfl
  have d: ∀i o,AH.get [(0,dl (aX 1 (dP L) cB))] i=dl o->AH.get ((0,dl (aX 1 (dP L) cB))::dD 0 [aX 1 L cB]) i=dl o:=by
   intro i o h;rw[AH.ax]at h ⊢;split at h
   .rename_i h6;rw[am h6];exact h
   .simp[AH.get]at h
  refine⟨_,M,N,.aZ [],_,1,rfl,⟨rfl,rfl,rfl⟩,⟨u.1.os,u.1.tape,⟨u.1.output.out,u.1.output.drawn⟩,?_,?_,.refl _,fun b c Y h2=>(nomatch (Y.symm.trans h2)),.refl _ _,fun _ h=>h,fun i o D=>u.1.dY i o (d i o D)⟩,?_,.aZ [] #[] I (by simp)⟩
  .show w.heap.size<=(Go.Sort.grow J os).heap.size;rw[Go.Sort.size_grow,p0];omega
  .intro b hb hn;have h7:=u.1.eU b hb hn;show(J.heap++os)[b]? =_;rw[T6 (by omega)];exact h7
  .exact⟨C.ey,fun i o D=>C.used i o (d i o D),fun i o D=>C.dI i o (d i o D),fun i o D=>C.obj i o (d i o D),fun i j o p D F=>C.inj i j o p (d i o D) (d j p F)⟩
end Go.Proofs.YtbhphmfbligliaaGreatDoor
namespace Go.Proofs.YtbhphmfbligliaaGreatDoor
open Go Go.Al Go.Proofs.Tryz
theorem fH(l:List (List UInt8)):(dL l).Perm l:=List.mergeSort_perm _ _
theorem iy(l:List (List UInt8)):(dL l).Pairwise (fun x y=>kw (x<=y)=is):=
 List.pairwise_mergeSort (le:=fun x y=>kw (x<=y)) (fun a b c d j=>by simp only[decide_eq_true_eq] at*;exact List.le_trans d j)
  (fun a b=>by
   rcases List.le_total a b with h|h
   .simp[h]
   .simp[h]) l
theorem DS{a b:List (List UInt8)}(h:a.Perm b)(ha:a.Pairwise (fun x y=>kw (x<=y)=is))(hb:b.Pairwise (fun x y=>kw (x<=y)=is)):a=b:=
 List.Perm.eq_of_pairwise (fun x y _ _ d j=>WA (zT d) (zT j)) ha hb h
theorem oS{a b:List ae}(h:a.Perm b):dP a=dP b:=by
 unfold dP;rw[DS (((fH _).trans (h.map mL)).trans (fH _).symm) (iy _) (iy _)]
theorem lq{x:ae}{l:List ae}:x∈dP l↔x∈l:=by
 unfold dP;rw[UG];constructor
 .rintro⟨b,hb,rfl⟩;obtain⟨s,d,rfl⟩:=UG.1 ((fH _).mem_iff.1 hb);rwa[s9]
 .intro h;exact⟨mL x,(fH _).mem_iff.2 (UG.2 ⟨x,h,rfl⟩),s9 x⟩
def gK(m:NM)(vs:List Nat):List ae:=vs.reverse.filterMap fun j=>(m[j]?).map (·.1)
theorem kF(m:NM)(vs:List Nat)(j:Nat)(x:(KC.str).K×Int)(h:m[j]? =dl x):gK m (j::vs)=gK m vs++ [x.1]:=by
 simp[gK,WJ,h]
theorem uK(m:NM)(vs:List Nat):(gK m vs).length<=vs.length:=by
 unfold gK;have:=List.length_filterMap_le (fun j=>(m[j]?).map (·.1)) vs.reverse;rwa[Vt]at this
theorem yv(m:NM):(Uk m.length).filterMap (fun j=>(m[j]?).map (·.1))=m.map (·.1):=by
 apply VD;intro k;have h:(Uk m.length).filterMap (fun j=>(m[j]?).map (·.1))=(Uk m.length).map (fun j=>(m.getD j (Tx,0)).1):=by
  rw[show(fun j=>(m.getD j (Tx,0)).1)=fun j=>(m.getD j (Tx,0)).1 from rfl];have key: ∀l:List Nat,(∀j∈l,j<m.length)->l.filterMap (fun j=>(m[j]?).map (·.1))=l.map (fun j=>(m.getD j (Tx,0)).1):=by
   intro l
   induction l with
   |nil=>simp
   |cons j r ih=>
    intro h;have d:=h j TJ;rw[WT,Ts d,ih fun k u=>h k (TH _ u)];simp[d]
  exact key _ fun j d=>Vx.1 d
 rw[h];by_cases u:k<m.length
 .simp[u]
 .simp[u]
theorem jT(m:NM)(vs:List Nat)(hn:vs.Nodup)(hb: ∀j∈vs,j<m.length)(d: ∀j,j<m.length->j∈vs):(gK m vs).Perm (m.map (·.1)):=by
 rw[<-yv];unfold gK;apply List.Perm.filterMap;refine(List.reverse_perm _).trans ?_;rw[List.perm_ext_iff_of_nodup hn List.nodup_range];intro j;rw[Vx];exact⟨hb j,d j⟩
def fA(m:NM):List ae:=dP (m.map (·.1))
theorem uy{vs:List Nat}{n:Nat}(h:vs.Nodup)(hb: ∀j∈vs,j<n):vs.length<=n:=by
 have:=U7 h (l₂:=Uk n) fun j d=>Vx.2 (hb j d);rwa[List.length_range]at this
theorem p7(σ:Nat->Nat)(l:List ae):(l.map fun x=>(cB x).map PV.iv).map (db σ)=l.map fun x=>(cB x).map PV.iv:=by
 simp only[Ve,cB,TD,TX];rfl
theorem c51(F:dE)(m:NM)(hm:m.length<=100000000):Pure prog 177 [.iv (wM m)] (.iv (strs (fA m))):=by
 refine ai ab func177 I (by decide) ntmps177 I (by simp) I ?_;refine gA I ?_;refine jC 3 1 I ?_;refine ig m (fun vs=>⟨[(3,.sl 2 0 (gK m vs).length 1),(6,.ptr 0 0)],[(0,dl (.b5 .str yS m vs io)),(2,dl (aX 1 (gK m vs) cB))],3⟩) (fun vs=>vs.Nodup∧ ∀j∈vs,j<m.length) [1] ⟨Us,by simp⟩
  (zW (hI I I (.inl I) I (zS trivial))) fun vs D=>?_
 obtain⟨d,u⟩:=D;have Y:=uy d u;have J:=uK m vs;refine iq I ac (fB I I I I I (by decide) (fun y=>?_) fun j x A B=>?_)
 .refine iq I ac (aE [2] (Hw F (gK m vs) (by omega)) I I I I I (congrArg (fun o=> [dl o]) (bL _).symm) I I ?_);refine iq I ac (eA (.inr I) I I ((p7 _ _).trans (by rw[fA,oS (jT m vs d u y)])) ?_);rw[fA,jI,<-(jT m vs d u y).length_eq]
 .have C:=kF m vs j x A;refine gA I ⟨j,x,A,B,⟨UF.2 ⟨B,d⟩,fun i G=>(TQ.1 G).elim (fun h=>h▸(Tp.1 A).1) (u i)⟩,[4],zM ⟨.row (by rw[C,Tn];rfl),rfl,bi ac⟩ (hI I I (.inr I) I (hR I (by rw[C,TA];rfl) I ac))⟩
theorem Kd{P:Program}{k:FuncId}{kc:KC}{V:Type}{e:V->IV}{z:V}{D:Value}{F:PV->V}{m:List (kc.K×V)}{y:IV}(h:Al.Pure P k [.iv (.eP kc e z D m)] (.iv y)):bC P k [.mp 0] [.map kc e z D F m] (.iv y) [] 1:=by
 refine⟨h.1,fun M N w vs Z Y hv=>?_⟩;obtain⟨u,B,G,h3,J⟩:=qC (n:=1) Z (i:=0) I;have A:Rel u N (· <0) (dD 0 []) w:=⟨G.ey,fun i o d=>(nomatch d),fun i o d=>(nomatch d),fun i o d=>(nomatch d),fun i j o p d=>(nomatch d)⟩
 refine(h.2 u N w vs A Y fun j p C=>?_).mono ?_
 .cases j with
  |zero=>
   cases C;have:=J _ _ (hv 0 _ I);generalize vs.getD 0 undef=x at this ⊢;cases this with
   |iv _ _ h=>exact .iv _ _ h
  |succ j=>cases C
 .rintro _ w' ⟨x,M',N',r,h',n',rfl,⟨rfl,rfl,rfl⟩,hx,hrr,hvr⟩;refine⟨x,M',N,.iv y,[],1,rfl,⟨rfl,rfl,rfl⟩,?_,⟨hrr.ey,fun i o d=>(nomatch d),fun i o d=>(nomatch d),fun i o d=>(nomatch d),fun i j o p d=>(nomatch d)⟩,?_⟩
  .refine⟨hx.os,hx.tape,hx.output,hx.size,fun b hb hn=>hx.eU b hb fun i o d=>(nomatch d),B.mz.trans hx.mz,fun b c g1 g2=>?_,.refl _ _,fun _ h=>h,fun i o d=>(nomatch d)⟩;cases g3:u b with
   |some c'=>exact B.eT b c' g1 g3
   |none=>
    rcases hx.eT b c g3 g2 with g4|⟨i,o,g4,_⟩
    .exact .inl g4
    .exact nomatch g4
  .cases hvr with
   |iv _ _ h=>exact .iv _ _ h
theorem SQ(d:dE)(m:NM)(hm:m.length<=100000000):bC prog 177 [.mp 0] [cO m] (.iv (strs (fA m))) [] 1:=Kd (c51 d m hm)
theorem sF: ∀{m:NM} (_:(m.map (·.1)).Nodup) (k:ae),mD .str m k=m.filter fun x=>!kw (x.1=k)
 | [],_,k=>rfl
 |(a,b)::r,h,k=>by
  rw[TD,UF]at h;by_cases d:a=k
  .subst d;have:r.filter (fun x=>!kw (x.1=a))=r:=WU.2 fun x j=>by
    have:x.1≠a:=fun e=>h.1 (e▸UG.2 ⟨x,j,rfl⟩);simp[this]
   simp[mD,this]
  .have u:=sF h.2 k;simp[mD,d,u]
theorem vO{m:NM}{p:(KC.str).K×Int->Bool}(h:(m.map (·.1)).Nodup):((m.filter p).map (·.1)).Nodup:=h.sublist ((Wh).map _)
theorem nA: ∀(ks:List ae) {m:NM} (_:(m.map (·.1)).Nodup),ks.foldl (fun m k=>mD .str m k) m=m.filter fun x=>!dU ks x.1
 | [],m,h=>(WU.2 fun _ _=>rfl).symm
 |k::r,m,h=>by
  rw[Uc,sF h,nA r (vO h),List.filter_filter];congr 1
  funext x
  by_cases d:x.1=k
  .simp[dU,d]
  .have: ¬k=x.1:=fun e=>d e.symm
   simp[dU,d,this]
def lv(r:ar)(a:gp):NM:=(aI (bq a)).filter fun x=>!dU (aF r) x.1
theorem lk(l:List ae):(aI l).length<=l.length:=by
 have h:=eF l;have:=wK h.1 fun x d=>(h.2 x).1 d;rwa[T2]at this
theorem d79(r:ar)(a:gp)(hb:a.size<=100000000000):bC prog 258 [.iv (cG r),ag a.c] [] (.mp 0) [(0,dl (cO (lv r a)))] 1:=by
 refine bC.le (args:=[.iv (cG r),ag a.c1]) ?_ ⟨.refl _,a.wY,ac⟩;have G:=kh a;have A:=(eF (bq a)).1;refine aq ab func258 I (by decide) ntmps258 I (by simp) ?_;refine gA I (zq [] (M4 a (by omega)) ?_);refine gA I ?_;refine ig (aI (aF r)) (fun vs=>⟨[(5,.mp 1),(13,.ptr 2 0)],[(1,dl (cO ((gK (aI (aF r)) vs).foldl (fun m k=>mD .str m k) (aI (bq a))))),(2,dl (.b5 .str yS (aI (aF r)) vs io))],3⟩)
  (fun vs=>vs.Nodup∧ ∀j∈vs,j<(aI (aF r)).length) [] ⟨Us,by simp⟩
  (zW (zC (hI I I (.inl I) I trivial))) fun vs F=>?_
 obtain⟨d,u⟩:=F;refine iq I ac (fB I I I I I (by decide) (fun y=>?_) fun j x C D=>?_)
 .have B:(gK (aI (aF r)) vs).foldl (fun m k=>mD .str m k) (aI (bq a))=lv r a:=by
   rw[nA _ A];unfold lv;congr 1
   funext x
   congr 1;rw[UN,bP,bP,(jT _ vs d u y).mem_iff];exact(eF (aF r)).2 x.1
  rw[B];refine gA I (zD [1] I (zW (zC ac)))
 .have Y:=kF (aI (aF r)) vs j x C;refine gA I ⟨j,x,C,D,⟨UF.2 ⟨D,d⟩,fun i J=>(TQ.1 J).elim (fun h=>h▸(Tp.1 C).1) (u i)⟩,[],zW (hM I (by rw[Y,List.foldl_append];rfl) I (hI I I (.inr I) I ac))⟩
theorem sG{may:List ae->Expr->Bool}{more:List ae->gp->Bool}{body:List Lit}: ∀(n:Nat) (occ:List ae),(dt may more body n occ).length<=occ.length+n
 |0,occ=>Tv _
 |n+1,occ=>by
  cases h:b6 (may occ) (more occ) occ body with
  |none=>rw[fc h];omega
  |some v=>
   rw[fb h];have:=sG (may:=may) (more:=more) (body:=body) n (occ++ [v]);rw[Tn,Ui]at this;omega
theorem sJ{may:List ae->Expr->Bool}{more:List ae->gp->Bool}{body:List Lit}(occ:List ae):(b8 may more body occ).length<=occ.length+4*Lit.an body+1:=by
 have d:=sG (may:=may) (more:=more) (body:=body) (3*body.length+1) (occ++body.flatMap bB);have j:=fK body;have u:=Lit.aA body;rw[Tn]at d;unfold b8;omega
theorem BI(r:ar):(b3 r).length<=4*Lit.an r.body+1:=by
 have:=sJ (may:=fun d=>bf d) (more:=fun d=>mW (aF r) d) (body:=r.body) [];rw[UJ]at this;unfold b3;omega
def ov(r:ar):List ae:=b8 (fun d=>cC d) (fun _=>fun _=>jp) r.body []
theorem Ed(r:ar):(ov r).length<=4*Lit.an r.body+1:=by
 have:=sJ (may:=fun d=>cC d) (more:=fun _=>fun _=>jp) (body:=r.body) [];rw[UJ]at this;unfold ov;omega
theorem RF(r:ar)(hb:8*Lit.an r.body<=100000000000):bC prog 174 [.iv (lits r.body),.mp 0,.cN (.func 175) [] [.ptr 1 0],.cN (.func 176) [] []] [.fx,.cells [.mp 0]] (.aZ []) [(0,dl (cO (aI (ov r)))),(1,dl (.cells [.mp 0]))] 2:=
 bC.MS (SM [] r.body (by simp;omega)) ⟨ta,.refl _,ac⟩
theorem c33(d:dE)(r:ar)(hb:r.size<=10000000):Pure prog 141 [ag r.c] (.iv (strs (fA (aI (ov r))))):=by
 have j:=lk (ov r);have u:=Ed r;have x:Lit.an r.body<=r.size:=V0 _ _;refine ai ab func141 I (by decide) ntmps141 I (by simp) I ?_;refine gA I ?_;refine gA I (zq [1,2] (RF r (by omega)) ?_);refine gA I (zq [1] (SQ d (aI (ov r)) (by omega)) ?_);exact zU I
def yr(r:ar)(lit:Int):List ae:=if lit<0∨(r.body.length:Int)<=lit∨ ¬(au r lit).kind=4 then[] else fA (lv r (au r lit).agg)
theorem pz{P:Program}{k:FuncId}{args:List PV}{os:List AO}{r:PV}{h:AH}{n0:Nat}(hc:lJ P k){n:Nat}(hn: ∃sz d,PV.iv (.bU sz n d)∈args)(hh:n<=maxLen->bC P k args os r h n0):bC P k args os r h n0:=G8 hc hn hh
def pn{α:Type}(p:α->Bool)(l:List α):Int:=match l.findIdx? p with
 |some i=>i
 |none=> -1
theorem fW{α:Type}{p:α->Bool}{l:List α}(h:l.any p=jp):pn p l= -1:=by
 have:l.findIdx? p=io:=by
  rw[Wt];intro x d;have:=Uo.1 h x d;simpa using this
 rw[pn,this]
theorem ia{α:Type}[Inhabited α]{p:α->Bool}{l:List α}{i:Nat}(h:(l.take i).any p=jp)(hi:i<l.length)(hp:p (l.getD i co)=is):pn p l=i:=by
 have:l.findIdx? p=dl i:=by
  rw[V3];have d:l.getD i co=l[i]:=by simp[hi]
  refine⟨hi,d▸hp,fun j u=>?_⟩;have:=Uo.1 h l[j] (List.mem_iff_getElem?.2 ⟨j,by rw[T4,am u,Ts (by omega)]⟩);simpa using this
 rw[pn,this]
theorem ib{α:Type}(p:α->Bool)(l:List α):kw (pn p l>=0)=l.any p:=by
 unfold pn;cases h:l.findIdx? p with
 |none=>
  have:=Wt.1 h;have:l.any p=jp:=Uo.2 fun x u=>by simp[this x u]
  rw[this];rfl
 |some i=>
  obtain⟨d,j,_⟩:=V3.1 h;rw[UO.2 ⟨_,Uw d,j⟩];simp
theorem EZ{a b:Int}(h:a=b):pI a=pI b:=by rw[h]
theorem S4(x:Int):Pure prog 209 [pI x] (pB (!kw (x=1)&&!kw (x=2))):=by
 refine ai ab func209 I (by decide) ntmps209 I (by simp) I ?_
 repeat' (first|(refine gA I (zI (fun _=>?_) (fun _=>?_)))|(refine gA I (zL (.of_eq ?_))))
 all_goals(refine(mS ?_:pB _=pB _);simp_all)
theorem S3(t:Term):Pure prog 261 [ag t.c] (pB (kw (t.kind=3))):=by
 refine ai ab func261 I (by decide) ntmps261 I (by simp) I ?_;exact zU I
theorem S2(t:Lit):Pure prog 262 [ag t.c] (pB (kw (t.kind=4))):=by
 refine ai ab func262 I (by decide) ntmps262 I (by simp) I ?_;exact zU I
def ch(v:ei):Int:=if v.kind=1 then(if v.sym=Tx∧ -2147483647<=v.num∧v.num<=2147483647 then 0 else 20) else if v.kind=2 then(if v.num=0∧v.sym.size<=64 then 0 else 20) else 20
theorem RT(v:ei):Pure prog 242 [ag v.c] (pI (ch v)):=by
 refine ai ab func242 I (by decide) ntmps242 I (by simp) I ?_
 repeat' (first|(refine gA I (zI (fun _=>?_) (fun _=>?_)))|(refine gA I (zL (.of_eq ?_))))
 all_goals(refine(EZ ?_:pI _=pI _);have hE:(⟨#[]⟩:ByteArray)=Tx:=rfl;simp_all [ch];try omega)
def Decl.z:Decl:=⟨Tx,[],⟨0,0⟩⟩
def Dr(d:Decl):IV:= .agg d.c
def Hh:Value:= .agg #[.string Tx,.slice io 0 0,.int .i64 0,.int .i64 0]
def intOf:List IV->Int
 | [.v (.int .i64 n)]=>n
 |_=>0
def SG:PV->Decl
 | .agg [.iv (.v (.string s)),.iv (.bU _ n el),.iv (.v (.int _ a)),.iv (.v (.int _ b))]=>⟨s,(Uk n).map fun k=>intOf (el k),⟨a,b⟩⟩
 |_=>Decl.z
abbrev DM:=List ((KC.str).K×Decl)
abbrev MX(m:DM):AO:= .map .str Dr Decl.z Hh SG m
abbrev RD(m:DM):IV:= .eP .str Dr Decl.z Hh m
theorem MW(d:Decl):SG (ag d.c)=d:=by
 show(⟨d.name,(Uk d.types.length).map fun k=>intOf (eO (d.types.getD k co)),⟨d.at_.line,d.at_.H2⟩⟩:Decl)=d;have:(Uk d.types.length).map (fun k=>intOf (eO (d.types.getD k co)))=d.types:=by
  apply VD;intro k;by_cases j:k<d.types.length
  .simp[j,intOf,eO]
  .simp[j]
 rw[this]
theorem Hg: ∀M,IR M (Dr Decl.z) Hh:=fun M=>by
 refine .agg _ _ I fun j p d=>?_
 match j,d with
 |0,d=>cases d;exact .v _
 |1,d=>cases d;exact .fN _ _ _ _
 |2,d=>cases d;exact .v _
 |3,d=>cases d;exact .v _
 |j+4,d=>simp[Decl.c]at d
theorem agI(l:List IV):aj (ag l) (.iv (.agg l)):=by
 intro M N U x h;generalize d:ag l=q at h;cases h with
 |agg cs ys hl hr=>
  cases d;refine .iv _ _ (.agg _ _ (by simpa using hl) fun j p u=>?_);have:=hr j (.iv p) (by rw[Tu,u];rfl);generalize ys.getD j undef=y at this ⊢;cases this with
  |iv _ _ h=>exact h
 |_=>cases d
theorem Hj(d:Decl):aj (ag d.c) (.iv (Dr (SG (ag d.c)))):=by rw[MW];exact agI _
def c9(m:DM)(d:Decl):DM:=if cZ .str m d.name=is then m else cJ .str m d.name d
def p9(p:Prog):DM:=p.aw.foldl c9 []
abbrev cU(p:Prog):IV:=RD (p9 p)
theorem qh{V:Type}: ∀(m:List ((KC.str).K×V)) (k:ae) (v:V),(cJ .str m k v).length<=m.length+1
 | [],_,_=>by simp[cJ]
 |(a,b)::r,k,v=>by
  have:=qh r k v;simp only[cJ];split
  .simp
  .simp only[TO];omega
theorem d50(p:Prog)(hb:p.aw.length<=1000000000000):bC prog 157 [ag p.c] [] (.mp 0) [(0,dl (MX (p9 p)))] 1:=by
 refine aq ab func157 I (by decide) ntmps157 I (by simp) ?_;refine gA I ?_;refine aG 0 p.aw.length (TB _) (fun i=>⟨[(3,.mp 1),(13,.iv (bp 4 p.aw Decl.c)),(14,pI p.aw.length),(15,pI i)],[(1,dl (MX ((p.aw.take i).foldl c9 [])))],2⟩) (fun _=>True) [] ac
  (zW (O4 I Hg I trivial)) fun i x _=>?_
 refine zJ I I (fun d=>?_) fun d=>?_
 .have d:i<p.aw.length:=by simpa using d
  have u:=iG (g:=c9) (b:=[]) d;refine zJ I I (fun j=>?_) fun j=>?_
  .have j:cZ .str ((p.aw.take i).foldl c9 []) (p.aw.getD i co).name=jp:=by simpa using j
   rw[c9,be (by rw[j];simp)]at u;refine iq I ?_ ?_
   .repeat' (first|exact ac|exact rfl|exact Hj _|exact aj.refl _|apply Tq)
    all_goals omega
   exact⟨d,ac,[],zW (hM I (by rw[u,<-MW (p.aw.getD i co)];rfl) I ac)⟩
  .have j:cZ .str ((p.aw.take i).foldl c9 []) (p.aw.getD i co).name=is:=by simpa using j
   rw[c9,am j]at u;refine gA I ⟨d,ac,[],zW (hM I (by rw[u]) I ac)⟩
 .have d:p.aw.length<=i:=by simpa using d
  rw[TE d];refine gA I (zD [1] I (zW (zC ac)))
def vv(p:Prog)(a:Atom):Bool:=!cZ .str (p9 p) a.rel
def eK(p:Prog)(s:ae):Decl:=cK .str (p9 p) s Decl.z
def yM(p:Prog)(a:Atom):Bool:=!kw ((a.ak.length:Int)=((eK p a.rel).types.length:Int))
theorem d113(p:Prog)(a:Atom):bC prog 217 [ag a.c,.ptr 0 0] [.cells [.iv (cU p)]] (pB (vv p a)) [(0,dl (.cells [.iv (cU p)]))] 1:=by
 refine aq ab func217 I (by decide) ntmps217 I (by simp) ?_;refine gA I (zD [] I (zM ⟨.of_eq I,rfl,ac⟩ (zO ac)))
theorem d115(p:Prog)(a:Atom):bC prog 219 [ag a.c,.ptr 0 0] [.cells [.iv (cU p)]] (pB (yM p a)) [(0,dl (.cells [.iv (cU p)]))] 1:=by
 refine aq ab func219 I (by decide) ntmps219 I (by simp) ?_;refine gA I (zD [] I (zM ⟨.of_eq I,rfl,ac⟩ (zO ac)))
theorem Sz(l:List Int):bC prog 256 [.iv (bp 1 l eO),.cN (.func 209) [] []] [] (pI (pn (fun x=>!kw (x=1)&&!kw (x=2)) l)) [] 0:=by
 refine pz (bQ func256 I (by decide)) ⟨_,_,TJ⟩ fun u=>?_;simp only[maxLen]at u;refine aq ab func256 I (by decide) ntmps256 I (by simp) ?_;refine gA I ?_
 refine aG 0 l.length (TB _) (fun i=>⟨[(0,.iv (bp 1 l eO)),(1,.cN (.func 209) [] []),(7,pI l.length),(8,pI i)],[],0⟩) (fun i=>(l.take i).any (fun x=>!kw (x=1)&&!kw (x=2))=jp) [] (by simp)
  (zW trivial) fun i A y=>?_
 refine zJ I I (fun d=>?_) fun d=>?_
 .have d:i<l.length:=by simpa using d
  refine gA I (zp (S4 (l.getD i co)) ?_);refine zJ I I (fun j=>?_) fun j=>?_
  .have j:(fun x=>!kw (x=1)&&!kw (x=2)) (l.getD i co)=is:=j;rw[ia y d j];refine gA I (zD [] I (zW ac))
  .have j:(fun x=>!kw (x=1)&&!kw (x=2)) (l.getD i co)=jp:=j;refine gA I ⟨d,(c7 y d).2 j,[],zW ac⟩
 .have d:l.length<=i:=by simpa using d
  rw[fW (any_none y d)];refine gA I (zD [] I (zW ac))
theorem d153(l:List Int):bC prog 208 [.iv (bp 1 l eO),.cN (.func 209) [] []] [] (pB (l.any (fun x=>!kw (x=1)&&!kw (x=2)))) [] 0:=by
 refine aq ab func208 I (by decide) ntmps208 I (by simp) ?_;refine gA I (zq [] (Sz l) ?_);refine gA I (zD [] I (zM ⟨.of_eq (mS (ib _ l)),rfl,ac⟩ ac))
theorem Sy(l:List Term):bC prog 301 [.iv (bp 5 l Term.c),.cN (.func 261) [] []] [] (pI (pn (fun x:Term=>kw (x.kind=3)) l)) [] 0:=by
 refine pz (bQ func301 I (by decide)) ⟨_,_,TJ⟩ fun u=>?_;simp only[maxLen]at u;refine aq ab func301 I (by decide) ntmps301 I (by simp) ?_;refine gA I ?_
 refine aG 0 l.length (TB _) (fun i=>⟨[(0,.iv (bp 5 l Term.c)),(1,.cN (.func 261) [] []),(7,pI l.length),(8,pI i)],[],0⟩) (fun i=>(l.take i).any (fun x:Term=>kw (x.kind=3))=jp) [] (by simp)
  (zW trivial) fun i A y=>?_
 refine zJ I I (fun d=>?_) fun d=>?_
 .have d:i<l.length:=by simpa using d
  refine gA I (zp (S3 (l.getD i co)) ?_);refine zJ I I (fun j=>?_) fun j=>?_
  .have j:(fun x:Term=>kw (x.kind=3)) (l.getD i co)=is:=j;rw[ia y d j];refine gA I (zD [] I (zW ac))
  .have j:(fun x:Term=>kw (x.kind=3)) (l.getD i co)=jp:=j;refine gA I ⟨d,(c7 y d).2 j,[],zW ac⟩
 .have d:l.length<=i:=by simpa using d
  rw[fW (any_none y d)];refine gA I (zD [] I (zW ac))
theorem d157(l:List Term):bC prog 260 [.iv (bp 5 l Term.c),.cN (.func 261) [] []] [] (pB (l.any (fun x:Term=>kw (x.kind=3)))) [] 0:=by
 refine aq ab func260 I (by decide) ntmps260 I (by simp) ?_;refine gA I (zq [] (Sy l) ?_);refine gA I (zD [] I (zM ⟨.of_eq (mS (ib _ l)),rfl,ac⟩ ac))
theorem Sx(l:List Lit):bC prog 230 [.iv (bp 30 l Lit.c),.cN (.func 262) [] []] [] (pI (pn (fun x:Lit=>kw (x.kind=4)) l)) [] 0:=by
 refine pz (bQ func230 I (by decide)) ⟨_,_,TJ⟩ fun u=>?_;simp only[maxLen]at u;refine aq ab func230 I (by decide) ntmps230 I (by simp) ?_;refine gA I ?_
 refine aG 0 l.length (TB _) (fun i=>⟨[(0,.iv (bp 30 l Lit.c)),(1,.cN (.func 262) [] []),(7,pI l.length),(8,pI i)],[],0⟩) (fun i=>(l.take i).any (fun x:Lit=>kw (x.kind=4))=jp) [] (by simp)
  (zW trivial) fun i A y=>?_
 refine zJ I I (fun d=>?_) fun d=>?_
 .have d:i<l.length:=by simpa using d
  refine gA I (zp (S2 (l.getD i co)) ?_);refine zJ I I (fun j=>?_) fun j=>?_
  .have j:(fun x:Lit=>kw (x.kind=4)) (l.getD i co)=is:=j;rw[ia y d j];refine gA I (zD [] I (zW ac))
  .have j:(fun x:Lit=>kw (x.kind=4)) (l.getD i co)=jp:=j;refine gA I ⟨d,(c7 y d).2 j,[],zW ac⟩
 .have d:l.length<=i:=by simpa using d
  rw[fW (any_none y d)];refine gA I (zD [] I (zW ac))
theorem d159(l:List Lit):bC prog 179 [.iv (bp 30 l Lit.c),.cN (.func 262) [] []] [] (pB (l.any (fun x:Lit=>kw (x.kind=4)))) [] 0:=by
 refine aq ab func179 I (by decide) ntmps179 I (by simp) ?_;refine gA I (zq [] (Sx l) ?_);refine gA I (zD [] I (zM ⟨.of_eq (mS (ib _ l)),rfl,ac⟩ ac))
theorem Rt(p:Prog)(l:List Atom):bC prog 259 [.iv (bp 2 l Atom.c),.cN (.func 217) [] [.ptr 0 0]] [.cells [.iv (cU p)]] (pI (pn (fun x:Atom=>vv p x) l)) [(0,dl (.cells [.iv (cU p)]))] 1:=by
 refine pz (bQ func259 I (by decide)) ⟨_,_,TJ⟩ fun u=>?_;simp only[maxLen]at u;refine aq ab func259 I (by decide) ntmps259 I (by simp) ?_;refine gA I ?_
 refine aG 0 l.length (TB _) (fun i=>⟨[(0,.iv (bp 2 l Atom.c)),(1,.cN (.func 217) [] [.ptr 0 0]),(7,pI l.length),(8,pI i)],[(0,dl (.cells [.iv (cU p)]))],1⟩) (fun i=>(l.take i).any (fun x:Atom=>vv p x)=jp) [] (by simp)
  (zW (zO trivial)) fun i A y=>?_
 refine zJ I I (fun d=>?_) fun d=>?_
 .have d:i<l.length:=by simpa using d
  refine gA I (zq [0] (d113 p (l.getD i co)) ?_);refine zJ I I (fun j=>?_) fun j=>?_
  .have j:(fun x:Atom=>vv p x) (l.getD i co)=is:=j;rw[ia y d j];refine gA I (zD [] I (zW (zO ac)))
  .have j:(fun x:Atom=>vv p x) (l.getD i co)=jp:=j;refine gA I ⟨d,(c7 y d).2 j,[],zW (zO ac)⟩
 .have d:l.length<=i:=by simpa using d
  rw[fW (any_none y d)];refine gA I (zD [] I (zW (zO ac)))
theorem RO(p:Prog)(l:List Atom):bC prog 215 [.iv (bp 2 l Atom.c),.cN (.func 217) [] [.ptr 0 0]] [.cells [.iv (cU p)]] (pB (l.any (fun x:Atom=>vv p x))) [(0,dl (.cells [.iv (cU p)]))] 1:=by
 refine aq ab func215 I (by decide) ntmps215 I (by simp) ?_;refine gA I (zq [0] (Rt p l) ?_);refine gA I (zD [] I (zM ⟨.of_eq (mS (ib _ l)),rfl,ac⟩ (zO ac)))
theorem Rs(p:Prog)(l:List Atom):bC prog 259 [.iv (bp 2 l Atom.c),.cN (.func 219) [] [.ptr 0 0]] [.cells [.iv (cU p)]] (pI (pn (fun x:Atom=>yM p x) l)) [(0,dl (.cells [.iv (cU p)]))] 1:=by
 refine pz (bQ func259 I (by decide)) ⟨_,_,TJ⟩ fun u=>?_;simp only[maxLen]at u;refine aq ab func259 I (by decide) ntmps259 I (by simp) ?_;refine gA I ?_
 refine aG 0 l.length (TB _) (fun i=>⟨[(0,.iv (bp 2 l Atom.c)),(1,.cN (.func 219) [] [.ptr 0 0]),(7,pI l.length),(8,pI i)],[(0,dl (.cells [.iv (cU p)]))],1⟩) (fun i=>(l.take i).any (fun x:Atom=>yM p x)=jp) [] (by simp)
  (zW (zO trivial)) fun i A y=>?_
 refine zJ I I (fun d=>?_) fun d=>?_
 .have d:i<l.length:=by simpa using d
  refine gA I (zq [0] (d115 p (l.getD i co)) ?_);refine zJ I I (fun j=>?_) fun j=>?_
  .have j:(fun x:Atom=>yM p x) (l.getD i co)=is:=j;rw[ia y d j];refine gA I (zD [] I (zW (zO ac)))
  .have j:(fun x:Atom=>yM p x) (l.getD i co)=jp:=j;refine gA I ⟨d,(c7 y d).2 j,[],zW (zO ac)⟩
 .have d:l.length<=i:=by simpa using d
  rw[fW (any_none y d)];refine gA I (zD [] I (zW (zO ac)))
theorem RK(p:Prog)(l:List Atom):bC prog 215 [.iv (bp 2 l Atom.c),.cN (.func 219) [] [.ptr 0 0]] [.cells [.iv (cU p)]] (pB (l.any (fun x:Atom=>yM p x))) [(0,dl (.cells [.iv (cU p)]))] 1:=by
 refine aq ab func215 I (by decide) ntmps215 I (by simp) ?_;refine gA I (zq [0] (Rs p l) ?_);refine gA I (zD [] I (zM ⟨.of_eq (mS (ib _ l)),rfl,ac⟩ (zO ac)))
def cT(l:Lit):List Atom:=if l.kind=1∨l.kind=2 then[l.atom] else[]
theorem o8: ∀l:List Lit,(l.flatMap cT).length<=l.length
 | []=>by simp
 |x::r=>by
  have d:=o8 r;have j:(cT x).length<=1:=by unfold cT;split<;>simp
  simp only[T9,Tn,TO];omega
def yt(r:ar)(lit:Int):List Lit:=if(au r lit).kind=4 then(au r lit).ay else[au r lit]
def fz(r:ar)(lit:Int):List Atom:=if lit<0 then[r.head] else(yt r lit).flatMap cT
theorem Kr(r:ar)(lit:Int)(h:0<=lit):jG (.bU 30 ((lit+1).toNat-lit.toNat) (fun j=>(r.body.getD (lit.toNat+j) co).c)) (lits [au r lit]):=by
 have e:(lit+1).toNat-lit.toNat=1:=by omega
 rw[e]
 exact .bU I (fun j d=>by
  have:j=0:=by omega
  subst this;rfl)
theorem RV(r:ar)(lit:Int)(h1:lit<r.body.length)(hb:r.size<=1000000000000):Pure prog 216 [ag r.c,pI lit] (.iv (bp 2 (fz r lit) Atom.c)):=by
 have Z:=Lit.aA r.body;have h0:Lit.an r.body<=r.size:=V0 _ _;refine ai ab func216 I (by decide) ntmps216 I (by simp) I ?_;refine zJ I I (fun B=>?_) fun B=>?_
 .have B:lit<0:=by simpa using B
  refine gA I (eA (by first|exact .inr I|exact .inl I) I I (by rw[fz,am B];rfl) (by rw[fz,am B];rfl))
 have B: ¬lit<0:=by simpa using B
 have hk:lit.toNat<r.body.length:=by omega
 have J:=Lit.cf r.body lit.toNat hk;have b0:=(au r lit).size_eq;have c0:=Lit.aA (au r lit).ay;have a0:(au r lit).size<=Lit.an r.body:=J;refine zJ I I (fun C=>?_) fun C=>?_
 .have C:(au r lit).kind=4:=by simpa[au]using C
  have A:fz r lit=(au r lit).ay.flatMap cT:=by rw[fz,be B,yt,am C]
  refine gA I ?_;refine jC 6 2 I ?_;refine aG 0 ((au r lit).ay).length (TB _) (fun i=>⟨[(6,.sl 2 0 ((((au r lit).ay).take i).flatMap cT).length 2),(30,.iv (lits ((au r lit).ay))),(31,pI ((au r lit).ay).length),(32,pI i)],[(2,dl (aX 2 ((((au r lit).ay).take i).flatMap cT) Atom.c))],3⟩) (fun _=>True) [1] ac
   (zM (bi ⟨.iv (nh _),rfl,bi (bi trivial)⟩) (zS trivial)) fun i hi _=>?_
  have G:=o8 (((au r lit).ay).take i);have Y:(((au r lit).ay).take i).length<=((au r lit).ay).length:=by rw[TY];exact Xb _ _
  have F:((au r lit).ay).length<=1000000000000:=by first|omega|(rw[Ui];omega)
  refine zJ I I (fun j=>?_) fun j=>?_
  .have j:i<((au r lit).ay).length:=zN j;have d:=bx (f:=cT) j;have u:((((au r lit).ay).getD i co).kind=1∨(((au r lit).ay).getD i co).kind=2)->(((au r lit).ay).take (i+1)).flatMap cT=(((au r lit).ay).take i).flatMap cT++ [(((au r lit).ay).getD i co).atom]:=fun h=>by rw[d,cT,am h]
   have D: ¬((((au r lit).ay).getD i co).kind=1∨(((au r lit).ay).getD i co).kind=2)->(((au r lit).ay).take (i+1)).flatMap cT=(((au r lit).ay).take i).flatMap cT:=fun h=>by rw[d,cT,be h,T1]
   refine zJ I I (fun x=>?_) fun x=>?_
   .have x: ¬(((au r lit).ay).getD i co).kind=1:=by simpa using x
    refine zJ I I (fun y=>?_) fun y=>?_
    .have y:(((au r lit).ay).getD i co).kind=2:=by simpa using y
     have d:=u (.inr y);refine gA I ⟨j,ac,[5],zM ⟨.row (by rw[d,Tn];rfl),rfl,bi (bi (bi ac))⟩ (hR I (by rw[d,TA];rfl) I ac)⟩
    .have y: ¬(((au r lit).ay).getD i co).kind=2:=by simpa using y
     have d:=D (fun h=>h.elim x y);refine gA I ⟨j,ac,[2],zM ⟨.row (by rw[d]),rfl,bi (bi (bi ac))⟩ (hR I (by rw[d]) I ac)⟩
   .have x:(((au r lit).ay).getD i co).kind=1:=by simpa using x
    have d:=u (.inl x);refine gA I ⟨j,ac,[5],zM ⟨.row (by rw[d,Tn];rfl),rfl,bi (bi (bi ac))⟩ (hR I (by rw[d,TA];rfl) I ac)⟩
  .have j:((au r lit).ay).length<=i:=zG j;rw[TE j] at*
   refine gA I (eA (by first|exact .inr I|exact .inl I) I I (by rw[A]) (by rw[A]))
 .have C: ¬(au r lit).kind=4:=by simpa[au]using C
  have A:fz r lit=[au r lit].flatMap cT:=by rw[fz,be B,yt,be C]
  refine gA I ?_;refine jC 6 2 I ?_;refine aG 0 ([au r lit]).length (TB _) (fun i=>⟨[(6,.sl 2 0 ((([au r lit]).take i).flatMap cT).length 2),(30,.iv (lits ([au r lit]))),(31,pI ([au r lit]).length),(32,pI i)],[(2,dl (aX 2 ((([au r lit]).take i).flatMap cT) Atom.c))],3⟩) (fun _=>True) [1] ac
   (zM (bi ⟨.iv (Kr r lit (by omega)),rfl,.of_eq (EZ (by simp only[Ui];omega)),rfl,bi trivial⟩) (zS trivial)) fun i hi _=>?_
  have G:=o8 (([au r lit]).take i);have Y:(([au r lit]).take i).length<=([au r lit]).length:=by rw[TY];exact Xb _ _
  have F:([au r lit]).length<=1000000000000:=by first|omega|(rw[Ui];omega)
  refine zJ I I (fun j=>?_) fun j=>?_
  .have j:i<([au r lit]).length:=zN j;have d:=bx (f:=cT) j;have u:((([au r lit]).getD i co).kind=1∨(([au r lit]).getD i co).kind=2)->(([au r lit]).take (i+1)).flatMap cT=(([au r lit]).take i).flatMap cT++ [(([au r lit]).getD i co).atom]:=fun h=>by rw[d,cT,am h]
   have D: ¬((([au r lit]).getD i co).kind=1∨(([au r lit]).getD i co).kind=2)->(([au r lit]).take (i+1)).flatMap cT=(([au r lit]).take i).flatMap cT:=fun h=>by rw[d,cT,be h,T1]
   refine zJ I I (fun x=>?_) fun x=>?_
   .have x: ¬(([au r lit]).getD i co).kind=1:=by simpa using x
    refine zJ I I (fun y=>?_) fun y=>?_
    .have y:(([au r lit]).getD i co).kind=2:=by simpa using y
     have d:=u (.inr y);refine gA I ⟨j,ac,[5],zM ⟨.row (by rw[d,Tn];rfl),rfl,bi (bi (bi ac))⟩ (hR I (by rw[d,TA];rfl) I ac)⟩
    .have y: ¬(([au r lit]).getD i co).kind=2:=by simpa using y
     have d:=D (fun h=>h.elim x y);refine gA I ⟨j,ac,[2],zM ⟨.row (by rw[d]),rfl,bi (bi (bi ac))⟩ (hR I (by rw[d]) I ac)⟩
   .have x:(([au r lit]).getD i co).kind=1:=by simpa using x
    have d:=u (.inl x);refine gA I ⟨j,ac,[5],zM ⟨.row (by rw[d,Tn];rfl),rfl,bi (bi (bi ac))⟩ (hR I (by rw[d,TA];rfl) I ac)⟩
  .have j:([au r lit]).length<=i:=zG j;rw[TE j] at*
   refine gA I (eA (by first|exact .inr I|exact .inl I) I I (by rw[A]) (by rw[A]))
theorem d110(p:Prog)(r:ar)(lit:Int)(h1:lit<r.body.length)(hb:r.size<=1000000000000):bC prog 214 [pI lit,.ptr 0 0,.ptr 1 0] [az r.c,.cells [.iv (cU p)]] (pB ((fz r lit).any fun x=>vv p x)) [(0,dl (az r.c)),(1,dl (.cells [.iv (cU p)]))] 2:=by
 refine aq ab func214 I (by decide) ntmps214 I (by simp) ?_;refine gA I (zp (RV r lit h1 hb) ?_);refine gA I (zq [1] (RO p (fz r lit)) ?_);refine gA I (zD [] I (zW (zK (zO ac))))
theorem d114(p:Prog)(r:ar)(lit:Int)(h1:lit<r.body.length)(hb:r.size<=1000000000000):bC prog 218 [pI lit,.ptr 0 0,.ptr 1 0] [az r.c,.cells [.iv (cU p)]] (pB ((fz r lit).any fun x=>yM p x)) [(0,dl (az r.c)),(1,dl (.cells [.iv (cU p)]))] 2:=by
 refine aq ab func218 I (by decide) ntmps218 I (by simp) ?_;refine gA I (zp (RV r lit h1 hb) ?_);refine gA I (zq [1] (RK p (fz r lit)) ?_);refine gA I (zD [] I (zW (zK (zO ac))))
def lQ(r:ar)(lit:Int):Bool:=if lit<0 then r.head.ak.any fun x=>kw (x.kind=3) else if(au r lit).kind=4 then((au r lit).ay.any fun x=>kw (x.kind=4))||dU (bq (au r lit).agg) (au r lit).bI else jp
theorem S8(r:ar)(lit:Int)(h1:lit<r.body.length)(hb:r.size<=100000000):Pure prog 221 [ag r.c,pI lit] (pB (lQ r lit)):=by
 have F:=Lit.aA r.body;have Z:Lit.an r.body<=r.size:=V0 _ _;refine ai ab func221 I (by decide) ntmps221 I (by simp) I ?_;refine zJ I I (fun d=>?_) fun d=>?_
 .have d:lit<0:=by simpa using d
  refine gA I (zq [] (d157 r.head.ak) ?_);refine gA I (zL (.of_eq ?_));rw[lQ,am d];rfl
 have d: ¬lit<0:=by simpa using d
 have G:lit.toNat<r.body.length:=by omega
 have B:=Lit.cf r.body lit.toNat G;have C:=(au r lit).kg;have J:(au r lit).size<=Lit.an r.body:=B;have D:=kh (au r lit).agg;refine zJ I I (fun j=>?_) fun j=>?_
 .have j: ¬(au r lit).kind=4:=by simpa[au]using j
  refine gA I (zL (.of_eq ?_));rw[lQ,be d,be j]
 have j:(au r lit).kind=4:=by simpa[au]using j
 refine gA I (aE [] (bC.le (aa:=[.iv (vi (au r lit).ay),.cN (.func 262) [] []]) (d159 (au r lit).ay) ⟨.iv (nh _),.refl _,ac⟩) I I I I I I I I ?_);refine zE I I (fun u=>?_) fun u=>?_
 .have u:((au r lit).ay.any fun x=>kw (x.kind=4))=jp:=u;have A:=bO (bq (au r lit).agg) (au r lit).bI;have y:=cx (occ:=bq (au r lit).agg) (s:=(au r lit).bI);refine gA I (zd [] (d127 (au r lit).agg (by omega)) ?_);refine gA I (zL (.of_eq ?_));refine(mS ?_:pB (kw (cK .str (aI (bq (au r lit).agg)) (au r lit).bI 0>0))=_);rw[lQ,be d,am j,u,y,A,Vn];by_cases Y:pC (bq (au r lit).agg) (au r lit).bI=0<;>simp[Y];omega
 .have u:((au r lit).ay.any fun x=>kw (x.kind=4))=is:=u;refine gA I (zL (.of_eq ?_));rw[lQ,be d,am j,u];rfl
theorem d116(r:ar)(lit:Int)(h1:lit<r.body.length)(hb:r.size<=100000000):bC prog 220 [pI lit,.ptr 0 0] [az r.c] (pB (lQ r lit)) [(0,dl (az r.c))] 1:=by
 refine aq ab func220 I (by decide) ntmps220 I (by simp) ?_;refine gA I (zp (S8 r lit h1 hb) ?_);refine gA I (zD [] I (zW (zK ac)))
def rm(r:ar)(lit:Int):Pos:=if lit<0 then r.at_ else(au r lit).at
theorem Hx(r:ar)(lit:Int)(h1:lit<r.body.length):Pure prog 225 [ag r.c,pI lit] (ag [iI (rm r lit).line,iI (rm r lit).H2]):=by
 refine ai ab func225 I (by decide) ntmps225 I (by simp) I ?_;refine zJ I I (fun d=>?_) fun d=>?_
 .have d:lit<0:=by simpa using d
  refine gA I (zL (.of_eq ?_));rw[rm,am d];rfl
 have d: ¬lit<0:=by simpa using d
 refine gA I (zL (.of_eq ?_));rw[rm,be d];rfl
def lY(r:ar)(l:Lit):Nat:=if l.kind=4 then(lv r l.agg).length else 0
def FB(r:ar):Nat:=r.body.foldl (fun n l=>n+lY r l) (aI (aF r)).length
theorem wR(r:ar)(l:Lit):lY r l<=l.size:=by
 unfold lY;split
 .have d:(lv r l.agg).length<=(aI (bq l.agg)).length:=UY _ _;have j:=lk (bq l.agg);have u:=kh l.agg;have x:=l.kg;omega
 .omega
theorem zh(r:ar): ∀(l:List Lit) (n:Nat),l.foldl (fun n l=>n+lY r l) n<=n+Lit.an l
 | [],n=>by simp
 |x::t,n=>by
  have d:=zh r t (n+lY r x);have j:=wR r x;simp only[Uc,Lit.an];omega
theorem S9(r:ar)(hb:r.size<=100000000):Pure prog 213 [.iv (cG r)] (pI (FB r)):=by
 have A:=Lit.aA r.body;have G:Lit.an r.body<=r.size:=V0 _ _;have Y:=yg r;have B:=lk (aF r);refine ai ab func213 I (by decide) ntmps213 I (by simp) I ?_;refine gA I ?_;refine aG 0 r.body.length (TB _) (fun i=>⟨[(0,.iv (cG r)),(3,pI (((r.body.take i).foldl (fun n l=>n+lY r l) (aI (aF r)).length:Nat))),(15,.iv (lits r.body)),(16,pI r.body.length),(17,pI i)],[],0⟩) (fun _=>True) [] ac
  (zW trivial) fun i J _=>?_
 have C:=zh r (r.body.take i) (aI (aF r)).length;have D:=Lit.lP r.body i;refine zJ I I (fun d=>?_) fun d=>?_
 .have d:i<r.body.length:=by simpa using d
  have u:=iG (g:=fun n l=>n+lY r l) (b:=(aI (aF r)).length) d;have F:=Lit.cf r.body i d;have y:=(r.body.getD i co).kg;have x:=wR r (r.body.getD i co);refine zJ I I (fun j=>?_) fun j=>?_
  .have j:(r.body.getD i co).kind=4:=by simpa using j
   rw[lY,am j]at u x;refine gA I (zq [] (d79 r (r.body.getD i co).agg (by omega)) ?_);refine gA I ⟨d,ac,[],zM (bi ⟨.of_eq (EZ (by rw[u];rfl)),rfl,bi (bi (bi ac))⟩) ac⟩
  .have j: ¬(r.body.getD i co).kind=4:=by simpa using j
   rw[lY,be j]at u;refine gA I ⟨d,ac,[],zM (bi ⟨.of_eq (EZ (by rw[u];rfl)),rfl,bi (bi (bi ac))⟩) ac⟩
 .have d:r.body.length<=i:=by simpa using d
  refine gA I (zL (.of_eq ?_));rw[TE d];rfl
section
section
variable {may:List ae->Expr->Bool} {more:List ae->gp->Bool} {body:List Lit}
theorem sH: ∀(n:Nat) (occ:List ae),cR (bT body) occ<n->b6 (may (dt may more body n occ)) (more (dt may more body n occ)) (dt may more body n occ) body=io
 |0,occ,h=>by omega
 |n+1,occ,h=>by
  cases hv:b6 (may occ) (more occ) occ body with
  |none=>rw[fc hv];exact hv
  |some v=>
   rw[fb hv];refine sH n _ ?_;obtain⟨g1,g2⟩:=j4 hv;have j:=qs g1 g2;have d:cR (bT body) (occ++ [v])=cR (bT body) (gQ occ v):=by
    unfold cR;congr 2
    funext x
    congr 1;rw[UN,bP,bP,dN,TP,TF]
   omega
theorem sK(occ:List ae):b6 (may (b8 may more body occ)) (more (b8 may more body occ)) (b8 may more body occ) body=io:=by
 refine sH _ _ ?_;have d:=qt (bT body) (occ++body.flatMap bB);have j:=jK body;omega
theorem nC: ∀(n:Nat) (occ:List ae),∀x∈occ,x∈dt may more body n occ
 |0,occ,x,h=>h
 |n+1,occ,x,h=>by
  cases hv:b6 (may occ) (more occ) occ body with
  |none=>rw[fc hv];exact h
  |some v=>rw[fb hv];exact nC n _ x (Ue _ h)
theorem nq{m1:Expr->Bool}{m2:gp->Bool}{occ:List ae}: ∀{l:List Lit},b6 m1 m2 occ l=io-> ∀x∈l,lV m1 m2 occ x=io
 | [],_,x,hx=>by cases hx
 |y::r,h,x,hx=>by
  simp only[b6]at h;split at h
  .cases h
  .rename_i d;rcases TQ.1 hx with rfl|hx
   .exact d
   .exact nq h x hx
theorem sB{m1:Expr->Bool}{m2:gp->Bool}{occ:List ae}{v:ae}: ∀{l:List Lit},b6 m1 m2 occ l=dl v-> ∃x∈l,lV m1 m2 occ x=dl v
 | [],h=>by cases h
 |y::r,h=>by
  simp only[b6]at h;split at h
  .rename_i w j;exact⟨y,TJ,j.trans h⟩
  .obtain⟨x,u,d⟩:=sB h;exact⟨x,TH _ u,d⟩
variable (hmay: ∀a b:List ae,(∀x∈a,x∈b)-> ∀e,may a e=is->may b e=is) (hmore: ∀a b:List ae,(∀x∈a,x∈b)-> ∀e,more a e=is->more b e=is)
include hmay hmore
theorem CW{occ C:List ae}(d: ∀x∈occ,x∈C){l:Lit}{v:ae}(h:lV (may occ) (more occ) occ l=dl v)(hC:lV (may C) (more C) C l=io):v∈C:=by
 have F: ∀y,y∉C->dU C y=jp:=fun y Y=>fv.2 Y;have hnew:=(uA h).2;refine UU fun G=>?_;unfold lV at h hC;by_cases j:(gl (may occ) occ l).2=is
 .rw[am j]at h;simp only[Tm]at h;have D:(gl (may C) C l).2=is:=by
   unfold gl at j h ⊢;split at j
   .cases j
   .rename_i J;rw[be J]at h ⊢;split at j
    .rename_i A;rw[am A]at h;have B:l.left.var=v:=h;rw[am ⟨A.1,by rw[B];exact F v G,hmay occ C d _ A.2.2⟩]
    .rename_i A;rw[be A]at h;split at j
     .rename_i u;rw[am u]at h;have B:l.right.var=v:=h;split
      .rfl
      .rw[am ⟨u.1,by rw[B];exact F v G,hmay occ C d _ u.2.2⟩]
     .cases j
  rw[am D]at hC;cases hC
 .rw[be j]at h;split at h
  .rename_i u;simp only[Tm]at h;split at hC
   .cases hC
   .rw[am ⟨u.1,by rw[h];exact F v G,hmore occ C d _ u.2.2⟩]at hC;cases hC
  .cases h
theorem nB{C:List ae}(hC:b6 (may C) (more C) C body=io): ∀(n:Nat) (occ:List ae),(∀x∈occ,x∈C)-> ∀x∈dt may more body n occ,x∈C
 |0,occ,h,x,hx=>h x hx
 |n+1,occ,h,x,hx=>by
  cases hv:b6 (may occ) (more occ) occ body with
  |none=>rw[fc hv]at hx;exact h x hx
  |some v=>
   rw[fb hv]at hx;refine nB hC n _ (fun y hy=>?_) x hx;rcases TP.1 hy with hy|hy
   .exact h y hy
   .rw[TF]at hy;subst hy;obtain⟨l,j,d⟩:=sB hv;exact CW hmay hmore h d (nq hC l j)
theorem sI{j d:List ae}(h: ∀x∈j,x∈d): ∀x∈b8 may more body j,x∈b8 may more body d:=by
 refine nB hmay hmore (sK d) _ _ fun x hx=>?_;refine nC _ _ x ?_;rcases TP.1 hx with hx|hx
 .exact Ue _ (h x hx)
 .exact UQ _ hx
end
theorem qL(a b:List ae)(h: ∀x∈a,x∈b)(e:Expr)(hc:bf a e=is):bf b e=is:=by
 unfold bf at*
 rw[T7] at*
 exact fun x d=>bP.2 (h x (bP.1 (hc x d)))
theorem z7(a b:List ae)(h: ∀x∈a,x∈b)(e:Expr)(hc:cC a e=is):cC b e=is:=by
 unfold cC at*
 cases hk:kw (e.kind=2) with
 |true=>simp
 |false=>
  rw[hk,Vn,TZ]at hc;rw[Vn,TZ];exact⟨hc.1,bP.2 (h _ (bP.1 hc.2))⟩
def BP(r:ar)(a:gp):List ae:=((aI (bq a)).map (·.1)).filter fun x=>dU (aF r) x
def Bx(r:ar)(a:gp):List ae:=b8 (fun d=>bf d) (fun _=>fun _=>jp) a.body (BP r a)
theorem Kf{r:ar}{a:gp}{occ:List ae}(h:GH r a occ)(s:ae):dU (b8 (fun occ=>bf occ) (fun _=>fun _=>jp) a.body occ) s=dU (Bx r a) s:=by
 have j: ∀x,x∈BP r a↔x∈occ:=fun x=>by
  unfold BP;rw[Ub,(eF (bq a)).2 x,bP,h.2 x]
 rw[UN,bP,bP];exact⟨sI (more:=fun _=>fun _=>jp) qL (fun _ _ _ _ h=>h) (fun x d=>(j x).2 d) s,sI (more:=fun _=>fun _=>jp) qL (fun _ _ _ _ h=>h) (fun x d=>(j x).1 d) s⟩
def uE(r:ar)(m:NM):Bool:=m.any fun x=>!dU (b3 r) x.1
theorem mX{r:ar}{m:NM}(h: ∀j,j<m.length-> ∀x,m[j]? =dl x->dU (b3 r) x.1=is):uE r m=jp:=by
 refine Uo.2 fun x u=>?_;obtain⟨j,d⟩:=UB u;rw[h j (Tp.1 d).1 x d];simp
theorem pe{r:ar}{m:NM}{j:Nat}{x:(KC.str).K×Int}(h:m[j]? =dl x)(d:dU (b3 r) x.1=jp):uE r m=is:=
 UO.2 ⟨x,Uv h,by rw[d];rfl⟩
def lx(r:ar)(a:gp):NM:=(aI (bq a)).filter fun x=>!dU ((lv r a).map (·.1)) x.1
def kN(r:ar)(lit:Int):Bool:=
 if lit<0 then uE r (aI (cW r.head))
 else if(au r lit).kind=4 then(lv r (au r lit).agg).any (fun x=>!dU (Bx r (au r lit).agg) x.1)||uE r (vg (lx r (au r lit).agg) (au r lit).bI)
 else uE r (aI (cY (au r lit)))
theorem SI(a:Atom)(hb:a.ak.length<=100000000000):bC prog 228 [.mp 0,ag a.c] [.fx] (.aZ []) [(0,dl (cO (aI (cW a))))] 1:=
 bC.MS (d88 [] a (by simp;omega)) ⟨ta,ac⟩
theorem SH(l:Lit)(hb:l.size<=100000000000):bC prog 257 [.mp 0,ag l.c] [.fx] (.aZ []) [(0,dl (cO (aI (cY l))))] 1:=
 bC.MS (d89 l [] (by simp;omega)) ⟨ta,ac⟩
theorem wT(f:ae->Bool)(s:ae): ∀(m:NM),cK .str (m.filter fun x=>f x.1) s 0=if f s=is then cK .str m s 0 else 0
 | []=>by simp[cK]
 |(a,b)::r=>by
  have d:=wT f s r;cases hf:f a with
  |true=>
   rw[List.filter_cons_of_pos (by exact hf)];simp only[cK];split
   .rename_i h;subst h;rw[am hf]
   .exact d
  |false=>
   rw[List.filter_cons_of_neg (by simp[hf]),d];simp only[cK];split
   .rename_i h;split
    .rename_i j;subst j;rw[hf]at h;cases h
    .rfl
   .rfl
theorem Kp(r:ar)(a:gp)(s:ae):0<=cK .str (lx r a) s 0∧cK .str (lx r a) s 0<=pC (bq a) s:=by
 have d:=bO (bq a) s;have j:=wT (fun x=>!dU ((lv r a).map (·.1)) x) s (aI (bq a));unfold lx;rw[j,d];split<;>omega
set_option maxHeartbeats 2000000 in
theorem S6(r:ar)(lit:Int)(hl:lit<r.body.length)(hb:r.size<=10000000):Pure prog 224 [.iv (cG r),pI lit] (pB (kN r lit)):=by
 have s0:=Lit.aA r.body;have h0:Lit.an r.body<=r.size:=V0 _ _;have p0:r.head.ak.length<=r.size:=Wz _ _;have x0:=BI r;refine ai ab func224 I (by decide) ntmps224 I (by simp) I ?_;refine gA I (zq [] (d73 r (by omega)) ?_);refine zJ I I (fun D=>?_) fun D=>?_
 .have D:lit<0:=by simpa using D
  refine gA I (zq [1] (SI r.head (by omega)) ?_);refine gA I ?_;have e0:(aI (cW r.head)).length<=1000000000000:=by have:=lk (cW r.head);have:=jg r.head;omega
  refine ig (aI (cW r.head)) (fun vs=>⟨[(5,.mp 0),(76,.ptr 2 0)],[(0,dl (cO (aI (b3 r)))),(2,dl (.b5 .str yS (aI (cW r.head)) vs io))],3⟩) (fun vs=> ∀j∈vs,∀x,(aI (cW r.head))[j]? =dl x->dU (b3 r) x.1=is) [] (by simp)
   (zW (zC (hI I I (.inl I) I trivial))) fun vs F=>?_
  refine iq I ac (fB I I I I I (by decide) (fun u=>?_) fun j x d B=>?_)
  .refine gA I (zL (.of_eq ?_));refine(mS ?_:pB jp=_);rw[kN,am D,mX fun j B x d=>F j (u j B) x d]
  .have Z:=bO (b3 r) x.1;have A:=cx (occ:=b3 r) (s:=x.1);refine zJ I I (fun g1=>?_) fun g1=>?_
   .have g1:dU (b3 r) x.1=jp:=by
     have:=zT g1;rw[A];simp;omega
    refine gA I (zL (.of_eq ?_));refine(mS ?_:pB is=_);rw[kN,am D,pe d g1]
   .have g1:dU (b3 r) x.1=is:=by
     have:=zF g1;rw[A];simp;omega
    refine gA I ?_
    exact⟨j,x,d,B,fun i hi y C=>by
     rcases TQ.1 hi with rfl|hi
     .rw[d]at C;cases C;exact g1
     .exact F i hi y C,[],zW (zC (hI I I (.inr I) I ac))⟩
 have D: ¬lit<0:=by simpa using D
 have hk:lit.toNat<r.body.length:=by omega
 have o0:=Lit.cf r.body lit.toNat hk;have q0:=(au r lit).kg;have v0:(au r lit).size<=Lit.an r.body:=o0;have r0:=kh (au r lit).agg;have m0:=lZ (au r lit);refine zE I I (fun G=>?_) fun G=>?_
 .have G: ¬(au r lit).kind=4:=by simpa[au]using G
  refine gA I (zq [1] (SH (au r lit) (by omega)) ?_);refine gA I ?_;have e0:(aI (cY (au r lit))).length<=1000000000000:=by have:=lk (cY (au r lit));omega
  refine ig (aI (cY (au r lit))) (fun vs=>⟨[(5,.mp 0),(76,.ptr 3 0)],[(0,dl (cO (aI (b3 r)))),(3,dl (.b5 .str yS (aI (cY (au r lit))) vs io))],4⟩) (fun vs=> ∀j∈vs,∀x,(aI (cY (au r lit)))[j]? =dl x->dU (b3 r) x.1=is) [] (by simp)
   (zW (zC (hI I I (.inl I) I trivial))) fun vs F=>?_
  refine iq I ac (fB I I I I I (by decide) (fun u=>?_) fun j x d B=>?_)
  .refine gA I (zL (.of_eq ?_));refine(mS ?_:pB jp=_);rw[kN,be D,be G,mX fun j B x d=>F j (u j B) x d]
  .have Z:=bO (b3 r) x.1;have A:=cx (occ:=b3 r) (s:=x.1);refine zJ I I (fun g1=>?_) fun g1=>?_
   .have g1:dU (b3 r) x.1=jp:=by
     have:=zT g1;rw[A];simp;omega
    refine gA I (zL (.of_eq ?_));refine(mS ?_:pB is=_);rw[kN,be D,be G,pe d g1]
   .have g1:dU (b3 r) x.1=is:=by
     have:=zF g1;rw[A];simp;omega
    refine gA I ?_
    exact⟨j,x,d,B,fun i hi y C=>by
     rcases TQ.1 hi with rfl|hi
     .rw[d]at C;cases C;exact g1
     .exact F i hi y C,[],zW (zC (hI I I (.inr I) I ac))⟩
 have G:(au r lit).kind=4:=by simpa[au]using G
 refine gA I (oC [] (d161 r (au r lit).agg (by omega)) I I I I I I I fun q h' n' hR=>?_);obtain⟨ok,⟨occ,i0,n0⟩,rfl,rfl,rfl⟩:=hR;have a0: ∀s,dU ok s=dU (Bx r (au r lit).agg) s:=fun s=>by rw[n0];exact Kf i0 s
 refine⟨_,rfl,?_⟩;have z0:=lk (bq (au r lit).agg);have w0:(lv r (au r lit).agg).length<=(aI (bq (au r lit).agg)).length:=UY _ _;have t0:(lx r (au r lit).agg).length<=(aI (bq (au r lit).agg)).length:=UY _ _;have j0:=(eF (bq (au r lit).agg)).1;refine gA I (zq [] (d79 r (au r lit).agg (by omega)) ?_);refine gA I ?_;refine ig (lv r (au r lit).agg) (fun vs=>⟨[(0,.iv (cG r)),(5,.mp 0),(7,.ptr 2 0),(8,.mp 3),(43,.ptr 5 0)],[(0,dl (cO (aI (b3 r)))),(2,dl (az (au r lit).c)),(3,dl (cO (aI ok))),(5,dl (.b5 .str yS (lv r (au r lit).agg) vs io))],6⟩) (fun vs=> ∀j∈vs,∀x,(lv r (au r lit).agg)[j]? =dl x->dU (Bx r (au r lit).agg) x.1=is) [] (by simp)
  (zW (zC (zK (zC (hI I I (.inl I) I trivial))))) fun vs F=>?_
 refine iq I ac (fB I I I I I (by decide) (fun u=>?_) fun j x d B=>?_);rotate_left
 .have Z:=bO ok x.1;have A:=cx (occ:=ok) (s:=x.1);have J:=a0 x.1;refine zJ I I (fun g1=>?_) fun g1=>?_
  .have g1:dU (Bx r (au r lit).agg) x.1=jp:=by
    have:=zT g1;rw[<-J,A];simp;omega
   refine gA I (zL (.of_eq ?_));refine(mS ?_:pB is=_);rw[kN,be D,am G,UO.2 ⟨x,Uv d,by rw[g1];rfl⟩,Wm]
  .have g1:dU (Bx r (au r lit).agg) x.1=is:=by
    have:=zF g1;rw[<-J,A];simp;omega
   refine gA I ?_
   exact⟨j,x,d,B,fun i hi y C=>by
    rcases TQ.1 hi with rfl|hi
    .rw[d]at C;cases C;exact g1
    .exact F i hi y C,[],zW (zC (zK (zC (hI I I (.inr I) I ac))))⟩
 have hA:(lv r (au r lit).agg).any (fun x=>!dU (Bx r (au r lit).agg) x.1)=jp:=Uo.2 fun x d=>by
  obtain⟨j,B⟩:=UB d;rw[F j (u j (Tp.1 B).1) x B];simp
 refine gA I (zq [] (d127 (au r lit).agg (by omega)) ?_);refine gA I (zq [] (d79 r (au r lit).agg (by omega)) ?_);refine gA I ?_;refine ig (lv r (au r lit).agg) (fun vs=>⟨[(5,.mp 0),(6,.mp 6),(7,.ptr 2 0),(59,.ptr 8 0)],[(0,dl (cO (aI (b3 r)))),(2,dl (az (au r lit).c)),(6,dl (cO ((gK (lv r (au r lit).agg) vs).foldl (fun m k=>mD .str m k) (aI (bq (au r lit).agg))))),(8,dl (.b5 .str yS (lv r (au r lit).agg) vs io))],9⟩) (fun vs=>vs.Nodup∧ ∀j∈vs,j<(lv r (au r lit).agg).length) [] ⟨Us,by simp⟩
  (zW (zC (zK (zC (hI I I (.inl I) I trivial))))) fun b0 f0=>?_
 obtain⟨c0,d0⟩:=f0;refine iq I ac (fB I I I I I (by decide) (fun Y=>?_) fun j x d B=>?_);rotate_left
 .have hk:=kF (lv r (au r lit).agg) b0 j x d;refine gA I ⟨j,x,d,B,⟨UF.2 ⟨B,c0⟩,fun i hi=>(TQ.1 hi).elim (fun h=>h▸(Tp.1 d).1) (d0 i)⟩,[],zW (zC (zK (hM I (by rw[hk,List.foldl_append];rfl) I (hI I I (.inr I) I ac))))⟩
 have k0:(gK (lv r (au r lit).agg) b0).foldl (fun m k=>mD .str m k) (aI (bq (au r lit).agg))=lx r (au r lit).agg:=by
  rw[nA _ j0];unfold lx;congr 1
  funext x
  congr 1;rw[UN,bP,bP,(jT _ b0 c0 d0 Y).mem_iff]
 rw[k0];have l0:=Kp r (au r lit).agg (au r lit).bI;have g0:=gz (bq (au r lit).agg) (au r lit).bI;refine gA I ?_;have e0:(vg (lx r (au r lit).agg) (au r lit).bI).length<=1000000000000:=by have:=qh (lx r (au r lit).agg) (au r lit).bI (cK .str (lx r (au r lit).agg) (au r lit).bI 0+1);unfold vg;omega
 refine ig (vg (lx r (au r lit).agg) (au r lit).bI) (fun vs=>⟨[(5,.mp 0),(76,.ptr 9 0)],[(0,dl (cO (aI (b3 r)))),(9,dl (.b5 .str yS (vg (lx r (au r lit).agg) (au r lit).bI) vs io))],10⟩) (fun vs=> ∀j∈vs,∀x,(vg (lx r (au r lit).agg) (au r lit).bI)[j]? =dl x->dU (b3 r) x.1=is) [] (by simp)
  (zW (zC (hI I I (.inl I) I trivial))) fun vs F=>?_
 refine iq I ac (fB I I I I I (by decide) (fun u=>?_) fun j x d B=>?_)
 .refine gA I (zL (.of_eq ?_));refine(mS ?_:pB jp=_);rw[kN,be D,am G,hA,Vn,mX fun j B x d=>F j (u j B) x d]
 .have Z:=bO (b3 r) x.1;have A:=cx (occ:=b3 r) (s:=x.1);refine zJ I I (fun g1=>?_) fun g1=>?_
  .have g1:dU (b3 r) x.1=jp:=by
    have:=zT g1;rw[A];simp;omega
   refine gA I (zL (.of_eq ?_));refine(mS ?_:pB is=_);rw[kN,be D,am G,hA,Vn,pe d g1]
  .have g1:dU (b3 r) x.1=is:=by
    have:=zF g1;rw[A];simp;omega
   refine gA I ?_
   exact⟨j,x,d,B,fun i hi y C=>by
    rcases TQ.1 hi with rfl|hi
    .rw[d]at C;cases C;exact g1
    .exact F i hi y C,[],zW (zC (hI I I (.inr I) I ac))⟩
end
end Go.Proofs.YtbhphmfbligliaaGreatDoor
namespace Go.Proofs.YtbhphmfbligliaaGreatDoor
open Go Go.Al
def Ko(a b:ae):Prop:=mL a<mL b
theorem M6(a b:ae):Op.bytesLess a.toList b.toList=is↔Ko a b:=by
 rw[ByteArray.toList_eq,ByteArray.toList_eq,bytesLess_eq,decide_eq_true_eq];rfl
theorem xL{a b:ae}(h:mL a=mL b):a=b:=by rw[<-s9 a,<-s9 b,h]
theorem wQ{a b c:ae}(h:Ko a b)(k:Ko b c):Ko a c:=List.lt_trans h k
theorem lW(a:ae): ¬Ko a a:=List.lt_irrefl _
theorem Kn{a b:ae}(h: ¬a=b)(k: ¬Ko a b):Ko b a:=by
 refine UU fun d=>h (xL (WA ?_ ?_))
 .exact Xd.1 d
 .exact Xd.1 k
abbrev xD(l:List ae):Prop:=l.Pairwise Ko
theorem uL: ∀{l:List ae} (_:xD l) (s:ae),xD (ins l s)
 | [],_,s=>List.pairwise_singleton _ _
 |x::r,h,s=>by
  obtain⟨u,A⟩:=UW.1 h;simp only[ins];split
  .exact h
  .rename_i j;split
   .rename_i d;have d:=(M6 x s).1 d;refine UW.2 ⟨fun y hy=>?_,uL A s⟩;rcases yn.1 hy with hy|rfl
    .exact u y hy
    .exact d
   .rename_i d;have d:Ko s x:=Kn j fun h=>d ((M6 x s).2 h);refine UW.2 ⟨fun y hy=>?_,h⟩;rcases TQ.1 hy with rfl|hy
    .exact d
    .exact wQ d (u y hy)
theorem pL{l:List ae}(h:xD l)(s:ae):xD (gQ l s):=by rw[v7];exact uL h s
theorem mI: ∀{m l:List ae} (_:xD l),xD (nI l m)
 | [],_,h=>h
 |x::r,_,h=>mI (m:=r) (pL h x)
theorem oR: ∀{a b:List ae},xD a->xD b->(∀x,x∈a↔x∈b)->a=b
 | [],[],_,_,_=>rfl
 | [],y::s,_,_,h=>by have:=(h y).2 TJ;cases this
 |x::r,[],_,_,h=>by have:=(h x).1 TJ;cases this
 |x::r,y::s,ha,hb,h=>by
  obtain⟨u,a2⟩:=UW.1 ha;obtain⟨A,B⟩:=UW.1 hb;have j:x=y:=by
   rcases TQ.1 ((h x).1 TJ) with h1|h1
   .exact h1
   .rcases TQ.1 ((h y).2 TJ) with h2|h2
    .exact h2.symm
    .exact absurd (wQ (A x h1) (u y h2)) (lW _)
  subst j;rw[oR a2 B fun z=>?_];constructor
  .intro d;rcases TQ.1 ((h z).1 (TH _ d)) with rfl|h3
   .exact absurd (u z d) (lW _)
   .exact h3
  .intro d;rcases TQ.1 ((h z).2 (TH _ d)) with rfl|h3
   .exact absurd (A z d) (lW _)
   .exact h3
theorem jv{l:List ae}(h:l.Nodup):xD (dP l):=by
 have u:=iy (l.map mL);rw[<-qW]at u;have C:(dP l).Nodup:=by
  have D:((dP l).map mL).Perm (l.map mL):=by rw[qW];exact fH _
  have j:(l.map mL).Nodup:=List.Pairwise.map mL (fun a b d e=>d (xL e)) h;have:=D.nodup_iff.2 j;exact List.Pairwise.of_map mL (fun a b d e=>d (by rw[e])) this
 have x:(dP l).Pairwise fun a b=>mL a<=mL b:=(List.pairwise_map.1 u).imp fun{a b} d=>zT d;refine(List.Pairwise.and x C).imp fun{a b} d=>?_;obtain⟨y,A⟩:=d;exact UU fun B=>A (xL (WA y (Xd.1 B)))
theorem Jr{m:NM}{l:List ae}(hm:(m.map (·.1)).Nodup)(d:xD l)(h: ∀x,x∈m.map (·.1)↔x∈l):fA m=l:=by
 refine oR (jv hm) d fun x=>?_;rw[fA,lq];exact h x
theorem Fh{occ l:List ae}(d:xD l)(h: ∀x,x∈occ↔x∈l):fA (aI occ)=l:=
 Jr (eF occ).1 d fun x=>((eF occ).2 x).trans (h x)
theorem ox{x:ae}: ∀{l:List Term} {a:List ae},x∈l.foldl Ba a↔x∈a∨x∈l.flatMap fun t=>if t.kind=1 then[t.var] else[]
 | [],a=>by simp
 |t::r,a=>by
  rw[Uc,ox,T9,TP];unfold Ba;split
  .rw[dN,TF,or_assoc]
  .simp
theorem yp{x:ae}{a:Atom}:x∈qN a↔x∈cW a:=by
 unfold qN cW;rw[ox];simp
def Qr(a:List ae×Bool)(l:Lit):List ae×Bool:=if(kG l a.1).2=is then(gQ a.1 (kG l a.1).1,is) else a
def ra(body:List Lit)(k:List ae):List ae×Bool:=body.foldl Qr (k,jp)
def um(body:List Lit):Nat->List ae->List ae
 |0,k=>k
 |n+1,k=>if(ra body k).2=is then um body n (ra body k).1 else(ra body k).1
theorem z6{body:List Lit}{n:Nat}{k:List ae}:um body (n+1) k=if(ra body k).2=is then um body n (ra body k).1 else(ra body k).1:=rfl
def kM(r:ar):List ae:=um r.body (3*r.body.length+1) (r.body.foldl Ec [])
section
section
variable (stp:List ae->Lit->ae×Bool)
def gS(a:List ae×Bool)(l:Lit):List ae×Bool:=if(stp a.1 l).2=is then(gQ a.1 (stp a.1 l).1,is) else a
def gR(body:List Lit)(k:List ae):List ae×Bool:=body.foldl (gS stp) (k,jp)
def gN(body:List Lit):Nat->List ae->List ae
 |0,k=>k
 |n+1,k=>if(gR stp body k).2=is then gN body n (gR stp body k).1 else(gR stp body k).1
variable {stp}
theorem Di: ∀(body:List Lit) (k:List ae),(body.foldl (gS stp) (k,is)).2=is
 | [],k=>rfl
 |l::r,k=>by
  rw[Uc];have: ∃d,gS stp (k,is) l=(d,is):=by
   unfold gS;split
   .exact⟨_,rfl⟩
   .exact⟨_,rfl⟩
  obtain⟨d,j⟩:=this;rw[j];exact Di r d
theorem AD: ∀{body:List Lit} {k:List ae},(body.foldl (gS stp) (k,jp)).2=jp->(body.foldl (gS stp) (k,jp)).1=k∧ ∀l∈body,(stp k l).2=jp
 | [],k,_=>⟨rfl,by simp⟩
 |l::r,k,h=>by
  rw[Uc]at h ⊢;cases hs:(stp k l).2 with
  |true=>
   have:gS stp (k,jp) l=(gQ k (stp k l).1,is):=am hs;rw[this,Di]at h;cases h
  |false=>
   have:gS stp (k,jp) l=(k,jp):=be (by rw[hs];simp);rw[this]at h ⊢;obtain⟨d,j⟩:=AD h
   exact⟨d,fun x hx=>by
    rcases TQ.1 hx with rfl|hx
    .exact hs
    .exact j x hx⟩
theorem BU: ∀(body:List Lit) (a:List ae×Bool),∀x∈a.1,x∈(body.foldl (gS stp) a).1
 | [],a,x,h=>h
 |l::r,a,x,h=>by
  rw[Uc];refine BU r _ x ?_;unfold gS;split
  .exact dN.2 (.inl h)
  .exact h
theorem G7{body:List Lit}: ∀(n:Nat) (k:List ae),∀x∈k,x∈gN stp body n k
 |0,k,x,h=>h
 |n+1,k,x,h=>by
  unfold gN;split
  .exact G7 n _ x (BU body (k,jp) x h)
  .exact BU body (k,jp) x h
theorem rF: ∀(body:List Lit) (a:List ae×Bool),xD a.1->xD (body.foldl (gS stp) a).1
 | [],a,h=>h
 |l::r,a,h=>by
  rw[Uc];refine rF r _ ?_;unfold gS;split
  .exact pL h _
  .exact h
theorem xa{body:List Lit}: ∀(n:Nat) (k:List ae),xD k->xD (gN stp body n k)
 |0,k,h=>h
 |n+1,k,h=>by
  unfold gN;split
  .exact xa n _ (rF body (k,jp) h)
  .exact rF body (k,jp) h
variable (hnew: ∀(k:List ae) (l:Lit),(stp k l).2=is->(stp k l).1∈ [l.left.var,l.right.var,l.bI]∧(stp k l).1∉k)
include hnew
theorem Dh{c:List ae}: ∀{body:List Lit} {a:List ae×Bool},(∀l∈body,∀v∈ [l.left.var,l.right.var,l.bI],v∈c)->
  cR c (body.foldl (gS stp) a).1<=cR c a.1∧((body.foldl (gS stp) a).2=is->a.2=is∨cR c (body.foldl (gS stp) a).1<cR c a.1)
 | [],a,_=>⟨Tv _,fun h=> .inl h⟩
 |l::r,a,hc=>by
  have d:cR c (gS stp a l).1<=cR c a.1∧((gS stp a l).2=is->a.2=is∨cR c (gS stp a l).1<cR c a.1):=by
   unfold gS;split
   .rename_i h;obtain⟨g1,g2⟩:=hnew _ _ h;have:=qs (hc l TJ _ g1) g2;exact⟨by dsimp only;omega,fun _=> .inr this⟩
   .exact⟨Tv _,fun h=> .inl h⟩
  obtain⟨g1,g2⟩:=Dh (body:=r) (a:=gS stp a l) fun l j=>hc l (TH _ j);rw[Uc];refine⟨by omega,fun h=>?_⟩;rcases g2 h with g3|g3
  .rcases d.2 g3 with g4|g4
   .exact .inl g4
   .exact .inr (by omega)
  .exact .inr (by omega)
theorem G6{body:List Lit}: ∀(n:Nat) (k:List ae),cR (bT body) k<n-> ∀l∈body,(stp (gN stp body n k) l).2=jp
 |0,k,h,_,_=>by omega
 |n+1,k,h,l,d=>by
  unfold gN;cases hr:(gR stp body k).2 with
  |true=>
   rw[am I];refine G6 n _ ?_ l d;obtain⟨_,g2⟩:=Dh hnew (c:=bT body) (body:=body) (a:=(k,jp)) fun l d v j=>xr d j;rcases g2 hr with g3|g3
   .cases g3
   .unfold gR;dsimp only at g3;omega
  |false=>
   rw[be (by simp)];obtain⟨g1,g2⟩:=AD hr;unfold gR;rw[g1];exact g2 l d
end
theorem np{m1:Expr->Bool}{m2:gp->Bool}{occ:List ae}: ∀{l:List Lit},(∀x∈l,lV m1 m2 occ x=io)->b6 m1 m2 occ l=io
 | [],_=>rfl
 |y::r,h=>by
  simp only[b6,h y TJ];exact np fun x d=>h x (TH _ d)
section
variable {stp:List ae->Lit->ae×Bool} {may:List ae->Expr->Bool} {more:List ae->gp->Bool} {body:List Lit}
variable (hE: ∀(k:List ae) (l:Lit),lV (may k) (more k) k l=if(stp k l).2=is then dl (stp k l).1 else io)
variable (hmay: ∀a b:List ae,(∀x∈a,x∈b)-> ∀e,may a e=is->may b e=is) (hmore: ∀a b:List ae,(∀x∈a,x∈b)-> ∀e,more a e=is->more b e=is)
include hE
theorem Jv(k:List ae)(l:Lit)(h:(stp k l).2=is):(stp k l).1∈ [l.left.var,l.right.var,l.bI]∧(stp k l).1∉k:=by
 have:=hE k l;rw[am h]at this;exact uA this
include hmay hmore
theorem G4{C:List ae}(hC: ∀l∈body,lV (may C) (more C) C l=io): ∀(b:List Lit) (a:List ae×Bool),(∀l∈b,l∈body)->(∀x∈a.1,x∈C)-> ∀x∈(b.foldl (gS stp) a).1,x∈C
 | [],a,_,h,x,hx=>h x hx
 |l::r,a,hb,h,x,hx=>by
  rw[Uc]at hx;refine G4 hC r _ (fun l j=>hb l (TH _ j)) (fun y d=>?_) x hx;unfold gS at d;split at d
  .rename_i u;rcases dN.1 d with d|rfl
   .exact h y d
   .have:=hE a.1 l;rw[am u]at this;exact CW hmay hmore h this (hC l (hb l TJ))
  .exact h y d
theorem G5{C:List ae}(hC: ∀l∈body,lV (may C) (more C) C l=io): ∀(n:Nat) (k:List ae),(∀x∈k,x∈C)-> ∀x∈gN stp body n k,x∈C
 |0,k,h,x,hx=>h x hx
 |n+1,k,h,x,hx=>by
  unfold gN at hx;have d:=G4 hE hmay hmore hC body (k,jp) (fun _ h=>h) h;split at hx
  .exact G5 hC n _ d x hx
  .exact d x hx
theorem zl{k occ:List ae}(j: ∀x,x∈k↔x∈occ++body.flatMap bB)(x:ae):x∈gN stp body (3*body.length+1) k↔x∈b8 may more body occ:=by
 constructor
 .refine G5 hE hmay hmore (C:=b8 may more body occ) (nq (sK occ)) _ _ (fun y d=>?_) x;exact nC _ _ y ((j y).1 d)
 .refine nB hmay hmore (C:=gN stp body (3*body.length+1) k) (np fun l u=>?_) _ _ (fun y d=>G7 _ _ y ((j y).2 d)) x;have A:=qt (bT body) k;have B:=jK body;rw[hE,G6 (Jv hE) _ _ (by omega) l u,be (by simp)]
end
theorem Ak{x:ae}: ∀{l:List Lit} {a:List ae},x∈l.foldl Ec a↔x∈a∨x∈l.flatMap bB
 | [],a=>by simp
 |t::r,a=>by
  rw[Uc,Ak,T9,TP];by_cases d:t.kind=1
  .rw[show Ec a t=nI a (qN t.atom) from am d,show bB t=cW t.atom from am d,sv,yp,or_assoc]
  .rw[show Ec a t=a from be d,show bB t=[] from be d];simp
theorem sb: ∀(l:List Lit) (a:List ae),xD a->xD (l.foldl Ec a)
 | [],a,h=>h
 |t::r,a,h=>by
  rw[Uc];refine sb r _ ?_;unfold Ec;split
  .exact mI h
  .exact h
theorem Gl(k:List ae)(l:Lit):lV (cC k) (fun _=>jp) k l=if(kG l k).2=is then dl (kG l k).1 else io:=by
 unfold lV;rw[be (c:=l.kind=4∧_) (fun h=>Bool.noConfusion h.2.2)];have:(if(gl (cC k) k l).2=is then dl (gl (cC k) k l).1 else io)=if(kG l k).2=is then dl (kG l k).1 else io:=by
  unfold gl kG cC;split
  .rfl
  .by_cases d:l.left.kind=1<;>by_cases a2:l.right.kind=1<;>by_cases a3:l.left.kind=2<;>by_cases a4:l.right.kind=2<;>cases a5:dU k l.left.var<;>cases a6:dU k l.right.var<;>simp_all
 exact this
theorem wE(body:List Lit): ∀(n:Nat) (k:List ae),um body n k=gN (fun k l=>kG l k) body n k
 |0,k=>rfl
 |n+1,k=>by
  rw[z6,wE body n];rfl
theorem Bb(r:ar):fA (aI (ov r))=kM r:=by
 unfold kM;rw[wE];refine Fh (xa _ _ (sb _ _ W1)) fun x=>?_;exact(zl (may:=fun d=>cC d) (more:=fun _=>fun _=>jp) Gl z7 (fun _ _ _ _ h=>h) (fun y=>by rw[Ak];simp) x).symm
end
end Go.Proofs.YtbhphmfbligliaaGreatDoor
namespace Go.Proofs
open Go.Shelf
def Tryz.Aq:Go.Shelf.Ren:=⟨fun|190=>173|125=>227|258=>226|128=>280|129=>281|302=>271|303=>272|304=>273|305=>274|306=>275|307=>276|308=>277|309=>278|310=>279|333=>307|329=>308|330=>309|334=>310|335=>311|336=>312|344=>331|n=>n,fun|31=>109|9=>9|3=>3|46=>108|0=>0|51=>50|53=>116|4=>4|183=>372|182=>371|131=>146|5=>5|218=>393|222=>76|228=>405|229=>406|n=>n,fun|n=>n⟩
theorem Tryz.CZ:Go.Proofs.Lays.n190 Tryz.prog Tryz.Aq:={
 mixed:=by kernel_rfl
 f125:=Tryz.func227.trans (congrArg dl (by kernel_rfl))
 f128:=Tryz.func280.trans (congrArg dl (by kernel_rfl))
 f129:=Tryz.func281.trans (congrArg dl (by kernel_rfl))
 f190:=Tryz.func173.trans (congrArg dl (by kernel_rfl))
 f258:=Tryz.func226.trans (congrArg dl (by kernel_rfl))
 f302:=Tryz.func271.trans (congrArg dl (by kernel_rfl))
 f303:=Tryz.func272.trans (congrArg dl (by kernel_rfl))
 f304:=Tryz.func273.trans (congrArg dl (by kernel_rfl))
 f305:=Tryz.func274.trans (congrArg dl (by kernel_rfl))
 f306:=Tryz.func275.trans (congrArg dl (by kernel_rfl))
 f307:=Tryz.func276.trans (congrArg dl (by kernel_rfl))
 f308:=Tryz.func277.trans (congrArg dl (by kernel_rfl))
 f309:=Tryz.func278.trans (congrArg dl (by kernel_rfl))
 f310:=Tryz.func279.trans (congrArg dl (by kernel_rfl))
 f329:=Tryz.func308.trans (congrArg dl (by kernel_rfl))
 f330:=Tryz.func309.trans (congrArg dl (by kernel_rfl))
 f333:=Tryz.func307.trans (congrArg dl (by kernel_rfl))
 f334:=Tryz.func310.trans (congrArg dl (by kernel_rfl))
 f335:=Tryz.func311.trans (congrArg dl (by kernel_rfl))
 f336:=Tryz.func312.trans (congrArg dl (by kernel_rfl))
 f344:=Tryz.func331.trans (congrArg dl (by kernel_rfl))
 t0:=Tryz.underlying0
 a0:=Tryz.isAgg0
 z0:=Tryz.sizeOf0
 v0:=Tryz.zeroValue0
 t3:=Tryz.underlying3
 a3:=Tryz.isAgg3
 z3:=Tryz.sizeOf3
 v3:=Tryz.zeroValue3
 t4:=Tryz.underlying4
 a4:=Tryz.isAgg4
 z4:=Tryz.sizeOf4
 v4:=Tryz.zeroValue4
 t5:=Tryz.underlying5
 a5:=Tryz.isAgg5
 z5:=Tryz.sizeOf5
 v5:=Tryz.zeroValue5
 t9:=Tryz.underlying9
 a9:=Tryz.isAgg9
 z9:=Tryz.sizeOf9
 v9:=Tryz.zeroValue9
 t31:=Tryz.underlying109
 a31:=Tryz.isAgg109
 z31:=Tryz.sizeOf109
 v31:=Tryz.zeroValue109
 t46:=Tryz.underlying108
 a46:=Tryz.isAgg108
 z46:=Tryz.sizeOf108
 v46:=Tryz.zeroValue108
 t51:=Tryz.underlying50
 a51:=Tryz.isAgg50
 z51:=Tryz.sizeOf50
 v51:=Tryz.zeroValue50
 t53:=Tryz.underlying116
 a53:=Tryz.isAgg116
 z53:=Tryz.sizeOf116
 v53:=Tryz.zeroValue116
 t131:=Tryz.underlying146
 a131:=Tryz.isAgg146
 z131:=Tryz.sizeOf146
 v131:=Tryz.zeroValue146
 t182:=Tryz.underlying371
 a182:=Tryz.isAgg371
 z182:=Tryz.sizeOf371
 v182:=Tryz.zeroValue371
 t183:=Tryz.underlying372
 a183:=Tryz.isAgg372
 z183:=Tryz.sizeOf372
 v183:=Tryz.zeroValue372
 t218:=Tryz.underlying393
 a218:=Tryz.isAgg393
 z218:=Tryz.sizeOf393
 v218:=Tryz.zeroValue393
 t222:=Tryz.underlying76
 a222:=Tryz.isAgg76
 z222:=Tryz.sizeOf76
 v222:=Tryz.zeroValue76
 t228:=Tryz.underlying405
 a228:=Tryz.isAgg405
 z228:=Tryz.sizeOf405
 v228:=Tryz.zeroValue405
 t229:=Tryz.underlying406
 a229:=Tryz.isAgg406
 z229:=Tryz.sizeOf406
 v229:=Tryz.zeroValue406}
theorem YtbhphmfbligliaaGreatDoor.MF:YtbhphmfbligliaaGreatDoor.dE:=
 ⟨fun u b0 a0 y w x d j=>Any.slices_Sort_string Tryz.CZ u b0 a0 y w x d j,fun p a0 w=>Any.slices_Sort_string_none Tryz.CZ p a0 w⟩
end Go.Proofs
namespace Go.Proofs.YtbhphmfbligliaaGreatDoor
open Go Go.Al
theorem gW{α:Type}[Inhabited α]{f:α->List IV}(h: ∀x,eM ((f x).map .iv)=is)(l:List α):allOnes ((Uk l.length).map fun k=>(f (l.getD k co)).map PV.iv)=is:=by rw[pR];exact fQ h l
def Prog.size(p:Prog):Nat:=p.aw.length+(p.aw.map fun d=>d.types.length).sum+p.rules.length+(p.rules.map ar.size).sum
theorem kr{α:Type}[Inhabited α](f:α->Nat): ∀(l:List α) (i:Nat),i<l.length->f (l.getD i co)<=(l.map f).sum
 |x::r,0,_=>by simp
 |x::r,i+1,h=>by
  have:=kr f r i (by simpa using h);simp only[UK,TD,Vj];omega
theorem cX{α:Type}(i sz n d:Nat)(l:List α)(f:α->List IV):(aX d l f).iw i sz n:=by
 intro k e j p u A;rw[Tu,Tw]at u;obtain⟨x,_,rfl⟩:=u;rw[Tu,Tw]at A;obtain⟨y,_,rfl⟩:=A;exact⟨y,rfl⟩
theorem SR(r:ar)(hb:r.size<=10000000):Pure Tryz.prog 141 [ag r.c] (.iv (strs (kM r))):=Bb r▸c33 MF r hb
end Go.Proofs.YtbhphmfbligliaaGreatDoor
namespace Go.Proofs.YtbhphmfbligliaaGreatDoor
open Go.Proofs.Tryz
open Go
section
set_option maxHeartbeats 2000000
theorem C9: ∃j,prog.info? 186=dl j∧j.size=2:=by
 have h:(prog.info? 186).map (fun i=>i.size)=dl 2:=by kernel_rfl
 rw[Tw]at h;exact h
theorem Kt:liesAt prog prog.depth 188 (4/prog.cellsOf 188) 0 186 1=is:=by kernel_rfl
theorem KZ(b:Nat)(w:World)(h0:w.cell? ⟨b,0,io⟩=dl (.pointer (dl ⟨b,0,io⟩))):
  Calls prog 182 #[.pointer (dl ⟨b,0,io⟩)] w fun e u=>e= .returned (.tuple #[])∧u=w:=by
 obtain⟨j,d,_⟩:=C9
 go_enter func182,ntmps182
 go_wp2
 rw[Lib.run_neq_ptr_same w _ underlying184 d]
 go_wp2
 go_end0
 exact⟨rfl,rfl⟩
theorem Hv(b:Nat)(w:World)(h0:w.cell? ⟨b,0,io⟩=dl (.pointer io))(d:w.shape? b=dl (188,4))(y:w.frozen? ⟨b,0,io⟩=jp):
  Calls prog 182 #[.pointer (dl ⟨b,0,io⟩)] w fun e A=>e= .returned (.tuple #[])∧A=w.setCell ⟨b,0,io⟩ (.pointer (dl ⟨b,0,io⟩)):=by
 obtain⟨j,x,u⟩:=C9
 go_enter func182,ntmps182
 go_wp2
 rw[Lib.run_to_unsafe w ⟨b,0,io⟩ underlying184 underlying327 x (by rw[u];decide) d (by show 0<4;decide)];simp only[Result.andThen];rw[Oper.upon_value]
 go_wp2
 rw[run_callFunc_extern func233 (by kernel_rfl) (by kernel_rfl) (by kernel_rfl) (e:=Extern.AbiNoEscape.same) (by kernel_rfl)];rw[Lib.run_noEscape];simp only[Result.andThen];rw[Oper.upon_value]
 go_wp2
 rw[Lib.run_from_unsafe w ⟨b,0,io⟩ underlying327 underlying184 x d Kt];simp only[Result.andThen];rw[Oper.upon_value]
 go_wp2
 go_end0
 exact⟨rfl,rfl⟩
theorem Hq:prog.cellsOf 5=1:=by kernel_rfl
theorem K2(b g cap:Nat)(p x y:Value)(d:Array Value)(l:List UInt8)(w:World)(C:w.heap[b]? =dl (.cells #[p,.slice (dl ⟨g,0,io⟩) l.length cap,x,y] 188 (0,0)))(hg:w.heap[g]? =dl (.cells d 5 (0,0)))
  (hl:l.length<=d.size) (G:l.length<=cap) (D:cap<=maxLen) (A: ∀(j:Nat) (x:UInt8),l[j]? =dl x->d.getD j undef= .int .u8 (x.toNat:Int)) (h0:l≠ []):
  Calls prog 149 #[.pointer (dl ⟨b,0,io⟩)] w fun e w'=>e= .returned (.string ⟨l.toArray⟩)∧w'=w.drew.freeze ⟨g,0,io⟩ l.length:=by
 have a0:l.length≠0:=by simpa using h0
 have c1:w.drew.cell? ⟨b,1,io⟩=dl (.slice (dl ⟨g,0,io⟩) l.length cap):=by
  have:w.drew.heap[b]? =dl (.cells #[p,.slice (dl ⟨g,0,io⟩) l.length cap,x,y] 188 (0,0)):=C;rw[Lib.cell_of_heap this];rfl
 have Y:(Builtin.unsafeSliceData_ #[33] 292 #[.slice (dl ⟨g,0,io⟩) l.length cap]).run prog w.drew= .ok (.pointer (dl ⟨g,0,io⟩)) w.drew:=
  Lib.run_unsafeSliceData_row _ _ _ _ _ _ (by omega)
 have Z:(Builtin.unsafeString_ #[292,3] 9 #[.pointer (dl ⟨g,0,io⟩),.int .i64 l.length]).run prog w.drew= .ok (.string ⟨l.toArray⟩) (w.drew.freeze ⟨g,0,io⟩ l.length):=by
  refine Lib.run_unsafeString_row w.drew 292 3 9 5 underlying292 Hq g d.size (by have u:w.drew.heap[g]? =dl (.cells d 5 (0,0)):=hg;simp[World.shape?,u]) l h0 (by omega) (by unfold maxLen at D;omega) ?_;intro j x J;have B:j<d.size:=by have:=(Tp.1 J).1;omega
  have:=A j x J;rw[Tl,Uq B]at this;show w.drew.cell? _=_;have u:w.drew.heap[g]? =dl (.cells d 5 (0,0)):=hg;rw[Al.dp,TL];simp only[World.cell?,u];simpa[B]using this
 have F:prog.follows .mixedOrders=is:=rfl
 go_enter func149,ntmps149
 go_wp2
 go_region_o
 all_goals(go_wp2;go_ret;exact⟨rfl,rfl⟩)
theorem Pm(b:Nat)(p x y:Value)(w:World)(d:w.heap[b]? =dl (.cells #[p,.slice io 0 0,x,y] 188 (0,0))):
  Calls prog 149 #[.pointer (dl ⟨b,0,io⟩)] w fun e B=>e= .returned (.string ⟨#[]⟩)∧B=w.drew:=by
 have A:(W:World)->(Builtin.unsafeString_ #[292,3] 9 #[.pointer io,.int .i64 0]).run prog W= .ok (.string .empty) W:=fun W=>Lib.run_unsafeString_none W _ _ _ io
 have c1:w.drew.cell? ⟨b,1,io⟩=dl (.slice io 0 0):=by
  have:w.drew.heap[b]? =dl (.cells #[p,.slice io 0 0,x,y] 188 (0,0)):=d;rw[Lib.cell_of_heap this];rfl
 have u:(Builtin.unsafeSliceData_ #[33] 292 #[.slice io 0 0]).run prog w.drew= .ok (.pointer io) w.drew:=rfl;have j:prog.follows .mixedOrders=is:=rfl
 go_enter func149,ntmps149
 go_wp2
 go_region_o
 all_goals(go_wp2;go_ret;exact⟨rfl,rfl⟩)
end
end Go.Proofs.YtbhphmfbligliaaGreatDoor
namespace Go.Proofs.YtbhphmfbligliaaGreatDoor
open Go Go.Al Go.Proofs.Tryz
def Ke(c:Nat):Bool:=(kw (97<=c)&&kw (c<=122))||((kw (65<=c)&&kw (c<=90))||((kw (48<=c)&&kw (c<=57))||decide (c=95)))
def okB(b:UInt8):Bool:=Ke b.toNat
def hd(s:ae):Int:=((s.data.toList.getD 0 0).toNat:Int)
def tC(s:ae)(lo hi:Int):Bool:=!kw (s=⟨#[]⟩)&&(kw (s.size<=32)&&(kw (lo<=hd s)&&(kw (hd s<=hi)&&s.data.toList.all okB)))
theorem Gf{c:Nat}(h:Ke c=is):c<128:=by
 simp only[Ke,Vr,TZ,decide_eq_true_eq]at h;omega
theorem JD{s:ae}(h: ¬s=⟨#[]⟩):0<s.size:=by
 refine Nat.pos_of_ne_zero fun d=>h ?_;have:s.data= #[]:=Array.eq_empty_of_size_eq_zero d;cases s;simp_all
theorem S1(c:Nat):Pure prog 232 [.iv (.v (.int .i32 (c:Int)))] (pB (!Ke c)):=by
 refine ai ab func232 I (by decide) ntmps232 I (by simp) I ?_
 repeat' (first|(refine gA I (zI (fun _=>?_) (fun _=>?_)))|(refine gA I (zL (.of_eq ?_))))
 all_goals(refine(mS ?_:pB _=pB _))
 all_goals(simp only[VY,Wp,decide_eq_true_eq,decide_eq_false_iff_not] at*;rw[UN];simp[Ke];omega)
theorem Hk{s:ae}{i:Nat}(h:i<s.size)(hb:okB (s.data.toList.getD i 0)=is):Utf8.decode s i=((s.data.toList.getD i 0).toNat,1):=by
 have d:(s[i]'h)=s.data.toList.getD i 0:=by
  have:i<s.data.toList.length:=by simpa using h
  rw[Tr,Ts this];simp;rfl
 have:=decode_ascii s i h (by rw[d];exact Gf hb);rw[this,d]
theorem Pj{s:ae}{i:Nat}(h:i<s.size)(hb:okB (s.data.toList.getD i 0)=jp):Ke (Utf8.decode s i).1=jp:=by
 by_cases j:(s.data.toList.getD i 0).toNat<128
 .have d:(s[i]'h)=s.data.toList.getD i 0:=by
   have:i<s.data.toList.length:=by simpa using h
   rw[Tr,Ts this];simp;rfl
  have:=decode_ascii s i h (by rw[d];exact j);rw[this,d];exact hb
 .have d:(s.get! (i+0)).toNat=(s.data.toList.getD i 0).toNat:=by
   have:i<s.data.toList.length:=by simpa using h
   rw[Tr,Ts this];simp[ByteArray.get!,getElem!_pos,h]
  have:128<=(Utf8.decode s i).1:=by
   simp only[Utf8.decode,d,be j]
   repeat' split
   all_goals(dsimp only[Utf8.runeError];(try simp only[TZ,decide_eq_true_eq] at*);omega)
  cases hk:Ke (Utf8.decode s i).1 with
  |false=>rfl
  |true=>have:=Gf hk;omega
def Dy(s:ae):Int:=pn (fun b=>!okB b) s.data.toList
theorem d217(s:ae):bC prog 313 [pS s,.cN (.func 232) [] [],pB is] [] (pI (Dy s)) [] 0:=by
 have A:s.data.toList.length=s.size:=by simp
 refine aq ab func313 I (by decide) ntmps313 I (by simp) ?_;refine gA I ?_;refine w6 ab I I I I I I I ?_;refine gA I ?_;refine aG 0 s.size (TB _) (fun i=>⟨[(0,pS s),(1,.cN (.func 232) [] []),(2,pB is),(10,.ptr 0 0)],[(0,dl (.dQ s i))],1⟩) (fun i=>(s.data.toList.take i).any (fun b=>!okB b)=jp) [] (by simp)
  (zW ⟨⟨_,rfl,.of_eq I⟩,Tk I,ac,ac⟩) fun i B x=>?_
 refine gA I ?_;refine ly I I I I I I (fun j=>?_) (fun j=>?_)
 .have d:s.data.toList.length<=i:=by omega
  rw[Dy,fW (any_none x d)];refine gA I (zD [] I (zW ac))
 .have u:i<s.data.toList.length:=by omega
  have y:s.data.toList.getD i co=s.data.toList.getD i 0:=rfl;refine gA I (zp (S1 (Utf8.decode s i).1) ?_);refine zJ I I (fun d=>?_) fun d=>?_
  .have d:Ke (Utf8.decode s i).1=jp:=by simpa using d
   have hb:okB (s.data.toList.getD i 0)=jp:=by
    cases hk:okB (s.data.toList.getD i 0) with
    |false=>rfl
    |true=>
     rw[Hk j hk]at d;exact absurd (hk.symm.trans d) (by simp)
   rw[Dy,ia x u (by rw[y,hb];rfl)];refine gA I (zD [] I (zW ac))
  .have d:Ke (Utf8.decode s i).1=is:=by simpa using d
   have hb:okB (s.data.toList.getD i 0)=is:=by
    cases hk:okB (s.data.toList.getD i 0) with
    |true=>rfl
    |false=>exact absurd ((Pj j hk).symm.trans d) (by simp)
   have hd:=Hk j hb;refine gA I ⟨j,(c7 x u).2 (by rw[y,hb];rfl),[],zW ⟨⟨_,rfl,.of_eq (by rw[hd];rfl)⟩,Tk I,ac,ac⟩⟩
theorem K9(l:List UInt8):(l.any fun b=>!okB b)=!l.all okB:=by
 induction l with
 |nil=>rfl
 |cons x r ih=>simp only[WW,VZ,ih];cases okB x<;>rfl
theorem d203(s:ae):bC prog 282 [pS s,.cN (.func 232) [] []] [] (pI (Dy s)) [] 0:=by
 refine aq ab func282 I (by decide) ntmps282 I (by simp) ?_;refine gA I (zq [] (d217 s) ?_);refine gA I (zD [] I (zW ac))
theorem d180(s:ae):bC prog 231 [pS s,.cN (.func 232) [] []] [] (pB (!s.data.toList.all okB)) [] 0:=by
 refine aq ab func231 I (by decide) ntmps231 I (by simp) ?_;refine gA I (zq [] (d203 s) ?_);refine gA I (zD [] I (zM ⟨.of_eq (mS ((ib _ _).trans (K9 _))),rfl,ac⟩ ac))
theorem RU(s:ae)(lo hi:Int):Pure prog 181 [pS s,.iv (.v (.int .u8 lo)),.iv (.v (.int .u8 hi))] (pB (tC s lo hi)):=by
 refine ai ab func181 I (by decide) ntmps181 I (by simp) I ?_;refine zE I I (fun d=>?_) fun d=>?_
 .have d:s=⟨#[]⟩:=zT d;refine gA I (zL (.of_eq ?_));refine(mS ?_:pB _=pB _);subst d;rfl
 have d: ¬s=⟨#[]⟩:=zF d;have y:=JD d;refine zE I I (fun j=>?_) fun j=>?_
 .have j:32<s.size:=zN j;refine gA I (zL (.of_eq ?_));refine(mS ?_:pB _=pB _);have: ¬s.size<=32:=by omega
  simp[tC,this]
 have j:s.size<=32:=by have:=zF j;omega
 refine zE I I (fun u=>?_) fun u=>?_
 .have u:hd s<lo:=zT u;refine gA I (zL (.of_eq ?_));refine(mS ?_:pB _=pB _);have: ¬lo<=hd s:=by omega
  simp[tC,this]
 have u:lo<=hd s:=by have: ¬hd s<lo:=zF u;omega
 refine zJ I I (fun x=>?_) fun x=>?_
 .have x:hi<hd s:=zT x;refine gA I (zL (.of_eq ?_));refine(mS ?_:pB _=pB _);have: ¬hd s<=hi:=by omega
  simp[tC,this]
 have x:hd s<=hi:=by have: ¬hd s>hi:=zF x;omega
 refine gA I (zq [] (d180 s) ?_);refine gA I (zL (.of_eq ?_));refine(mS ?_:pB _=pB _);simp[tC,d,j,u,x]
def Rf:List ae:=[⟨#[114,101,108,97,116,105,111,110]⟩,⟨#[110,111,116]⟩,⟨#[110,117,109]⟩,⟨#[115,121,109]⟩,⟨#[109,111,100]⟩,⟨#[99,111,117,110,116]⟩,⟨#[115,117,109]⟩,⟨#[109,105,110]⟩,⟨#[109,97,120]⟩]
def Rh(s:ae):Bool:=Rf.any fun x=>kw (s=x)
def gf(s:ae):Bool:=!Rh s&&tC s 97 122
def fS(s:ae):Bool:=tC s 65 90
theorem B3(s:ae):Pure prog 183 [pS s] (pB (fS s)):=by
 refine ai ab func183 I (by decide) ntmps183 I (by simp) I ?_;refine gA I (zp (RU s 65 90) ?_);exact zU I
theorem RR(s:ae):Pure prog 145 [pS s] (pB (gf s)):=by
 refine ai ab func145 I (by decide) ntmps145 I (by simp) I ?_
 repeat' (first|(refine gA I (zI (fun _=>?_) (fun _=>?_)))|(refine gA I (zp (RU s 97 122) ?_))|(refine gA I (zL (.of_eq ?_))))
 all_goals(refine(mS ?_:pB _=pB _))
 all_goals(simp only[gf,Rh,Rf,WW,List.any_nil, *];rfl)
theorem S5(v:ei):Pure prog 241 [ag v.c] (pB (!kw (ch v=0))):=by
 refine ai ab func241 I (by decide) ntmps241 I (by simp) I ?_;refine gA I (zp (RT v) ?_);exact zU I
theorem i182(l:List ei):bC prog 287 [.iv (bp 3 l ei.c),.cN (.func 241) [] []] [] (pI (pn (fun x:ei=>!kw (ch x=0)) l)) [] 0:=by
 refine pz (bQ func287 I (by decide)) ⟨_,_,TJ⟩ fun u=>?_;simp only[maxLen]at u;refine aq ab func287 I (by decide) ntmps287 I (by simp) ?_;refine gA I ?_
 refine aG 0 l.length (TB _) (fun i=>⟨[(0,.iv (bp 3 l ei.c)),(1,.cN (.func 241) [] []),(7,pI l.length),(8,pI i)],[],0⟩) (fun i=>(l.take i).any (fun x:ei=>!kw (ch x=0))=jp) [] (by simp)
  (zW trivial) fun i A y=>?_
 refine zJ I I (fun d=>?_) fun d=>?_
 .have d:i<l.length:=by simpa using d
  refine gA I (zp (S5 (l.getD i co)) ?_);refine zJ I I (fun j=>?_) fun j=>?_
  .have j:(fun x:ei=>!kw (ch x=0)) (l.getD i co)=is:=j;rw[ia y d j];refine gA I (zD [] I (zW ac))
  .have j:(fun x:ei=>!kw (ch x=0)) (l.getD i co)=jp:=j;refine gA I ⟨d,(c7 y d).2 j,[],zW ac⟩
 .have d:l.length<=i:=by simpa using d
  rw[fW (any_none y d)];refine gA I (zD [] I (zW ac))
theorem d141(l:List ei):bC prog 240 [.iv (bp 3 l ei.c),.cN (.func 241) [] []] [] (pB (l.any (fun x:ei=>!kw (ch x=0)))) [] 0:=by
 refine aq ab func240 I (by decide) ntmps240 I (by simp) ?_;refine gA I (zq [] (i182 l) ?_);refine gA I (zD [] I (zM ⟨.of_eq (mS (ib _ l)),rfl,ac⟩ ac))
def mg(f:Fact):Bool:=gf f.rel&&(kw (f.args.length<=8)&&f.args.all fun v=>kw (ch v=0))
theorem HG(l:List ei):(l.any fun x:ei=>!kw (ch x=0))=!l.all fun v=>kw (ch v=0):=by
 induction l with
 |nil=>rfl
 |cons x r ih=>simp only[WW,VZ,ih];cases kw (ch x=0)<;>rfl
theorem c98(l:List ei):Pure prog 190 [.iv (bp 3 l ei.c)] (pB (l.all fun v=>kw (ch v=0))):=by
 refine ai ab func190 I (by decide) ntmps190 I (by simp) I ?_;refine gA I (zq [] (d141 l) ?_);refine gA I (zL (.of_eq ?_));refine(mS ?_:pB _=pB _);rw[HG,Bool.not_not]
theorem c55(f:Fact):Pure prog 158 [ag f.c] (pI (if mg f then 0 else 20)):=by
 refine ai ab func158 I (by decide) ntmps158 I (by simp) I ?_
 repeat' (first|(refine gA I (zI (fun _=>?_) (fun _=>?_)))|(refine gA I (zp (RR f.rel) ?_))|(refine gA I (zp (c98 f.args) ?_))|(refine gA I (zL (.of_eq ?_))))
 all_goals(refine(EZ ?_:pI _=pI _))
 all_goals(simp only[mg];simp_all)
 all_goals omega
section
theorem Rel.Bz{M:Mem}{N:Nm}{U:Nat->Prop}{h u:AH}{w:World}(hr:Rel M N U h w)(e: ∀i,AH.get u i=h.get i):Rel M N U u w:=
 ⟨hr.ey,fun i o d=>hr.used i o (by rw[<-e];exact d),fun i o d=>hr.dI i o (by rw[<-e];exact d),fun i o d=>hr.obj i o (by rw[<-e];exact d),fun i j o p d x=>hr.inj i j o p (by rw[<-e];exact d) (by rw[<-e];exact x)⟩
theorem Ext.Bz{M j:Mem}{N u:Nm}{U x:Nat->Prop}{h0 h y:AH}{w A:World}(d:Ext M N U h0 w j u x h A)(e: ∀i,AH.get y i=h.get i):Ext M N U h0 w j u x y A:=
 ⟨d.os,d.tape,d.output,d.size,d.eU,d.mz,d.eT,d.nm,d.ule,fun i o B=>d.dY i o (by rw[<-e];exact B)⟩
structure WS where
 fr:Bool
 l:List UInt8
 bad:Bool
 br:Int
abbrev WS.pE(w:WS)(i j:Nat):AO:= .cells [.fj w.fr i,.sl j 0 w.l.length 1,pB w.bad,pI w.br] (dl 188)
abbrev WS.c(w:WS):AO:=w.pE 0 1
abbrev WS.O(w:WS):List AO:=[w.c,.bA w.l 5]
abbrev WS.H(w:WS):AH:=[(0,dl (w.pE 0 2)),(2,dl (.bA w.l 5))]
theorem d204(w:WS):bC prog 182 [.ptr 0 0] w.O (.aZ []) [(0,dl ({w with fr:=jp}:WS).c),(1,dl (.bA w.l 5))] 2:=by
 refine⟨bQ func182 I (by decide),fun M N wd vs J y hv=>?_⟩;obtain⟨v,rfl⟩: ∃v,vs=[v]:=by
  cases vs with
  |nil=>cases y
  |cons v r=>cases r with
   |nil=>exact⟨v,rfl⟩
   |cons a b=>simp at y
 have Y:VR M N (· <2) (.ptr 0 0) v:=hv 0 _ I;have Z:v= .pointer (dl ⟨N.aC 0,0,io⟩):=by cases Y;rfl
 subst Z;have F:AH.get (dD 0 w.O) 0=dl w.c:=rfl;obtain⟨c,T,C,h2,h3,h4,h5⟩:=J.obj 0 _ F;have hT:=h5 188 I;subst hT;have A:c.size=4:=h3.symm;have a0:N.aC 0<wd.heap.size:=(Uf.1 C).1;have G:c.getD 0 undef= .pointer (bif w.fr then io else dl ⟨N.aC 0,0,io⟩):=by
  have:=h4 0 _ I;generalize c.getD 0 undef=x at this;cases this;rfl
 have d:wd.cell? ⟨N.aC 0,0,io⟩=dl (c.getD 0 undef):=by
  rw[Lib.cell_of_heap C,Tl,Uq (by omega)];rfl
 rw[G]at d;show Calls prog 182 #[_] wd _;cases hfr:w.fr with
 |false=>
  rw[hfr]at d;refine(KZ (N.aC 0) wd d).mono ?_;rintro e w' ⟨rfl,rfl⟩;have hw:({w with fr:=jp}:WS)=w:=by cases w;simp_all
  rw[hw];exact⟨_,M,N,.aZ [],_,2,rfl,⟨rfl,rfl,rfl⟩,.refl _ _ _ _ _,J,.aZ [] #[] I (by simp)⟩
 |true=>
  rw[hfr]at d;refine(Hv (N.aC 0) wd d (by simp[World.shape?,C,A]) (Lib.frozen_of_heap C 0)).mono ?_;rintro e w' ⟨rfl,rfl⟩;have B:(wd.setCell ⟨N.aC 0,0,io⟩ (.pointer (dl ⟨N.aC 0,0,io⟩))).heap[N.aC 0]? =dl (.cells (c.setIfInBounds 0 (.pointer (dl ⟨N.aC 0,0,io⟩))) 188 (0,0)):=by
   simp[World.setCell,T8,C]
  obtain⟨g1,g2⟩:=J.write (i:=0) (o0:=w.c) F I (wd.setCell ⟨N.aC 0,0,io⟩ (.pointer (dl ⟨N.aC 0,0,io⟩))) ({w with fr:=jp}:WS).c I I I (by simp[World.setCell]) (fun b hb=>by
   simp only[World.setCell,T8]
   rw[be (fun e=>hb e.symm)]) ⟨_,188,B,by simpa using h2,by simp[A],fun j p D=>by
    match j,D with
    |0,D=>
     cases D;rw[Tl,Ua];simp only[if_true,A];exact .fj jp 0 (by show 0<2;decide)
    |j+1,D=>
     have:=h4 (j+1) p (by exact D);rw[Tl,Ua,be (by omega)];rw[Tl]at this
     exact this,h5⟩
  have u: ∀i,AH.get [(0,dl ({w with fr:=jp}:WS).c),(1,dl (.bA w.l 5))] i=AH.get ((0,dl ({w with fr:=jp}:WS).c)::dD 0 w.O) i:=by
   intro i
   match i with
   |0=>rfl
   |1=>rfl
   |i+2=>rfl
  exact⟨_,M,N,.aZ [],_,2,rfl,⟨rfl,rfl,rfl⟩,Ext.Bz g1 u,Rel.Bz g2 u,.aZ [] #[] I (by simp)⟩
theorem d150(w:WS):bC prog 149 [.ptr 0 0] w.O (pS ⟨w.l.toArray⟩) [] 2:=by
 refine⟨bQ func149 I (by decide),fun M N wd vs hr F hv=>?_⟩;obtain⟨v,rfl⟩: ∃v,vs=[v]:=by
  cases vs with
  |nil=>cases F
  |cons v r=>cases r with
   |nil=>exact⟨v,rfl⟩
   |cons a b=>simp at F
 have l0:VR M N (· <2) (.ptr 0 0) v:=hv 0 _ I;have m0:v= .pointer (dl ⟨N.aC 0,0,io⟩):=by cases l0;rfl
 subst m0;have k0:AH.get (dD 0 w.O) 0=dl w.c:=rfl;have G:AH.get (dD 0 w.O) 1=dl (.bA w.l 5):=rfl;obtain⟨c,T,Z,h2,h3,h4,h5⟩:=hr.obj 0 _ k0;have hT:=h5 188 I;subst hT;have g0:c.size=4:=h3.symm;have d0: ∀(x1:Value),c.getD 1 undef=x1-> ∃p x y,c= #[p,x1,x,y]:=by
  intro x1 B;refine⟨c.getD 0 undef,c.getD 2 undef,c.getD 3 undef,?_⟩;apply Array.ext
  .simpa using g0
  .intro i u n0
   match i,u with
   |0,u=>simp[Tl,u]
   |1,u=>rw[<-B];simp[Tl,u]
   |2,u=>simp[Tl,u]
   |3,u=>simp[Tl,u]
   |i+4,u=>omega
 have A:=h4 1 _ I;have J:=hr.obj 1 _ G;show Calls prog 149 #[_] wd _;by_cases D:w.l=[]
 .have B:c.getD 1 undef= .slice io 0 0:=by
   generalize c.getD 1 undef=x at A;rw[D]at A;generalize Y:PV.sl 1 0 ([]:List UInt8).length 1=q at A;cases A with
   |sl i off len sz a0 h h0 Z hc he=>cases Y;simp at h0
   |lK i sz h=>rfl
   |_=>cases Y
  obtain⟨p,x,y,rfl⟩:=d0 _ B;refine(Pm (N.aC 0) p x y wd Z).mono ?_;rintro e w' ⟨rfl,rfl⟩;refine⟨.string ⟨#[]⟩,M,N,pS ⟨w.l.toArray⟩,[],2,rfl,⟨rfl,rfl,rfl⟩,?_,?_,.iv _ _ (by rw[D];exact .v _)⟩
  .have:=Ext.drew (M:=M) (N:=N) (U:=(· <w.O.length)) (h:=dD 0 w.O) (w:=wd);exact⟨this.os,this.tape,this.output,this.size,this.eU,this.mz,this.eT,this.nm,this.ule,fun i o u=>(nomatch u)⟩
  .exact⟨hr.drew.ey,fun i o u=>(nomatch u),fun i o u=>(nomatch u),fun i o u=>(nomatch u),fun i j o p u=>(nomatch u)⟩
 .have c0:0<w.l.length:=UE.2 D;obtain⟨a0,B,b0,i0⟩: ∃a0,c.getD 1 undef= .slice (dl ⟨N.aC 1,0,io⟩) w.l.length a0∧w.l.length<=a0∧a0<=maxLen:=by
   generalize c.getD 1 undef=x at A;generalize hn:w.l.length=n at A c0;generalize Y:PV.sl 1 0 n 1=q at A;cases A with
   |sl i off len sz a0 h h0 D hc he=>cases Y;exact⟨a0,by simp,D,hc⟩
   |lK i sz h=>cases Y;omega
   |_=>cases Y
  rcases J with J|⟨f0,q1,q2,q3,q4⟩
  .exact absurd J D
  obtain⟨p,x,y,rfl⟩:=d0 _ B;refine(K2 (N.aC 0) (N.aC 1) a0 p x y f0 w.l wd Z q1 q3 b0 i0 q4 D).mono ?_;rintro e w' ⟨rfl,rfl⟩;have e0:(AO.bA w.l 5).real=is:=by cases hll:w.l with
   |nil=>exact absurd hll D
   |cons=>rfl
  have hk: ∀b,b≠N.aC 1->(wd.drew.freeze ⟨N.aC 1,0,io⟩ w.l.length).heap[b]? =wd.heap[b]? :=by
   intro b hb;unfold World.freeze;split
   .rfl
   .show(wd.heap.modify _ _)[b]? =_;simp only[T8];rw[be (fun e=>hb e.symm)]
  have C:(wd.drew.freeze ⟨N.aC 1,0,io⟩ w.l.length).os=wd.os∧(wd.drew.freeze ⟨N.aC 1,0,io⟩ w.l.length).tape=wd.tape∧(wd.drew.freeze ⟨N.aC 1,0,io⟩ w.l.length).output=wd.output∧(wd.drew.freeze ⟨N.aC 1,0,io⟩ w.l.length).heap.size=wd.heap.size:=by
   unfold World.freeze;split
   .exact⟨rfl,rfl,rfl,rfl⟩
   .exact⟨rfl,rfl,rfl,by show(wd.heap.modify _ _).size=_;simp⟩
  refine⟨_,M,N,pS ⟨w.l.toArray⟩,[],2,rfl,⟨rfl,rfl,rfl⟩,?_,?_,.iv _ _ (.v _)⟩
  .exact⟨C.1,C.2.1,⟨C.2.2.1,by unfold World.freeze;split<;>exact Vg _⟩,by rw[C.2.2.2];exact Tv _,fun b hb hn=>hk b fun e=>hn 1 _ G e0 e.symm,.refl _,fun b c Z h2=>by simp[Z]at h2,.refl _ _,fun _ h=>h,fun i o u=>(nomatch u)⟩
  .refine⟨fun b d hb=>?_,fun i o u=>(nomatch u),fun i o u=>(nomatch u),fun i o u=>(nomatch u),fun i j o p u=>(nomatch u)⟩;have j0:b≠N.aC 1:=fun e=>by
    have:=hr.dI 1 _ G e0;rw[<-e,hb]at this;cases this
   exact(hr.ey b d hb).mono (hk b j0)
section
variable {nt:NT} {Q:AQ} {k:List KI} {s:AS}
def wS(s:AS)(d:WS)(i j:Nat):AS:=match s with|⟨f,h,n⟩=>⟨f,(i,dl (d.pE i n))::(n,dl (.bA d.l 5))::(i,io)::(j,io)::h,n+1⟩
theorem PL(s:AS)(d:WS)(i j:Nat):wS s d i j=⟨s.f,(i,dl (d.pE i s.nx))::(s.nx,dl (.bA d.l 5))::(i,io)::(j,io)::s.h,s.nx+1⟩:=by cases s;rfl
def PK(s:AS)(d:WS)(i j m:Nat):AS:=match s with|⟨f,h,n⟩=>⟨f,(i,dl (d.pE i n))::(n,dl (.bA d.l 5))::(i,io)::(j,io)::(m,io)::h,n+1⟩
theorem Nd(s:AS)(d:WS)(i j m:Nat):PK s d i j m=⟨s.f,(i,dl (d.pE i s.nx))::(s.nx,dl (.bA d.l 5))::(i,io)::(j,io)::(m,io)::s.h,s.nx+1⟩:=by cases s;rfl
theorem yU{o:Oper}{c:Call}{g:FuncId}{args u:List PV}{w C:WS}{r:PV}{i j:Nat}{s':AS}(hc:bC prog g (.ptr 0 0::args) w.O r C.H 3)(ho:o.op= .call c)(ha:bM s.f c=dl (g,.ptr i 0::u))
  (hi:s.h.get i=dl (w.pE i j)) (hj:s.h.get j=dl (.bA w.l 5)) (hlt:TU i s.nx=is) (hlj:TU j s.nx=is) (hne:TR i j=jp) (has:u=args) (hlow:bD 0 args=is) (hr:r.low 0=is)
  (hp:putDst nt o r (wS s C i j)=dl s'):OT prog nt o s (fun t=>t=s'):=by
 have y:i≠j:=fun e=>by subst e;simp at hne
 have A:([i,j]:List Nat).Nodup:=by simp[y]
 have D: ∀x∈ [i,j],x<s.nx:=by
  intro x B;simp only[TQ,Wc,or_false]at B;rcases B with rfl|rfl
  .exact Tk hlt
  .exact Tk hlj
 subst has;have d: ∀σ,db σ u=u:=fun σ=>hP σ u hlow;refine kH ho ha hc A D ?_ ?_ ?_
 .simp only[TD,TX,hi,hj];rfl
 .simp only[db,d];rfl
 .rintro q F n0 ⟨rfl,rfl,rfl⟩;rw[PV.jz _ _ hr];rw[PL]at hp;exact⟨s',hp,rfl⟩
theorem BR{all rest:List Oper}{o:Oper}{c:Call}{g:FuncId}{args d:List PV}{w u:WS}{r:PV}{i j:Nat}{s':AS}(hc:bC prog g (.ptr 0 0::args) w.O r u.H 3)(ho:o.op= .call c)(hg:o.guard=io)(ha:bM s.f c=dl (g,.ptr i 0::d))
  (hi:s.h.get i=dl (w.pE i j)) (hj:s.h.get j=dl (.bA w.l 5)) (hlt:TU i s.nx=is) (hlj:TU j s.nx=is) (hne:TR i j=jp) (has:d=args) (hlow:bD 0 args=is) (hr:r.low 0=is)
  (hp:putDst nt o r (wS s u i j)=dl s') (h:GO prog nt (.ops all rest::k) Q s'):GO prog nt (.ops all (o::rest)::k) Q s:=
 bF hg (yU hc ho ha hi hj hlt hlj hne has hlow hr hp) fun t x=>by subst x;exact h
theorem ic{all rest:List Oper}{o:Oper}{c:Call}{g:FuncId}{args d:List PV}{w u:WS}{r:PV}{i j:Nat}{s':AS}(hc:bC prog g (.ptr 0 0::args) w.O r u.H 3)(h:GO prog nt (.ops all rest::k) Q s')(ho:o.op= .call c:=by exact rfl)(hg:o.guard=io:=by exact rfl)(ha:bM s.f c=dl (g,.ptr i 0::d):=by exact rfl)(hi:s.h.get i=dl (w.pE i j):=by exact rfl)(hj:s.h.get j=dl (.bA w.l 5):=by exact rfl)(hlt:TU i s.nx=is:=by exact rfl)(hlj:TU j s.nx=is:=by exact rfl)(hne:TR i j=jp:=by exact rfl)(has:d=args:=by exact rfl)(hlow:bD 0 args=is:=by exact rfl)(hr:r.low 0=is:=by exact rfl)(hp:putDst nt o r (wS s u i j)=dl s':=by exact rfl):GO prog nt (.ops all (o::rest)::k) Q s:=BR (hc:=hc) (ho:=ho) (hg:=hg) (ha:=ha) (hi:=hi) (hj:=hj) (hlt:=hlt) (hlj:=hlj) (hne:=hne) (has:=has) (hlow:=hlow) (hr:=hr) (hp:=hp) (h:=h)
theorem Cc{o:Oper}{c:Call}{g:FuncId}{d:List ae}{w u:WS}{i j m n:Nat}{s':AS}(hc:bC prog g [.ptr 0 0,.sl 2 0 d.length 1] [w.c,.bA w.l 5,aX 1 d cB] (.aZ []) [(0,dl (u.pE 0 3)),(3,dl (.bA u.l 5))] 4)(ho:o.op= .call c)(ha:bM s.f c=dl (g,[.ptr i 0,.sl m 0 n 1]))
  (hi:s.h.get i=dl (w.pE i j)) (hj:s.h.get j=dl (.bA w.l 5)) (hm:s.h.get m=dl (aX 1 d cB)) (hn:n=d.length) (hlt:TU i s.nx=is) (hlj:TU j s.nx=is) (hlm:TU m s.nx=is) (hnd:cz [i,j,m]=is)
  (hp:putDst nt o (.aZ []) (PK s u i j m)=dl s'):OT prog nt o s (fun t=>t=s'):=by
 have A: ∀x∈ [i,j,m],x<s.nx:=by
  intro x y;simp only[TQ,Wc,or_false]at y;rcases y with rfl|rfl|rfl
  .exact Tk hlt
  .exact Tk hlj
  .exact Tk hlm
 subst hn;refine kH ho ha hc (eG hnd) A ?_ I ?_
 .simp only[TD,TX,hi,hj,hm,bL];rfl
 .rintro q B n0 ⟨rfl,rfl,rfl⟩;rw[Nd]at hp;exact⟨s',hp,rfl⟩
theorem go_wp{all rest:List Oper}{o:Oper}{c:Call}{g:FuncId}{d:List ae}{w u:WS}{i j m n:Nat}{s':AS}(hc:bC prog g [.ptr 0 0,.sl 2 0 d.length 1] [w.c,.bA w.l 5,aX 1 d cB] (.aZ []) [(0,dl (u.pE 0 3)),(3,dl (.bA u.l 5))] 4)(ho:o.op= .call c)(hg:o.guard=io)(ha:bM s.f c=dl (g,[.ptr i 0,.sl m 0 n 1]))
  (hi:s.h.get i=dl (w.pE i j)) (hj:s.h.get j=dl (.bA w.l 5)) (hm:s.h.get m=dl (aX 1 d cB)) (hn:n=d.length) (hlt:TU i s.nx=is) (hlj:TU j s.nx=is) (hlm:TU m s.nx=is) (hnd:cz [i,j,m]=is)
  (hp:putDst nt o (.aZ []) (PK s u i j m)=dl s')
  (h:GO prog nt (.ops all rest::k) Q s'):GO prog nt (.ops all (o::rest)::k) Q s:=
 bF hg (Cc hc ho ha hi hj hm hn hlt hlj hlm hnd hp) fun t x=>by subst x;exact h
theorem jc{all rest:List Oper}{o:Oper}{c:Call}{g:FuncId}{d:List ae}{w u:WS}{i j m n:Nat}{s':AS}(hc:bC prog g [.ptr 0 0,.sl 2 0 d.length 1] [w.c,.bA w.l 5,aX 1 d cB] (.aZ []) [(0,dl (u.pE 0 3)),(3,dl (.bA u.l 5))] 4)(h:GO prog nt (.ops all rest::k) Q s')(ho:o.op= .call c:=by exact rfl)(hg:o.guard=io:=by exact rfl)(ha:bM s.f c=dl (g,[.ptr i 0,.sl m 0 n 1]):=by exact rfl)(hi:s.h.get i=dl (w.pE i j):=by exact rfl)(hj:s.h.get j=dl (.bA w.l 5):=by exact rfl)(hm:s.h.get m=dl (aX 1 d cB):=by exact rfl)(hn:n=d.length:=by exact rfl)(hlt:TU i s.nx=is:=by exact rfl)(hlj:TU j s.nx=is:=by exact rfl)(hlm:TU m s.nx=is:=by exact rfl)(hnd:cz [i,j,m]=is:=by exact rfl)(hp:putDst nt o (.aZ []) (PK s u i j m)=dl s':=by exact rfl):GO prog nt (.ops all (o::rest)::k) Q s:=go_wp (hc:=hc) (ho:=ho) (hg:=hg) (ha:=ha) (hi:=hi) (hj:=hj) (hm:=hm) (hn:=hn) (hlt:=hlt) (hlj:=hlj) (hlm:=hlm) (hnd:=hnd) (hp:=hp) (h:=h)
theorem yC{all:List Oper}{todo pend:List (Nat×Oper)}{u:Nat}{B A:Prop}{o:Oper}{c:Call}{g:FuncId}{d:List ae}{w y:WS}{i j m n:Nat}{s':AS}(hc:bC prog g [.ptr 0 0,.sl 2 0 d.length 1] [w.c,.bA w.l 5,aX 1 d cB] (.aZ []) [(0,dl (y.pE 0 3)),(3,dl (.bA y.l 5))] 4)
  (hrd:dX todo=[(u,o)]) (ho:o.op= .call c) (ha:bM s.f c=dl (g,[.ptr i 0,.sl m 0 n 1]))
  (hi:s.h.get i=dl (w.pE i j)) (hj:s.h.get j=dl (.bA w.l 5)) (hm:s.h.get m=dl (aX 1 d cB)) (hn:n=d.length) (hlt:TU i s.nx=is) (hlj:TU j s.nx=is) (hlm:TU m s.nx=is) (hnd:cz [i,j,m]=is)
  (hp:putDst nt o (.aZ []) (PK s y i j m)=dl s')
  (hg:bV nt all s.f o=dl is) (hpb:hQ all pend o=is) (hE:mC todo [u]=is)
  (hag:mF mB nt all s todo pend=dl B) (hCA:B) (hag2:de mB nt all s' (a8 pend o)=dl A) (hC2:A)
  (h:GO prog nt (.bY all (todo.filter fun x=>!TR x.1 u) (a8 pend o)::k) Q s'):GO prog nt (.bY all todo pend::k) Q s:=
 mb ab hrd hg hpb hE hag hCA (Cc hc ho ha hi hj hm hn hlt hlj hlm hnd hp) hag2 hC2 h
theorem Rz{all:List Oper}{todo pend:List (Nat×Oper)}{d:Nat}{y u:Prop}{o:Oper}{c:Call}{g:FuncId}{args A:List PV}{w B:WS}{r:PV}{i j:Nat}{s':AS}(hc:bC prog g (.ptr 0 0::args) w.O r B.H 3)
  (hrd:dX todo=[(d,o)]) (ho:o.op= .call c) (ha:bM s.f c=dl (g,.ptr i 0::A))
  (hi:s.h.get i=dl (w.pE i j)) (hj:s.h.get j=dl (.bA w.l 5)) (hlt:TU i s.nx=is) (hlj:TU j s.nx=is) (hne:TR i j=jp) (has:A=args) (hlow:bD 0 args=is) (hr:r.low 0=is)
  (hp:putDst nt o r (wS s B i j)=dl s')
  (hg:bV nt all s.f o=dl is) (hpb:hQ all pend o=is) (hE:mC todo [d]=is)
  (hag:mF mB nt all s todo pend=dl y) (hCA:y) (hag2:de mB nt all s' (a8 pend o)=dl u) (hC2:u)
  (h:GO prog nt (.bY all (todo.filter fun x=>!TR x.1 d) (a8 pend o)::k) Q s'):GO prog nt (.bY all todo pend::k) Q s:=
 mb ab hrd hg hpb hE hag hCA (yU hc ho ha hi hj hlt hlj hne has hlow hr hp) hag2 hC2 h
theorem vS{all:List Oper}{todo pend:List (Nat×Oper)}{d:Nat}{y u:Prop}{o:Oper}{c:Call}{g:FuncId}{args A:List PV}{w B:WS}{r:PV}{i j:Nat}{s':AS}(hc:bC prog g (.ptr 0 0::args) w.O r B.H 3)(h:GO prog nt (.bY all (todo.filter fun x=>!TR x.1 d) (a8 pend o)::k) Q s')(hrd:dX todo=[(d,o)]:=by exact rfl)(ho:o.op= .call c:=by exact rfl)(ha:bM s.f c=dl (g,.ptr i 0::A):=by exact rfl)(hi:s.h.get i=dl (w.pE i j):=by exact rfl)(hj:s.h.get j=dl (.bA w.l 5):=by exact rfl)(hlt:TU i s.nx=is:=by exact rfl)(hlj:TU j s.nx=is:=by exact rfl)(hne:TR i j=jp:=by exact rfl)(has:A=args:=by exact rfl)(hlow:bD 0 args=is:=by exact rfl)(hr:r.low 0=is:=by exact rfl)(hp:putDst nt o r (wS s B i j)=dl s':=by exact rfl)(hg:bV nt all s.f o=dl is:=by exact rfl)(hpb:hQ all pend o=is:=by exact rfl)(hE:mC todo [d]=is:=by exact rfl)(hag:mF mB nt all s todo pend=dl y:=by exact rfl)(hCA:y:=by(repeat' (first|exact ac|exact rfl|exact aj.refl _|exact aj.bk (by assumption)|apply Tq))<;>first|omega|(simp only[Tt];omega)|(simp;done)|(simp;omega))(hag2:de mB nt all s' (a8 pend o)=dl u:=by exact rfl)(hC2:u:=by(repeat' (first|exact ac|exact rfl|exact aj.refl _|exact aj.bk (by assumption)|apply Tq))<;>first|omega|(simp only[Tt];omega)|(simp;done)|(simp;omega)):GO prog nt (.bY all todo pend::k) Q s:=Rz (hc:=hc) (hrd:=hrd) (ho:=ho) (ha:=ha) (hi:=hi) (hj:=hj) (hlt:=hlt) (hlj:=hlj) (hne:=hne) (has:=has) (hlow:=hlow) (hr:=hr) (hp:=hp) (hg:=hg) (hpb:=hpb) (hE:=hE) (hag:=hag) (hCA:=hCA) (hag2:=hag2) (hC2:=hC2) (h:=h)
theorem xj{l:List ResultVar}{r r0 a b c d:PV}{e:Exit}{u:WS}{j n:Nat}(he:e= .normal∨e= .ret)(hr:jy mB s l=dl r0)(hi:s.h.get 0=dl (.cells [a,b,c,d] (dl 188)))(ha:a= .fj u.fr 0)(hb:b= .sl j 0 n 1)(hn:n=u.l.length)(hc:aj c (pB u.bad))(hd:aj d (pI u.br))
  (hj:s.h.get j=dl (.bA u.l 5)) (hlj:TU j s.nx=is) (hne:TR 0 j=jp) (hns:Vm 2 s.nx=is)
  (hrl:aj r0 r) (hlow:r.low 0=is) (hlow3:r.low 3=is):B8 mB l 2 r u.H 3 e s:=by
 subst ha;subst hb;subst hn;refine aD [j] he hr ⟨rfl,Tk hns,fun x y=>?_,⟨?_,hlow3,ac⟩,⟨⟨_,hi,.cells ⟨.refl _,.refl _,hc,hd,ac⟩⟩,Tk I,rfl,⟨.bA u.l 5,hj,.of_eq I⟩,Tk I,ac,ac⟩,?_⟩
 .simp only[TF]at y;subst y;exact Tk hlj
 .rw[PV.jz _ _ hlow];exact hrl
 .have:(0:Nat)≠j:=fun e=>by subst e;simp at hne
  show([0,j]:List Nat).Nodup;simpa using this
theorem iN{l:List ResultVar}{r r0 a b c d:PV}{e:Exit}{u:WS}{j n:Nat}(he:e= .normal∨e= .ret:=by first|exact .inr I|exact .inl I)(hr:jy mB s l=dl r0:=by exact rfl)(hi:s.h.get 0=dl (.cells [a,b,c,d] (dl 188)):=by exact rfl)(ha:a= .fj u.fr 0:=by exact rfl)(hb:b= .sl j 0 n 1:=by exact rfl)(hn:n=u.l.length:=by exact rfl)(hc:aj c (pB u.bad):=by first|exact .refl _|exact .kb _)(hd:aj d (pI u.br):=by first|exact .refl _|exact .kb _)(hj:s.h.get j=dl (.bA u.l 5):=by exact rfl)(hlj:TU j s.nx=is:=by exact rfl)(hne:TR 0 j=jp:=by exact rfl)(hns:Vm 2 s.nx=is:=by exact rfl)(hrl:aj r0 r:=by exact .refl _)(hlow:r.low 0=is:=by exact rfl)(hlow3:r.low 3=is:=by exact rfl):B8 mB l 2 r u.H 3 e s:=xj (he:=he) (hr:=hr) (hi:=hi) (ha:=ha) (hb:=hb) (hn:=hn) (hc:=hc) (hd:=hd) (hj:=hj) (hlj:=hlj) (hne:=hne) (hns:=hns) (hrl:=hrl) (hlow:=hlow) (hlow3:=hlow3)
theorem HW{n0 j m:Nat}{C:AF}{w A:WS}{a b c d:PV}(hw:w=A)(hi:s.h.get 0=dl (.cells [a,b,c,d] (dl 188)))(ha:a= .fj w.fr 0)(hb:b= .sl j 0 m 1)(hm:m=w.l.length)(hc:aj c (pB w.bad))(hd:aj d (pI w.br))(hj:s.h.get j=dl (.bA w.l 5))
  (hlj:TU j s.nx=is) (hne:TR 0 j=jp) (h0:TU 0 n0=is) (hns:Vm n0 s.nx=is) (hf:EU (n0+1) (sg n0 [j]) s.f C):Wk n0 [j] s ⟨C,[(0,dl (A.pE 0 n0)),(n0,dl (.bA A.l 5))],n0+1⟩:=by
 subst hw;subst ha;subst hb;subst hm;have u:0<n0:=Tk h0;have s0:sg n0 [j] 0=0:=fZ u;have D:TU n0 n0=jp:=Bool.eq_false_iff.2 fun e=>absurd (Tk e) (by omega);have F:TU 0 (n0+1)=is:=Uu (by omega);have G:TU n0 (n0+1)=is:=Uu (by omega);have y:sg n0 [j] n0=j:=by simp[sg,D]
 refine⟨rfl,Tk hns,fun x B=>?_,hf,⟨⟨_,by rw[s0];exact hi,?_⟩,U0 u,?_,⟨.bA w.l 5,by rw[y];exact hj,.of_eq I⟩,US _,ac,ac⟩,?_⟩
 .simp only[TF]at B;subst B;exact Tk hlj
 .simp only[AO.bZ,db,PV.bZ,s0,y];exact .cells ⟨.refl _,.refl _,hc,hd,ac⟩
 .simp[AO.low,bD,PV.low,F,G]
 .have:(0:Nat)≠j:=fun e=>by subst e;simp at hne
  simp only[fi,s0,y];simpa using this
theorem pK{n0 j m:Nat}{x:AF}{w u:WS}{a b c d:PV}(hw:w=u)(hi:s.h.get 0=dl (.cells [a,b,c,d] (dl 188)):=by exact rfl)(ha:a= .fj w.fr 0:=by exact rfl)(hb:b= .sl j 0 m 1:=by exact rfl)(hm:m=w.l.length:=by exact rfl)(hc:aj c (pB w.bad):=by first|exact .refl _|exact .kb _)(hd:aj d (pI w.br):=by first|exact .refl _|exact .kb _)(hj:s.h.get j=dl (.bA w.l 5):=by exact rfl)(hlj:TU j s.nx=is:=by exact rfl)(hne:TR 0 j=jp:=by exact rfl)(h0:TU 0 n0=is:=by exact rfl)(hns:Vm n0 s.nx=is:=by exact rfl)(hf:EU (n0+1) (sg n0 [j]) s.f x:=by repeat' (first|exact ac|exact aj.refl _|exact rfl|apply Tq)):Wk n0 [j] s ⟨x,[(0,dl (u.pE 0 n0)),(n0,dl (.bA u.l 5))],n0+1⟩:=HW (hw:=hw) (hi:=hi) (ha:=ha) (hb:=hb) (hm:=hm) (hc:=hc) (hd:=hd) (hj:=hj) (hlj:=hlj) (hne:=hne) (h0:=h0) (hns:=hns) (hf:=hf)
end
end
def zP(w:WS)(s:ae):WS:=⟨jp,w.l++s.data.toList,w.bad,w.br⟩
theorem d183(w:WS)(s:ae)(hb:w.l.length+s.size<=140737488355328):bC prog 146 [.ptr 0 0,pS s] w.O (.aZ [pI s.size,.iv (.v .nilIface)]) (zP w s).H 3:=by
 refine aq ab func146 I (by decide) ntmps146 I (by simp) ?_;refine gA I (zq [0,1] (d204 w) ?_);refine gA I ?_;refine Kx ab I I I I I I I I I I I I I I I I hb ?_;refine gA I iN
def aV(w:WS)(b:Bool):WS:=⟨w.fr,w.l,w.bad||!b,w.br⟩
theorem Kj(w:WS){b:Bool}(h:(!b)=jp):aV w b=w:=by cases w;simp_all [aV]
theorem Kk(w:WS){b:Bool}(h:(!b)=is):aV w b=⟨w.fr,w.l,is,w.br⟩:=by cases w;simp_all [aV]
theorem d146(w:WS)(b:Bool):bC prog 144 [.ptr 0 0,pB b] w.O (.aZ []) (aV w b).H 3:=by
 refine aq ab func144 I (by decide) ntmps144 I (by simp) ?_;refine zJ I I (fun h=>?_) fun h=>?_
 .rw[Kk w h];refine gA I iN
 .rw[Kj w h];refine gA I iN
def aU(w:WS)(d:List ae):WS:=d.foldl zP w
def eE(d:List ae):Nat:=(d.map WQ).sum
theorem F6(w:WS)(s:ae):(zP w s).l.length=w.l.length+s.size:=by simp[zP]
theorem gu: ∀(d:List ae) (w:WS),(aU w d).l.length=w.l.length+eE d
 | [],w=>by simp[aU,eE]
 |s::r,w=>by
  have:=gu r (zP w s);simp only[aU,Uc]at this ⊢;rw[this,F6];simp[eE];omega
theorem tX: ∀(d:List ae) (i:Nat),i<d.length->eE (d.take i)+(d.getD i co).size<=eE d
 | [],i,h=>by simp at h
 |s::r,0,_=>by simp[eE]
 |s::r,i+1,h=>by
  have:=tX r i (by simpa using h);simp[eE]at this ⊢;omega
theorem d147(w:WS)(d:List ae)(A:d.length<=1000)(hb:w.l.length+eE d<=140737488355328):bC prog 98 [.ptr 0 0,.sl 2 0 d.length 1] [w.c,.bA w.l 5,aX 1 d cB] (.aZ []) [(0,dl ((aU w d).pE 0 3)),(3,dl (.bA (aU w d).l 5))] 4:=by
 refine aq ab func98 I (by decide) ntmps98 I (by simp) ?_;refine gA I ?_;refine eW 2 (fun k=>cB (d.getD k co)) I (dq I) (by simp[AF.iw,PV.bh,kS]) ⟨(by simp[AO.iw,bg,PV.bh]),ac,cX _ _ _ _ _ _,ac⟩ ?_;refine aG 0 d.length (TB _) (fun i=>⟨[(0,.ptr 0 0),(6,.iv (strs d)),(7,pI d.length),(8,pI i)],[(0,dl ((aU w (d.take i)).pE 0 3)),(3,dl (.bA (aU w (d.take i)).l 5))],4⟩) (fun _=>True) [1] ac
  (zM (bi ⟨.bU I (fun k _=>by rw[TL]),rfl,bi (bi trivial)⟩) ⟨⟨_,rfl,.of_eq I⟩,Tk I,rfl,⟨_,rfl,.of_eq I⟩,Tk I,ac,ac⟩) fun i y _=>?_
 refine zJ I I (fun j=>?_) fun j=>?_
 .have j:i<d.length:=zN j;have u:aU w (d.take (i+1))=zP (aU w (d.take i)) (d.getD i co):=iG (g:=zP) (b:=w) j;have x:=gu (d.take i) w;have B:=tX d i j;refine gA I (ic (d183 (aU w (d.take i)) (d.getD i co) (by omega)) ?_);refine gA I ⟨j,ac,[4],zW ⟨⟨_,rfl,.of_eq (by rw[u];rfl)⟩,Tk I,rfl,⟨_,rfl,.of_eq (by rw[u];rfl)⟩,Tk I,ac,ac⟩⟩
 .have j:d.length<=i:=zG j;rw[TE j];refine gA I (zD [3] I (zW ⟨⟨_,rfl,.of_eq I⟩,Tk I,rfl,⟨_,rfl,.of_eq I⟩,Tk I,ac,ac⟩))
end Go.Proofs.YtbhphmfbligliaaGreatDoor
namespace Go.Proofs
open Go.Shelf
def Tryz.yu:Go.Shelf.Ren:=⟨fun|171=>250|243=>298|246=>330|283=>337|284=>338|285=>339|286=>340|129=>281|317=>343|318=>344|319=>345|320=>346|337=>348|338=>349|n=>n,fun|3=>3|9=>9|2=>2|4=>4|171=>414|0=>0|53=>116|37=>33|5=>5|173=>416|212=>420|51=>50|20=>20|213=>421|46=>108|232=>423|233=>424|n=>n,fun|17=>0|18=>1|19=>2|n=>n⟩
theorem Tryz.Gz:Go.Proofs.LaysM.n171 Tryz.prog Tryz.yu:={
 mixed:=by kernel_rfl
 f129:=Tryz.func281.trans (congrArg dl (by kernel_rfl))
 f171:=Tryz.func250.trans (congrArg dl (by kernel_rfl))
 f243:=Tryz.func298.trans (congrArg dl (by kernel_rfl))
 f246:=Tryz.func330.trans (congrArg dl (by kernel_rfl))
 f283:=Tryz.func337.trans (congrArg dl (by kernel_rfl))
 f284:=Tryz.func338.trans (congrArg dl (by kernel_rfl))
 f285:=Tryz.func339.trans (congrArg dl (by kernel_rfl))
 f286:=Tryz.func340.trans (congrArg dl (by kernel_rfl))
 f317:=Tryz.func343.trans (congrArg dl (by kernel_rfl))
 f318:=Tryz.func344.trans (congrArg dl (by kernel_rfl))
 f319:=Tryz.func345.trans (congrArg dl (by kernel_rfl))
 f320:=Tryz.func346.trans (congrArg dl (by kernel_rfl))
 f337:=Tryz.func348.trans (congrArg dl (by kernel_rfl))
 f338:=Tryz.func349.trans (congrArg dl (by kernel_rfl))
 t0:=Tryz.underlying0
 a0:=Tryz.isAgg0
 z0:=Tryz.sizeOf0
 v0:=Tryz.zeroValue0
 t2:=Tryz.underlying2
 a2:=Tryz.isAgg2
 z2:=Tryz.sizeOf2
 v2:=Tryz.zeroValue2
 t3:=Tryz.underlying3
 a3:=Tryz.isAgg3
 z3:=Tryz.sizeOf3
 v3:=Tryz.zeroValue3
 t4:=Tryz.underlying4
 a4:=Tryz.isAgg4
 z4:=Tryz.sizeOf4
 v4:=Tryz.zeroValue4
 t5:=Tryz.underlying5
 a5:=Tryz.isAgg5
 z5:=Tryz.sizeOf5
 v5:=Tryz.zeroValue5
 t9:=Tryz.underlying9
 a9:=Tryz.isAgg9
 z9:=Tryz.sizeOf9
 v9:=Tryz.zeroValue9
 t20:=Tryz.underlying20
 a20:=Tryz.isAgg20
 z20:=Tryz.sizeOf20
 v20:=Tryz.zeroValue20
 t37:=Tryz.underlying33
 a37:=Tryz.isAgg33
 z37:=Tryz.sizeOf33
 v37:=Tryz.zeroValue33
 t46:=Tryz.underlying108
 a46:=Tryz.isAgg108
 z46:=Tryz.sizeOf108
 v46:=Tryz.zeroValue108
 t51:=Tryz.underlying50
 a51:=Tryz.isAgg50
 z51:=Tryz.sizeOf50
 v51:=Tryz.zeroValue50
 t53:=Tryz.underlying116
 a53:=Tryz.isAgg116
 z53:=Tryz.sizeOf116
 v53:=Tryz.zeroValue116
 t171:=Tryz.underlying414
 a171:=Tryz.isAgg414
 z171:=Tryz.sizeOf414
 v171:=Tryz.zeroValue414
 t173:=Tryz.underlying416
 a173:=Tryz.isAgg416
 z173:=Tryz.sizeOf416
 v173:=Tryz.zeroValue416
 t212:=Tryz.underlying420
 a212:=Tryz.isAgg420
 z212:=Tryz.sizeOf420
 v212:=Tryz.zeroValue420
 t213:=Tryz.underlying421
 a213:=Tryz.isAgg421
 z213:=Tryz.sizeOf421
 t232:=Tryz.underlying423
 a232:=Tryz.isAgg423
 z232:=Tryz.sizeOf423
 v232:=Tryz.zeroValue423
 t233:=Tryz.underlying424
 a233:=Tryz.isAgg424
 z233:=Tryz.sizeOf424
 v233:=Tryz.zeroValue424
 g17:=by kernel_rfl
 g18:=by kernel_rfl
 g19:=by kernel_rfl
 i0:=by kernel_rfl
 i2:=by kernel_rfl
 i3:=by kernel_rfl
 i4:=by kernel_rfl
 i5:=by kernel_rfl
 i9:=by kernel_rfl
 i20:=by kernel_rfl
 i37:=by kernel_rfl
 i46:=by kernel_rfl
 i51:=by kernel_rfl
 i53:=by kernel_rfl
 i171:=by kernel_rfl
 i173:=by kernel_rfl
 i212:=by kernel_rfl
 i232:=by kernel_rfl
 i233:=by kernel_rfl
 m17:=by kernel_rfl
 m18:=by kernel_rfl
 m19:=by kernel_rfl}
theorem YtbhphmfbligliaaGreatDoor.Rr (n:Int) (h0: -9223372036854775808<=n) (h1:n<=9223372036854775807) (w:World) (d:Lib.TabIs Tryz.prog w "internal/strconv.uint64pow10" .u64 Lib.pow10Tab):
  Calls Tryz.prog 250 #[.int .i64 n] w fun e j=>e= .returned (.string ⟨(Lib.itoa n).toArray⟩)∧ ∃k os,j=Go.Sort.grow (w.drewN k) os:=Any.strconv_Itoa Tryz.Gz n h0 h1 w d
end Go.Proofs
namespace Go.Proofs.YtbhphmfbligliaaGreatDoor
open Go Go.Al Go.Proofs.Tryz
theorem SC:prog.globalNamed "internal/strconv.uint64pow10" =dl 0:=by kernel_rfl
theorem pow_eq:o7=Lib.pow10Tab:=by decide
theorem Sg{M:Mem}{N:Nm}{U:Nat->Prop}{h:AH}{w:World}(hr:Rel M N U h w):Lib.TabIs prog w "internal/strconv.uint64pow10" .u64 Lib.pow10Tab:=by
 obtain⟨T,j,d⟩:=hr.ey 0 _ (M.KG 0 _ I);show World.var? _ _ _=_;simp only[World.var?,SC,Wy,d,pow_eq]
theorem SV(n:Int)(h0: -9223372036854775808<=n)(h1:n<=9223372036854775807):Pure prog 250 [pI n] (pS ⟨(Lib.itoa n).toArray⟩):=by
 refine⟨bQ func250 I (by decide),fun M N w vs x u D=>?_⟩;obtain⟨v,rfl⟩: ∃v,vs=[v]:=by
  cases vs with
  |nil=>cases u
  |cons v r=>cases r with
   |nil=>exact⟨v,rfl⟩
   |cons a b=>simp at u
 have y:VR M N (· <0) (pI n) v:=D 0 _ I;have A:v= .int .i64 n:=by
  cases y with
  |iv _ _ h=>cases h;rfl
 subst A;refine(Rr n h0 h1 w (Sg x)).mono ?_;rintro e F ⟨rfl,k,os,rfl⟩;have B: ∀b,b<w.heap.size->(Go.Sort.grow (w.drewN k) os).heap[b]? =w.heap[b]? :=fun b hb=>by
  show(w.heap++os)[b]? =_;rw[T6 hb]
 refine⟨_,M,N,pS ⟨(Lib.itoa n).toArray⟩,[],0,rfl,⟨rfl,rfl,rfl⟩,⟨rfl,rfl,⟨rfl,Wz _ _⟩,?_,fun b hb _=>B b hb,.refl _,fun b c h1 C=>(nomatch (h1.symm.trans C)),.refl _ _,fun _ h=>h,fun i o d=>(nomatch d)⟩,⟨fun b c hb=>?_,fun i o d=>(nomatch d),fun i o d=>(nomatch d),fun i o d=>(nomatch d),fun i j o p d=>(nomatch d)⟩,.iv _ _ (.v _)⟩
 .show w.heap.size<=(w.heap++os).size;simp
 .exact(x.ey b c hb).mono (B b (x.ey b c hb).lt)
def SA:ae:=⟨#[48,49,50,51,52,53,54,55,56,57,65,66,67,68,69,70]⟩
def PD(c:UInt8):Int:=(c.toNat:Int).fdiv (2 ^ min (VB 4) IntKind.u8.bits)
def PC(c:UInt8):Int:=IntKind.u8.wrap ((BitVec.ofInt IntKind.u8.bits (c.toNat:Int)&&&BitVec.ofInt IntKind.u8.bits 15).toNat:Int)
theorem O2(c:UInt8):0<=PD c∧PD c<16:=by
 have h:c.toNat<256:=c.toNat_lt;have e:PD c=(c.toNat:Int)/16:=by
  unfold PD;have:(2:Int) ^ min (VB 4) IntKind.u8.bits=16:=by decide
  rw[this];exact UT _ (by decide)
 rw[e];omega
theorem OX: ∀c:UInt8,0<=PC c∧PC c<16:=by
 intro c;have h: ∀n:Fin 256,0<=PC (UInt8.ofNat n.val)∧PC (UInt8.ofNat n.val)<16:=by decide
 have:=h ⟨c.toNat,c.toNat_lt⟩;simpa using this
def Ru(n:Int):UInt8:=SA.data.toList.getD n.toNat 0
def qB(c:UInt8):List UInt8:=if c.toNat=34∨c.toNat=92 then[92,c] else if c.toNat=10 then[92,110] else if c.toNat<32∨126<c.toNat then[92,120,Ru (PD c),Ru (PC c)] else[c]
theorem OH(c:UInt8):(qB c).length<=4:=by
 unfold qB
 repeat' split
 all_goals simp
def rn(s:ae)(i:Nat):List UInt8:=34::(s.data.toList.take i).flatMap qB
def rj(s:ae):ae:=⟨(34::s.data.toList.flatMap qB++ [34]).toArray⟩
theorem ur(s:ae): ∀i,(rn s i).length<=1+4*i
 |0=>by simp[rn]
 |i+1=>by
  have h:=ur s i;rcases Un i s.data.toList.length with hi|hi
  .have:=OH (s.data.toList.getD i co);simp only[rn,TO]at h ⊢;rw[bx hi,Tn];omega
  .simp only[rn,TE hi]at h;simp only[rn,TE (by omega:s.data.toList.length<=i+1)];omega
theorem Ee{s:ae}{i:Nat}(h:i<s.data.toList.length):rn s (i+1)=rn s i++qB (s.data.toList.getD i co):=by
 simp only[rn,bx h,TV]
theorem SU(s:ae)(hs:s.size<=1000):Pure prog 314 [pS s] (pS (rj s)):=by
 have Y:s.data.toList.length=s.size:=by simp
 refine ai ab func314 I (by decide) ntmps314 I (by simp) I ?_;refine gA I ?_;refine w7 ab I I I I I I I I I I I (by omega) ?_;refine gA I ?_;refine aG 0 s.data.toList.length (TB _) (fun i=>⟨[(3,.sl 1 0 (rn s i).length 1),(8,.iv (.bU 1 s.data.toList.length fun k=>bb (s.data.toList.getD k co))),(9,pI s.data.toList.length),(10,pI i)],[(1,dl (aX 1 (rn s i) bb))],2⟩) (fun _=>True) [0] ac
  (zW (zS trivial)) fun i J _=>?_
 have Z:=ur s i;refine zE I I (fun y=>?_) fun y=>?_
 .have y:s.data.toList.length<=i:=zG y;refine gA I ?_;refine KF ab (rn s i++ [34]) I I I I I I I I I I I I (by rw[TA];rfl) (by rw[Tn];rfl) ?_;refine gA I (zL (.of_eq ?_));simp only[rn,rj,TE y];rfl
 have y:i<s.data.toList.length:=zN y;have d:=Ee y;have j:s.data.toList.getD (i:Int).toNat co=s.data.toList.getD i co:=rfl;generalize G:s.data.toList.getD i co=c at d j;refine zJ I I (fun B=>?_) fun B=>?_
 .have B:c.toNat=34:=by have:=zT B;rw[j]at this;omega
  rw[qB,am (.inl B)]at d;refine gA I ⟨y,ac,[3],zM ⟨.row (by rw[d,Tn];rfl),rfl,bi (bi (bi ac))⟩ (hR I (by rw[d,TA,<-G];rfl) I ac)⟩
 have B: ¬c.toNat=34:=by have:=zF B;rw[j]at this;omega
 refine zJ I I (fun C=>?_) fun C=>?_
 .have C:c.toNat=92:=by have:=zT C;rw[j]at this;omega
  rw[qB,am (.inr C)]at d;refine gA I ⟨y,ac,[3],zM ⟨.row (by rw[d,Tn];rfl),rfl,bi (bi (bi ac))⟩ (hR I (by rw[d,TA,<-G];rfl) I ac)⟩
 have C: ¬c.toNat=92:=by have:=zF C;rw[j]at this;omega
 rw[qB,be (by omega)]at d;refine zJ I I (fun A=>?_) fun A=>?_
 .have A:c.toNat=10:=by have:=zT A;rw[j]at this;omega
  rw[am A]at d;refine gA I ⟨y,ac,[3],zM ⟨.row (by rw[d,Tn];rfl),rfl,bi (bi (bi ac))⟩ (hR I (by rw[d,TA];rfl) I ac)⟩
 have A: ¬c.toNat=10:=by have:=zF A;rw[j]at this;omega
 rw[be A]at d;have u:=O2 c;have x:=OX c;rw[<-G]at u x;simp only[PD,PC]at u x;refine zJ I I (fun D=>?_) fun D=>?_
 .have D:c.toNat<32:=by have:=zT D;rw[j]at this;omega
  rw[am (.inl D)]at d;refine iq I (by(repeat' (first|exact ac|exact rfl|exact aj.refl _|exact u|exact x|apply Tq))<;>first|omega|exact u.1|exact u.2|exact x.1|exact x.2|simp) ?_;exact⟨y,ac,[3],zM ⟨.row (by rw[d,Tn];rfl),rfl,bi (bi (bi ac))⟩ (hR I (by rw[d,TA,<-G];rfl) I ac)⟩
 have D: ¬c.toNat<32:=by have:=zF D;rw[j]at this;omega
 refine zJ I I (fun F=>?_) fun F=>?_
 .have F:126<c.toNat:=by have:=zT F;rw[j]at this;omega
  rw[am (.inr F)]at d;refine iq I (by(repeat' (first|exact ac|exact rfl|exact aj.refl _|exact u|exact x|apply Tq))<;>first|omega|exact u.1|exact u.2|exact x.1|exact x.2|simp) ?_;exact⟨y,ac,[3],zM ⟨.row (by rw[d,Tn];rfl),rfl,bi (bi (bi ac))⟩ (hR I (by rw[d,TA,<-G];rfl) I ac)⟩
 have F: ¬126<c.toNat:=by have:=zF F;rw[j]at this;omega
 rw[be (by omega)]at d;refine gA I ⟨y,ac,[3],zM ⟨.row (by rw[d,Tn];rfl),rfl,bi (bi (bi ac))⟩ (hR I (by rw[d,TA,<-G];rfl) I ac)⟩
def wh(v:ei):ae:=if v.kind=1 then⟨(Lib.itoa v.num).toArray⟩ else if gf v.sym then v.sym else rj v.sym
theorem tL{v:ei}(h:ch v=0)(h1:v.kind=1): -2147483647<=v.num∧v.num<=2147483647:=by
 unfold ch at h;rw[am h1]at h;split at h
 .rename_i d;exact d.2
 .cases h
theorem tK{v:ei}(h:ch v=0)(h1: ¬v.kind=1):v.sym.size<=64:=by
 unfold ch at h;rw[be h1]at h;split at h
 .split at h
  .rename_i d;exact d.2
  .cases h
 .cases h
theorem SW(v:ei)(u:ch v=0):Pure prog 283 [ag v.c] (pS (wh v)):=by
 refine ai ab func283 I (by decide) ntmps283 I (by simp) I ?_;refine zJ I I (fun d=>?_) fun d=>?_
 .have d:v.kind=1:=by simpa using d
  have:=tL u d;refine gA I (zp (SV v.num (by omega) (by omega)) ?_);refine gA I (zL (.of_eq ?_));rw[wh,am d];rfl
 have d: ¬v.kind=1:=by simpa using d
 have x:=tK u d;refine gA I (zp (RR v.sym) ?_);refine zJ I I (fun j=>?_) fun j=>?_
 .have j:gf v.sym=is:=j;refine gA I (zL (.of_eq ?_));rw[wh,be d,am j];rfl
 .have j:gf v.sym=jp:=j;refine gA I (zp (SU v.sym (by omega)) ?_);refine gA I (zL (.of_eq ?_));rw[wh,be d,be (by rw[j];simp)];rfl
def rX(v:ei):ae:=if ch v=0 then wh v else⟨#[]⟩
theorem S0(v:ei):Pure prog 234 [ag v.c] (.aZ [pS (rX v),pI (ch v)]):=by
 refine ai ab func234 I (by decide) ntmps234 I (by simp) I ?_;refine gA I (zp (RT v) ?_);refine zJ I I (fun d=>?_) fun d=>?_
 .have d: ¬ch v=0:=by simpa using d
  refine gA I (zL (.of_eq ?_));rw[rX,be d];rfl
 .have d:ch v=0:=by simpa using d
  refine gA I (zp (SW v d) ?_);refine gA I (zL (.of_eq ?_));rw[rX,am d,d];rfl
def mJ(w:WS)(v:ei):WS:=aU (aV w (kw (ch v=0))) [rX v]
theorem d149(w:WS)(v:ei)(hb:w.l.length<=1000000000000)(d:(rX v).size<=1000):bC prog 184 [.ptr 0 0,ag v.c] w.O (.aZ []) (mJ w v).H 3:=by
 refine aq ab func184 I (by decide) ntmps184 I (by simp) ?_;refine gA I (zp (S0 v) ?_);refine gA I (BR (d146 ⟨_,_,_,_⟩ (kw (ch v=0))) I I I I I I I I I I I I ?_);refine gA I (go_wp (d147 ⟨_,_,_,_⟩ [rX v] (by simp) (by simp[eE,aV];omega)) I I I I I I I I I I I I ?_);refine gA I iN
def cH(op:Int):Int:=if op=1∨op=2 then 1 else if op=3∨op=4∨op=5 then 2 else if op=6 then 3 else 0
theorem K0(op:Int):Pure prog 285 [pI op] (pI (cH op)):=by
 refine ai ab func285 I (by decide) ntmps285 I (by simp) I ?_
 repeat' (first|(refine gA I (zI (fun _=>?_) (fun _=>?_)))|(refine gA I (zL (.of_eq ?_))))
 all_goals(refine(EZ ?_:pI _=pI _);simp only[VY,Wp,decide_eq_true_eq,decide_eq_false_iff_not] at*;simp_all [cH])
def eh(e:Expr):Int:=if e.kind=4 then cH e.op else 4
theorem EN(e:Expr):Pure prog 316 [ag e.c] (pI (eh e)):=by
 refine ai ab func316 I (by decide) ntmps316 I (by simp) I ?_
 repeat' (first|(refine gA I (zI (fun _=>?_) (fun _=>?_)))|(refine gA I (zp (K0 e.op) ?_))|(refine gA I (zL (.of_eq ?_))))
 all_goals(refine(EZ ?_:pI _=pI _);simp_all [eh])
def ej(v:ei):Bool:=kw (v.kind=0)&&(kw (v.num=0)&&(kw (v.sym=Tx)&&is))
def jB(e:Expr):Bool:=kw (e.kind=0)&&(kw (e.var=⟨#[]⟩)&&(ej e.val&&(kw (e.op=0)&&kw ((e.args.length:Int)=0))))
theorem K1(e:Expr):Pure prog 284 [ag e.c] (pB (jB e)):=by
 refine ai ab func284 I (by decide) ntmps284 I (by simp) I ?_
 repeat' (first|(refine gA I (zI (fun _=>?_) (fun _=>?_)))|(refine gA I (zL (.of_eq ?_))))
 all_goals(refine(mS ?_:pB _=pB _))
 all_goals(simp only[jB,ej, *];rfl)
def kO(l:Lit):Bool:=
 (kw (l.kind=1)||decide (l.kind=2)||!(!kw (l.atom.rel=⟨#[]⟩)||decide ((l.atom.ak.length:Int)>0)))&&
 ((!(!kw (l.kind=3))||!(!kw (l.op=0)||(!jB l.left||!jB l.right)))&&
 (kw (l.kind=4)||(kw (l.dT=0)&&(kw (l.bI=⟨#[]⟩)&&(jB l.j8&&kw ((l.ay.length:Int)=0))))))
set_option maxHeartbeats 4000000 in
theorem SZ(l:Lit):Pure prog 235 [ag l.c] (pB (kO l)):=by
 refine ai ab func235 I (by decide) ntmps235 I (by simp) I ?_
 repeat' (first|(refine gA I (zI (fun _=>?_) (fun _=>?_)))|(refine gA I (zp (K1 l.left) ?_))|(refine gA I (zp (K1 l.right) ?_))|(refine gA I (zp (K1 l.j8) ?_))|(refine gA I (zL (.of_eq ?_))))
 all_goals(refine(mS ?_:pB _=pB _))
 all_goals(try simp only[VY,Wp] at*)
 all_goals(simp_all [kO])
def mw(op:Int):ae:=if op=1 then⟨#[43]⟩ else if op=2 then⟨#[45]⟩ else if op=3 then⟨#[42]⟩ else if op=4 then⟨#[47]⟩ else⟨#[109,111,100]⟩
def sgL:ae:=⟨#[43,45,42,47]⟩
theorem SS(op:Int):Pure prog 317 [pI op] (pS (mw op)):=by
 refine ai ab func317 I (by decide) ntmps317 I (by simp) I ?_;refine gA I ?_;refine w6 ab I I I I I I I ?_;refine gA I ?_;refine aG 0 4 (by decide) (fun i=>⟨[(0,pI op),(5,.ptr 0 0)],[(0,dl (.dQ sgL i))],1⟩) (fun i=> ∀k:Nat,k<i-> ¬(k:Int)+1=op) [] (by simp)
  (zW ⟨⟨_,rfl,.of_eq I⟩,Tk I,ac,ac⟩) fun i D d=>?_
 have u:i=0∨i=1∨i=2∨i=3∨i=4:=by omega
 rcases u with rfl|rfl|rfl|rfl|rfl
 .refine gA I ?_;refine ly I I I I I I (fun h=>absurd h (by decide)) (fun _=>?_);refine zJ I I (fun h=>?_) fun h=>?_
  .have h:op=1:=by have:=zT h;omega
   refine gA I ?_;refine tj ab I I I I I I I I I ?_;refine gA I (zL (.of_eq ?_));refine(congrArg pS ?_:pS _=pS _);subst h;decide
  .have h: ¬op=1:=by have:=zF h;omega
   refine gA I ⟨by decide,fun k x=>(by rcases(by omega:k<0∨k=0) with j|rfl;exact d k j;omega),[],zW ⟨⟨_,rfl,.of_eq I⟩,Tk I,ac,ac⟩⟩
 .refine gA I ?_;refine ly I I I I I I (fun h=>absurd h (by decide)) (fun _=>?_);refine zJ I I (fun h=>?_) fun h=>?_
  .have h:op=2:=by have:=zT h;omega
   refine gA I ?_;refine tj ab I I I I I I I I I ?_;refine gA I (zL (.of_eq ?_));refine(congrArg pS ?_:pS _=pS _);subst h;decide
  .have h: ¬op=2:=by have:=zF h;omega
   refine gA I ⟨by decide,fun k x=>(by rcases(by omega:k<1∨k=1) with j|rfl;exact d k j;omega),[],zW ⟨⟨_,rfl,.of_eq I⟩,Tk I,ac,ac⟩⟩
 .refine gA I ?_;refine ly I I I I I I (fun h=>absurd h (by decide)) (fun _=>?_);refine zJ I I (fun h=>?_) fun h=>?_
  .have h:op=3:=by have:=zT h;omega
   refine gA I ?_;refine tj ab I I I I I I I I I ?_;refine gA I (zL (.of_eq ?_));refine(congrArg pS ?_:pS _=pS _);subst h;decide
  .have h: ¬op=3:=by have:=zF h;omega
   refine gA I ⟨by decide,fun k x=>(by rcases(by omega:k<2∨k=2) with j|rfl;exact d k j;omega),[],zW ⟨⟨_,rfl,.of_eq I⟩,Tk I,ac,ac⟩⟩
 .refine gA I ?_;refine ly I I I I I I (fun h=>absurd h (by decide)) (fun _=>?_);refine zJ I I (fun h=>?_) fun h=>?_
  .have h:op=4:=by have:=zT h;omega
   refine gA I ?_;refine tj ab I I I I I I I I I ?_;refine gA I (zL (.of_eq ?_));refine(congrArg pS ?_:pS _=pS _);subst h;decide
  .have h: ¬op=4:=by have:=zF h;omega
   refine gA I ⟨by decide,fun k x=>(by rcases(by omega:k<3∨k=3) with j|rfl;exact d k j;omega),[],zW ⟨⟨_,rfl,.of_eq I⟩,Tk I,ac,ac⟩⟩
 .refine gA I ?_;refine ly I I I I I I (fun _=>?_) (fun h=>absurd h (by decide));refine gA I (zL (.of_eq ?_));have y:=d 0 (by decide);have A:=d 1 (by decide);have B:=d 2 (by decide);have C:=d 3 (by decide);rw[mw,be (by omega),be (by omega),be (by omega),be (by omega)];rfl
theorem Bv(s:ae):(rj s).size<=2+4*s.size:=by
 have h:=ur s s.data.toList.length;simp only[rn,Uj,TO]at h;have e:(rj s).size=(34::s.data.toList.flatMap qB++ [34]).length:=by simp[rj,WQ]
 have:s.data.toList.length=s.size:=by simp
 rw[e,Tn,TO,Ui];omega
theorem qV(v:ei):(rX v).size<=300:=by
 unfold rX;split
 .rename_i j;unfold wh;split
  .rename_i d;have:=tL j d;have u:=Lib.itoa_length_le v.num (by omega) (by omega);have e:(⟨(Lib.itoa v.num).toArray⟩:ByteArray).size=(Lib.itoa v.num).length:=by simp[WQ]
   omega
  .rename_i d;have u:=tK j d;split
   .omega
   .have:=Bv v.sym;omega
 .decide
mutual
def Expr.ts:Expr->Nat
 | .mk _ v _ _ args=>v.size+400+Expr.kj args
def Expr.kj:List Expr->Nat
 | []=>0
 |e::r=>e.ts+Expr.kj r
end
theorem Expr.rW(e:Expr):e.ts=e.var.size+400+Expr.kj e.args:=by cases e;rfl
theorem Expr.xK: ∀(l:List Expr) (k:Nat),k<l.length->(l.getD k co).ts<=Expr.kj l
 |e::r,0,_=>by simp[Expr.kj]
 |e::r,k+1,h=>by
  have:=Expr.xK r k (by simpa using h);simp only[UK,Expr.kj];omega
 | [],k,h=>by simp at h
theorem Expr.Cl: ∀(l:List Expr),l.length=2->(l.getD 0 co).ts+(l.getD 1 co).ts<=Expr.kj l
 | [a,b],_=>by simp[Expr.kj]
 | [],h=>by simp at h
 | [a],h=>by simp at h
 |a::b::c::r,h=>by simp at h
def sM:ae:=⟨#[45]⟩
def sO:ae:=⟨#[40]⟩
def sC:ae:=⟨#[41]⟩
def Cy:ae:=⟨#[32]⟩
def mE(w:WS):WS:=⟨w.fr,w.l,is,w.br⟩
def ow(e:Expr):Bool:=fS e.var&&(ej e.val&&(kw (e.op=0)&&kw ((e.args.length:Int)=0)))
def qn(e:Expr):Bool:=kw (e.var=⟨#[]⟩)&&(kw (e.op=0)&&kw ((e.args.length:Int)=0))
def sU(e:Expr):Bool:=kw (e.var=⟨#[]⟩)&&(ej e.val&&kw (cH e.op>0))
def cm(e:Expr):Expr:=e.args.getD 0 co
def yN(e:Expr):Expr:=e.args.getD 1 co
def yl(e:Expr):Bool:=kw (e.kind=2)&&kw (e.val.kind=1)
def my(a:Expr):Bool:=kw (eh a<3)||(yl a&&kw (a.val.num>0))
def jS(w:WS)(e:Expr)(k:WS):WS:=
 if w.bad=is then mE w else if e.kind=1 then aU (aV w (ow e)) [e.var] else if e.kind=2 then mJ (aV w (qn e)) e.val else if e.kind=4 then k else mE w
def lh(a0:Bool->WS->Expr->WS)(w:WS)(e:Expr):WS:=
 if w.bad=is then mE w else if e.op=6 then
  (if e.args.length=1 then a0 (my (cm e)) (if(yl (cm e)&&kw ((cm e).val.num=0))=is then aU (aU w [sM]) [sM] else aU w [sM]) (cm e) else mE w)
 else if e.args.length=2 then a0 (kw (eh (yN e)<=cH e.op)) (aU (a0 (kw (eh (cm e)<cH e.op)) w (cm e)) [Cy,mw e.op,Cy]) (yN e) else mE w
def c5:Nat->WS->Expr->WS
 |0,w,_=>mE w
 |1,w,e=>jS w e (mE (aV w (sU e)))
 |m+2,w,e=>jS w e (lh (fun d w a=>if d=is then aU (c5 m (aU w [sO]) a) [sC] else c5 (m+1) w a) (aV w (sU e)) e)
def vX(m:Nat)(d:Bool)(w:WS)(a:Expr):WS:=if d=is then aU (c5 m (aU w [sO]) a) [sC] else c5 (m+1) w a
theorem aQ(w:WS)(b:Bool):(aV w b).l=w.l:=rfl
theorem fo(w:WS):(mE w).l=w.l:=rfl
theorem bw(s:ae):eE [s]=s.size:=by simp[eE]
theorem zi(op:Int):(mw op).size<=3:=by
 unfold mw
 repeat' split
 all_goals decide
theorem aH(w:WS)(s:ae):(aU w [s]).l.length=w.l.length+s.size:=by rw[gu,bw]
theorem tJ(w:WS)(v:ei):(mJ w v).l.length<=w.l.length+300:=by
 have:=qV v;rw[mJ,aH,aQ];omega
theorem wX(w k:WS)(e:Expr)(h:k.l.length<=w.l.length+e.ts):(jS w e k).l.length<=w.l.length+e.ts:=by
 have:=e.rW;unfold jS
 repeat' split
 .rw[fo];omega
 .rw[aH,aQ];omega
 .have:=tJ (aV w (qn e)) e.val;rw[aQ]at this;omega
 .exact h
 .rw[fo];omega
theorem Eh(a0:Bool->WS->Expr->WS)(d: ∀b w a,(a0 b w a).l.length<=w.l.length+(2+a.ts))(w:WS)(e:Expr):(lh a0 w e).l.length<=w.l.length+e.ts:=by
 have B:=e.rW;unfold lh;split
 .rw[fo];omega
 split
 .split
  .rename_i u;have y:=Expr.xK e.args 0 (by omega);have j:sM.size=1:=rfl;split
   .have:=d (my (cm e)) (aU (aU w [sM]) [sM]) (cm e);rw[aH,aH]at this;simp only[cm]at this ⊢;omega
   .have:=d (my (cm e)) (aU w [sM]) (cm e);rw[aH]at this;simp only[cm]at this ⊢;omega
  .rw[fo];omega
 .split
  .rename_i u;have y:=Expr.Cl e.args u;have x:=d (kw (eh (yN e)<=cH e.op)) (aU (a0 (kw (eh (cm e)<cH e.op)) w (cm e)) [Cy,mw e.op,Cy]) (yN e);have C:=d (kw (eh (cm e)<cH e.op)) w (cm e);have D:=zi e.op;have j:Cy.size=1:=rfl;rw[gu]at x;have A:eE [Cy,mw e.op,Cy]=1+((mw e.op).size+1):=by simp[eE,j]
   simp only[cm,yN] at*;omega
  .rw[fo];omega
theorem dA: ∀(n:Nat) (w:WS) (e:Expr),(c5 n w e).l.length<=w.l.length+e.ts
 |0,w,e=>by rw[c5,fo];omega
 |1,w,e=>by rw[c5];exact wX _ _ _ (by rw[fo,aQ];omega)
 |m+2,w,e=>by
  rw[c5];refine wX _ _ _ ?_
  have:=Eh (fun d w a=>if d=is then aU (c5 m (aU w [sO]) a) [sC] else c5 (m+1) w a) (fun b w a=>by
   split
   .have j:=dA m (aU w [sO]) a;have u:sO.size=1:=rfl;have x:sC.size=1:=rfl;rw[aH]at j ⊢;omega
   .have:=dA (m+1) w a
    omega) (aV w (sU e)) e
  rwa[aQ]at this
theorem HC(m:Nat)(b:Bool)(w:WS)(a:Expr):(vX m b w a).l.length<=w.l.length+(2+a.ts):=by
 unfold vX;split
 .have d:=dA m (aU w [sO]) a;have j:sO.size=1:=rfl;have u:sC.size=1:=rfl;rw[aH]at d ⊢;omega
 .have:=dA (m+1) w a;omega
def PE(n:Nat):Prop:= ∀(d:Int) (w:WS) (e:Expr),d+1=n->w.l.length+e.ts<=1000000000->bC prog 236 [.ptr 0 0,ag e.c,pI d] w.O (.aZ []) (c5 n w e).H 3
theorem d225(n:Nat)(hn:n<=1000)(y:PE (n+1))(A:PE n)(j:Bool)(d:Int)(hd:d=n)(w:WS)(e:Expr)(hb:w.l.length+e.ts+2<=1000000000):bC prog 315 [.ptr 0 0,ag e.c,pB j,pI d] w.O (.aZ []) (vX n j w e).H 3:=by
 refine aq ab func315 I (by decide) ntmps315 I (by simp) ?_;refine zJ I I (fun h=>?_) fun h=>?_
 .have h:j=jp:=by simpa using h
  rw[vX,be (by rw[h];simp)];refine gA I (ic (y d w e (by omega) (by omega)) ?_);refine gA I iN
 .have h:j=is:=by simpa using h
  rw[vX,am h];have u:sO.size=1:=rfl;have x:sC.size=1:=rfl;have B:=dA n (aU w [sO]) e;have C:=aH w sO;refine gA I (jc (d147 w [sO] (by simp) (by rw[bw,u];omega)) ?_);refine gA I (ic (A (d-1) (aU w [sO]) e (by omega) (by omega)) ?_);refine gA I (jc (d147 (c5 n (aU w [sO]) e) [sC] (by simp) (by rw[bw,x];omega)) ?_);refine gA I iN
theorem RG(d:Int)(hd:d<0)(w:WS)(e:Expr):bC prog 286 [.ptr 0 0,ag e.c,pI d] w.O (.aZ []) (mE w).H 3:=by
 refine aq ab func286 I (by decide) ntmps286 I (by simp) ?_
 repeat' (first
  |((rename_i h;exact absurd hd (zF h)))
  |(refine gA I (zI (fun _=>?_) (fun _=>?_)))
  |(refine gA I (xj (by first|exact .inr I|exact .inl I) I I I I I (by first|exact .refl _|exact .kb _) (by first|exact .refl _|exact .kb _) I I I I (.refl _) I I)))
set_option maxHeartbeats 2000000 in
theorem d213(m:Nat)(hm:m<=900)(J:PE (m+1))(Y:PE m)(d:Int)(hd:d=m)(w:WS)(e:Expr)(hb:w.l.length+e.ts<=1000000000):bC prog 286 [.ptr 0 0,ag e.c,pI d] w.O (.aZ []) (lh (vX m) w e).H 3:=by
 refine bC.le (aa:=[.ptr 0 0,ag e.c,pI d]) (args:=[.ptr 0 0,ag e.c1,pI d]) ?_ ⟨.refl _,e.wY,.refl _,ac⟩;have f0:=e.rW;have G:sM.size=1:=rfl;have y:m<=1000:=by omega
 refine aq ab func286 I (by decide) ntmps286 I (by simp) ?_;refine zJ I I (fun Z=>?_) fun Z=>?_
 .have Z:e.op=6:=zT Z;refine zE I I (fun C=>?_) fun C=>?_
  .have C:w.bad=is:=C;rw[lh,am C];refine gA I iN
  have C: ¬w.bad=is:=by rw[show w.bad=jp from C];simp
  refine zE I I (fun D=>?_) fun D=>?_
  .have D: ¬e.args.length=1:=by simp at D;omega
   rw[lh,be C,am Z,be D];refine gA I iN
  have D:e.args.length=1:=by simp at D;omega
  have hg:(cm e).ts<=_:=Expr.xK e.args 0 (by omega);have u:lh (vX m) w e=vX m (my (cm e)) (if(yl (cm e)&&kw ((cm e).val.num=0))=is then aU (aU w [sM]) [sM] else aU w [sM]) (cm e):=by rw[lh,be C,am Z,am D]
  have c0:e.args.getD 0 co=cm e:=rfl;refine zJ I I (fun h3=>?_) fun h3=>?_
  .exact absurd (zT h3) (by omega)
  refine zE I I (fun h7=>?_) fun h7=>?_
  .exact absurd (zF h7) (by simp)
  have A:=aH w sM;refine zJ I I (fun hk=>?_) fun hk=>?_
  .have b0:(cm e).kind=2:=zT hk;refine gA I (jc (d147 w [sM] (by simp) (by rw[bw,G];omega)) ?_);refine zE I I (fun hv=>?_) fun hv=>?_
   .have F: ¬(cm e).val.kind=1:=zF hv;have B:yl (cm e)=jp:=by rw[yl,decide_eq_false F,Vy]
    rw[B,Vc,be (by simp)]at u;refine gA I (B9 (EN (cm e)) ?_);refine zJ I I (fun x=>?_) fun x=>?_
    .have j:eh (cm e)<3:=zT x;rw[my,decide_eq_true j,Wm]at u;rw[u];refine gA I (vS (d225 m y J Y is d hd (aU w [sM]) (cm e) (by rw[A,G];omega)) ?_);refine gA I iN
    .have j: ¬eh (cm e)<3:=zF x;refine zJ I I (fun hz=>?_) fun hz=>?_
     .exact absurd (zT hz) F
     rw[my,decide_eq_false j,Vn,B,Vc]at u;rw[u];refine gA I (vS (d225 m y J Y jp d hd (aU w [sM]) (cm e) (by rw[A,G];omega)) ?_);refine gA I iN
   .have F:(cm e).val.kind=1:=zT hv;have B:yl (cm e)=is:=by rw[yl,decide_eq_true F,decide_eq_true b0];rfl
    rw[B,Vo]at u;refine zJ I I (fun h0=>?_) fun h0=>?_
    .have a0:(cm e).val.num=0:=zT h0;rw[am (decide_eq_true a0)]at u;refine gA I (jc (d147 (aU w [sM]) [sM] (by simp) (by rw[bw,A,G];omega)) ?_);refine gA I (B9 (EN (cm e)) ?_);refine zJ I I (fun x=>?_) fun x=>?_
     .have j:eh (cm e)<3:=zT x;rw[my,decide_eq_true j,Wm]at u;rw[u];refine gA I (vS (d225 m y J Y is d hd (aU (aU w [sM]) [sM]) (cm e) (by rw[aH,A,G];omega)) ?_);refine gA I iN
     .have j: ¬eh (cm e)<3:=zF x;refine zE I I (fun hz=>?_) fun hz=>?_
      .exact absurd F (zF hz)
      rw[my,decide_eq_false j,Vn,B,Vo]at u;rw[u];refine gA I (vS (d225 m y J Y (kw ((cm e).val.num>0)) d hd (aU (aU w [sM]) [sM]) (cm e) (by rw[aH,A,G];omega)) ?_);refine gA I iN
    .have a0: ¬(cm e).val.num=0:=zF h0;rw[be (by simpa using a0)]at u;refine gA I (B9 (EN (cm e)) ?_);refine zJ I I (fun x=>?_) fun x=>?_
     .have j:eh (cm e)<3:=zT x;rw[my,decide_eq_true j,Wm]at u;rw[u];refine gA I (vS (d225 m y J Y is d hd (aU w [sM]) (cm e) (by rw[A,G];omega)) ?_);refine gA I iN
     .have j: ¬eh (cm e)<3:=zF x;refine zE I I (fun hz=>?_) fun hz=>?_
      .exact absurd F (zF hz)
      rw[my,decide_eq_false j,Vn,B,Vo]at u;rw[u];refine gA I (vS (d225 m y J Y (kw ((cm e).val.num>0)) d hd (aU w [sM]) (cm e) (by rw[A,G];omega)) ?_);refine gA I iN
  .have b0: ¬(cm e).kind=2:=zF hk;have B:yl (cm e)=jp:=by rw[yl,decide_eq_false b0];rfl
   rw[B,Vc,be (by simp)]at u;refine gA I (jc (d147 w [sM] (by simp) (by rw[bw,G];omega)) ?_);refine gA I (B9 (EN (cm e)) ?_);refine zJ I I (fun x=>?_) fun x=>?_
   .have j:eh (cm e)<3:=zT x;rw[my,decide_eq_true j,Wm]at u;rw[u];refine gA I (vS (d225 m y J Y is d hd (aU w [sM]) (cm e) (by rw[A,G];omega)) ?_);refine gA I iN
   .have j: ¬eh (cm e)<3:=zF x;rw[my,decide_eq_false j,Vn,B,Vc]at u;rw[u];refine gA I (vS (d225 m y J Y jp d hd (aU w [sM]) (cm e) (by rw[A,G];omega)) ?_);refine gA I iN
 .have Z: ¬e.op=6:=zF Z;refine zE I I (fun C=>?_) fun C=>?_
  .have C:w.bad=is:=C;rw[lh,am C];refine gA I iN
  have C: ¬w.bad=is:=by rw[show w.bad=jp from C];simp
  refine zE I I (fun D=>?_) fun D=>?_
  .have D: ¬e.args.length=2:=by simp at D;omega
   rw[lh,be C,be Z,be D];refine gA I iN
  have D:e.args.length=2:=by simp at D;omega
  have hg:(cm e).ts+(yN e).ts<=_:=Expr.Cl e.args D;rw[lh,be C,be Z,am D];refine zJ I I (fun h3=>?_) fun h3=>?_
  .exact absurd (zT h3) (by omega)
  refine zJ I I (fun h7=>?_) fun h7=>?_
  .exact absurd (zT h7) (by simp)
  refine gA I (B9 (EN (cm e)) ?_);refine gA I (B9 (K0 e.op) ?_);refine gA I (vS (d225 m y J Y (kw (eh (cm e)<cH e.op)) d hd w (cm e) (by omega)) ?_);refine gA I (zp (SS e.op) ?_);have d0:=HC m (kw (eh (cm e)<cH e.op)) w (cm e);have e0:=zi e.op;have e2:Cy.size=1:=rfl;have e3:eE [Cy,mw e.op,Cy]=1+((mw e.op).size+1):=by simp[eE,e2]
  refine gA I (jc (d147 (vX m (kw (eh (cm e)<cH e.op)) w (cm e)) [Cy,mw e.op,Cy] (by simp) (by rw[e3];omega)) ?_);refine gA I (B9 (EN (yN e)) ?_);refine gA I (B9 (K0 e.op) ?_);refine gA I (vS (d225 m y J Y (kw (eh (yN e)<=cH e.op)) d hd (aU (vX m (kw (eh (cm e)<cH e.op)) w (cm e)) [Cy,mw e.op,Cy]) (yN e) (by rw[gu,e3];omega)) ?_);refine gA I iN
theorem d189(d:Int)(Z:0<=d)(a0:d<=1000)(w:WS)(e:Expr)(hb:w.l.length+e.ts<=1000000000)(k:WS)(G:bC prog 286 [.ptr 0 0,ag e.c,pI (d-1)] (aV w (sU e)).O (.aZ []) k.H 3):bC prog 236 [.ptr 0 0,ag e.c,pI d] w.O (.aZ []) (jS w e k).H 3:=by
 have b0:=e.rW;refine aq ab func236 I (by decide) ntmps236 I (by simp) ?_;refine zE I I (fun J=>?_) fun J=>?_
 .have J:w.bad=is:=J;rw[jS,am J];refine gA I iN
 have B: ¬w.bad=is:=by rw[show w.bad=jp from J];simp
 refine zJ I I (fun Y=>?_) fun Y=>?_
 .exact absurd (zT Y) (by omega)
 refine zJ I I (fun C=>?_) fun C=>?_
 .have u:e.kind=1:=zT C;have A:jS w e k=aU (aV w (ow e)) [e.var]:=by rw[jS,be B,am u]
  rw[A];refine gA I (zp (B3 e.var) ?_);refine zE I I (fun g0=>?_) fun g0=>?_
  .have j:ow e=jp:=by simp only[ow,ej, *];rfl
   rw[j];refine gA I (ic (d146 w jp) ?_);refine gA I (jc (d147 (aV w jp) [e.var] (by simp) (by rw[bw,aQ];omega)) ?_);refine gA I iN
  refine zE I I (fun g1=>?_) fun g1=>?_
  .have j:ow e=jp:=by simp only[ow,ej, *];rfl
   rw[j];refine gA I (ic (d146 w jp) ?_);refine gA I (jc (d147 (aV w jp) [e.var] (by simp) (by rw[bw,aQ];omega)) ?_);refine gA I iN
  refine zE I I (fun g2=>?_) fun g2=>?_
  .have j:ow e=jp:=by simp only[ow,ej, *];rfl
   rw[j];refine gA I (ic (d146 w jp) ?_);refine gA I (jc (d147 (aV w jp) [e.var] (by simp) (by rw[bw,aQ];omega)) ?_);refine gA I iN
  have j:ow e=kw ((e.args.length:Int)=0):=by simp only[ow,ej, *];rfl
  rw[j];refine gA I (ic (d146 w (kw ((e.args.length:Int)=0))) ?_);refine gA I (jc (d147 (aV w (kw ((e.args.length:Int)=0))) [e.var] (by simp) (by rw[bw,aQ];omega)) ?_);refine gA I iN
 have u: ¬e.kind=1:=zF C;refine zJ I I (fun D=>?_) fun D=>?_
 .have x:e.kind=2:=zT D;have A:jS w e k=mJ (aV w (qn e)) e.val:=by rw[jS,be B,be u,am x]
  rw[A];have c0:=qV e.val;refine zE I I (fun g0=>?_) fun g0=>?_
  .have j:qn e=jp:=by simp only[qn,ej, *];rfl
   rw[j];refine gA I (ic (d146 w jp) ?_);refine gA I (ic (d149 (aV w jp) e.val (by rw[aQ];omega) (by omega)) ?_);refine gA I iN
  refine zE I I (fun g1=>?_) fun g1=>?_
  .have j:qn e=jp:=by simp only[qn,ej, *];rfl
   rw[j];refine gA I (ic (d146 w jp) ?_);refine gA I (ic (d149 (aV w jp) e.val (by rw[aQ];omega) (by omega)) ?_);refine gA I iN
  have j:qn e=kw ((e.args.length:Int)=0):=by simp only[qn,ej, *];rfl
  rw[j];refine gA I (ic (d146 w (kw ((e.args.length:Int)=0))) ?_);refine gA I (ic (d149 (aV w (kw ((e.args.length:Int)=0))) e.val (by rw[aQ];omega) (by omega)) ?_);refine gA I iN
 have x: ¬e.kind=2:=zF D;refine zJ I I (fun F=>?_) fun F=>?_
 .have y:e.kind=4:=zT F;have A:jS w e k=k:=by rw[jS,be B,be u,be x,am y]
  rw[A];refine zE I I (fun g0=>?_) fun g0=>?_
  .have j:sU e=jp:=by simp only[sU,ej, *];rfl
   rw[j]at G;refine gA I (ic (d146 w jp) ?_);refine gA I (ic (G) ?_);refine gA I iN
  refine zE I I (fun g1=>?_) fun g1=>?_
  .have j:sU e=jp:=by simp only[sU,ej, *];rfl
   rw[j]at G;refine gA I (ic (d146 w jp) ?_);refine gA I (ic (G) ?_);refine gA I iN
  refine gA I (zp (K0 e.op) ?_);have j:sU e=kw (cH e.op>0):=by simp only[sU,ej, *];rfl
  rw[j]at G;refine gA I (ic (d146 w (kw (cH e.op>0))) ?_);refine gA I (ic (G) ?_);refine gA I iN
 have y: ¬e.kind=4:=zF F;rw[jS,be B,be u,be x,be y];refine gA I iN
theorem pe0:PE 0:=fun d w e hd hb=>by
 refine aq ab func236 I (by decide) ntmps236 I (by simp) ?_;rw[c5]
 repeat' (first
  |((rename_i h;exact absurd (by omega:d<0) (zF h)))
  |(refine gA I (zI (fun _=>?_) (fun _=>?_)))
  |(refine gA I (xj (by first|exact .inr I|exact .inl I) I I I I I (by first|exact .refl _|exact .kb _) (by first|exact .refl _|exact .kb _) I I I I (.refl _) I I)))
theorem Bw: ∀n,n<=900->PE n
 |0,_=>pe0
 |1,_=>fun d w e hd hb=>d189 d (by omega) (by omega) w e hb _ (RG (d-1) (by omega) (aV w (sU e)) e)
 |m+2,h=>fun d w e hd hb=>d189 d (by omega) (by omega) w e (by omega) _ (d213 m (by omega) (Bw (m+1) (by omega)) (Bw m (by omega)) (d-1) (by omega) (aV w (sU e)) e (by rw[aQ];omega))
theorem oH(w:WS)(e:Expr)(hb:w.l.length+e.ts<=900000000):bC prog 236 [.ptr 0 0,ag e.c,pI 16] w.O (.aZ []) (c5 17 w e).H 3:=Bw 17 (by omega) 16 w e (by omega) (by omega)
def vL:ae:=⟨#[44,32]⟩
def Oa:ae:=⟨#[95]⟩
def fa(i:Nat)(w:WS):WS:=if i=0 then w else aU w [vL]
def yi(t:Term):Bool:=fS t.var&&ej t.val
def yj(t:Term):Bool:=kw (t.var=⟨#[]⟩)&&ej t.val
def ko(w:WS)(t:Term):WS:=
 if t.kind=1 then aU (aV w (yi t)) [t.var] else if t.kind=2 then mJ (aV w (kw (t.var=⟨#[]⟩))) t.val else if t.kind=3 then aU (aV w (yj t)) [Oa] else mE w
def gi(l:List Term)(w:WS):Nat->WS
 |0=>w
 |i+1=>ko (fa i (gi l w i)) (l.getD i co)
def gV(w:WS)(a:Atom):WS:=aU (gi a.ak (aU (aV w (gf a.rel)) [a.rel,sO]) a.ak.length) [sC]
def Term.ts(t:Term):Nat:=t.var.size+310
def Atom.ts(a:Atom):Nat:=a.rel.size+10+(a.ak.map Term.ts).sum
theorem iH(i:Nat)(w:WS):(fa i w).l.length<=w.l.length+2:=by
 have e:vL.size=2:=rfl;unfold fa;split
 .omega
 .rw[aH,e];omega
theorem DK(w:WS)(t:Term):(ko w t).l.length<=w.l.length+300+t.var.size:=by
 have e:Oa.size=1:=rfl;unfold ko
 repeat' split
 .rw[aH,aQ];omega
 .have:=tJ (aV w (kw (t.var=⟨#[]⟩))) t.val;rw[aQ]at this;omega
 .rw[aH,aQ,e];omega
 .rw[fo];omega
theorem wm: ∀(l:List Term) (i:Nat),i<l.length->((l.take i).map Term.ts).sum+(l.getD i co).ts<=(l.map Term.ts).sum
 | [],i,h=>by simp at h
 |s::r,0,_=>by simp
 |s::r,i+1,h=>by
  have:=wm r i (by simpa using h);simp at this ⊢;omega
theorem Cs: ∀(l:List Term) (i:Nat),((l.take i).map Term.ts).sum<=(l.map Term.ts).sum
 | [],i=>by simp
 |s::r,0=>by simp
 |s::r,i+1=>by have:=Cs r i;simp at this ⊢;omega
theorem oO(l:List Term)(w:WS): ∀i,i<=l.length->(gi l w i).l.length<=w.l.length+((l.take i).map Term.ts).sum
 |0,_=>by simp[gi]
 |i+1,h=>by
  have d:=oO l w i (by omega);have j:=iH i (gi l w i);have u:=DK (fa i (gi l w i)) (l.getD i co);have x:(l.getD i co).ts=(l.getD i co).var.size+310:=rfl;have y:((l.take (i+1)).map Term.ts).sum=((l.take i).map Term.ts).sum+(l.getD i co).ts:=by
   rw[bc (by omega),TA,List.sum_append];simp
  rw[gi];omega
theorem ob(w:WS)(a:Atom):(gV w a).l.length<=w.l.length+a.ts:=by
 have d:sO.size=1:=rfl;have j:sC.size=1:=rfl;have u:eE [a.rel,sO]=a.rel.size+1:=by simp[eE,d]
 have x:=oO a.ak (aU (aV w (gf a.rel)) [a.rel,sO]) a.ak.length (Tv _);rw[gu,u,aQ,Uj]at x;rw[gV,aH,j];unfold Atom.ts;omega
theorem wW: ∀l:List Term,l.length<=(l.map Term.ts).sum
 | []=>by simp
 |t::r=>by have:=wW r;simp[Term.ts]at this ⊢;omega
set_option maxHeartbeats 1000000 in
theorem d104(w:WS)(a:Atom)(hb:w.l.length+a.ts<=900000000):bC prog 147 [.ptr 0 0,ag a.c] w.O (.aZ []) (gV w a).H 3:=by
 have Z:sO.size=1:=rfl;have e2:sC.size=1:=rfl;have B:vL.size=2:=rfl;have e5:Oa.size=1:=rfl;have Y:eE [a.rel,sO]=a.rel.size+1:=by simp[eE,Z]
 have i0:a.ts=a.rel.size+10+(a.ak.map Term.ts).sum:=rfl;have d0:=wW a.ak;have b0:(aU (aV w (gf a.rel)) [a.rel,sO]).l.length=w.l.length+(a.rel.size+1):=by rw[gu,Y,aQ]
 refine aq ab func147 I (by decide) ntmps147 I (by simp) ?_;refine gA I (zp (RR a.rel) ?_);refine gA I (ic (d146 w (gf a.rel)) ?_);refine gA I (jc (d147 (aV w (gf a.rel)) [a.rel,sO] (by simp) (by rw[Y,aQ];omega)) ?_);generalize hW:aU (aV w (gf a.rel)) [a.rel,sO]=w1 at*
 refine gA I ?_;refine aG 0 a.ak.length (TB _) (fun i=>⟨[(0,.ptr 0 0),(17,.iv (bp 5 a.ak Term.c)),(18,pI a.ak.length),(19,pI i)],[(0,dl ((gi a.ak w1 i).pE 0 6)),(6,dl (.bA (gi a.ak w1 i).l 5))],7⟩) (fun _=>True) _ ac
  (HW (w:=w1) I I I I I (.refl _) (.refl _) I I I I I (bi (bi (bi (bi trivial))))) fun i hi _=>?_
 have c0:=oO a.ak w1 i hi;have e0:=Cs a.ak i;refine zE I I (fun x=>?_) fun x=>?_
 .have x:a.ak.length<=i:=zG x;have J:i=a.ak.length:=by omega
  subst J;refine gA I (jc (d147 (gi a.ak w1 a.ak.length) [sC] (by simp) (by rw[bw,e2];omega)) ?_);rw[gV,hW];refine gA I iN
 have x:i<a.ak.length:=zN x;have f0:=wm a.ak i x;have d:gi a.ak w1 (i+1)=ko (fa i (gi a.ak w1 i)) (a.ak.getD i co):=rfl;have ht:(a.ak.getD i co).ts=(a.ak.getD i co).var.size+310:=rfl;have j0:=qV (a.ak.getD i co).val;have a0:=iH i (gi a.ak w1 i);generalize hT:gi a.ak w1 i=w2 at*
 refine zJ I I (fun C=>?_) fun C=>?_
 .have C: ¬i=0:=by have:=zT C;omega
  rw[fa,be C]at d;refine gA I (jc (d147 w2 [vL] (by simp) (by rw[bw,B];omega)) ?_);refine zJ I I (fun D=>?_) fun D=>?_
  .have j:(a.ak.getD i co).kind=1:=zT D;rw[ko,am j]at d;refine gA I (zp (B3 (a.ak.getD i co).var) ?_);refine zE I I (fun g0=>?_) fun g0=>?_
   .have y:yi (a.ak.getD i co)=jp:=by have g:fS (a.ak.getD i co).var=jp:=g0;rw[yi,g];rfl
    rw[y]at d;refine gA I (ic (d146 (aU w2 [vL]) jp) ?_);refine gA I (jc (d147 (aV (aU w2 [vL]) jp) [(a.ak.getD i co).var] (by simp) (by rw[bw,aQ];first|omega|(rw[aH,B];omega))) ?_);refine gA I ⟨x,ac,_,pK (d.symm)⟩
   have y:yi (a.ak.getD i co)=ej (a.ak.getD i co).val:=by have g:fS (a.ak.getD i co).var=is:=g0;rw[yi,g];rfl
   rw[y]at d;refine gA I (ic (d146 (aU w2 [vL]) (ej (a.ak.getD i co).val)) ?_);refine gA I (jc (d147 (aV (aU w2 [vL]) (ej (a.ak.getD i co).val)) [(a.ak.getD i co).var] (by simp) (by rw[bw,aQ];first|omega|(rw[aH,B];omega))) ?_);refine gA I ⟨x,ac,_,pK (d.symm)⟩
  have j: ¬(a.ak.getD i co).kind=1:=zF D;refine zJ I I (fun F=>?_) fun F=>?_
  .have u:(a.ak.getD i co).kind=2:=zT F;rw[ko,be j,am u]at d;refine gA I (ic (d146 (aU w2 [vL]) (kw ((a.ak.getD i co).var=⟨#[]⟩))) ?_);refine gA I (ic (d149 (aV (aU w2 [vL]) (kw ((a.ak.getD i co).var=⟨#[]⟩))) (a.ak.getD i co).val (by rw[aQ];first|omega|(rw[aH,B];omega)) (by omega)) ?_);refine gA I ⟨x,ac,_,pK (d.symm)⟩
  have u: ¬(a.ak.getD i co).kind=2:=zF F;refine zJ I I (fun G=>?_) fun G=>?_
  .have A:(a.ak.getD i co).kind=3:=zT G;rw[ko,be j,be u,am A]at d;refine zE I I (fun g0=>?_) fun g0=>?_
   .have y:yj (a.ak.getD i co)=jp:=by have g:kw ((a.ak.getD i co).var=⟨#[]⟩)=jp:=g0;rw[yj,g];rfl
    rw[y]at d;refine gA I (ic (d146 (aU w2 [vL]) jp) ?_);refine gA I (jc (d147 (aV (aU w2 [vL]) jp) [Oa] (by simp) (by rw[bw,aQ];first|omega|(rw[aH,B];omega))) ?_);refine gA I ⟨x,ac,_,pK (d.symm)⟩
   have y:yj (a.ak.getD i co)=ej (a.ak.getD i co).val:=by have g:kw ((a.ak.getD i co).var=⟨#[]⟩)=is:=g0;rw[yj,g];rfl
   rw[y]at d;refine gA I (ic (d146 (aU w2 [vL]) (ej (a.ak.getD i co).val)) ?_);refine gA I (jc (d147 (aV (aU w2 [vL]) (ej (a.ak.getD i co).val)) [Oa] (by simp) (by rw[bw,aQ];first|omega|(rw[aH,B];omega))) ?_);refine gA I ⟨x,ac,_,pK (d.symm)⟩
  have A: ¬(a.ak.getD i co).kind=3:=zF G;rw[ko,be j,be u,be A]at d;refine gA I ⟨x,ac,_,pK (d.symm)⟩
 .have C:i=0:=by have:=zF C;omega
  rw[fa,am C]at d;refine zJ I I (fun D=>?_) fun D=>?_
  .have j:(a.ak.getD i co).kind=1:=zT D;rw[ko,am j]at d;refine gA I (zp (B3 (a.ak.getD i co).var) ?_);refine zE I I (fun g0=>?_) fun g0=>?_
   .have y:yi (a.ak.getD i co)=jp:=by have g:fS (a.ak.getD i co).var=jp:=g0;rw[yi,g];rfl
    rw[y]at d;refine gA I (ic (d146 w2 jp) ?_);refine gA I (jc (d147 (aV w2 jp) [(a.ak.getD i co).var] (by simp) (by rw[bw,aQ];first|omega|(rw[aH,B];omega))) ?_);refine gA I ⟨x,ac,_,pK (d.symm)⟩
   have y:yi (a.ak.getD i co)=ej (a.ak.getD i co).val:=by have g:fS (a.ak.getD i co).var=is:=g0;rw[yi,g];rfl
   rw[y]at d;refine gA I (ic (d146 w2 (ej (a.ak.getD i co).val)) ?_);refine gA I (jc (d147 (aV w2 (ej (a.ak.getD i co).val)) [(a.ak.getD i co).var] (by simp) (by rw[bw,aQ];first|omega|(rw[aH,B];omega))) ?_);refine gA I ⟨x,ac,_,pK (d.symm)⟩
  have j: ¬(a.ak.getD i co).kind=1:=zF D;refine zJ I I (fun F=>?_) fun F=>?_
  .have u:(a.ak.getD i co).kind=2:=zT F;rw[ko,be j,am u]at d;refine gA I (ic (d146 w2 (kw ((a.ak.getD i co).var=⟨#[]⟩))) ?_);refine gA I (ic (d149 (aV w2 (kw ((a.ak.getD i co).var=⟨#[]⟩))) (a.ak.getD i co).val (by rw[aQ];first|omega|(rw[aH,B];omega)) (by omega)) ?_);refine gA I ⟨x,ac,_,pK (d.symm)⟩
  have u: ¬(a.ak.getD i co).kind=2:=zF F;refine zJ I I (fun G=>?_) fun G=>?_
  .have A:(a.ak.getD i co).kind=3:=zT G;rw[ko,be j,be u,am A]at d;refine zE I I (fun g0=>?_) fun g0=>?_
   .have y:yj (a.ak.getD i co)=jp:=by have g:kw ((a.ak.getD i co).var=⟨#[]⟩)=jp:=g0;rw[yj,g];rfl
    rw[y]at d;refine gA I (ic (d146 w2 jp) ?_);refine gA I (jc (d147 (aV w2 jp) [Oa] (by simp) (by rw[bw,aQ];first|omega|(rw[aH,B];omega))) ?_);refine gA I ⟨x,ac,_,pK (d.symm)⟩
   have y:yj (a.ak.getD i co)=ej (a.ak.getD i co).val:=by have g:kw ((a.ak.getD i co).var=⟨#[]⟩)=is:=g0;rw[yj,g];rfl
   rw[y]at d;refine gA I (ic (d146 w2 (ej (a.ak.getD i co).val)) ?_);refine gA I (jc (d147 (aV w2 (ej (a.ak.getD i co).val)) [Oa] (by simp) (by rw[bw,aQ];first|omega|(rw[aH,B];omega))) ?_);refine gA I ⟨x,ac,_,pK (d.symm)⟩
  have A: ¬(a.ak.getD i co).kind=3:=zF G;rw[ko,be j,be u,be A]at d;refine gA I ⟨x,ac,_,pK (d.symm)⟩
end Go.Proofs.YtbhphmfbligliaaGreatDoor
namespace Go.Proofs.YtbhphmfbligliaaGreatDoor
open Go Go.Al
def Bk:ae:=⟨#[110,111,116,32]⟩
def q8:ae:=⟨#[32,61,32]⟩
def q9:ae:=⟨#[32,123,32]⟩
def EY:ae:=⟨#[32,58,32]⟩
def zn:ae:=⟨#[32,125]⟩
def va(op:Int):ae:=if op=1 then⟨#[32,61,32]⟩ else if op=2 then⟨#[32,33,61,32]⟩ else if op=3 then⟨#[32,60,32]⟩ else if op=4 then⟨#[32,60,61,32]⟩ else if op=5 then⟨#[32,62,32]⟩ else⟨#[32,62,61,32]⟩
def jm(f:Int):ae:=if f=1 then⟨#[99,111,117,110,116]⟩ else if f=2 then⟨#[115,117,109]⟩ else if f=3 then⟨#[109,105,110]⟩ else⟨#[109,97,120]⟩
def vD(w:WS)(n:Int):WS:=⟨w.fr,w.l,w.bad,w.br+n⟩
def dm(f:Lit->WS->WS)(l:List Lit)(w:WS):Nat->WS
 |0=>w
 |i+1=>if(dm f l w i).bad=is then dm f l w i else f (l.getD i co) (fa i (dm f l w i))
def pb(w:WS)(a:gp):WS:=if a.func=1 then aV w (jB a.jt) else aU (c5 17 w a.jt) [EY]
def yP(f:Lit->WS->WS)(w:WS)(a:gp):WS:=
 if a.func<1∨5<=a.func∨16<=w.br∨a.body.length=0 then mE w
 else aU (vD (dm f a.body (vD (pb (aU (aV w (fS a.var)) [a.var,q8,jm a.func,q9]) a) 1) a.body.length) (-1)) [zn]
def BH(f:Lit->WS->WS)(l:Lit)(w:WS):WS:=
 if l.kind=2 then gV (aU w [Bk]) l.atom else if l.kind=1 then gV w l.atom
 else if l.kind=3 then(if l.op<1∨7<=l.op then mE (c5 17 w l.left) else c5 17 (aU (c5 17 w l.left) [va l.op]) l.right)
 else if l.kind=4 then yP f w l.agg else mE w
def dJ:Nat->Lit->WS->WS
 |0,_,w=>w
 |n+1,l,w=>BH (dJ n) l (aV w (kO l))
theorem bR: ∀(d:List ae) (w:WS),(aU w d).br=w.br
 | [],w=>rfl
 |s::r,w=>bR r (zP w s)
theorem uB(w:WS)(b:Bool):(aV w b).br=w.br:=rfl
theorem K5(w:WS):(mE w).br=w.br:=rfl
theorem wb(w:WS)(v:ei):(mJ w v).br=w.br:=by rw[mJ,bR];rfl
theorem Ap(w k:WS)(e:Expr)(h:k.br=w.br):(jS w e k).br=w.br:=by
 unfold jS
 repeat' split
 .rfl
 .rw[bR];rfl
 .rw[wb];rfl
 .exact h
 .rfl
theorem Gd(a0:Bool->WS->Expr->WS)(d: ∀b w a,(a0 b w a).br=w.br)(w:WS)(e:Expr):(lh a0 w e).br=w.br:=by
 unfold lh
 repeat' split
 .rfl
 .rw[d,bR,bR]
 .rw[d,bR]
 .rfl
 .rw[d,bR,d]
 .rfl
theorem lE: ∀(n:Nat) (w:WS) (e:Expr),(c5 n w e).br=w.br
 |0,w,e=>rfl
 |1,w,e=>by rw[c5];exact Ap _ _ _ I
 |m+2,w,e=>by
  rw[c5];refine Ap _ _ _ ?_;rw[Gd _ (fun b w a=>?_)]
  .rfl
  .split
   .rw[bR,lE m,bR]
   .exact lE (m+1) _ _
theorem n4(i:Nat)(w:WS):(fa i w).br=w.br:=by
 unfold fa;split
 .rfl
 .exact bR _ _
theorem Fj(w:WS)(t:Term):(ko w t).br=w.br:=by
 unfold ko
 repeat' split
 .rw[bR];rfl
 .rw[wb];rfl
 .rw[bR];rfl
 .rfl
theorem wi(l:List Term)(w:WS): ∀i,(gi l w i).br=w.br
 |0=>rfl
 |i+1=>by rw[gi,Fj,n4,wi l w i]
theorem lH(w:WS)(a:Atom):(gV w a).br=w.br:=by rw[gV,bR,wi,bR];rfl
theorem lG(f:Lit->WS->WS)(hf: ∀l w,(f l w).br=w.br)(l:List Lit)(w:WS): ∀i,(dm f l w i).br=w.br
 |0=>rfl
 |i+1=>by
  rw[dm];split
  .exact lG f hf l w i
  .rw[hf,n4,lG f hf l w i]
theorem Gg(w:WS)(a:gp):(pb w a).br=w.br:=by
 unfold pb;split
 .rfl
 .rw[bR,lE]
theorem Lb(f:Lit->WS->WS)(hf: ∀l w,(f l w).br=w.br)(w:WS)(a:gp):(yP f w a).br=w.br:=by
 unfold yP;split
 .rfl
 .rw[bR];show(dm _ _ _ _).br+ -1=_;rw[lG f hf];show(pb _ _).br+1+ -1=_;rw[Gg,bR,uB];omega
theorem Ks(f:Lit->WS->WS)(hf: ∀l w,(f l w).br=w.br)(l:Lit)(w:WS):(BH f l w).br=w.br:=by
 unfold BH
 repeat' split
 .rw[lH,bR]
 .exact lH _ _
 .rw[K5,lE]
 .rw[lE,bR,lE]
 .exact Lb f hf _ _
 .rfl
theorem tc: ∀(n:Nat) (l:Lit) (w:WS),(dJ n l w).br=w.br
 |0,_,_=>rfl
 |n+1,l,w=>by rw[dJ,Ks (dJ n) (tc n)];rfl
mutual
def Lit.ts:Lit->Nat
 | .mk _ a _ l r _ v o b _=>100+a.ts+l.ts+r.ts+v.size+o.ts+Lit.kj b
def Lit.kj:List Lit->Nat
 | []=>0
 |e::r=>e.ts+Lit.kj r
end
theorem Lit.rW(l:Lit):l.ts=100+l.atom.ts+l.left.ts+l.right.ts+l.bI.size+l.j8.ts+Lit.kj l.ay:=by cases l;rfl
theorem Lit.y0: ∀(l:List Lit) (i:Nat),i<l.length->Lit.kj (l.take i)+(l.getD i co).ts<=Lit.kj l
 | [],i,h=>by simp at h
 |s::r,0,_=>by simp[Lit.kj]
 |s::r,i+1,h=>by
  have:=Lit.y0 r i (by simpa using h);simp only[UL,Lit.kj,UK];omega
theorem Lit.Fe: ∀(l:List Lit) (i:Nat),Lit.kj (l.take i)<=Lit.kj l
 | [],i=>by simp
 |s::r,0=>by simp[Lit.kj]
 |s::r,i+1=>by have:=Lit.Fe r i;simp only[UL,Lit.kj];omega
theorem Lit.NN(l:Lit):100<=l.ts:=by rw[l.rW];omega
theorem Ho(op:Int):(va op).size<=4:=by
 unfold va
 repeat' split
 all_goals decide
theorem AE(op:Int):(jm op).size<=5:=by
 unfold jm
 repeat' split
 all_goals decide
def Lf(f:Lit->WS->WS):Prop:= ∀l w,(f l w).l.length+4<=w.l.length+l.ts
theorem lF(f:Lit->WS->WS)(hf:Lf f)(l:List Lit)(w:WS): ∀i,i<=l.length->(dm f l w i).l.length<=w.l.length+Lit.kj (l.take i)
 |0,_=>by simp[dm,Lit.kj]
 |i+1,h=>by
  have d:=lF f hf l w i (by omega);have y:Lit.kj (l.take (i+1))=Lit.kj (l.take i)+(l.getD i co).ts:=by
   rw[bc (by omega)];have: ∀(a:List Lit) (b:Lit),Lit.kj (a++ [b])=Lit.kj a+b.ts:=by
    intro a b
    induction a with
    |nil=>simp[Lit.kj]
    |cons x r ih=>simp only[TV,Lit.kj,ih];omega
   exact this _ _
  rw[dm];split
  .omega
  .have j:=hf (l.getD i co) (fa i (dm f l w i));have u:=iH i (dm f l w i);omega
theorem CS(w:WS)(a:gp):(pb w a).l.length<=w.l.length+a.jt.ts+3:=by
 have e:EY.size=3:=rfl;unfold pb;split
 .rw[aQ];omega
 .have:=dA 17 w a.jt;rw[aH,e];omega
theorem wZ(w:WS)(a:gp):(aU (aV w (fS a.var)) [a.var,q8,jm a.func,q9]).l.length<=w.l.length+a.var.size+11:=by
 have d:q8.size=3:=rfl;have j:q9.size=3:=rfl;have h:=AE a.func;have e:eE [a.var,q8,jm a.func,q9]=a.var.size+(3+((jm a.func).size+3)):=by simp[eE,d,j]
 rw[gu,aQ,e];omega
theorem HI(f:Lit->WS->WS)(hf:Lf f)(w:WS)(a:gp):(yP f w a).l.length<=w.l.length+a.var.size+a.jt.ts+Lit.kj a.body+20:=by
 have e:zn.size=2:=rfl;unfold yP;split
 .rw[fo];omega
 .rw[aH,e];show(dm _ _ _ _).l.length+2<=_;have d:=lF f hf a.body (vD (pb (aU (aV w (fS a.var)) [a.var,q8,jm a.func,q9]) a) 1) a.body.length (Tv _);rw[Uj]at d;have j:=CS (aU (aV w (fS a.var)) [a.var,q8,jm a.func,q9]) a;have u:=wZ w a;have x:(vD (pb (aU (aV w (fS a.var)) [a.var,q8,jm a.func,q9]) a) 1).l.length=(pb (aU (aV w (fS a.var)) [a.var,q8,jm a.func,q9]) a).l.length:=rfl;omega
theorem Gy(f:Lit->WS->WS)(hf:Lf f)(l:Lit)(w:WS):(BH f l w).l.length+4<=w.l.length+l.ts:=by
 have y:=l.rW;have e:Bk.size=4:=rfl;unfold BH
 repeat' split
 .have d:=ob (aU w [Bk]) l.atom;rw[aH,e]at d;omega
 .have d:=ob w l.atom;omega
 .have d:=dA 17 w l.left;rw[fo];omega
 .have d:=dA 17 w l.left;have j:=dA 17 (aU (c5 17 w l.left) [va l.op]) l.right;have u:=Ho l.op;rw[aH]at j;omega
 .have d:=HI f hf w l.agg;have j:l.agg.var=l.bI:=rfl;have u:l.agg.jt=l.j8:=rfl;have x:l.agg.body=l.ay:=rfl;rw[j,u,x]at d;omega
 .rw[fo];omega
theorem qu: ∀n,Lf (dJ n)
 |0=>fun l w=>by have:=l.NN;rw[dJ];omega
 |n+1=>fun l w=>Gy (dJ n) (qu n) l (aV w (kO l))
theorem xw{f:Lit->WS->WS}{l:List Lit}{w:WS}{i:Nat}(h:(dm f l w i).bad=is): ∀k,dm f l w (i+k)=dm f l w i
 |0=>rfl
 |k+1=>by
  have:=xw h k;rw[<-Ux,dm,this,am h]
end Go.Proofs.YtbhphmfbligliaaGreatDoor
namespace Go.Proofs.YtbhphmfbligliaaGreatDoor
open Go Go.Al Go.Proofs.Tryz
def HR(n:Nat):Prop:= ∀(l:Lit) (w:WS),l.size<=n->0<=w.br->w.br<=16->w.l.length+l.ts<=900000000->bC prog 185 [.ptr 0 0,ag l.c] w.O (.aZ []) (dJ n l w).H 3
set_option maxHeartbeats 1000000 in
theorem d214(n:Nat)(D:HR n)(w:WS)(d:List Lit)(hs:Lit.an d<=n)(G:0<=w.br)(J:w.br<=16)(hb:w.l.length+Lit.kj d+2<=900000000)(hn:n<=100000000):
  bC prog 148 [.ptr 0 0,.iv (lits d)] w.O (.aZ []) (dm (dJ n) d w d.length).H 3:=by
 have F:vL.size=2:=rfl;have b0:=Lit.aA d;refine aq ab func148 I (by decide) ntmps148 I (by simp) ?_;refine gA I ?_;refine aG 0 d.length (TB _) (fun i=>⟨[(0,.ptr 0 0),(6,.iv (lits d)),(7,pI d.length),(8,pI i)],[(0,dl ((dm (dJ n) d w i).pE 0 2)),(2,dl (.bA (dm (dJ n) d w i).l 5))],3⟩) (fun _=>True) _ ac
  (HW (w:=w) I I I I I (.refl _) (.refl _) I I I I I (bi (bi (bi (bi trivial))))) fun i Z _=>?_
 have a0:=lF (dJ n) (qu n) d w i Z;have Y:=lG (dJ n) (tc n) d w i;have d0:=Lit.Fe d i;refine zE I I (fun u=>?_) fun u=>?_
 .have u:d.length<=i:=zG u;have C:i=d.length:=by omega
  subst C;refine gA I iN
 have u:i<d.length:=zN u;have e0:=Lit.y0 d i u;have c0:=Lit.cf d i u;have j:dm (dJ n) d w (i+1)=if(dm (dJ n) d w i).bad=is then dm (dJ n) d w i else dJ n (d.getD i co) (fa i (dm (dJ n) d w i)):=rfl;have x:=fun h=>xw (f:=dJ n) (l:=d) (w:=w) (i:=i) h (d.length-i);rw[Nat.add_sub_cancel' (Nat.le_of_lt u)]at x;have B:=iH i (dm (dJ n) d w i);have A:=n4 i (dm (dJ n) d w i);generalize dm (dJ n) d w i=w2 at*
 refine zJ I I (fun g=>?_) fun g=>?_
 .have g:w2.bad=is:=g;rw[x g];refine gA I iN
 have g: ¬w2.bad=is:=by
  have g:w2.bad=jp:=g;rw[g];decide
 rw[be g]at j;refine zJ I I (fun y=>?_) fun y=>?_
 .have y: ¬i=0:=by have:=zT y;omega
  rw[fa,be y]at j B A;refine gA I (jc (d147 w2 [vL] (by simp) (by rw[bw,F];omega)) ?_);refine gA I (ic (D (d.getD i co) (aU w2 [vL]) (by omega) (by omega) (by omega) (by omega)) ?_);refine gA I ⟨u,ac,_,pK (j.symm)⟩
 .have y:i=0:=by have:=zF y;omega
  rw[fa,am y]at j B A;refine gA I (ic (D (d.getD i co) w2 (by omega) (by omega) (by omega) (by omega)) ?_);refine gA I ⟨u,ac,_,pK (j.symm)⟩
def gp.ts(a:gp):Nat:=a.var.size+a.jt.ts+Lit.kj a.body
set_option maxHeartbeats 4000000 in
theorem d190(n:Nat)(ih:HR n)(w:WS)(a:gp)(hs:Lit.an a.body<=n)(a0:0<=w.br)(b0:w.br<=16)(hb:w.l.length+a.ts+30<=900000000)(hn:n<=100000000):
  bC prog 237 [.ptr 0 0,ag a.c] w.O (.aZ []) (yP (dJ n) w a).H 3:=by
 refine bC.le (args:=[.ptr 0 0,ag a.c1]) ?_ ⟨.refl _,a.wY,ac⟩;have Z:zn.size=2:=rfl;have e5:EY.size=3:=rfl;have c0:=Lit.aA a.body;have d0:a.ts=a.var.size+a.jt.ts+Lit.kj a.body:=rfl;have hW: ¬(a.func<1∨5<=a.func∨16<=w.br∨a.body.length=0)->yP (dJ n) w a=aU (vD (dm (dJ n) a.body (vD (pb (aU (aV w (fS a.var)) [a.var,q8,jm a.func,q9]) a) 1) a.body.length) (-1)) [zn]:=fun h=>be h;have Y:a.func<1∨5<=a.func∨16<=w.br∨a.body.length=0->yP (dJ n) w a=mE w:=fun h=>am h;have hh:=wZ w a;have y:=CS (aU (aV w (fS a.var)) [a.var,q8,jm a.func,q9]) a;have u:=Gg (aU (aV w (fS a.var)) [a.var,q8,jm a.func,q9]) a;rw[bR,uB]at u;have A:(vD (pb (aU (aV w (fS a.var)) [a.var,q8,jm a.func,q9]) a) 1).l.length=(pb (aU (aV w (fS a.var)) [a.var,q8,jm a.func,q9]) a).l.length:=rfl;have B:(vD (pb (aU (aV w (fS a.var)) [a.var,q8,jm a.func,q9]) a) 1).br=(pb (aU (aV w (fS a.var)) [a.var,q8,jm a.func,q9]) a).br+1:=rfl;have x:=lF (dJ n) (qu n) a.body (vD (pb (aU (aV w (fS a.var)) [a.var,q8,jm a.func,q9]) a) 1) a.body.length (Tv _);rw[Uj]at x;have C:=lG (dJ n) (tc n) a.body (vD (pb (aU (aV w (fS a.var)) [a.var,q8,jm a.func,q9]) a) 1) a.body.length;have D:eE [a.var,q8,jm a.func,q9]=a.var.size+(3+((jm a.func).size+3)):=by simp[eE,q8,q9];rfl
 have F:=AE a.func;obtain⟨j,var,d,body⟩:=a;dsimp only at*
 refine aq ab func237 I (by decide) ntmps237 I (by simp) ?_;refine zE I I (fun g1=>?_) fun g1=>?_
 .rw[Y (.inl (zT g1))];refine gA I iN
 refine zE I I (fun g2=>?_) fun g2=>?_
 .rw[Y (.inr (.inl (zT g2)))];refine gA I iN
 refine zE I I (fun g3=>?_) fun g3=>?_
 .rw[Y (.inr (.inr (.inl (zT g3))))];refine gA I iN
 refine zJ I I (fun g4=>?_) fun g4=>?_
 .rw[Y (.inr (.inr (.inr (W3.1 (zT g4)))))];refine gA I iN
 have g1: ¬j<1:=zF g1;have g2: ¬j>=5:=zF g2;have g3: ¬w.br>=16:=zF g3;have g4: ¬body.length=0:=fun h=>zF g4 (W3.2 h);rw[hW (by rintro(h|h|h|h)<;>omega)];have hf:j=1∨j=2∨j=3∨j=4:=by omega
 clear hW Y;rcases hf with rfl|rfl|rfl|rfl
 .have e:jm 1=⟨#[99,111,117,110,116]⟩:=rfl;rw[e]at hh y u A B x C D F ⊢;refine gA I (zp (B3 var) ?_);refine gA I (ic (d146 w (fS var)) ?_);refine gA I (yC (d147 (aV w (fS var)) [var,q8,⟨#[99,111,117,110,116]⟩,q9] (by simp) (by rw[D,aQ];omega)) I I I I I I I I I I I I I I I I (by(repeat' (first|exact ac|exact rfl|exact aj.refl _|exact aj.bk (by assumption)|apply Tq))<;>first|omega|(simp only[Tt];omega)|(simp;done)|(simp;omega)) I (by(repeat' (first|exact ac|exact rfl|exact aj.refl _|exact aj.bk (by assumption)|apply Tq))<;>first|omega|(simp only[Tt];omega)|(simp;done)|(simp;omega)) ?_);generalize J:aU (aV w (fS var)) [var,q8,⟨#[99,111,117,110,116]⟩,q9]=w1 at*
  have G:pb w1 ⟨1,var,d,body⟩=aV w1 (jB d):=rfl;rw[G]at y u A B x C ⊢;refine zE I I (fun q=>?_) fun q=>?_
  .exact absurd (show is=jp from q) (by decide)
  refine gA I (zp (K1 d) ?_);refine gA I (ic (d146 w1 (jB d)) ?_);generalize aV w1 (jB d)=w2 at*
  refine gA I (ic (d214 n ih (vD w2 1) body hs (by omega) (by omega) (by omega) hn) ?_);generalize dm (dJ n) body (vD w2 1) body.length=w3 at*
  refine gA I (go_wp (d147 (vD w3 (-1)) [zn] (by simp) (by rw[bw,Z];show w3.l.length+2<=_;omega)) I I I I I I I I I I I I ?_);refine gA I iN
 .have e:jm 2=⟨#[115,117,109]⟩:=rfl;rw[e]at hh y u A B x C D F ⊢;refine gA I (zp (B3 var) ?_);refine gA I (ic (d146 w (fS var)) ?_);refine gA I (yC (d147 (aV w (fS var)) [var,q8,⟨#[115,117,109]⟩,q9] (by simp) (by rw[D,aQ];omega)) I I I I I I I I I I I I I I I I (by(repeat' (first|exact ac|exact rfl|exact aj.refl _|exact aj.bk (by assumption)|apply Tq))<;>first|omega|(simp only[Tt];omega)|(simp;done)|(simp;omega)) I (by(repeat' (first|exact ac|exact rfl|exact aj.refl _|exact aj.bk (by assumption)|apply Tq))<;>first|omega|(simp only[Tt];omega)|(simp;done)|(simp;omega)) ?_);generalize J:aU (aV w (fS var)) [var,q8,⟨#[115,117,109]⟩,q9]=w1 at*
  have G:pb w1 ⟨2,var,d,body⟩=aU (c5 17 w1 d) [EY]:=rfl;rw[G]at y u A B x C ⊢;refine zJ I I (fun q=>?_) fun q=>?_
  .exact absurd (show jp=is from q) (by decide)
  have hx:=dA 17 w1 d;refine gA I (ic (oH w1 d (by omega)) ?_);refine gA I (jc (d147 (c5 17 w1 d) [EY] (by simp) (by rw[bw,e5];omega)) ?_);generalize aU (c5 17 w1 d) [EY]=w2 at*
  refine gA I (ic (d214 n ih (vD w2 1) body hs (by omega) (by omega) (by omega) hn) ?_);generalize dm (dJ n) body (vD w2 1) body.length=w3 at*
  refine gA I (go_wp (d147 (vD w3 (-1)) [zn] (by simp) (by rw[bw,Z];show w3.l.length+2<=_;omega)) I I I I I I I I I I I I ?_);refine gA I iN
 .have e:jm 3=⟨#[109,105,110]⟩:=rfl;rw[e]at hh y u A B x C D F ⊢;refine gA I (zp (B3 var) ?_);refine gA I (ic (d146 w (fS var)) ?_);refine gA I (yC (d147 (aV w (fS var)) [var,q8,⟨#[109,105,110]⟩,q9] (by simp) (by rw[D,aQ];omega)) I I I I I I I I I I I I I I I I (by(repeat' (first|exact ac|exact rfl|exact aj.refl _|exact aj.bk (by assumption)|apply Tq))<;>first|omega|(simp only[Tt];omega)|(simp;done)|(simp;omega)) I (by(repeat' (first|exact ac|exact rfl|exact aj.refl _|exact aj.bk (by assumption)|apply Tq))<;>first|omega|(simp only[Tt];omega)|(simp;done)|(simp;omega)) ?_);generalize J:aU (aV w (fS var)) [var,q8,⟨#[109,105,110]⟩,q9]=w1 at*
  have G:pb w1 ⟨3,var,d,body⟩=aU (c5 17 w1 d) [EY]:=rfl;rw[G]at y u A B x C ⊢;refine zJ I I (fun q=>?_) fun q=>?_
  .exact absurd (show jp=is from q) (by decide)
  have hx:=dA 17 w1 d;refine gA I (ic (oH w1 d (by omega)) ?_);refine gA I (jc (d147 (c5 17 w1 d) [EY] (by simp) (by rw[bw,e5];omega)) ?_);generalize aU (c5 17 w1 d) [EY]=w2 at*
  refine gA I (ic (d214 n ih (vD w2 1) body hs (by omega) (by omega) (by omega) hn) ?_);generalize dm (dJ n) body (vD w2 1) body.length=w3 at*
  refine gA I (go_wp (d147 (vD w3 (-1)) [zn] (by simp) (by rw[bw,Z];show w3.l.length+2<=_;omega)) I I I I I I I I I I I I ?_);refine gA I iN
 .have e:jm 4=⟨#[109,97,120]⟩:=rfl;rw[e]at hh y u A B x C D F ⊢;refine gA I (zp (B3 var) ?_);refine gA I (ic (d146 w (fS var)) ?_);refine gA I (yC (d147 (aV w (fS var)) [var,q8,⟨#[109,97,120]⟩,q9] (by simp) (by rw[D,aQ];omega)) I I I I I I I I I I I I I I I I (by(repeat' (first|exact ac|exact rfl|exact aj.refl _|exact aj.bk (by assumption)|apply Tq))<;>first|omega|(simp only[Tt];omega)|(simp;done)|(simp;omega)) I (by(repeat' (first|exact ac|exact rfl|exact aj.refl _|exact aj.bk (by assumption)|apply Tq))<;>first|omega|(simp only[Tt];omega)|(simp;done)|(simp;omega)) ?_);generalize J:aU (aV w (fS var)) [var,q8,⟨#[109,97,120]⟩,q9]=w1 at*
  have G:pb w1 ⟨4,var,d,body⟩=aU (c5 17 w1 d) [EY]:=rfl;rw[G]at y u A B x C ⊢;refine zJ I I (fun q=>?_) fun q=>?_
  .exact absurd (show jp=is from q) (by decide)
  have hx:=dA 17 w1 d;refine gA I (ic (oH w1 d (by omega)) ?_);refine gA I (jc (d147 (c5 17 w1 d) [EY] (by simp) (by rw[bw,e5];omega)) ?_);generalize aU (c5 17 w1 d) [EY]=w2 at*
  refine gA I (ic (d214 n ih (vD w2 1) body hs (by omega) (by omega) (by omega) hn) ?_);generalize dm (dJ n) body (vD w2 1) body.length=w3 at*
  refine gA I (go_wp (d147 (vD w3 (-1)) [zn] (by simp) (by rw[bw,Z];show w3.l.length+2<=_;omega)) I I I I I I I I I I I I ?_);refine gA I iN
set_option maxHeartbeats 4000000 in
theorem EH(n:Nat)(ih:HR n)(hn:n<=100000000):HR (n+1):=by
 intro l w hs J Y hb;have D:Bk.size=4:=rfl;have B:=l.size_eq;have C:=l.rW;have A:l.agg.ts=l.bI.size+l.j8.ts+Lit.kj l.ay:=rfl;have G:dJ (n+1) l w=BH (dJ n) l (aV w (kO l)):=rfl;rw[G];have Z:(aV w (kO l)).l.length=w.l.length:=rfl;have a0:=uB w (kO l);have hx:=dA 17 (aV w (kO l)) l.left;obtain⟨kind,atom,op,left,right,dT,bI,j8,ay,at_⟩:=l;dsimp only[Lit.atom,Lit.left,Lit.right,Lit.bI,Lit.j8,Lit.ay]at B C A hx;refine aq ab func185 I (by decide) ntmps185 I (by simp) ?_;refine gA I (zp (SZ (.mk kind atom op left right dT bI j8 ay at_)) ?_);refine gA I (ic (d146 w (kO (.mk kind atom op left right dT bI j8 ay at_))) ?_);generalize aV w (kO (.mk kind atom op left right dT bI j8 ay at_))=w1 at*
 have F:BH (dJ n) (.mk kind atom op left right dT bI j8 ay at_) w1=if kind=2 then gV (aU w1 [Bk]) atom else if kind=1 then gV w1 atom
  else if kind=3 then(if op<1∨7<=op then mE (c5 17 w1 left) else c5 17 (aU (c5 17 w1 left) [va op]) right)
  else if kind=4 then yP (dJ n) w1 (Lit.mk kind atom op left right dT bI j8 ay at_).agg else mE w1:=rfl
 rw[F];refine zJ I I (fun u=>?_) fun u=>?_
 .have u:kind=2:=zT u;rw[am u];refine gA I (jc (d147 w1 [Bk] (by simp) (by rw[bw,D];omega)) ?_);refine gA I (ic (d104 (aU w1 [Bk]) atom (by rw[aH,D];omega)) ?_);refine gA I iN
 have u: ¬kind=2:=zF u;rw[be u];refine zJ I I (fun j=>?_) fun j=>?_
 .have j:kind=1:=zT j;rw[am j];refine gA I (ic (d104 w1 atom (by omega)) ?_);refine gA I iN
 have j: ¬kind=1:=zF j;rw[be j];refine zE I I (fun x=>?_) fun x=>?_
 .have x: ¬kind=3:=zF x;rw[be x];refine zJ I I (fun y=>?_) fun y=>?_
  .have y:kind=4:=zT y;rw[am y];refine gA I (ic (d190 n ih w1 (Lit.mk kind atom op left right dT bI j8 ay at_).agg (by show Lit.an ay<=n;omega) (by omega) (by omega) (by omega) hn) ?_);refine gA I iN
  .have y: ¬kind=4:=zF y;rw[be y];refine gA I iN
 have x:kind=3:=zT x;rw[am x];refine gA I (ic (oH w1 left (by omega)) ?_);refine zE I I (fun g1=>?_) fun g1=>?_
 .rw[am (.inl (zT g1))];refine gA I iN
 refine zJ I I (fun g2=>?_) fun g2=>?_
 .rw[am (.inr (zT g2))];refine gA I iN
 have g1: ¬op<1:=zF g1;have g2: ¬op>=7:=zF g2;rw[be (by rintro(h|h)<;>omega)];generalize c5 17 w1 left=w2 at*
 have ho:op=1∨op=2∨op=3∨op=4∨op=5∨op=6:=by omega
 clear F G;rcases ho with rfl|rfl|rfl|rfl|rfl|rfl
 .have e:va 1=⟨#[32,61,32]⟩:=rfl;have d:((⟨#[32,61,32]⟩:ae)).size=3:=rfl;rw[e];refine iq I (by dsimp only[Lit.op];exact(by(repeat' (first|exact ac|exact rfl|exact aj.refl _|exact aj.bk (by assumption)|apply Tq))<;>first|omega|(simp only[Tt];omega)|(simp;done)|(simp;omega))) (go_wp (d147 w2 [⟨#[32,61,32]⟩] (by simp) (by rw[bw,d];omega)) I I I I I I I I I I I I ?_);refine gA I (ic (oH (aU w2 [⟨#[32,61,32]⟩]) right (by rw[aH,d];omega)) ?_);refine gA I iN
 .have e:va 2=⟨#[32,33,61,32]⟩:=rfl;have d:((⟨#[32,33,61,32]⟩:ae)).size=4:=rfl;rw[e];refine iq I (by dsimp only[Lit.op];exact(by(repeat' (first|exact ac|exact rfl|exact aj.refl _|exact aj.bk (by assumption)|apply Tq))<;>first|omega|(simp only[Tt];omega)|(simp;done)|(simp;omega))) (go_wp (d147 w2 [⟨#[32,33,61,32]⟩] (by simp) (by rw[bw,d];omega)) I I I I I I I I I I I I ?_);refine gA I (ic (oH (aU w2 [⟨#[32,33,61,32]⟩]) right (by rw[aH,d];omega)) ?_);refine gA I iN
 .have e:va 3=⟨#[32,60,32]⟩:=rfl;have d:((⟨#[32,60,32]⟩:ae)).size=3:=rfl;rw[e];refine iq I (by dsimp only[Lit.op];exact(by(repeat' (first|exact ac|exact rfl|exact aj.refl _|exact aj.bk (by assumption)|apply Tq))<;>first|omega|(simp only[Tt];omega)|(simp;done)|(simp;omega))) (go_wp (d147 w2 [⟨#[32,60,32]⟩] (by simp) (by rw[bw,d];omega)) I I I I I I I I I I I I ?_);refine gA I (ic (oH (aU w2 [⟨#[32,60,32]⟩]) right (by rw[aH,d];omega)) ?_);refine gA I iN
 .have e:va 4=⟨#[32,60,61,32]⟩:=rfl;have d:((⟨#[32,60,61,32]⟩:ae)).size=4:=rfl;rw[e];refine iq I (by dsimp only[Lit.op];exact(by(repeat' (first|exact ac|exact rfl|exact aj.refl _|exact aj.bk (by assumption)|apply Tq))<;>first|omega|(simp only[Tt];omega)|(simp;done)|(simp;omega))) (go_wp (d147 w2 [⟨#[32,60,61,32]⟩] (by simp) (by rw[bw,d];omega)) I I I I I I I I I I I I ?_);refine gA I (ic (oH (aU w2 [⟨#[32,60,61,32]⟩]) right (by rw[aH,d];omega)) ?_);refine gA I iN
 .have e:va 5=⟨#[32,62,32]⟩:=rfl;have d:((⟨#[32,62,32]⟩:ae)).size=3:=rfl;rw[e];refine iq I (by dsimp only[Lit.op];exact(by(repeat' (first|exact ac|exact rfl|exact aj.refl _|exact aj.bk (by assumption)|apply Tq))<;>first|omega|(simp only[Tt];omega)|(simp;done)|(simp;omega))) (go_wp (d147 w2 [⟨#[32,62,32]⟩] (by simp) (by rw[bw,d];omega)) I I I I I I I I I I I I ?_);refine gA I (ic (oH (aU w2 [⟨#[32,62,32]⟩]) right (by rw[aH,d];omega)) ?_);refine gA I iN
 .have e:va 6=⟨#[32,62,61,32]⟩:=rfl;have d:((⟨#[32,62,61,32]⟩:ae)).size=4:=rfl;rw[e];refine iq I (by dsimp only[Lit.op];exact(by(repeat' (first|exact ac|exact rfl|exact aj.refl _|exact aj.bk (by assumption)|apply Tq))<;>first|omega|(simp only[Tt];omega)|(simp;done)|(simp;omega))) (go_wp (d147 w2 [⟨#[32,62,61,32]⟩] (by simp) (by rw[bw,d];omega)) I I I I I I I I I I I I ?_);refine gA I (ic (oH (aU w2 [⟨#[32,62,61,32]⟩]) right (by rw[aH,d];omega)) ?_);refine gA I iN
theorem OY: ∀n,n<=100000001->HR n
 |0,_=>fun l w d=>by have:=l.size_pos;omega
 |n+1,h=>EH n (OY n (by omega)) (by omega)
section
abbrev WS.o:WS:=⟨is,[],jp,0⟩
section
variable {nt:NT} {Q:AQ} {k:List KI} {s:AS}
def wN(s:AS)(i:Nat):AS:=match s with|⟨f,h,n⟩=>⟨f,(i,dl (WS.o.pE i n))::(n,dl (.bA [] 5))::h,n+1⟩
theorem yz{P:Program}{c:Code}{s':AS}(i:Nat)(hi:s.h.get i=dl (.cells [.iv (.v (.pointer io)),.iv (.v (.slice io 0 0)),pB jp,pI 0] (dl 188)))
  (hs:wN s i=s') (h:GO P nt (.code c::k) Q s'):GO P nt (.code c::k) Q s:=by
 subst hs;intro M N a w B;obtain⟨sf,sh,u⟩:=s;obtain⟨h1,Z⟩:=B.1.Lm 5;have F:i<u:=B.1.used i _ hi;have G:i≠u:=fun e=>by omega
 have x:AH.get ((u,dl (AO.bA [] 5))::sh) i=dl (.cells [.iv (.v (.pointer io)),.iv (.v (.slice io 0 0)),pB jp,pI 0] (dl 188)):=by
  rw[AH.ax,be G];exact hi
 obtain⟨y,T,e1,e2,e3,A,e5⟩:=Z.obj i _ x;have hv: ∀(j:Nat) (p:PV),[PV.fj is i,.sl u 0 0 1,pB jp,pI 0][j]? =dl p->VR M N (· <u+1) p (y.getD j undef):=by
  intro j p d
  match j,d with
  |0,d=>
   cases d;have:=A 0 _ I;generalize y.getD 0 undef=v at this ⊢;cases this with
   |iv _ _ h=>cases h with
    |v=>exact .fj is i (U0 F)
  |1,d=>
   cases d;have:=A 1 _ I;generalize y.getD 1 undef=v at this ⊢;cases this with
   |iv _ _ h=>cases h with
    |v=>exact .lK _ _ (US _)
  |2,d=>exact A 2 p d
  |3,d=>exact A 3 p d
  |j+4,d=>cases d
 obtain⟨g1,g2⟩:=Z.write (i:=i) (o0:= .cells [.iv (.v (.pointer io)),.iv (.v (.slice io 0 0)),pB jp,pI 0] (dl 188)) x I w (WS.o.pE i u) I I I I (fun _ _=>rfl) ⟨y,T,e1,e2,e3,hv,e5⟩;have C:Fits M N ⟨sf,(i,dl (WS.o.pE i u))::(u,dl (.bA [] 5))::sh,u+1⟩ nt a w:=
  ⟨g2,fun k=>(B.2.1 k).mono (.refl _) (.refl _ _) (fun i hi=>U0 hi),B.2.2⟩
 exact AW.then h C fun e a2 w2 M2 N2 s2 Y D J=>⟨M2,N2,s2,(h1.trans g1).trans Y,D,J⟩
end
def WS.told(w:WS):PV:= .aZ [pS (if w.bad=is then⟨#[]⟩ else⟨w.l.toArray⟩),pI (if w.bad=is then 50 else 0)]
theorem d105(w:WS):bC prog 100 [.ptr 0 0] w.O w.told [] 2:=by
 refine aq ab func100 I (by decide) ntmps100 I (by simp) ?_;refine zJ I I (fun g=>?_) fun g=>?_
 .have g:w.bad=is:=g;unfold WS.told;rw[am g,am g];refine gA I (zD [] I (zW ac))
 .have g: ¬w.bad=is:=by
   have g:w.bad=jp:=g;rw[g];decide
  unfold WS.told;rw[be g,be g];refine gA I (zq [0,1] (d150 w) ?_);refine gA I (zD [] I (zW ac))
def RX(a:Atom):PV:=(gV WS.o a).told
def Su(l:Lit):PV:=(dJ l.size l WS.o).told
theorem c61(a:Atom)(hb:a.ts<=900000000):Pure prog 210 [ag a.c] (RX a):=by
 refine ai ab func210 I (by decide) ntmps210 I (by simp) I ?_;refine gM 12 I (yz 1 I I ?_);refine gA I (ic (d104 WS.o a (by simpa using hb)) ?_);refine gA I (zq [1,3] (d105 (gV WS.o a)) ?_);exact zU I
theorem Ta(l:Lit)(hb:l.ts<=900000000)(hs:l.size<=100000000):Pure prog 211 [ag l.c] (Su l):=by
 refine ai ab func211 I (by decide) ntmps211 I (by simp) I ?_;refine gM 12 I (yz 1 I I ?_);refine gA I (ic (OY l.size (by omega) l WS.o (Tv _) (by decide) (by decide) (by simpa using hb)) ?_);refine gA I (zq [1,3] (d105 (dJ l.size l WS.o)) ?_);exact zU I
end
def oY(d:Decl)(i k:Int):Int:=
 if(d.types.any fun x=>!kw (x=1)&&!kw (x=2))=is∨gf d.name=jp then 1
 else if i>=64∨(d.types.length:Int)>8 then 66 else if k>0 then 60 else 0
theorem Tb(d:Decl)(i k:Int):Pure prog 171 [ag d.c,pI i,pI k] (pI (oY d i k)):=by
 refine ai ab func171 I (by decide) ntmps171 I (by simp) I ?_;refine gA I (zq [] (d153 d.types) ?_);refine zE I I (fun g1=>?_) fun g1=>?_
 .rw[oY,am (.inl (by simpa using g1))];exact zU I
 have g1: ¬(d.types.any fun x=>!kw (x=1)&&!kw (x=2))=is:=by
  have g1:(d.types.any fun x=>!kw (x=1)&&!kw (x=2))=jp:=g1;rw[g1];decide
 refine gA I (zp (RR d.name) ?_);refine zJ I I (fun g2=>?_) fun g2=>?_
 .have g2:gf d.name=jp:=by simpa using g2
  rw[oY,am (.inr g2)];exact zU I
 have g2: ¬gf d.name=jp:=by
  have g2:gf d.name=is:=by simpa using g2
  rw[g2];decide
 rw[oY,be (by rintro(h|h);exact g1 h;exact g2 h)];refine zE I I (fun g3=>?_) fun g3=>?_
 .rw[am (.inl (by simpa using g3))];exact zU I
 have g3: ¬i>=64:=zF g3;refine zJ I I (fun g4=>?_) fun g4=>?_
 .rw[am (.inr (zT g4))];exact zU I
 have g4: ¬(d.types.length:Int)>8:=zF g4;rw[be (by rintro(h|h);exact g3 h;exact g4 h)];refine zJ I I (fun g5=>?_) fun g5=>?_
 .rw[am (zT g5)];exact zU I
 .rw[be (zF g5)];exact zU I
abbrev cA:=(KC.si .i64).K
def cA.z:cA:=(Tx,0)
def cA.c(s:cA):List IV:=[iS s.1,iI s.2]
def spE(s:cA):IV:= .agg s.c
def spZ:Value:= .agg #[.string Tx,.int .i64 0]
def dvP:PV->cA
 | .agg [.iv (.v (.string s)),.iv (.v (.int _ a))]=>(s,a)
 |_=>cA.z
abbrev UM:=List (cA×cA)
abbrev KM:=List (cA×Int)
abbrev oq(m:UM):AO:= .map (.si .i64) spE cA.z spZ dvP m
abbrev upI(m:UM):IV:= .eP (.si .i64) spE cA.z spZ m
abbrev oz(m:KM):AO:= .map (.si .i64) yS 0 (.int .i64 0) SF m
abbrev kdI(m:KM):IV:= .eP (.si .i64) yS 0 (.int .i64 0) m
structure Want where
 lit:Int
 at_:cA
 kind:Int
 has:Int
 deriving Inhabited
def Want.c(w:Want):List IV:=[iI w.lit,iS w.at_.1,iI w.at_.2,iI w.kind,iI w.has]
structure TS where
 up:UM
 ws:List Want
 kind:KM
abbrev TS.cell(r:ar)(u j n k:Nat):AO:= .cells [.iv (cG r),.mp u,.sl j 0 n 5,.mp k]
abbrev TS.O(r:ar)(t:TS):List AO:=[TS.cell r 1 2 t.ws.length 3,oq t.up,aX 5 t.ws Want.c,oz t.kind]
abbrev TS.K(r:ar)(t:TS):AH:=[(0,dl (TS.cell r 1 2 t.ws.length 3)),(1,dl (oq t.up)),(2,dl (aX 5 t.ws Want.c)),(3,dl (oz t.kind))]
abbrev TS.H(r:ar)(t:TS):AH:=[(0,dl (TS.cell r 1 4 t.ws.length 3)),(1,dl (oq t.up)),(4,dl (aX 5 t.ws Want.c)),(3,dl (oz t.kind))]
def en(r:ar)(s:ae)(w:Int):cA:=(s,if cK .str (aI (aF r)) s 0>0 then-1 else w)
theorem d136(r:ar)(t:TS)(s:ae)(w:Int):bC prog 302 [.ptr 0 0,pS s,pI w] (t.O r) (ag (en r s w).c) (t.K r) 4:=by
 refine aq ab func302 I (by decide) ntmps302 I (by simp) ?_;refine zJ I I (fun g=>?_) fun g=>?_
 .have e:en r s w=(s, -1):=by unfold en;rw[am (zT g)]
  rw[e];refine gA I (zD [] I (zW (zO (zC ⟨⟨_,rfl,.of_eq (bL _).symm⟩,Tk I,cQ _,zC ac⟩))))
 .have e:en r s w=(s,w):=by unfold en;rw[be (zF g)]
  rw[e];refine gA I (zD [] I (zW (zO (zC ⟨⟨_,rfl,.of_eq (bL _).symm⟩,Tk I,cQ _,zC ac⟩))))
def bX:UM->cA->cA
 | [],v=>v
 |(x,y)::r,v=>if x=v then bX r y else bX r v
def ir:UM->Prop
 | []=>True
 |(x,y)::r=>x≠y∧(∀q∈r,q.1≠x)∧(∀q∈r,q.2≠x)∧ir r
def DH:UM->cA->Nat
 | [],_=>0
 |(x,_)::r,v=>if x=v then r.length+1 else DH r v
theorem E9: ∀(m:UM) (v:cA),DH m v<=m.length
 | [],_=>Tv _
 |(x,y)::r,v=>by
  have:=E9 r v;unfold DH;split
  .simp
  .simp;omega
theorem p8: ∀(m:UM) (v:cA),cZ (.si .i64) m v=jp->bX m v=v
 | [],_,_=>rfl
 |(x,y)::r,v,h=>by
  unfold cZ at h;unfold bX;split at h
  .cases h
  .rename_i d;rw[be d];exact p8 r v h
theorem mO: ∀(m:UM) (v:cA),ir m->cZ (.si .i64) m v=is->bX m (cK (.si .i64) m v cA.z)=bX m v∧DH m (cK (.si .i64) m v cA.z)<DH m v
 | [],_,_,h=>nomatch h
 |(x,y)::r,v,ok,h=>by
  obtain⟨D,J,F,G⟩:=ok;by_cases u:x=v
  .subst u;have e:cK (.si .i64) ((x,y)::r) x cA.z=y:=am I;rw[e];refine⟨?_,?_⟩
   .show(if x=y then bX r y else bX r y)=if x=x then bX r y else bX r x;rw[am I];split<;>rfl
   .show(if x=y then r.length+1 else DH r y)<if x=x then r.length+1 else DH r x;rw[am I,be D];have:=E9 r y;omega
  .have e:cK (.si .i64) ((x,y)::r) v cA.z=cK (.si .i64) r v cA.z:=be u;have A:cZ (.si .i64) r v=is:=by
    unfold cZ at h;rw[be u]at h;exact h
   rw[e];obtain⟨g1,g2⟩:=mO r v G A;have j:cK (.si .i64) r v cA.z≠x:=by
    have: ∀(m:UM),(∀q∈m,q.2≠x)->cZ (.si .i64) m v=is->cK (.si .i64) m v cA.z≠x:=by
     intro m
     induction m with
     |nil=>intro _ h;cases h
     |cons a r ih=>
      obtain⟨Y,Z⟩:=a;intro B h;unfold cZ at h;unfold cK;split at h
      .rename_i d;rw[am d];exact B _ TJ
      .rename_i d;rw[be d];exact ih (fun q C=>B q (TH _ C)) h
    exact this r F A
   refine⟨?_,?_⟩
   .show(if x=_ then bX r y else bX r _)=if x=v then bX r y else bX r v;rw[be (fun e=>j e.symm),be u];exact g1
   .show(if x=_ then r.length+1 else DH r _)<if x=v then r.length+1 else DH r v;rw[be (fun e=>j e.symm),be u];exact g2
theorem d52(r:ar)(t:TS)(v0:cA)(ok:ir t.up):bC prog 268 [.ptr 0 0,ag v0.c] (t.O r) (ag (bX t.up v0).c) (t.K r) 4:=by
 refine aq ab func268 I (by decide) ntmps268 I (by simp) ?_;refine gA I ?_
 refine lA (σ:={v:cA//bX t.up v=bX t.up v0}) (fun v=>⟨[(0,.ptr 0 0),(3,.ptr 4 0),(4,.ptr 5 0)],
  [(0,dl (TS.cell r 1 2 t.ws.length 3)),(1,dl (oq t.up)),(2,dl (aX 5 t.ws Want.c)),(3,dl (oz t.kind)),(4,dl (.cells [pS v.1.1,pI v.1.2])),(5,dl (.cells [pS ⟨#[]⟩,pI 0]))],6⟩) (fun v=>DH t.up v.1) ⟨v0,rfl⟩ []
  (zW (zO (zC ⟨⟨_,rfl,.of_eq (bL _).symm⟩,Tk I,cQ _,zC ⟨⟨_,rfl,.of_eq I⟩,Tk I,rfl,⟨_,rfl,.of_eq I⟩,Tk I,rfl,ac⟩⟩))) fun v=>?_
 obtain⟨v,d⟩:=v;refine zJ I I (fun g=>?_) fun g=>?_
 .have h:cZ (.si .i64) t.up v=jp:=by simpa using g
  have e:bX t.up v0=v:=by rw[<-d];exact p8 t.up v h
  refine gA I (zD [] I (zM ⟨.of_eq (congrArg (fun x:cA=>ag x.c) e.symm),rfl,ac⟩ (zO (zC ⟨⟨_,rfl,.of_eq (bL _).symm⟩,Tk I,cQ _,zC ac⟩))))
 .have h:cZ (.si .i64) t.up v=is:=by simpa using g
  obtain⟨j,u⟩:=mO t.up v ok h;refine gA I ⟨⟨cK (.si .i64) t.up v cA.z,j.trans d⟩,[],u,zW (zO (zC ⟨⟨_,rfl,.of_eq (bL _).symm⟩,Tk I,cQ _,zC ⟨⟨_,rfl,.of_eq I⟩,Tk I,rfl,⟨_,rfl,.of_eq I⟩,Tk I,rfl,ac⟩⟩))⟩
def NL(r:ar)(t:TS):IV:= .i7 [cG r,upI t.up,bp 5 t.ws Want.c,kdI t.kind]
theorem c52(r:ar)(t:TS)(v0:cA)(ok:ir t.up):Pure prog 268 [.iv (NL r t),ag v0.c] (ag (bX t.up v0).c):=by
 refine ai ab func268 I (by decide) ntmps268 I (by simp) I ?_;refine gA I ?_
 refine lA (σ:={v:cA//bX t.up v=bX t.up v0}) (fun v=>⟨[(0,.iv (NL r t)),(3,.ptr 0 0),(4,.ptr 1 0)],
  [(0,dl (.cells [pS v.1.1,pI v.1.2])),(1,dl (.cells [pS ⟨#[]⟩,pI 0]))],2⟩) (fun v=>DH t.up v.1) ⟨v0,rfl⟩ []
  (zW ⟨⟨_,rfl,.of_eq I⟩,Tk I,rfl,⟨_,rfl,.of_eq I⟩,Tk I,rfl,ac⟩) fun v=>?_
 obtain⟨v,d⟩:=v;refine zJ I I (fun g=>?_) fun g=>?_
 .have h:cZ (.si .i64) t.up v=jp:=by simpa using g
  have e:bX t.up v0=v:=by rw[<-d];exact p8 t.up v h
  refine gA I (zL (.of_eq ?_));exact congrArg (fun x:cA=>ag x.c) e.symm
 .have h:cZ (.si .i64) t.up v=is:=by simpa using g
  obtain⟨j,u⟩:=mO t.up v ok h;refine gA I ⟨⟨cK (.si .i64) t.up v cA.z,j.trans d⟩,[],u,zW ⟨⟨_,rfl,.of_eq I⟩,Tk I,rfl,⟨_,rfl,.of_eq I⟩,Tk I,rfl,ac⟩⟩
def tG(t:TS)(w:Want):Int:=if w.has=0 then cK (.si .i64) t.kind (bX t.up w.at_) 0 else w.has
def rV(t:TS)(lit:Int)(w:Want):Bool:=kw (w.lit=lit)&&!kw (tG t w=w.kind)
def qS(t:TS)(lit:Int):Bool:=t.ws.any (rV t lit)
theorem S7(r:ar)(t:TS)(lit:Int)(ok:ir t.up)(hb:t.ws.length<=1000000000000):Pure prog 223 [.iv (NL r t),pI lit] (pB (qS t lit)):=by
 refine ai ab func223 I (by decide) ntmps223 I (by simp) I ?_;refine gA I ?_;refine aG 0 t.ws.length (TB _) (fun i=>⟨[(0,.iv (NL r t)),(1,pI lit),(11,.iv (bp 5 t.ws Want.c)),(12,pI t.ws.length),(13,pI i)],[],0⟩) (fun i=>(t.ws.take i).any (rV t lit)=jp) [] I
  (zW trivial) fun i C B=>?_
 refine zJ I I (fun d=>?_) fun d=>?_
 .have d:i<t.ws.length:=by simpa using d
  have A:=c7 B d;refine zJ I I (fun x=>?_) fun x=>?_
  .have x:(t.ws.getD i co).has=0:=zT x;refine gA I (B9 (c52 r t (t.ws.getD i co).at_ ok) ?_);have y:tG t (t.ws.getD i co)=cK (.si .i64) t.kind (bX t.up (t.ws.getD i co).at_) 0:=am x;refine zJ I I (fun j=>?_) fun j=>?_
   .have j:(t.ws.getD i co).lit=lit:=zT j;refine zJ I I (fun u=>?_) fun u=>?_
    .have u: ¬tG t (t.ws.getD i co)=(t.ws.getD i co).kind:=by rw[y];simpa using u
     have e:qS t lit=is:=UO.2 ⟨t.ws.getD i co,by rw[Tr,Ts d];exact Uw d,by rw[rV,decide_eq_true j,decide_eq_false u];rfl⟩;refine gA I (zL (.of_eq ?_));rw[e]
    .have u:tG t (t.ws.getD i co)=(t.ws.getD i co).kind:=by rw[y];simpa using u
     refine gA I ⟨d,A.2 (by rw[rV,decide_eq_true u,VY,Vy]),[],zW ac⟩
   .have j: ¬(t.ws.getD i co).lit=lit:=by simpa using j
    refine gA I ⟨d,A.2 (by rw[rV,decide_eq_false j];rfl),[],zW ac⟩
  .have x: ¬(t.ws.getD i co).has=0:=zF x;have y:tG t (t.ws.getD i co)=(t.ws.getD i co).has:=be x;refine zJ I I (fun j=>?_) fun j=>?_
   .have j:(t.ws.getD i co).lit=lit:=zT j;refine zJ I I (fun u=>?_) fun u=>?_
    .have u: ¬tG t (t.ws.getD i co)=(t.ws.getD i co).kind:=by rw[y];simpa using u
     have e:qS t lit=is:=UO.2 ⟨t.ws.getD i co,by rw[Tr,Ts d];exact Uw d,by rw[rV,decide_eq_true j,decide_eq_false u];rfl⟩;refine gA I (zL (.of_eq ?_));rw[e]
    .have u:tG t (t.ws.getD i co)=(t.ws.getD i co).kind:=by rw[y];simpa using u
     refine gA I ⟨d,A.2 (by rw[rV,decide_eq_true u,VY,Vy]),[],zW ac⟩
   .have j: ¬(t.ws.getD i co).lit=lit:=by simpa using j
    refine gA I ⟨d,A.2 (by rw[rV,decide_eq_false j];rfl),[],zW ac⟩
 .have d:t.ws.length<=i:=by simpa using d
  rw[TE d]at B;refine gA I (zL (.of_eq ?_));rw[qS,B]
end Go.Proofs.YtbhphmfbligliaaGreatDoor
