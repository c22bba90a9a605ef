/-
  What the proofs of the claims need: part 3 of 6.
-/
import Derived.Test.YtflegjieadkonaaGreatDoorPart2
import Derived.KernelRfl
import Derived.Test.YtflegjieadkonaaGreatDoorProg
import Derived.Sort.EncStr
import Derived.Sort.Grow
import Derived.Sort.Walk0
open And renaming intro→VJ
open Array renaming getD_eq_getD_getElem?→VK,getElem?_append_left→WO,getElem?_eq_getElem→Wx,getElem?_modify→WG
open Bool renaming and_eq_true→Wc,eq_iff_iff→WK,false_eq_true→Xn,false_or→Xr,not_false→Yf,true_or→Yn
open ByteArray renaming empty→VT
open Classical renaming byContradiction→Xa
open Int renaming ofNat_lt→Wz,toNat_natCast→VQ
open List.Nodup renaming length_le_of_subset→WJ
open List renaming all_eq_false→XW,all_eq_true→Wl,any_eq_false→WA,any_eq_true→WU,append_assoc→VU,append_nil→WL,cons_append→W7,filterMap_append→YJ,filterMap_cons→YR,filter_cons→Xp,filter_eq_self→YS,findIdx?_eq_none_iff→Yq,findIdx?_eq_some_iff_getElem→Yb,flatMap_append→XM,flatMap_cons→WT,foldl_append→Xe,foldl_cons→Wm,getD_cons_succ→Xj,getD_eq_getElem?_getD→VP,getElem?_eq_getElem→VS,getElem?_eq_some_iff→VO,getElem?_map→VV,getElem?_of_mem→WE,getElem?_take→WN,getElem_inj→X4,getElem_map→Yi,getElem_mem→WI,le_antisymm→Yz,length_append→VL,length_cons→Wu,length_filter_le→WR,length_map→Wr,length_nil→XH,length_range→Xt,length_singleton→WM,length_take→Xc,map_append→VN,map_cons→V6,map_nil→Wv,mem_append→V3,mem_append_left→Wp,mem_append_right→Xk,mem_cons→V4,mem_cons_of_mem→V2,mem_cons_self→V8,mem_filter→Wi,mem_flatMap→WY,mem_map→Wo,mem_of_getElem?→Wj,mem_range→Wf,mem_singleton→VX,nodup_append→W8,nodup_cons→WC,nodup_nil→WB,not_lt→Y2,not_mem_nil→Yh,pairwise_cons→Xb,range→V5,take_of_length_le→VY,take_succ_cons→W4
open Nat renaming add_zero→XR,le_add_left→X8,le_of_ble_eq_true→VI,le_of_not_lt→Ww,le_refl→VZ,min_le_right→Y0,mul_one→Yv,sub_zero→YD,zero_add→Wn,zero_le→V1
open Option renaming bind_some→Xi,getD_some→W6,map_eq_some_iff→VW,map_some→W1
open Option.some renaming injEq→VM
open Prod renaming fst→We
namespace Go.Proofs.YtflegjieadkonaaGreatDoor
open Go Go.Al
def ty1:aA:=⟨.ai (.func #[] #[] false),1,8, .nilFunc,false⟩
theorem Sn:ad Tryz.prog 1 ty1:=⟨ab (by kernel_rfl),⟨Tryz.underlying1,rfl⟩,fun h=>nomatch h⟩
def ty2:aA:=⟨.ai (.int .i64),1,8, .int .i64 (0),false⟩
theorem Sm:ad Tryz.prog 2 ty2:=⟨ab (by kernel_rfl),⟨Tryz.underlying2,rfl⟩,fun h=>nomatch h⟩
def ty3:aA:=⟨.ai (.int .i64),1,8, .int .i64 (0),false⟩
theorem Sl:ad Tryz.prog 3 ty3:=⟨ab (by kernel_rfl),⟨Tryz.underlying3,rfl⟩,fun h=>nomatch h⟩
def ty4:aA:=⟨.ai (.bool),1,1, .bool false,false⟩
theorem Sk:ad Tryz.prog 4 ty4:=⟨ab (by kernel_rfl),⟨Tryz.underlying4,rfl⟩,fun h=>nomatch h⟩
def ty5:aA:=⟨.ai (.int .u8),1,1, .int .u8 (0),false⟩
theorem Sj:ad Tryz.prog 5 ty5:=⟨ab (by kernel_rfl),⟨Tryz.underlying5,rfl⟩,fun h=>nomatch h⟩
def ty6:aA:=⟨.ai (.int .u8),1,1, .int .u8 (0),false⟩
theorem Si:ad Tryz.prog 6 ty6:=⟨ab (by kernel_rfl),⟨Tryz.underlying6,rfl⟩,fun h=>nomatch h⟩
def ty7:aA:=⟨.aR [(0,2),(1,3),(2,4),(3,6)],4,24, .agg #[.int .i64 (0), .int .i64 (0), .bool false, .int .u8 (0)],true⟩
theorem Sh:ad Tryz.prog 7 ty7:=⟨ab (by kernel_rfl),⟨_,Tryz.underlying7,rfl⟩,fun _=>aJ Tryz.underlying7 Tryz.stoodInHeld7 Tryz.eqGuardType7 (by decide)⟩
def ty8:aA:=⟨.aR [(0,2),(1,3),(2,4),(3,6)],4,24, .agg #[.int .i64 (0), .int .i64 (0), .bool false, .int .u8 (0)],true⟩
theorem Sg:ad Tryz.prog 8 ty8:=⟨ab (by kernel_rfl),⟨_,Tryz.underlying8,rfl⟩,fun _=>aJ Tryz.underlying8 Tryz.stoodInHeld8 Tryz.eqGuardType8 (by decide)⟩
def ty9:aA:=⟨.ai (.string),1,16, .string VT,false⟩
theorem Sf:ad Tryz.prog 9 ty9:=⟨ab (by kernel_rfl),⟨Tryz.underlying9,rfl⟩,fun h=>nomatch h⟩
def TV:aA:=⟨.ai (.string),1,16, .string VT,false⟩
theorem QM:ad Tryz.prog 10 TV:=⟨ab (by kernel_rfl),⟨Tryz.underlying10,rfl⟩,fun h=>nomatch h⟩
def TU:aA:=⟨.ai (.string),1,16, .string VT,false⟩
theorem QK:ad Tryz.prog 11 TU:=⟨ab (by kernel_rfl),⟨Tryz.underlying11,rfl⟩,fun h=>nomatch h⟩
def TR:aA:=⟨.ai (.int .u64),1,8, .int .u64 (0),false⟩
theorem QJ:ad Tryz.prog 12 TR:=⟨ab (by kernel_rfl),⟨Tryz.underlying12,rfl⟩,fun h=>nomatch h⟩
def TQ:aA:=⟨.aR [(0,9),(1,12)],2,24, .agg #[.string VT, .int .u64 (0)],false⟩
theorem QI:ad Tryz.prog 13 TQ:=⟨ab (by kernel_rfl),⟨_,Tryz.underlying13,rfl⟩,fun h=>nomatch h⟩
def TP:aA:=⟨.aR [(0,9),(1,12)],2,24, .agg #[.string VT, .int .u64 (0)],false⟩
theorem QH:ad Tryz.prog 14 TP:=⟨ab (by kernel_rfl),⟨_,Tryz.underlying14,rfl⟩,fun h=>nomatch h⟩
def TO:aA:=⟨.ai (.pointer 348),1,8, .pointer none,false⟩
theorem QF:ad Tryz.prog 15 TO:=⟨ab (by kernel_rfl),⟨Tryz.underlying15,rfl⟩,fun h=>nomatch h⟩
def TN:aA:=⟨.ai (.pointer 351),1,8, .pointer none,false⟩
theorem QC:ad Tryz.prog 16 TN:=⟨ab (by kernel_rfl),⟨Tryz.underlying16,rfl⟩,fun h=>nomatch h⟩
def TM:aA:=⟨.ai (.pointer 358),1,8, .pointer none,false⟩
theorem Qz:ad Tryz.prog 17 TM:=⟨ab (by kernel_rfl),⟨Tryz.underlying17,rfl⟩,fun h=>nomatch h⟩
def TL:aA:=⟨.aR [(0,17)],1,8, .agg #[.pointer none],false⟩
theorem Qy:ad Tryz.prog 18 TL:=⟨ab (by kernel_rfl),⟨_,Tryz.underlying18,rfl⟩,fun h=>nomatch h⟩
def TJ:aA:=⟨.aR [(0,17)],1,8, .agg #[.pointer none],false⟩
theorem Qx:ad Tryz.prog 19 TJ:=⟨ab (by kernel_rfl),⟨_,Tryz.underlying19,rfl⟩,fun h=>nomatch h⟩
def TI:aA:=⟨.ai (.int .i32),1,4, .int .i32 (0),false⟩
theorem Qw:ad Tryz.prog 21 TI:=⟨ab (by kernel_rfl),⟨Tryz.underlying21,rfl⟩,fun h=>nomatch h⟩
def TH:aA:=⟨.ai (.slice 49),1,24, .slice none 0 0,false⟩
theorem Qv:ad Tryz.prog 22 TH:=⟨ab (by kernel_rfl),⟨Tryz.underlying22,rfl⟩,fun h=>nomatch h⟩
def TG:aA:=⟨.ai (.slice 76),1,24, .slice none 0 0,false⟩
theorem Qu:ad Tryz.prog 23 TG:=⟨ab (by kernel_rfl),⟨Tryz.underlying23,rfl⟩,fun h=>nomatch h⟩
def TF:aA:=⟨.aR [(0,22),(1,23)],2,48, .agg #[.slice none 0 0, .slice none 0 0],true⟩
theorem Qt:ad Tryz.prog 24 TF:=⟨ab (by kernel_rfl),⟨_,Tryz.underlying24,rfl⟩,fun _=>aJ Tryz.underlying24 Tryz.stoodInHeld24 Tryz.eqGuardType24 (by decide)⟩
def TE:aA:=⟨.aR [(0,22),(1,23)],2,48, .agg #[.slice none 0 0, .slice none 0 0],true⟩
theorem Qs:ad Tryz.prog 25 TE:=⟨ab (by kernel_rfl),⟨_,Tryz.underlying25,rfl⟩,fun _=>aJ Tryz.underlying25 Tryz.stoodInHeld25 Tryz.eqGuardType25 (by decide)⟩
def TD:aA:=⟨.ai (.func #[] #[4] false),1,8, .nilFunc,false⟩
theorem Qr:ad Tryz.prog 26 TD:=⟨ab (by kernel_rfl),⟨Tryz.underlying26,rfl⟩,fun h=>nomatch h⟩
def TC:aA:=⟨.ai (.func #[25] #[25] false),1,8, .nilFunc,false⟩
theorem Qq:ad Tryz.prog 27 TC:=⟨ab (by kernel_rfl),⟨Tryz.underlying27,rfl⟩,fun h=>nomatch h⟩
def TB:aA:=⟨.ai (.slice 80),1,24, .slice none 0 0,false⟩
theorem Qp:ad Tryz.prog 28 TB:=⟨ab (by kernel_rfl),⟨Tryz.underlying28,rfl⟩,fun h=>nomatch h⟩
def TA:aA:=⟨.ai (.func #[25] #[28] false),1,8, .nilFunc,false⟩
theorem Qo:ad Tryz.prog 29 TA:=⟨ab (by kernel_rfl),⟨Tryz.underlying29,rfl⟩,fun h=>nomatch h⟩
def Tz:aA:=⟨.ai (.slice 53),1,24, .slice none 0 0,false⟩
theorem Qn:ad Tryz.prog 30 Tz:=⟨ab (by kernel_rfl),⟨Tryz.underlying30,rfl⟩,fun h=>nomatch h⟩
def Tx:aA:=⟨.ai (.func #[25] #[30] false),1,8, .nilFunc,false⟩
theorem Qm:ad Tryz.prog 31 Tx:=⟨ab (by kernel_rfl),⟨Tryz.underlying31,rfl⟩,fun h=>nomatch h⟩
def Tw:aA:=⟨.ai (.slice 56),1,24, .slice none 0 0,false⟩
theorem Ql:ad Tryz.prog 32 Tw:=⟨ab (by kernel_rfl),⟨Tryz.underlying32,rfl⟩,fun h=>nomatch h⟩
def Tv:aA:=⟨.ai (.int .i64),1,8, .int .i64 (0),false⟩
theorem Qk:ad Tryz.prog 33 Tv:=⟨ab (by kernel_rfl),⟨Tryz.underlying33,rfl⟩,fun h=>nomatch h⟩
def Tu:aA:=⟨.aR [(0,3),(1,3)],2,16, .agg #[.int .i64 (0), .int .i64 (0)],true⟩
theorem Qj:ad Tryz.prog 34 Tu:=⟨ab (by kernel_rfl),⟨_,Tryz.underlying34,rfl⟩,fun _=>aJ Tryz.underlying34 Tryz.stoodInHeld34 Tryz.eqGuardType34 (by decide)⟩
def Tt:aA:=⟨.aR [(0,3),(1,3)],2,16, .agg #[.int .i64 (0), .int .i64 (0)],true⟩
theorem Qi:ad Tryz.prog 35 Tt:=⟨ab (by kernel_rfl),⟨_,Tryz.underlying35,rfl⟩,fun _=>aJ Tryz.underlying35 Tryz.stoodInHeld35 Tryz.eqGuardType35 (by decide)⟩
def Ts:aA:=⟨.aR [(0,33),(1,35)],3,24, .agg #[.int .i64 (0), .int .i64 (0), .int .i64 (0)],true⟩
theorem Qh:ad Tryz.prog 36 Ts:=⟨ab (by kernel_rfl),⟨_,Tryz.underlying36,rfl⟩,fun _=>aJ Tryz.underlying36 Tryz.stoodInHeld36 Tryz.eqGuardType36 (by decide)⟩
def Tr:aA:=⟨.aR [(0,33),(1,35)],3,24, .agg #[.int .i64 (0), .int .i64 (0), .int .i64 (0)],true⟩
theorem Qg:ad Tryz.prog 37 Tr:=⟨ab (by kernel_rfl),⟨_,Tryz.underlying37,rfl⟩,fun _=>aJ Tryz.underlying37 Tryz.stoodInHeld37 Tryz.eqGuardType37 (by decide)⟩
def Tq:aA:=⟨.ai (.func #[25] #[32,37] false),1,8, .nilFunc,false⟩
theorem Qf:ad Tryz.prog 39 Tq:=⟨ab (by kernel_rfl),⟨Tryz.underlying39,rfl⟩,fun h=>nomatch h⟩
def Tp:aA:=⟨.ai (.func #[25] #[37] false),1,8, .nilFunc,false⟩
theorem Qe:ad Tryz.prog 40 Tp:=⟨ab (by kernel_rfl),⟨Tryz.underlying40,rfl⟩,fun h=>nomatch h⟩
def To:aA:=⟨.ai (.func #[25] #[4] false),1,8, .nilFunc,false⟩
theorem Qd:ad Tryz.prog 41 To:=⟨ab (by kernel_rfl),⟨Tryz.underlying41,rfl⟩,fun h=>nomatch h⟩
def Tn:aA:=⟨.ai (.func #[25,25] #[4] false),1,8, .nilFunc,false⟩
theorem Qc:ad Tryz.prog 42 Tn:=⟨ab (by kernel_rfl),⟨Tryz.underlying42,rfl⟩,fun h=>nomatch h⟩
def Tm:aA:=⟨.ai (.func #[25,3] #[4] false),1,8, .nilFunc,false⟩
theorem Qb:ad Tryz.prog 43 Tm:=⟨ab (by kernel_rfl),⟨Tryz.underlying43,rfl⟩,fun h=>nomatch h⟩
def Tl:aA:=⟨.ai (.func #[28,28] #[4] false),1,8, .nilFunc,false⟩
theorem Qa:ad Tryz.prog 44 Tl:=⟨ab (by kernel_rfl),⟨Tryz.underlying44,rfl⟩,fun h=>nomatch h⟩
def Tk:aA:=⟨.ai (.func #[30,30] #[4] false),1,8, .nilFunc,false⟩
theorem P9:ad Tryz.prog 45 Tk:=⟨ab (by kernel_rfl),⟨Tryz.underlying45,rfl⟩,fun h=>nomatch h⟩
def Ti:aA:=⟨.ai (.func #[32,32] #[4] false),1,8, .nilFunc,false⟩
theorem P8:ad Tryz.prog 46 Ti:=⟨ab (by kernel_rfl),⟨Tryz.underlying46,rfl⟩,fun h=>nomatch h⟩
def Th:aA:=⟨.ai (.slice 3),1,24, .slice none 0 0,false⟩
theorem P7:ad Tryz.prog 47 Th:=⟨ab (by kernel_rfl),⟨Tryz.underlying47,rfl⟩,fun h=>nomatch h⟩
def Tg:aA:=⟨.aR [(0,9),(1,47),(2,35)],4,56, .agg #[.string VT, .slice none 0 0, .int .i64 (0), .int .i64 (0)],true⟩
theorem P6:ad Tryz.prog 48 Tg:=⟨ab (by kernel_rfl),⟨_,Tryz.underlying48,rfl⟩,fun _=>aJ Tryz.underlying48 Tryz.stoodInHeld48 Tryz.eqGuardType48 (by decide)⟩
def Tf:aA:=⟨.aR [(0,9),(1,47),(2,35)],4,56, .agg #[.string VT, .slice none 0 0, .int .i64 (0), .int .i64 (0)],true⟩
theorem P5:ad Tryz.prog 49 Tf:=⟨ab (by kernel_rfl),⟨_,Tryz.underlying49,rfl⟩,fun _=>aJ Tryz.underlying49 Tryz.stoodInHeld49 Tryz.eqGuardType49 (by decide)⟩
def Te:aA:=⟨.ai (.func #[25,32,30,9] #[3,4] false),1,8, .nilFunc,false⟩
theorem P4:ad Tryz.prog 51 Te:=⟨ab (by kernel_rfl),⟨Tryz.underlying51,rfl⟩,fun h=>nomatch h⟩
def Td:aA:=⟨.ai (.func #[30,9] #[3] false),1,8, .nilFunc,false⟩
theorem P3:ad Tryz.prog 52 Td:=⟨ab (by kernel_rfl),⟨Tryz.underlying52,rfl⟩,fun h=>nomatch h⟩
def Tc:aA:=⟨.ai (.slice 9),1,24, .slice none 0 0,false⟩
theorem P2:ad Tryz.prog 53 Tc:=⟨ab (by kernel_rfl),⟨Tryz.underlying53,rfl⟩,fun h=>nomatch h⟩
def Tb:aA:=⟨.ai (.func #[32,9] #[3] false),1,8, .nilFunc,false⟩
theorem P1:ad Tryz.prog 54 Tb:=⟨ab (by kernel_rfl),⟨Tryz.underlying54,rfl⟩,fun h=>nomatch h⟩
def Ta:aA:=⟨.aR [(0,9),(1,3)],2,24, .agg #[.string VT, .int .i64 (0)],true⟩
theorem P0:ad Tryz.prog 55 Ta:=⟨ab (by kernel_rfl),⟨_,Tryz.underlying55,rfl⟩,fun _=>aJ Tryz.underlying55 Tryz.stoodInHeld55 Tryz.eqGuardType55 (by decide)⟩
def S9:aA:=⟨.aR [(0,9),(1,3)],2,24, .agg #[.string VT, .int .i64 (0)],true⟩
theorem PZ:ad Tryz.prog 56 S9:=⟨ab (by kernel_rfl),⟨_,Tryz.underlying56,rfl⟩,fun _=>aJ Tryz.underlying56 Tryz.stoodInHeld56 Tryz.eqGuardType56 (by decide)⟩
def S8:aA:=⟨.ai (.func #[25,3] #[25] false),1,8, .nilFunc,false⟩
theorem PY:ad Tryz.prog 57 S8:=⟨ab (by kernel_rfl),⟨Tryz.underlying57,rfl⟩,fun h=>nomatch h⟩
def S7:aA:=⟨.ai (.func #[3,3] #[3] false),1,8, .nilFunc,false⟩
theorem PX:ad Tryz.prog 58 S7:=⟨ab (by kernel_rfl),⟨Tryz.underlying58,rfl⟩,fun h=>nomatch h⟩
def S6:aA:=⟨.ai (.func #[25,3,3] #[4] false),1,8, .nilFunc,false⟩
theorem PW:ad Tryz.prog 59 S6:=⟨ab (by kernel_rfl),⟨Tryz.underlying59,rfl⟩,fun h=>nomatch h⟩
def S5:aA:=⟨.ai (.slice 119),1,24, .slice none 0 0,false⟩
theorem PU:ad Tryz.prog 60 S5:=⟨ab (by kernel_rfl),⟨Tryz.underlying60,rfl⟩,fun h=>nomatch h⟩
def S4:aA:=⟨.aR [(0,3),(1,3),(2,53),(3,60)],4,64, .agg #[.int .i64 (0), .int .i64 (0), .slice none 0 0, .slice none 0 0],true⟩
theorem PT:ad Tryz.prog 61 S4:=⟨ab (by kernel_rfl),⟨_,Tryz.underlying61,rfl⟩,fun _=>aJ Tryz.underlying61 Tryz.stoodInHeld61 Tryz.eqGuardType61 (by decide)⟩
def S3:aA:=⟨.aR [(0,3),(1,3),(2,53),(3,60)],4,64, .agg #[.int .i64 (0), .int .i64 (0), .slice none 0 0, .slice none 0 0],true⟩
theorem PS:ad Tryz.prog 62 S3:=⟨ab (by kernel_rfl),⟨_,Tryz.underlying62,rfl⟩,fun _=>aJ Tryz.underlying62 Tryz.stoodInHeld62 Tryz.eqGuardType62 (by decide)⟩
def S2:aA:=⟨.ai (.func #[25,3,3] #[62,33] false),1,8, .nilFunc,false⟩
theorem PR:ad Tryz.prog 64 S2:=⟨ab (by kernel_rfl),⟨Tryz.underlying64,rfl⟩,fun h=>nomatch h⟩
def S1:aA:=⟨.ai (.func #[62,62] #[4] false),1,8, .nilFunc,false⟩
theorem PQ:ad Tryz.prog 65 S1:=⟨ab (by kernel_rfl),⟨Tryz.underlying65,rfl⟩,fun h=>nomatch h⟩
def S0:aA:=⟨.ai (.func #[25,3,53] #[62,33] false),1,8, .nilFunc,false⟩
theorem PO:ad Tryz.prog 66 S0:=⟨ab (by kernel_rfl),⟨Tryz.underlying66,rfl⟩,fun h=>nomatch h⟩
def SZ:aA:=⟨.ai (.func #[25,3] #[62,33] false),1,8, .nilFunc,false⟩
theorem PN:ad Tryz.prog 67 SZ:=⟨ab (by kernel_rfl),⟨Tryz.underlying67,rfl⟩,fun h=>nomatch h⟩
def SY:aA:=⟨.ai (.func #[25,3,53] #[4] false),1,8, .nilFunc,false⟩
theorem PM:ad Tryz.prog 68 SY:=⟨ab (by kernel_rfl),⟨Tryz.underlying68,rfl⟩,fun h=>nomatch h⟩
def SW:aA:=⟨.ai (.func #[62] #[62] false),1,8, .nilFunc,false⟩
theorem PL:ad Tryz.prog 69 SW:=⟨ab (by kernel_rfl),⟨Tryz.underlying69,rfl⟩,fun h=>nomatch h⟩
def SV:aA:=⟨.ai (.func #[25,62] #[4] false),1,8, .nilFunc,false⟩
theorem PK:ad Tryz.prog 70 SV:=⟨ab (by kernel_rfl),⟨Tryz.underlying70,rfl⟩,fun h=>nomatch h⟩
def SU:aA:=⟨.ai (.slice 143),1,24, .slice none 0 0,false⟩
theorem PJ:ad Tryz.prog 71 SU:=⟨ab (by kernel_rfl),⟨Tryz.underlying71,rfl⟩,fun h=>nomatch h⟩
def SS:aA:=⟨.aR [(0,9),(1,71)],2,40, .agg #[.string VT, .slice none 0 0],true⟩
theorem PI:ad Tryz.prog 72 SS:=⟨ab (by kernel_rfl),⟨_,Tryz.underlying72,rfl⟩,fun _=>aJ Tryz.underlying72 Tryz.stoodInHeld72 Tryz.eqGuardType72 (by decide)⟩
def SR:aA:=⟨.aR [(0,9),(1,71)],2,40, .agg #[.string VT, .slice none 0 0],true⟩
theorem PH:ad Tryz.prog 73 SR:=⟨ab (by kernel_rfl),⟨_,Tryz.underlying73,rfl⟩,fun _=>aJ Tryz.underlying73 Tryz.stoodInHeld73 Tryz.eqGuardType73 (by decide)⟩
def SQ:aA:=⟨.ai (.slice 105),1,24, .slice none 0 0,false⟩
theorem PG:ad Tryz.prog 74 SQ:=⟨ab (by kernel_rfl),⟨Tryz.underlying74,rfl⟩,fun h=>nomatch h⟩
def SP:aA:=⟨.aR [(0,73),(2,74),(3,35)],5,80, .agg #[.string VT, .slice none 0 0, .slice none 0 0, .int .i64 (0), .int .i64 (0)],true⟩
theorem PF:ad Tryz.prog 75 SP:=⟨ab (by kernel_rfl),⟨_,Tryz.underlying75,rfl⟩,fun _=>aJ Tryz.underlying75 Tryz.stoodInHeld75 Tryz.eqGuardType75 (by decide)⟩
def SO:aA:=⟨.aR [(0,73),(2,74),(3,35)],5,80, .agg #[.string VT, .slice none 0 0, .slice none 0 0, .int .i64 (0), .int .i64 (0)],true⟩
theorem PD:ad Tryz.prog 76 SO:=⟨ab (by kernel_rfl),⟨_,Tryz.underlying76,rfl⟩,fun _=>aJ Tryz.underlying76 Tryz.stoodInHeld76 Tryz.eqGuardType76 (by decide)⟩
def SN:aA:=⟨.ai (.func #[76,62] #[4] false),1,8, .nilFunc,false⟩
theorem PC:ad Tryz.prog 77 SN:=⟨ab (by kernel_rfl),⟨Tryz.underlying77,rfl⟩,fun h=>nomatch h⟩
def SM:aA:=⟨.ai (.func #[4] #[25] false),1,8, .nilFunc,false⟩
theorem PB:ad Tryz.prog 78 SM:=⟨ab (by kernel_rfl),⟨Tryz.underlying78,rfl⟩,fun h=>nomatch h⟩
def SK:aA:=⟨.aR [(0,9),(1,9),(2,4)],3,40, .agg #[.string VT, .string VT, .bool false],true⟩
theorem PA:ad Tryz.prog 79 SK:=⟨ab (by kernel_rfl),⟨_,Tryz.underlying79,rfl⟩,fun _=>aJ Tryz.underlying79 Tryz.stoodInHeld79 Tryz.eqGuardType79 (by decide)⟩
def SJ:aA:=⟨.aR [(0,9),(1,9),(2,4)],3,40, .agg #[.string VT, .string VT, .bool false],true⟩
theorem Pz:ad Tryz.prog 80 SJ:=⟨ab (by kernel_rfl),⟨_,Tryz.underlying80,rfl⟩,fun _=>aJ Tryz.underlying80 Tryz.stoodInHeld80 Tryz.eqGuardType80 (by decide)⟩
def SI:aA:=⟨.ai (.func #[73] #[73] false),1,8, .nilFunc,false⟩
theorem Py:ad Tryz.prog 81 SI:=⟨ab (by kernel_rfl),⟨Tryz.underlying81,rfl⟩,fun h=>nomatch h⟩
def SH:aA:=⟨.ai (.func #[74] #[74] false),1,8, .nilFunc,false⟩
theorem Px:ad Tryz.prog 82 SH:=⟨ab (by kernel_rfl),⟨Tryz.underlying82,rfl⟩,fun h=>nomatch h⟩
def SG:aA:=⟨.ai (.map 9 88),1,8, .map none,false⟩
theorem Pw:ad Tryz.prog 83 SG:=⟨ab (by kernel_rfl),⟨Tryz.underlying83,rfl⟩,fun h=>nomatch h⟩
def SF:aA:=⟨.ai (.map 9 88),1,8, .map none,false⟩
theorem Pv:ad Tryz.prog 84 SF:=⟨ab (by kernel_rfl),⟨Tryz.underlying84,rfl⟩,fun h=>nomatch h⟩
def SE:aA:=⟨.ai (.func #[25] #[84,4] false),1,8, .nilFunc,false⟩
theorem Pu:ad Tryz.prog 86 SE:=⟨ab (by kernel_rfl),⟨Tryz.underlying86,rfl⟩,fun h=>nomatch h⟩
def SD:aA:=⟨.ai (.func #[83] #[53] false),1,8, .nilFunc,false⟩
theorem Pt:ad Tryz.prog 87 SD:=⟨ab (by kernel_rfl),⟨Tryz.underlying87,rfl⟩,fun h=>nomatch h⟩
def SC:aA:=⟨.ai (.map 9 3),1,8, .map none,false⟩
theorem Ps:ad Tryz.prog 88 SC:=⟨ab (by kernel_rfl),⟨Tryz.underlying88,rfl⟩,fun h=>nomatch h⟩
def SA:aA:=⟨.ai (.func #[88] #[53] false),1,8, .nilFunc,false⟩
theorem Pr:ad Tryz.prog 89 SA:=⟨ab (by kernel_rfl),⟨Tryz.underlying89,rfl⟩,fun h=>nomatch h⟩
def Sz:aA:=⟨.ai (.func #[] #[88] false),1,8, .nilFunc,false⟩
theorem Pq:ad Tryz.prog 90 Sz:=⟨ab (by kernel_rfl),⟨Tryz.underlying90,rfl⟩,fun h=>nomatch h⟩
def Sy:aA:=⟨.ai (.map 3 53),1,8, .map none,false⟩
theorem Pp:ad Tryz.prog 91 Sy:=⟨ab (by kernel_rfl),⟨Tryz.underlying91,rfl⟩,fun h=>nomatch h⟩
def Sx:aA:=⟨.ai (.map 3 3),1,8, .map none,false⟩
theorem Po:ad Tryz.prog 92 Sx:=⟨ab (by kernel_rfl),⟨Tryz.underlying92,rfl⟩,fun h=>nomatch h⟩
def Sw:aA:=⟨.ai (.func #[25] #[53] false),1,8, .nilFunc,false⟩
theorem Pn:ad Tryz.prog 93 Sw:=⟨ab (by kernel_rfl),⟨Tryz.underlying93,rfl⟩,fun h=>nomatch h⟩
def Sv:aA:=⟨.ai (.slice 47),1,24, .slice none 0 0,false⟩
theorem Pm:ad Tryz.prog 94 Sv:=⟨ab (by kernel_rfl),⟨Tryz.underlying94,rfl⟩,fun h=>nomatch h⟩
def Su:aA:=⟨.ai (.func #[25,53] #[94] false),1,8, .nilFunc,false⟩
theorem Pl:ad Tryz.prog 95 Su:=⟨ab (by kernel_rfl),⟨Tryz.underlying95,rfl⟩,fun h=>nomatch h⟩
def Ss:aA:=⟨.ai (.func #[76,88] #[37] false),1,8, .nilFunc,false⟩
theorem Pk:ad Tryz.prog 96 Ss:=⟨ab (by kernel_rfl),⟨Tryz.underlying96,rfl⟩,fun h=>nomatch h⟩
def Sr:aA:=⟨.aR [(0,3),(1,3),(2,9)],3,32, .agg #[.int .i64 (0), .int .i64 (0), .string VT],true⟩
theorem Pj:ad Tryz.prog 97 Sr:=⟨ab (by kernel_rfl),⟨_,Tryz.underlying97,rfl⟩,fun _=>aJ Tryz.underlying97 Tryz.stoodInHeld97 Tryz.eqGuardType97 (by decide)⟩
def Sq:aA:=⟨.aR [(0,3),(1,3),(2,9)],3,32, .agg #[.int .i64 (0), .int .i64 (0), .string VT],true⟩
theorem Ph:ad Tryz.prog 98 Sq:=⟨ab (by kernel_rfl),⟨_,Tryz.underlying98,rfl⟩,fun _=>aJ Tryz.underlying98 Tryz.stoodInHeld98 Tryz.eqGuardType98 (by decide)⟩
def Sp:aA:=⟨.ai (.slice 101),1,24, .slice none 0 0,false⟩
theorem Pg:ad Tryz.prog 99 Sp:=⟨ab (by kernel_rfl),⟨Tryz.underlying99,rfl⟩,fun h=>nomatch h⟩
def OJ:aA:=⟨.aR [(0,3),(1,9),(2,98),(5,3),(6,99)],7,88, .agg #[.int .i64 (0), .string VT, .int .i64 (0), .int .i64 (0), .string VT, .int .i64 (0), .slice none 0 0],true⟩
theorem IH:ad Tryz.prog 100 OJ:=⟨ab (by kernel_rfl),⟨_,Tryz.underlying100,rfl⟩,fun _=>aJ Tryz.underlying100 Tryz.stoodInHeld100 Tryz.eqGuardType100 (by decide)⟩
def OI:aA:=⟨.aR [(0,3),(1,9),(2,98),(5,3),(6,99)],7,88, .agg #[.int .i64 (0), .string VT, .int .i64 (0), .int .i64 (0), .string VT, .int .i64 (0), .slice none 0 0],true⟩
theorem IG:ad Tryz.prog 101 OI:=⟨ab (by kernel_rfl),⟨_,Tryz.underlying101,rfl⟩,fun _=>aJ Tryz.underlying101 Tryz.stoodInHeld101 Tryz.eqGuardType101 (by decide)⟩
def OH:aA:=⟨.aR [(0,3),(1,9),(2,101),(9,74)],10,136, .agg #[.int .i64 (0), .string VT, .int .i64 (0), .string VT, .int .i64 (0), .int .i64 (0), .string VT, .int .i64 (0), .slice none 0 0, .slice none 0 0],true⟩
theorem IF:ad Tryz.prog 102 OH:=⟨ab (by kernel_rfl),⟨_,Tryz.underlying102,rfl⟩,fun _=>aJ Tryz.underlying102 Tryz.stoodInHeld102 Tryz.eqGuardType102 (by decide)⟩
def OG:aA:=⟨.aR [(0,3),(1,9),(2,101),(9,74)],10,136, .agg #[.int .i64 (0), .string VT, .int .i64 (0), .string VT, .int .i64 (0), .int .i64 (0), .string VT, .int .i64 (0), .slice none 0 0, .slice none 0 0],true⟩
theorem IE:ad Tryz.prog 103 OG:=⟨ab (by kernel_rfl),⟨_,Tryz.underlying103,rfl⟩,fun _=>aJ Tryz.underlying103 Tryz.stoodInHeld103 Tryz.eqGuardType103 (by decide)⟩
def OF:aA:=⟨.aR [(0,3),(1,73),(3,3),(4,101),(11,101),(18,103),(28,35)],30,384, .agg #[.int .i64 (0), .string VT, .slice none 0 0, .int .i64 (0), .int .i64 (0), .string VT, .int .i64 (0), .int .i64 (0), .string VT, .int .i64 (0), .slice none 0 0, .int .i64 (0), .string VT, .int .i64 (0), .int .i64 (0), .string VT, .int .i64 (0), .slice none 0 0, .int .i64 (0), .string VT, .int .i64 (0), .string VT, .int .i64 (0), .int .i64 (0), .string VT, .int .i64 (0), .slice none 0 0, .slice none 0 0, .int .i64 (0), .int .i64 (0)],true⟩
theorem ID:ad Tryz.prog 104 OF:=⟨ab (by kernel_rfl),⟨_,Tryz.underlying104,rfl⟩,fun _=>aJ Tryz.underlying104 Tryz.stoodInHeld104 Tryz.eqGuardType104 (by decide)⟩
def OE:aA:=⟨.aR [(0,3),(1,73),(3,3),(4,101),(11,101),(18,103),(28,35)],30,384, .agg #[.int .i64 (0), .string VT, .slice none 0 0, .int .i64 (0), .int .i64 (0), .string VT, .int .i64 (0), .int .i64 (0), .string VT, .int .i64 (0), .slice none 0 0, .int .i64 (0), .string VT, .int .i64 (0), .int .i64 (0), .string VT, .int .i64 (0), .slice none 0 0, .int .i64 (0), .string VT, .int .i64 (0), .string VT, .int .i64 (0), .int .i64 (0), .string VT, .int .i64 (0), .slice none 0 0, .slice none 0 0, .int .i64 (0), .int .i64 (0)],true⟩
theorem IC:ad Tryz.prog 105 OE:=⟨ab (by kernel_rfl),⟨_,Tryz.underlying105,rfl⟩,fun _=>aJ Tryz.underlying105 Tryz.stoodInHeld105 Tryz.eqGuardType105 (by decide)⟩
def OD:aA:=⟨.ai (.func #[73,73] #[4] false),1,8, .nilFunc,false⟩
theorem IB:ad Tryz.prog 106 OD:=⟨ab (by kernel_rfl),⟨Tryz.underlying106,rfl⟩,fun h=>nomatch h⟩
def OC:aA:=⟨.ai (.func #[74,74] #[4] false),1,8, .nilFunc,false⟩
theorem IA:ad Tryz.prog 107 OC:=⟨ab (by kernel_rfl),⟨Tryz.underlying107,rfl⟩,fun h=>nomatch h⟩
def OB:aA:=⟨.ai (.func #[76,88] #[4] false),1,8, .nilFunc,false⟩
theorem Iz:ad Tryz.prog 108 OB:=⟨ab (by kernel_rfl),⟨Tryz.underlying108,rfl⟩,fun h=>nomatch h⟩
def OA:aA:=⟨.ai (.func #[76,53,110] #[4] false),1,8, .nilFunc,false⟩
theorem Iy:ad Tryz.prog 109 OA:=⟨ab (by kernel_rfl),⟨Tryz.underlying109,rfl⟩,fun h=>nomatch h⟩
def Oz:aA:=⟨.ai (.slice 113),1,24, .slice none 0 0,false⟩
theorem Ix:ad Tryz.prog 110 Oz:=⟨ab (by kernel_rfl),⟨Tryz.underlying110,rfl⟩,fun h=>nomatch h⟩
def Oy:aA:=⟨.ai (.func #[94] #[110] false),1,8, .nilFunc,false⟩
theorem Iw:ad Tryz.prog 111 Oy:=⟨ab (by kernel_rfl),⟨Tryz.underlying111,rfl⟩,fun h=>nomatch h⟩
def Ox:aA:=⟨.ai (.func #[53,53] #[4] false),1,8, .nilFunc,false⟩
theorem Iv:ad Tryz.prog 112 Ox:=⟨ab (by kernel_rfl),⟨Tryz.underlying112,rfl⟩,fun h=>nomatch h⟩
def Ow:aA:=⟨.ai (.slice 4),1,24, .slice none 0 0,false⟩
theorem Iu:ad Tryz.prog 113 Ow:=⟨ab (by kernel_rfl),⟨Tryz.underlying113,rfl⟩,fun h=>nomatch h⟩
def Ov:aA:=⟨.ai (.func #[110,113,3] #[4] false),1,8, .nilFunc,false⟩
theorem It:ad Tryz.prog 114 Ov:=⟨ab (by kernel_rfl),⟨Tryz.underlying114,rfl⟩,fun h=>nomatch h⟩
def Ou:aA:=⟨.ai (.func #[76,53,110] #[37] false),1,8, .nilFunc,false⟩
theorem Is:ad Tryz.prog 115 Ou:=⟨ab (by kernel_rfl),⟨Tryz.underlying115,rfl⟩,fun h=>nomatch h⟩
def Ot:aA:=⟨.ai (.func #[105] #[53] false),1,8, .nilFunc,false⟩
theorem Ir:ad Tryz.prog 116 Ot:=⟨ab (by kernel_rfl),⟨Tryz.underlying116,rfl⟩,fun h=>nomatch h⟩
def Oq:aA:=⟨.ai (.func #[] #[25] false),1,8, .nilFunc,false⟩
theorem Iq:ad Tryz.prog 117 Oq:=⟨ab (by kernel_rfl),⟨Tryz.underlying117,rfl⟩,fun h=>nomatch h⟩
def Oo:aA:=⟨.aR [(0,3),(1,3),(2,47),(3,9)],4,56, .agg #[.int .i64 (0), .int .i64 (0), .slice none 0 0, .string VT],true⟩
theorem Ip:ad Tryz.prog 118 Oo:=⟨ab (by kernel_rfl),⟨_,Tryz.underlying118,rfl⟩,fun _=>aJ Tryz.underlying118 Tryz.stoodInHeld118 Tryz.eqGuardType118 (by decide)⟩
def On:aA:=⟨.aR [(0,3),(1,3),(2,47),(3,9)],4,56, .agg #[.int .i64 (0), .int .i64 (0), .slice none 0 0, .string VT],true⟩
theorem Io:ad Tryz.prog 119 On:=⟨ab (by kernel_rfl),⟨_,Tryz.underlying119,rfl⟩,fun _=>aJ Tryz.underlying119 Tryz.stoodInHeld119 Tryz.eqGuardType119 (by decide)⟩
def Om:aA:=⟨.ai (.func #[25,3] #[33] false),1,8, .nilFunc,false⟩
theorem Im:ad Tryz.prog 120 Om:=⟨ab (by kernel_rfl),⟨Tryz.underlying120,rfl⟩,fun h=>nomatch h⟩
def Ol:aA:=⟨.ai (.func #[76,3,53] #[60] false),1,8, .nilFunc,false⟩
theorem Il:ad Tryz.prog 121 Ol:=⟨ab (by kernel_rfl),⟨Tryz.underlying121,rfl⟩,fun h=>nomatch h⟩
def Oj:aA:=⟨.ai (.func #[25,3] #[76,33] false),1,8, .nilFunc,false⟩
theorem Ik:ad Tryz.prog 123 Oj:=⟨ab (by kernel_rfl),⟨Tryz.underlying123,rfl⟩,fun h=>nomatch h⟩
def Oi:aA:=⟨.ai (.pointer 135),1,8, .pointer none,false⟩
theorem Ij:ad Tryz.prog 124 Oi:=⟨ab (by kernel_rfl),⟨Tryz.underlying124,rfl⟩,fun h=>nomatch h⟩
def Oh:aA:=⟨.ai (.func #[76,53] #[124] false),1,8, .nilFunc,false⟩
theorem Ii:ad Tryz.prog 125 Oh:=⟨ab (by kernel_rfl),⟨Tryz.underlying125,rfl⟩,fun h=>nomatch h⟩
def Og:aA:=⟨.ai (.func #[3] #[60] false),1,8, .nilFunc,false⟩
theorem Ih:ad Tryz.prog 126 Og:=⟨ab (by kernel_rfl),⟨Tryz.underlying126,rfl⟩,fun h=>nomatch h⟩
def Of:aA:=⟨.ai (.func #[119,119] #[4] false),1,8, .nilFunc,false⟩
theorem Ig:ad Tryz.prog 127 Of:=⟨ab (by kernel_rfl),⟨Tryz.underlying127,rfl⟩,fun h=>nomatch h⟩
def Oe:aA:=⟨.ai (.func #[76,53] #[4] false),1,8, .nilFunc,false⟩
theorem Ie:ad Tryz.prog 128 Oe:=⟨ab (by kernel_rfl),⟨Tryz.underlying128,rfl⟩,fun h=>nomatch h⟩
def Od:aA:=⟨.ai (.func #[53,53] #[53] false),1,8, .nilFunc,false⟩
theorem Ic:ad Tryz.prog 129 Od:=⟨ab (by kernel_rfl),⟨Tryz.underlying129,rfl⟩,fun h=>nomatch h⟩
def Oc:aA:=⟨.ai (.func #[73] #[53] false),1,8, .nilFunc,false⟩
theorem Ib:ad Tryz.prog 130 Oc:=⟨ab (by kernel_rfl),⟨Tryz.underlying130,rfl⟩,fun h=>nomatch h⟩
def Ob:aA:=⟨.ai (.func #[53] #[53] false),1,8, .nilFunc,false⟩
theorem Ia:ad Tryz.prog 131 Ob:=⟨ab (by kernel_rfl),⟨Tryz.underlying131,rfl⟩,fun h=>nomatch h⟩
def Oa:aA:=⟨.ai (.func #[76] #[53] false),1,8, .nilFunc,false⟩
theorem H9:ad Tryz.prog 132 Oa:=⟨ab (by kernel_rfl),⟨Tryz.underlying132,rfl⟩,fun h=>nomatch h⟩
def N9:aA:=⟨.ai (.map 9 3),1,8, .map none,false⟩
theorem H8:ad Tryz.prog 133 N9:=⟨ab (by kernel_rfl),⟨Tryz.underlying133,rfl⟩,fun h=>nomatch h⟩
def N8:aA:=⟨.aR [(0,76),(5,133),(6,91),(7,92)],8,104, .agg #[.string VT, .slice none 0 0, .slice none 0 0, .int .i64 (0), .int .i64 (0), .map none, .map none, .map none],true⟩
theorem H7:ad Tryz.prog 134 N8:=⟨ab (by kernel_rfl),⟨_,Tryz.underlying134,rfl⟩,fun _=>aJ Tryz.underlying134 Tryz.stoodInHeld134 Tryz.eqGuardType134 (by decide)⟩
def N7:aA:=⟨.aR [(0,76),(5,133),(6,91),(7,92)],8,104, .agg #[.string VT, .slice none 0 0, .slice none 0 0, .int .i64 (0), .int .i64 (0), .map none, .map none, .map none],true⟩
theorem H6:ad Tryz.prog 135 N7:=⟨ab (by kernel_rfl),⟨_,Tryz.underlying135,rfl⟩,fun _=>aJ Tryz.underlying135 Tryz.stoodInHeld135 Tryz.eqGuardType135 (by decide)⟩
def N6:aA:=⟨.ai (.func #[3] #[119,4] false),1,8, .nilFunc,false⟩
theorem H5:ad Tryz.prog 137 N6:=⟨ab (by kernel_rfl),⟨Tryz.underlying137,rfl⟩,fun h=>nomatch h⟩
def N5:aA:=⟨.ai (.func #[47,47] #[4] false),1,8, .nilFunc,false⟩
theorem H4:ad Tryz.prog 138 N5:=⟨ab (by kernel_rfl),⟨Tryz.underlying138,rfl⟩,fun h=>nomatch h⟩
def N4:aA:=⟨.ai (.func #[119] #[] false),1,8, .nilFunc,false⟩
theorem H3:ad Tryz.prog 139 N4:=⟨ab (by kernel_rfl),⟨Tryz.underlying139,rfl⟩,fun h=>nomatch h⟩
def N3:aA:=⟨.ai (.func #[76,3,53] #[119,4] false),1,8, .nilFunc,false⟩
theorem H0:ad Tryz.prog 140 N3:=⟨ab (by kernel_rfl),⟨Tryz.underlying140,rfl⟩,fun h=>nomatch h⟩
def NZ:aA:=⟨.ai (.func #[76,119,53] #[53] false),1,8, .nilFunc,false⟩
theorem HZ:ad Tryz.prog 141 NZ:=⟨ab (by kernel_rfl),⟨Tryz.underlying141,rfl⟩,fun h=>nomatch h⟩
def NY:aA:=⟨.aR [(0,3),(1,9),(2,98)],5,56, .agg #[.int .i64 (0), .string VT, .int .i64 (0), .int .i64 (0), .string VT],true⟩
theorem HY:ad Tryz.prog 142 NY:=⟨ab (by kernel_rfl),⟨_,Tryz.underlying142,rfl⟩,fun _=>aJ Tryz.underlying142 Tryz.stoodInHeld142 Tryz.eqGuardType142 (by decide)⟩
def NX:aA:=⟨.aR [(0,3),(1,9),(2,98)],5,56, .agg #[.int .i64 (0), .string VT, .int .i64 (0), .int .i64 (0), .string VT],true⟩
theorem HX:ad Tryz.prog 143 NX:=⟨ab (by kernel_rfl),⟨_,Tryz.underlying143,rfl⟩,fun _=>aJ Tryz.underlying143 Tryz.stoodInHeld143 Tryz.eqGuardType143 (by decide)⟩
def NW:aA:=⟨.ai (.func #[53,9] #[53] false),1,8, .nilFunc,false⟩
theorem HW:ad Tryz.prog 144 NW:=⟨ab (by kernel_rfl),⟨Tryz.underlying144,rfl⟩,fun h=>nomatch h⟩
def NV:aA:=⟨.ai (.func #[3,9] #[105] false),1,8, .nilFunc,false⟩
theorem HV:ad Tryz.prog 145 NV:=⟨ab (by kernel_rfl),⟨Tryz.underlying145,rfl⟩,fun h=>nomatch h⟩
def NU:aA:=⟨.ai (.func #[101] #[101] false),1,8, .nilFunc,false⟩
theorem HU:ad Tryz.prog 146 NU:=⟨ab (by kernel_rfl),⟨Tryz.underlying146,rfl⟩,fun h=>nomatch h⟩
def NT:aA:=⟨.ai (.func #[53] #[] false),1,8, .nilFunc,false⟩
theorem HT:ad Tryz.prog 147 NT:=⟨ab (by kernel_rfl),⟨Tryz.underlying147,rfl⟩,fun h=>nomatch h⟩
def NS:aA:=⟨.ai (.func #[9] #[3] false),1,8, .nilFunc,false⟩
theorem HS:ad Tryz.prog 148 NS:=⟨ab (by kernel_rfl),⟨Tryz.underlying148,rfl⟩,fun h=>nomatch h⟩
def NR:aA:=⟨.ai (.func #[53,9] #[3] false),1,8, .nilFunc,false⟩
theorem HR:ad Tryz.prog 149 NR:=⟨ab (by kernel_rfl),⟨Tryz.underlying149,rfl⟩,fun h=>nomatch h⟩
def NQ:aA:=⟨.ai (.func #[25,151] #[] false),1,8, .nilFunc,false⟩
theorem HQ:ad Tryz.prog 150 NQ:=⟨ab (by kernel_rfl),⟨Tryz.underlying150,rfl⟩,fun h=>nomatch h⟩
def NP:aA:=⟨.ai (.func #[37] #[4] false),1,8, .nilFunc,false⟩
theorem HP:ad Tryz.prog 151 NP:=⟨ab (by kernel_rfl),⟨Tryz.underlying151,rfl⟩,fun h=>nomatch h⟩
def NO:aA:=⟨.ai (.func #[53,9] #[4] false),1,8, .nilFunc,false⟩
theorem HO:ad Tryz.prog 152 NO:=⟨ab (by kernel_rfl),⟨Tryz.underlying152,rfl⟩,fun h=>nomatch h⟩
def NN:aA:=⟨.ai (.func #[101,101] #[4] false),1,8, .nilFunc,false⟩
theorem HN:ad Tryz.prog 153 NN:=⟨ab (by kernel_rfl),⟨Tryz.underlying153,rfl⟩,fun h=>nomatch h⟩
def NL:aA:=⟨.ai (.func #[74,155] #[4] false),1,8, .nilFunc,false⟩
theorem HM:ad Tryz.prog 154 NL:=⟨ab (by kernel_rfl),⟨Tryz.underlying154,rfl⟩,fun h=>nomatch h⟩
def NK:aA:=⟨.ai (.func #[105] #[4] false),1,8, .nilFunc,false⟩
theorem HL:ad Tryz.prog 155 NK:=⟨ab (by kernel_rfl),⟨Tryz.underlying155,rfl⟩,fun h=>nomatch h⟩
def NJ:aA:=⟨.ai (.slice 37),1,24, .slice none 0 0,false⟩
theorem HK:ad Tryz.prog 156 NJ:=⟨ab (by kernel_rfl),⟨Tryz.underlying156,rfl⟩,fun h=>nomatch h⟩
def NI:aA:=⟨.ai (.func #[25] #[156] false),1,8, .nilFunc,false⟩
theorem HJ:ad Tryz.prog 157 NI:=⟨ab (by kernel_rfl),⟨Tryz.underlying157,rfl⟩,fun h=>nomatch h⟩
def NH:aA:=⟨.ai (.func #[76] #[4] false),1,8, .nilFunc,false⟩
theorem HI:ad Tryz.prog 158 NH:=⟨ab (by kernel_rfl),⟨Tryz.underlying158,rfl⟩,fun h=>nomatch h⟩
def NG:aA:=⟨.ai (.func #[9] #[143] false),1,8, .nilFunc,false⟩
theorem HH:ad Tryz.prog 159 NG:=⟨ab (by kernel_rfl),⟨Tryz.underlying159,rfl⟩,fun h=>nomatch h⟩
def NF:aA:=⟨.ai (.func #[76,113,3,53] #[119,4] false),1,8, .nilFunc,false⟩
theorem HG:ad Tryz.prog 160 NF:=⟨ab (by kernel_rfl),⟨Tryz.underlying160,rfl⟩,fun h=>nomatch h⟩
def ND:aA:=⟨.ai (.func #[101,88] #[] false),1,8, .nilFunc,false⟩
theorem HF:ad Tryz.prog 161 ND:=⟨ab (by kernel_rfl),⟨Tryz.underlying161,rfl⟩,fun h=>nomatch h⟩
def NC:aA:=⟨.ai (.func #[105,88] #[] false),1,8, .nilFunc,false⟩
theorem HE:ad Tryz.prog 162 NC:=⟨ab (by kernel_rfl),⟨Tryz.underlying162,rfl⟩,fun h=>nomatch h⟩
def NB:aA:=⟨.ai (.func #[164] #[53] false),1,8, .nilFunc,false⟩
theorem HD:ad Tryz.prog 163 NB:=⟨ab (by kernel_rfl),⟨Tryz.underlying163,rfl⟩,fun h=>nomatch h⟩
def NA:aA:=⟨.ai (.map 9 3),1,8, .map none,false⟩
theorem HC:ad Tryz.prog 164 NA:=⟨ab (by kernel_rfl),⟨Tryz.underlying164,rfl⟩,fun h=>nomatch h⟩
def Nz:aA:=⟨.aR [(0,76),(5,164)],6,88, .agg #[.string VT, .slice none 0 0, .slice none 0 0, .int .i64 (0), .int .i64 (0), .map none],true⟩
theorem HB:ad Tryz.prog 165 Nz:=⟨ab (by kernel_rfl),⟨_,Tryz.underlying165,rfl⟩,fun _=>aJ Tryz.underlying165 Tryz.stoodInHeld165 Tryz.eqGuardType165 (by decide)⟩
def Ny:aA:=⟨.aR [(0,76),(5,164)],6,88, .agg #[.string VT, .slice none 0 0, .slice none 0 0, .int .i64 (0), .int .i64 (0), .map none],true⟩
theorem HA:ad Tryz.prog 166 Ny:=⟨ab (by kernel_rfl),⟨_,Tryz.underlying166,rfl⟩,fun _=>aJ Tryz.underlying166 Tryz.stoodInHeld166 Tryz.eqGuardType166 (by decide)⟩
def Nx:aA:=⟨.ai (.pointer 166),1,8, .pointer none,false⟩
theorem Hz:ad Tryz.prog 167 Nx:=⟨ab (by kernel_rfl),⟨Tryz.underlying167,rfl⟩,fun h=>nomatch h⟩
def Nw:aA:=⟨.ai (.func #[76] #[167] false),1,8, .nilFunc,false⟩
theorem Hy:ad Tryz.prog 168 Nw:=⟨ab (by kernel_rfl),⟨Tryz.underlying168,rfl⟩,fun h=>nomatch h⟩
def Nv:aA:=⟨.ai (.slice 173),1,24, .slice none 0 0,false⟩
theorem Hx:ad Tryz.prog 169 Nv:=⟨ab (by kernel_rfl),⟨Tryz.underlying169,rfl⟩,fun h=>nomatch h⟩
def Nu:aA:=⟨.ai (.func #[] #[169] false),1,8, .nilFunc,false⟩
theorem Hw:ad Tryz.prog 170 Nu:=⟨ab (by kernel_rfl),⟨Tryz.underlying170,rfl⟩,fun h=>nomatch h⟩
def Nt:aA:=⟨.ai (.func #[124,3] #[119,4] false),1,8, .nilFunc,false⟩
theorem Hv:ad Tryz.prog 171 Nt:=⟨ab (by kernel_rfl),⟨Tryz.underlying171,rfl⟩,fun h=>nomatch h⟩
def Ns:aA:=⟨.aR [(0,3),(1,171)],2,16, .agg #[.int .i64 (0), .nilFunc],true⟩
theorem Hu:ad Tryz.prog 172 Ns:=⟨ab (by kernel_rfl),⟨_,Tryz.underlying172,rfl⟩,fun _=>aJ Tryz.underlying172 Tryz.stoodInHeld172 Tryz.eqGuardType172 (by decide)⟩
def Nr:aA:=⟨.aR [(0,3),(1,171)],2,16, .agg #[.int .i64 (0), .nilFunc],true⟩
theorem Ht:ad Tryz.prog 173 Nr:=⟨ab (by kernel_rfl),⟨_,Tryz.underlying173,rfl⟩,fun _=>aJ Tryz.underlying173 Tryz.stoodInHeld173 Tryz.eqGuardType173 (by decide)⟩
def Nq:aA:=⟨.ai (.func #[73,53] #[47] false),1,8, .nilFunc,false⟩
theorem Hs:ad Tryz.prog 174 Nq:=⟨ab (by kernel_rfl),⟨Tryz.underlying174,rfl⟩,fun h=>nomatch h⟩
def Np:aA:=⟨.ai (.func #[105,3,53] #[119,4] false),1,8, .nilFunc,false⟩
theorem Hr:ad Tryz.prog 175 Np:=⟨ab (by kernel_rfl),⟨Tryz.underlying175,rfl⟩,fun h=>nomatch h⟩
def No:aA:=⟨.ai (.func #[103] #[53] false),1,8, .nilFunc,false⟩
theorem Hq:ad Tryz.prog 176 No:=⟨ab (by kernel_rfl),⟨Tryz.underlying176,rfl⟩,fun h=>nomatch h⟩
def Nn:aA:=⟨.ai (.func #[53,3,3,3] #[] false),1,8, .nilFunc,false⟩
theorem Hp:ad Tryz.prog 177 Nn:=⟨ab (by kernel_rfl),⟨Tryz.underlying177,rfl⟩,fun h=>nomatch h⟩
def Nl:aA:=⟨.ai (.func #[179] #[3] false),1,8, .nilFunc,false⟩
theorem Ho:ad Tryz.prog 178 Nl:=⟨ab (by kernel_rfl),⟨Tryz.underlying178,rfl⟩,fun h=>nomatch h⟩
def Nk:aA:=⟨.ai (.int .u64),1,8, .int .u64 (0),false⟩
theorem Hn:ad Tryz.prog 179 Nk:=⟨ab (by kernel_rfl),⟨Tryz.underlying179,rfl⟩,fun h=>nomatch h⟩
def Nj:aA:=⟨.ai (.func #[49,3,3] #[33] false),1,8, .nilFunc,false⟩
theorem Hm:ad Tryz.prog 180 Nj:=⟨ab (by kernel_rfl),⟨Tryz.underlying180,rfl⟩,fun h=>nomatch h⟩
def Ni:aA:=⟨.ai (.map 9 49),1,8, .map none,false⟩
theorem Hl:ad Tryz.prog 181 Ni:=⟨ab (by kernel_rfl),⟨Tryz.underlying181,rfl⟩,fun h=>nomatch h⟩
def Nh:aA:=⟨.ai (.func #[25] #[181] false),1,8, .nilFunc,false⟩
theorem Hk:ad Tryz.prog 182 Nh:=⟨ab (by kernel_rfl),⟨Tryz.underlying182,rfl⟩,fun h=>nomatch h⟩
def Ng:aA:=⟨.ai (.func #[181,76,3] #[37] false),1,8, .nilFunc,false⟩
theorem Hj:ad Tryz.prog 183 Ng:=⟨ab (by kernel_rfl),⟨Tryz.underlying183,rfl⟩,fun h=>nomatch h⟩
def Nf:aA:=⟨.ai (.func #[74,164,185,186] #[] false),1,8, .nilFunc,false⟩
theorem Hi:ad Tryz.prog 184 Nf:=⟨ab (by kernel_rfl),⟨Tryz.underlying184,rfl⟩,fun h=>nomatch h⟩
def Nd:aA:=⟨.ai (.func #[101] #[4] false),1,8, .nilFunc,false⟩
theorem Hh:ad Tryz.prog 185 Nd:=⟨ab (by kernel_rfl),⟨Tryz.underlying185,rfl⟩,fun h=>nomatch h⟩
def Nc:aA:=⟨.ai (.func #[103] #[4] false),1,8, .nilFunc,false⟩
theorem Hg:ad Tryz.prog 186 Nc:=⟨ab (by kernel_rfl),⟨Tryz.underlying186,rfl⟩,fun h=>nomatch h⟩
def Nb:aA:=⟨.ai (.func #[74,155] #[3] false),1,8, .nilFunc,false⟩
theorem Hf:ad Tryz.prog 187 Nb:=⟨ab (by kernel_rfl),⟨Tryz.underlying187,rfl⟩,fun h=>nomatch h⟩
def Na:aA:=⟨.ai (.func #[33,35] #[37] false),1,8, .nilFunc,false⟩
theorem He:ad Tryz.prog 188 Na:=⟨ab (by kernel_rfl),⟨Tryz.underlying188,rfl⟩,fun h=>nomatch h⟩
def M9:aA:=⟨.ai (.func #[25,3] #[37] false),1,8, .nilFunc,false⟩
theorem Hd:ad Tryz.prog 189 M9:=⟨ab (by kernel_rfl),⟨Tryz.underlying189,rfl⟩,fun h=>nomatch h⟩
def M8:aA:=⟨.ai (.func #[73] #[] false),1,8, .nilFunc,false⟩
theorem Hc:ad Tryz.prog 190 M8:=⟨ab (by kernel_rfl),⟨Tryz.underlying190,rfl⟩,fun h=>nomatch h⟩
def M7:aA:=⟨.ai (.func #[105] #[] false),1,8, .nilFunc,false⟩
theorem Hb:ad Tryz.prog 191 M7:=⟨ab (by kernel_rfl),⟨Tryz.underlying191,rfl⟩,fun h=>nomatch h⟩
def M6:aA:=⟨.ai (.func #[101] #[53] false),1,8, .nilFunc,false⟩
theorem Ha:ad Tryz.prog 192 M6:=⟨ab (by kernel_rfl),⟨Tryz.underlying192,rfl⟩,fun h=>nomatch h⟩
def M5:aA:=⟨.ai (.func #[101,101,53] #[4] false),1,8, .nilFunc,false⟩
theorem G9:ad Tryz.prog 193 M5:=⟨ab (by kernel_rfl),⟨Tryz.underlying193,rfl⟩,fun h=>nomatch h⟩
def M4:aA:=⟨.ai (.func #[53,3,3] #[] false),1,8, .nilFunc,false⟩
theorem G8:ad Tryz.prog 194 M4:=⟨ab (by kernel_rfl),⟨Tryz.underlying194,rfl⟩,fun h=>nomatch h⟩
def M3:aA:=⟨.ai (.int .i64),1,8, .int .i64 (0),false⟩
theorem G7:ad Tryz.prog 195 M3:=⟨ab (by kernel_rfl),⟨Tryz.underlying195,rfl⟩,fun h=>nomatch h⟩
def MZ:aA:=⟨.ai (.func #[53,3,3] #[3,195] false),1,8, .nilFunc,false⟩
theorem G6:ad Tryz.prog 197 MZ:=⟨ab (by kernel_rfl),⟨Tryz.underlying197,rfl⟩,fun h=>nomatch h⟩
def MY:aA:=⟨.ai (.func #[53,3,3] #[4] false),1,8, .nilFunc,false⟩
theorem G5:ad Tryz.prog 198 MY:=⟨ab (by kernel_rfl),⟨Tryz.underlying198,rfl⟩,fun h=>nomatch h⟩
def MX:aA:=⟨.ai (.func #[9,9] #[4] false),1,8, .nilFunc,false⟩
theorem G4:ad Tryz.prog 199 MX:=⟨ab (by kernel_rfl),⟨Tryz.underlying199,rfl⟩,fun h=>nomatch h⟩
def MW:aA:=⟨.ai (.func #[53,3,3,3] #[3] false),1,8, .nilFunc,false⟩
theorem G3:ad Tryz.prog 200 MW:=⟨ab (by kernel_rfl),⟨Tryz.underlying200,rfl⟩,fun h=>nomatch h⟩
def MV:aA:=⟨.ai (.func #[53,3,3,3] #[3,4] false),1,8, .nilFunc,false⟩
theorem G2:ad Tryz.prog 201 MV:=⟨ab (by kernel_rfl),⟨Tryz.underlying201,rfl⟩,fun h=>nomatch h⟩
def MU:aA:=⟨.ai (.func #[203] #[3] false),1,8, .nilFunc,false⟩
theorem G1:ad Tryz.prog 202 MU:=⟨ab (by kernel_rfl),⟨Tryz.underlying202,rfl⟩,fun h=>nomatch h⟩
def MT:aA:=⟨.ai (.int .u32),1,4, .int .u32 (0),false⟩
theorem G0:ad Tryz.prog 203 MT:=⟨ab (by kernel_rfl),⟨Tryz.underlying203,rfl⟩,fun h=>nomatch h⟩
def MS:aA:=⟨.ai (.func #[205] #[3] false),1,8, .nilFunc,false⟩
theorem GZ:ad Tryz.prog 204 MS:=⟨ab (by kernel_rfl),⟨Tryz.underlying204,rfl⟩,fun h=>nomatch h⟩
def MR:aA:=⟨.ai (.int .u64),1,8, .int .u64 (0),false⟩
theorem GY:ad Tryz.prog 205 MR:=⟨ab (by kernel_rfl),⟨Tryz.underlying205,rfl⟩,fun h=>nomatch h⟩
def MQ:aA:=⟨.ai (.func #[47,207] #[4] false),1,8, .nilFunc,false⟩
theorem GW:ad Tryz.prog 206 MQ:=⟨ab (by kernel_rfl),⟨Tryz.underlying206,rfl⟩,fun h=>nomatch h⟩
def MP:aA:=⟨.ai (.func #[3] #[4] false),1,8, .nilFunc,false⟩
theorem GV:ad Tryz.prog 207 MP:=⟨ab (by kernel_rfl),⟨Tryz.underlying207,rfl⟩,fun h=>nomatch h⟩
def MO:aA:=⟨.ai (.func #[9] #[4] false),1,8, .nilFunc,false⟩
theorem GU:ad Tryz.prog 208 MO:=⟨ab (by kernel_rfl),⟨Tryz.underlying208,rfl⟩,fun h=>nomatch h⟩
def MN:aA:=⟨.ai (.func #[73] #[9,33] false),1,8, .nilFunc,false⟩
theorem GS:ad Tryz.prog 211 MN:=⟨ab (by kernel_rfl),⟨Tryz.underlying211,rfl⟩,fun h=>nomatch h⟩
def MM:aA:=⟨.ai (.func #[105] #[9,33] false),1,8, .nilFunc,false⟩
theorem GR:ad Tryz.prog 212 MM:=⟨ab (by kernel_rfl),⟨Tryz.underlying212,rfl⟩,fun h=>nomatch h⟩
def ML:aA:=⟨.ai (.func #[] #[3] false),1,8, .nilFunc,false⟩
theorem GQ:ad Tryz.prog 213 ML:=⟨ab (by kernel_rfl),⟨Tryz.underlying213,rfl⟩,fun h=>nomatch h⟩
def MK:aA:=⟨.ai (.func #[215,217] #[4] false),1,8, .nilFunc,false⟩
theorem GP:ad Tryz.prog 214 MK:=⟨ab (by kernel_rfl),⟨Tryz.underlying214,rfl⟩,fun h=>nomatch h⟩
def MJ:aA:=⟨.ai (.slice 73),1,24, .slice none 0 0,false⟩
theorem GN:ad Tryz.prog 215 MJ:=⟨ab (by kernel_rfl),⟨Tryz.underlying215,rfl⟩,fun h=>nomatch h⟩
def MI:aA:=⟨.ai (.func #[76,3] #[215] false),1,8, .nilFunc,false⟩
theorem GK:ad Tryz.prog 216 MI:=⟨ab (by kernel_rfl),⟨Tryz.underlying216,rfl⟩,fun h=>nomatch h⟩
def MH:aA:=⟨.ai (.func #[73] #[4] false),1,8, .nilFunc,false⟩
theorem GJ:ad Tryz.prog 217 MH:=⟨ab (by kernel_rfl),⟨Tryz.underlying217,rfl⟩,fun h=>nomatch h⟩
def MG:aA:=⟨.aR [(0,33),(1,207)],2,16, .agg #[.int .i64 (0), .nilFunc],true⟩
theorem GI:ad Tryz.prog 218 MG:=⟨ab (by kernel_rfl),⟨_,Tryz.underlying218,rfl⟩,fun _=>aJ Tryz.underlying218 Tryz.stoodInHeld218 Tryz.eqGuardType218 (by decide)⟩
def MF:aA:=⟨.ai (.func #[76,3] #[4] false),1,8, .nilFunc,false⟩
theorem GH:ad Tryz.prog 219 MF:=⟨ab (by kernel_rfl),⟨Tryz.underlying219,rfl⟩,fun h=>nomatch h⟩
def ME:aA:=⟨.ai (.pointer 257),1,8, .pointer none,false⟩
theorem GG:ad Tryz.prog 220 ME:=⟨ab (by kernel_rfl),⟨Tryz.underlying220,rfl⟩,fun h=>nomatch h⟩
def MD:aA:=⟨.ai (.func #[181,167] #[220] false),1,8, .nilFunc,false⟩
theorem GF:ad Tryz.prog 221 MD:=⟨ab (by kernel_rfl),⟨Tryz.underlying221,rfl⟩,fun h=>nomatch h⟩
def MC:aA:=⟨.ai (.slice 218),1,24, .slice none 0 0,false⟩
theorem GD:ad Tryz.prog 222 MC:=⟨ab (by kernel_rfl),⟨Tryz.underlying222,rfl⟩,fun h=>nomatch h⟩
def MA:aA:=⟨.ai (.func #[76,3] #[35] false),1,8, .nilFunc,false⟩
theorem GC:ad Tryz.prog 223 MA:=⟨ab (by kernel_rfl),⟨Tryz.underlying223,rfl⟩,fun h=>nomatch h⟩
def Mz:aA:=⟨.ai (.func #[105,185,164] #[9,4] false),1,8, .nilFunc,false⟩
theorem GB:ad Tryz.prog 225 Mz:=⟨ab (by kernel_rfl),⟨Tryz.underlying225,rfl⟩,fun h=>nomatch h⟩
def My:aA:=⟨.ai (.func #[25,76,33] #[37] false),1,8, .nilFunc,false⟩
theorem GA:ad Tryz.prog 226 My:=⟨ab (by kernel_rfl),⟨Tryz.underlying226,rfl⟩,fun h=>nomatch h⟩
def Mx:aA:=⟨.ai (.func #[76,3] #[37] false),1,8, .nilFunc,false⟩
theorem Gz:ad Tryz.prog 227 Mx:=⟨ab (by kernel_rfl),⟨Tryz.underlying227,rfl⟩,fun h=>nomatch h⟩
def Mw:aA:=⟨.ai (.func #[25,76] #[37] false),1,8, .nilFunc,false⟩
theorem Gy:ad Tryz.prog 228 Mw:=⟨ab (by kernel_rfl),⟨Tryz.underlying228,rfl⟩,fun h=>nomatch h⟩
def Mv:aA:=⟨.ai (.func #[105,53] #[9,4] false),1,8, .nilFunc,false⟩
theorem Gx:ad Tryz.prog 229 Mv:=⟨ab (by kernel_rfl),⟨Tryz.underlying229,rfl⟩,fun h=>nomatch h⟩
def Mu:aA:=⟨.ai (.func #[101] #[] false),1,8, .nilFunc,false⟩
theorem Gw:ad Tryz.prog 230 Mu:=⟨ab (by kernel_rfl),⟨Tryz.underlying230,rfl⟩,fun h=>nomatch h⟩
def Mt:aA:=⟨.ai (.func #[88] #[4] false),1,8, .nilFunc,false⟩
theorem Gv:ad Tryz.prog 231 Mt:=⟨ab (by kernel_rfl),⟨Tryz.underlying231,rfl⟩,fun h=>nomatch h⟩
def Ms:aA:=⟨.arr 2 101,14,176, .agg #[.int .i64 (0), .string VT, .int .i64 (0), .int .i64 (0), .string VT, .int .i64 (0), .slice none 0 0, .int .i64 (0), .string VT, .int .i64 (0), .int .i64 (0), .string VT, .int .i64 (0), .slice none 0 0],false⟩
theorem Gu:ad Tryz.prog 232 Ms:=⟨ab (by kernel_rfl),Tryz.underlying232,fun h=>nomatch h⟩
def Mr:aA:=⟨.ai (.int .u64),1,8, .int .u64 (0),false⟩
theorem Gt:ad Tryz.prog 233 Mr:=⟨ab (by kernel_rfl),⟨Tryz.underlying233,rfl⟩,fun h=>nomatch h⟩
def Mq:aA:=⟨.ai (.func #[3] #[179] false),1,8, .nilFunc,false⟩
theorem Gs:ad Tryz.prog 234 Mq:=⟨ab (by kernel_rfl),⟨Tryz.underlying234,rfl⟩,fun h=>nomatch h⟩
def Mp:aA:=⟨.ai (.func #[] #[205] false),1,8, .nilFunc,false⟩
theorem Gr:ad Tryz.prog 235 Mp:=⟨ab (by kernel_rfl),⟨Tryz.underlying235,rfl⟩,fun h=>nomatch h⟩
def Mo:aA:=⟨.ai (.func #[53,3,237] #[3] false),1,8, .nilFunc,false⟩
theorem Gq:ad Tryz.prog 236 Mo:=⟨ab (by kernel_rfl),⟨Tryz.underlying236,rfl⟩,fun h=>nomatch h⟩
def Mn:aA:=⟨.ai (.pointer 3),1,8, .pointer none,false⟩
theorem Gp:ad Tryz.prog 237 Mn:=⟨ab (by kernel_rfl),⟨Tryz.underlying237,rfl⟩,fun h=>nomatch h⟩
def Mm:aA:=⟨.ai (.func #[53,3,3,3,237] #[3] false),1,8, .nilFunc,false⟩
theorem Gn:ad Tryz.prog 238 Mm:=⟨ab (by kernel_rfl),⟨Tryz.underlying238,rfl⟩,fun h=>nomatch h⟩
def Ml:aA:=⟨.ai (.func #[47,207] #[3] false),1,8, .nilFunc,false⟩
theorem Gm:ad Tryz.prog 239 Ml:=⟨ab (by kernel_rfl),⟨Tryz.underlying239,rfl⟩,fun h=>nomatch h⟩
def Mk:aA:=⟨.ai (.func #[9,5,5] #[4] false),1,8, .nilFunc,false⟩
theorem Gl:ad Tryz.prog 240 Mk:=⟨ab (by kernel_rfl),⟨Tryz.underlying240,rfl⟩,fun h=>nomatch h⟩
def Mj:aA:=⟨.ai (.pointer 247),1,8, .pointer none,false⟩
theorem Gk:ad Tryz.prog 241 Mj:=⟨ab (by kernel_rfl),⟨Tryz.underlying241,rfl⟩,fun h=>nomatch h⟩
def Mi:aA:=⟨.ai (.pointer 245),1,8, .pointer none,false⟩
theorem Gj:ad Tryz.prog 242 Mi:=⟨ab (by kernel_rfl),⟨Tryz.underlying242,rfl⟩,fun h=>nomatch h⟩
def Mh:aA:=⟨.ai (.slice 5),1,24, .slice none 0 0,false⟩
theorem Gi:ad Tryz.prog 243 Mh:=⟨ab (by kernel_rfl),⟨Tryz.underlying243,rfl⟩,fun h=>nomatch h⟩
def Mg:aA:=⟨.aR [(0,242),(1,243)],2,32, .agg #[.pointer none, .slice none 0 0],true⟩
theorem Gh:ad Tryz.prog 244 Mg:=⟨ab (by kernel_rfl),⟨_,Tryz.underlying244,rfl⟩,fun _=>aJ Tryz.underlying244 Tryz.stoodInHeld244 Tryz.eqGuardType244 (by decide)⟩
def Mf:aA:=⟨.aR [(0,242),(1,243)],2,32, .agg #[.pointer none, .slice none 0 0],true⟩
theorem Gg:ad Tryz.prog 245 Mf:=⟨ab (by kernel_rfl),⟨_,Tryz.underlying245,rfl⟩,fun _=>aJ Tryz.underlying245 Tryz.stoodInHeld245 Tryz.eqGuardType245 (by decide)⟩
def Me:aA:=⟨.aR [(0,245),(2,4),(3,3)],4,48, .agg #[.pointer none, .slice none 0 0, .bool false, .int .i64 (0)],true⟩
theorem Gf:ad Tryz.prog 246 Me:=⟨ab (by kernel_rfl),⟨_,Tryz.underlying246,rfl⟩,fun _=>aJ Tryz.underlying246 Tryz.stoodInHeld246 Tryz.eqGuardType246 (by decide)⟩
def Md:aA:=⟨.aR [(0,245),(2,4),(3,3)],4,48, .agg #[.pointer none, .slice none 0 0, .bool false, .int .i64 (0)],true⟩
theorem Ge:ad Tryz.prog 247 Md:=⟨ab (by kernel_rfl),⟨_,Tryz.underlying247,rfl⟩,fun _=>aJ Tryz.underlying247 Tryz.stoodInHeld247 Tryz.eqGuardType247 (by decide)⟩
def Mc:aA:=⟨.ai (.func #[] #[9,33] false),1,8, .nilFunc,false⟩
theorem Gd:ad Tryz.prog 248 Mc:=⟨ab (by kernel_rfl),⟨Tryz.underlying248,rfl⟩,fun h=>nomatch h⟩
def Mb:aA:=⟨.ai (.func #[103] #[164] false),1,8, .nilFunc,false⟩
theorem Gc:ad Tryz.prog 249 Mb:=⟨ab (by kernel_rfl),⟨Tryz.underlying249,rfl⟩,fun h=>nomatch h⟩
def Ma:aA:=⟨.ai (.func #[215,217] #[3] false),1,8, .nilFunc,false⟩
theorem Gb:ad Tryz.prog 250 Ma:=⟨ab (by kernel_rfl),⟨Tryz.underlying250,rfl⟩,fun h=>nomatch h⟩
def L9:aA:=⟨.ai (.func #[71,252] #[4] false),1,8, .nilFunc,false⟩
theorem Ga:ad Tryz.prog 251 L9:=⟨ab (by kernel_rfl),⟨Tryz.underlying251,rfl⟩,fun h=>nomatch h⟩
def L8:aA:=⟨.ai (.func #[143] #[4] false),1,8, .nilFunc,false⟩
theorem F9:ad Tryz.prog 252 L8:=⟨ab (by kernel_rfl),⟨Tryz.underlying252,rfl⟩,fun h=>nomatch h⟩
def L7:aA:=⟨.ai (.map 263 263),1,8, .map none,false⟩
theorem F8:ad Tryz.prog 253 L7:=⟨ab (by kernel_rfl),⟨Tryz.underlying253,rfl⟩,fun h=>nomatch h⟩
def L6:aA:=⟨.ai (.map 263 3),1,8, .map none,false⟩
theorem F7:ad Tryz.prog 254 L6:=⟨ab (by kernel_rfl),⟨Tryz.underlying254,rfl⟩,fun h=>nomatch h⟩
def L5:aA:=⟨.ai (.slice 265),1,24, .slice none 0 0,false⟩
theorem F6:ad Tryz.prog 255 L5:=⟨ab (by kernel_rfl),⟨Tryz.underlying255,rfl⟩,fun h=>nomatch h⟩
def L4:aA:=⟨.aR [(0,167),(1,253),(2,255),(3,254)],4,48, .agg #[.pointer none, .map none, .slice none 0 0, .map none],true⟩
theorem F5:ad Tryz.prog 256 L4:=⟨ab (by kernel_rfl),⟨_,Tryz.underlying256,rfl⟩,fun _=>aJ Tryz.underlying256 Tryz.stoodInHeld256 Tryz.eqGuardType256 (by decide)⟩
def L3:aA:=⟨.aR [(0,167),(1,253),(2,255),(3,254)],4,48, .agg #[.pointer none, .map none, .slice none 0 0, .map none],true⟩
theorem F4:ad Tryz.prog 257 L3:=⟨ab (by kernel_rfl),⟨_,Tryz.underlying257,rfl⟩,fun _=>aJ Tryz.underlying257 Tryz.stoodInHeld257 Tryz.eqGuardType257 (by decide)⟩
def L2:aA:=⟨.ai (.func #[181,73,3,3] #[] false),1,8, .nilFunc,false⟩
theorem F3:ad Tryz.prog 258 L2:=⟨ab (by kernel_rfl),⟨Tryz.underlying258,rfl⟩,fun h=>nomatch h⟩
def L1:aA:=⟨.ai (.func #[181,105,3,3] #[] false),1,8, .nilFunc,false⟩
theorem F2:ad Tryz.prog 259 L1:=⟨ab (by kernel_rfl),⟨Tryz.underlying259,rfl⟩,fun h=>nomatch h⟩
def LZ:aA:=⟨.ai (.func #[101,3,3] #[] false),1,8, .nilFunc,false⟩
theorem F1:ad Tryz.prog 260 LZ:=⟨ab (by kernel_rfl),⟨Tryz.underlying260,rfl⟩,fun h=>nomatch h⟩
def LY:aA:=⟨.ai (.func #[101,101,3,3] #[] false),1,8, .nilFunc,false⟩
theorem F0:ad Tryz.prog 261 LY:=⟨ab (by kernel_rfl),⟨Tryz.underlying261,rfl⟩,fun h=>nomatch h⟩
def LX:aA:=⟨.aR [(0,9),(1,3)],2,24, .agg #[.string VT, .int .i64 (0)],true⟩
theorem FZ:ad Tryz.prog 262 LX:=⟨ab (by kernel_rfl),⟨_,Tryz.underlying262,rfl⟩,fun _=>aJ Tryz.underlying262 Tryz.stoodInHeld262 Tryz.eqGuardType262 (by decide)⟩
def LW:aA:=⟨.aR [(0,9),(1,3)],2,24, .agg #[.string VT, .int .i64 (0)],true⟩
theorem FY:ad Tryz.prog 263 LW:=⟨ab (by kernel_rfl),⟨_,Tryz.underlying263,rfl⟩,fun _=>aJ Tryz.underlying263 Tryz.stoodInHeld263 Tryz.eqGuardType263 (by decide)⟩
def LV:aA:=⟨.aR [(0,3),(1,263),(3,3),(4,3)],5,48, .agg #[.int .i64 (0), .string VT, .int .i64 (0), .int .i64 (0), .int .i64 (0)],true⟩
theorem FX:ad Tryz.prog 264 LV:=⟨ab (by kernel_rfl),⟨_,Tryz.underlying264,rfl⟩,fun _=>aJ Tryz.underlying264 Tryz.stoodInHeld264 Tryz.eqGuardType264 (by decide)⟩
def LU:aA:=⟨.aR [(0,3),(1,263),(3,3),(4,3)],5,48, .agg #[.int .i64 (0), .string VT, .int .i64 (0), .int .i64 (0), .int .i64 (0)],true⟩
theorem FW:ad Tryz.prog 265 LU:=⟨ab (by kernel_rfl),⟨_,Tryz.underlying265,rfl⟩,fun _=>aJ Tryz.underlying265 Tryz.stoodInHeld265 Tryz.eqGuardType265 (by decide)⟩
def LS:aA:=⟨.ai (.func #[263] #[263] false),1,8, .nilFunc,false⟩
theorem FV:ad Tryz.prog 266 LS:=⟨ab (by kernel_rfl),⟨Tryz.underlying266,rfl⟩,fun h=>nomatch h⟩
def LR:aA:=⟨.ai (.func #[] #[164] false),1,8, .nilFunc,false⟩
theorem FU:ad Tryz.prog 267 LR:=⟨ab (by kernel_rfl),⟨Tryz.underlying267,rfl⟩,fun h=>nomatch h⟩
def LQ:aA:=⟨.ai (.func #[5] #[4] false),1,8, .nilFunc,false⟩
theorem FQ:ad Tryz.prog 268 LQ:=⟨ab (by kernel_rfl),⟨Tryz.underlying268,rfl⟩,fun h=>nomatch h⟩
def LP:aA:=⟨.ai (.func #[25,76,3,33] #[4] false),1,8, .nilFunc,false⟩
theorem FP:ad Tryz.prog 269 LP:=⟨ab (by kernel_rfl),⟨Tryz.underlying269,rfl⟩,fun h=>nomatch h⟩
def LO:aA:=⟨.ai (.func #[76] #[3] false),1,8, .nilFunc,false⟩
theorem FO:ad Tryz.prog 270 LO:=⟨ab (by kernel_rfl),⟨Tryz.underlying270,rfl⟩,fun h=>nomatch h⟩
def LN:aA:=⟨.ai (.pointer 276),1,8, .pointer none,false⟩
theorem FN:ad Tryz.prog 271 LN:=⟨ab (by kernel_rfl),⟨Tryz.underlying271,rfl⟩,fun h=>nomatch h⟩
def LM:aA:=⟨.ai (.func #[25,76] #[271] false),1,8, .nilFunc,false⟩
theorem FM:ad Tryz.prog 272 LM:=⟨ab (by kernel_rfl),⟨Tryz.underlying272,rfl⟩,fun h=>nomatch h⟩
def LL:aA:=⟨.ai (.slice 325),1,24, .slice none 0 0,false⟩
theorem FL:ad Tryz.prog 273 LL:=⟨ab (by kernel_rfl),⟨Tryz.underlying273,rfl⟩,fun h=>nomatch h⟩
def LK:aA:=⟨.ai (.slice 278),1,24, .slice none 0 0,false⟩
theorem FK:ad Tryz.prog 274 LK:=⟨ab (by kernel_rfl),⟨Tryz.underlying274,rfl⟩,fun h=>nomatch h⟩
def LJ:aA:=⟨.aR [(0,273),(1,47),(2,274),(3,53)],4,96, .agg #[.slice none 0 0, .slice none 0 0, .slice none 0 0, .slice none 0 0],true⟩
theorem FJ:ad Tryz.prog 275 LJ:=⟨ab (by kernel_rfl),⟨_,Tryz.underlying275,rfl⟩,fun _=>aJ Tryz.underlying275 Tryz.stoodInHeld275 Tryz.eqGuardType275 (by decide)⟩
def LI:aA:=⟨.aR [(0,273),(1,47),(2,274),(3,53)],4,96, .agg #[.slice none 0 0, .slice none 0 0, .slice none 0 0, .slice none 0 0],true⟩
theorem FI:ad Tryz.prog 276 LI:=⟨ab (by kernel_rfl),⟨_,Tryz.underlying276,rfl⟩,fun _=>aJ Tryz.underlying276 Tryz.stoodInHeld276 Tryz.eqGuardType276 (by decide)⟩
def LH:aA:=⟨.aR [(0,3),(1,3),(2,3),(3,3)],4,32, .agg #[.int .i64 (0), .int .i64 (0), .int .i64 (0), .int .i64 (0)],true⟩
theorem FH:ad Tryz.prog 277 LH:=⟨ab (by kernel_rfl),⟨_,Tryz.underlying277,rfl⟩,fun _=>aJ Tryz.underlying277 Tryz.stoodInHeld277 Tryz.eqGuardType277 (by decide)⟩
def LG:aA:=⟨.aR [(0,3),(1,3),(2,3),(3,3)],4,32, .agg #[.int .i64 (0), .int .i64 (0), .int .i64 (0), .int .i64 (0)],true⟩
theorem FG:ad Tryz.prog 278 LG:=⟨ab (by kernel_rfl),⟨_,Tryz.underlying278,rfl⟩,fun _=>aJ Tryz.underlying278 Tryz.stoodInHeld278 Tryz.eqGuardType278 (by decide)⟩
def LF:aA:=⟨.ai (.func #[3] #[3] false),1,8, .nilFunc,false⟩
theorem FF:ad Tryz.prog 279 LF:=⟨ab (by kernel_rfl),⟨Tryz.underlying279,rfl⟩,fun h=>nomatch h⟩
def LD:aA:=⟨.ai (.pointer 233),1,8, .pointer none,false⟩
theorem FE:ad Tryz.prog 280 LD:=⟨ab (by kernel_rfl),⟨Tryz.underlying280,rfl⟩,fun h=>nomatch h⟩
def LC:aA:=⟨.ai (.func #[53,3,3,237] #[3,3] false),1,8, .nilFunc,false⟩
theorem FD:ad Tryz.prog 282 LC:=⟨ab (by kernel_rfl),⟨Tryz.underlying282,rfl⟩,fun h=>nomatch h⟩
def LB:aA:=⟨.ai (.func #[9,284] #[4] false),1,8, .nilFunc,false⟩
theorem FC:ad Tryz.prog 283 LB:=⟨ab (by kernel_rfl),⟨Tryz.underlying283,rfl⟩,fun h=>nomatch h⟩
def LA:aA:=⟨.ai (.func #[21] #[4] false),1,8, .nilFunc,false⟩
theorem FB:ad Tryz.prog 284 LA:=⟨ab (by kernel_rfl),⟨Tryz.underlying284,rfl⟩,fun h=>nomatch h⟩
def Lz:aA:=⟨.ai (.func #[4] #[] false),1,8, .nilFunc,false⟩
theorem FA:ad Tryz.prog 285 Lz:=⟨ab (by kernel_rfl),⟨Tryz.underlying285,rfl⟩,fun h=>nomatch h⟩
def Ly:aA:=⟨.ai (.func #[53] #[] true),1,8, .nilFunc,false⟩
theorem Fz:ad Tryz.prog 286 Ly:=⟨ab (by kernel_rfl),⟨Tryz.underlying286,rfl⟩,fun h=>nomatch h⟩
def Lx:aA:=⟨.ai (.func #[98] #[] false),1,8, .nilFunc,false⟩
theorem Fy:ad Tryz.prog 287 Lx:=⟨ab (by kernel_rfl),⟨Tryz.underlying287,rfl⟩,fun h=>nomatch h⟩
def Lw:aA:=⟨.ai (.func #[] #[9] false),1,8, .nilFunc,false⟩
theorem Fx:ad Tryz.prog 288 Lw:=⟨ab (by kernel_rfl),⟨Tryz.underlying288,rfl⟩,fun h=>nomatch h⟩
def Lu:aA:=⟨.arr 7 9,7,112, .agg #[.string VT, .string VT, .string VT, .string VT, .string VT, .string VT, .string VT],false⟩
theorem Fw:ad Tryz.prog 289 Lu:=⟨ab (by kernel_rfl),Tryz.underlying289,fun h=>nomatch h⟩
def Lt:aA:=⟨.ai (.func #[101,3] #[] false),1,8, .nilFunc,false⟩
theorem Fv:ad Tryz.prog 290 Lt:=⟨ab (by kernel_rfl),⟨Tryz.underlying290,rfl⟩,fun h=>nomatch h⟩
def Ls:aA:=⟨.ai (.func #[103] #[] false),1,8, .nilFunc,false⟩
theorem Fu:ad Tryz.prog 291 Ls:=⟨ab (by kernel_rfl),⟨Tryz.underlying291,rfl⟩,fun h=>nomatch h⟩
def Lr:aA:=⟨.ai (.func #[71,252] #[3] false),1,8, .nilFunc,false⟩
theorem Ft:ad Tryz.prog 292 Lr:=⟨ab (by kernel_rfl),⟨Tryz.underlying292,rfl⟩,fun h=>nomatch h⟩
def Lq:aA:=⟨.ai (.func #[9,3] #[263] false),1,8, .nilFunc,false⟩
theorem Fs:ad Tryz.prog 293 Lq:=⟨ab (by kernel_rfl),⟨Tryz.underlying293,rfl⟩,fun h=>nomatch h⟩
def Lp:aA:=⟨.ai (.func #[25,9] #[49,4] false),1,8, .nilFunc,false⟩
theorem Fq:ad Tryz.prog 295 Lp:=⟨ab (by kernel_rfl),⟨Tryz.underlying295,rfl⟩,fun h=>nomatch h⟩
def Lo:aA:=⟨.ai (.func #[76,3] #[53] false),1,8, .nilFunc,false⟩
theorem Fp:ad Tryz.prog 296 Lo:=⟨ab (by kernel_rfl),⟨Tryz.underlying296,rfl⟩,fun h=>nomatch h⟩
def Ln:aA:=⟨.ai (.func #[25,73,3,3] #[] false),1,8, .nilFunc,false⟩
theorem Fo:ad Tryz.prog 297 Ln:=⟨ab (by kernel_rfl),⟨Tryz.underlying297,rfl⟩,fun h=>nomatch h⟩
def Lm:aA:=⟨.ai (.func #[25,103,3] #[] false),1,8, .nilFunc,false⟩
theorem Fm:ad Tryz.prog 298 Lm:=⟨ab (by kernel_rfl),⟨Tryz.underlying298,rfl⟩,fun h=>nomatch h⟩
def Ll:aA:=⟨.ai (.func #[25,105,3,3] #[] false),1,8, .nilFunc,false⟩
theorem Fl:ad Tryz.prog 299 Ll:=⟨ab (by kernel_rfl),⟨Tryz.underlying299,rfl⟩,fun h=>nomatch h⟩
def Lk:aA:=⟨.ai (.func #[9,284] #[3] false),1,8, .nilFunc,false⟩
theorem Fk:ad Tryz.prog 300 Lk:=⟨ab (by kernel_rfl),⟨Tryz.underlying300,rfl⟩,fun h=>nomatch h⟩
def Lj:aA:=⟨.ai (.func #[9] #[3,302] false),1,8, .nilFunc,false⟩
theorem Fj:ad Tryz.prog 304 Lj:=⟨ab (by kernel_rfl),⟨Tryz.underlying304,rfl⟩,fun h=>nomatch h⟩
def Li:aA:=⟨.ai (.func #[98] #[9,33] false),1,8, .nilFunc,false⟩
theorem Fi:ad Tryz.prog 305 Li:=⟨ab (by kernel_rfl),⟨Tryz.underlying305,rfl⟩,fun h=>nomatch h⟩
def Lh:aA:=⟨.ai (.pointer 5),1,8, .pointer none,false⟩
theorem Fh:ad Tryz.prog 306 Lh:=⟨ab (by kernel_rfl),⟨Tryz.underlying306,rfl⟩,fun h=>nomatch h⟩
def Lg:aA:=⟨.arr 5 9,5,80, .agg #[.string VT, .string VT, .string VT, .string VT, .string VT],false⟩
theorem Fg:ad Tryz.prog 307 Lg:=⟨ab (by kernel_rfl),Tryz.underlying307,fun h=>nomatch h⟩
def Lf:aA:=⟨.ai (.func #[74] #[] false),1,8, .nilFunc,false⟩
theorem Ff:ad Tryz.prog 308 Lf:=⟨ab (by kernel_rfl),⟨Tryz.underlying308,rfl⟩,fun h=>nomatch h⟩
def Ld:aA:=⟨.ai (.func #[105] #[215] false),1,8, .nilFunc,false⟩
theorem Fe:ad Tryz.prog 309 Ld:=⟨ab (by kernel_rfl),⟨Tryz.underlying309,rfl⟩,fun h=>nomatch h⟩
def Lc:aA:=⟨.ai (.func #[9,3] #[3] false),1,8, .nilFunc,false⟩
theorem Fc:ad Tryz.prog 310 Lc:=⟨ab (by kernel_rfl),⟨Tryz.underlying310,rfl⟩,fun h=>nomatch h⟩
def Lb:aA:=⟨.ai (.func #[3,3,3,3] #[] false),1,8, .nilFunc,false⟩
theorem Fb:ad Tryz.prog 311 Lb:=⟨ab (by kernel_rfl),⟨Tryz.underlying311,rfl⟩,fun h=>nomatch h⟩
def La:aA:=⟨.ai (.func #[9,284,4] #[3] false),1,8, .nilFunc,false⟩
theorem E9:ad Tryz.prog 312 La:=⟨ab (by kernel_rfl),⟨Tryz.underlying312,rfl⟩,fun h=>nomatch h⟩
def K9:aA:=⟨.ai (.func #[98] #[33] false),1,8, .nilFunc,false⟩
theorem E8:ad Tryz.prog 313 K9:=⟨ab (by kernel_rfl),⟨Tryz.underlying313,rfl⟩,fun h=>nomatch h⟩
def K8:aA:=⟨.ai (.func #[98] #[9] false),1,8, .nilFunc,false⟩
theorem E7:ad Tryz.prog 314 K8:=⟨ab (by kernel_rfl),⟨Tryz.underlying314,rfl⟩,fun h=>nomatch h⟩
def K7:aA:=⟨.ai (.func #[101,4,3] #[] false),1,8, .nilFunc,false⟩
theorem E6:ad Tryz.prog 315 K7:=⟨ab (by kernel_rfl),⟨Tryz.underlying315,rfl⟩,fun h=>nomatch h⟩
def K6:aA:=⟨.ai (.func #[101] #[3] false),1,8, .nilFunc,false⟩
theorem E5:ad Tryz.prog 316 K6:=⟨ab (by kernel_rfl),⟨Tryz.underlying316,rfl⟩,fun h=>nomatch h⟩
def K5:aA:=⟨.ai (.func #[3] #[9] false),1,8, .nilFunc,false⟩
theorem E4:ad Tryz.prog 317 K5:=⟨ab (by kernel_rfl),⟨Tryz.underlying317,rfl⟩,fun h=>nomatch h⟩
def K4:aA:=⟨.ai (.func #[320] #[9,33] false),1,8, .nilFunc,false⟩
theorem E3:ad Tryz.prog 318 K4:=⟨ab (by kernel_rfl),⟨Tryz.underlying318,rfl⟩,fun h=>nomatch h⟩
def K3:aA:=⟨.aR [(0,9),(1,4)],2,24, .agg #[.string VT, .bool false],true⟩
theorem E2:ad Tryz.prog 319 K3:=⟨ab (by kernel_rfl),⟨_,Tryz.underlying319,rfl⟩,fun _=>aJ Tryz.underlying319 Tryz.stoodInHeld319 Tryz.eqGuardType319 (by decide)⟩
def K2:aA:=⟨.aR [(0,9),(1,4)],2,24, .agg #[.string VT, .bool false],true⟩
theorem E1:ad Tryz.prog 320 K2:=⟨ab (by kernel_rfl),⟨_,Tryz.underlying320,rfl⟩,fun _=>aJ Tryz.underlying320 Tryz.stoodInHeld320 Tryz.eqGuardType320 (by decide)⟩
def K1:aA:=⟨.ai (.func #[73] #[320] false),1,8, .nilFunc,false⟩
theorem E0:ad Tryz.prog 321 K1:=⟨ab (by kernel_rfl),⟨Tryz.underlying321,rfl⟩,fun h=>nomatch h⟩
def K0:aA:=⟨.ai (.func #[105,3] #[320] false),1,8, .nilFunc,false⟩
theorem EZ:ad Tryz.prog 322 K0:=⟨ab (by kernel_rfl),⟨Tryz.underlying322,rfl⟩,fun h=>nomatch h⟩
def KZ:aA:=⟨.ai (.func #[74,53,53,4] #[53] false),1,8, .nilFunc,false⟩
theorem EY:ad Tryz.prog 323 KZ:=⟨ab (by kernel_rfl),⟨Tryz.underlying323,rfl⟩,fun h=>nomatch h⟩
def KY:aA:=⟨.aR [(0,9),(1,3)],2,24, .agg #[.string VT, .int .i64 (0)],true⟩
theorem EX:ad Tryz.prog 324 KY:=⟨ab (by kernel_rfl),⟨_,Tryz.underlying324,rfl⟩,fun _=>aJ Tryz.underlying324 Tryz.stoodInHeld324 Tryz.eqGuardType324 (by decide)⟩
def KX:aA:=⟨.aR [(0,9),(1,3)],2,24, .agg #[.string VT, .int .i64 (0)],true⟩
theorem EW:ad Tryz.prog 325 KX:=⟨ab (by kernel_rfl),⟨_,Tryz.underlying325,rfl⟩,fun _=>aJ Tryz.underlying325 Tryz.stoodInHeld325 Tryz.eqGuardType325 (by decide)⟩
def KW:aA:=⟨.ai (.func #[3,3] #[] false),1,8, .nilFunc,false⟩
theorem EV:ad Tryz.prog 326 KW:=⟨ab (by kernel_rfl),⟨Tryz.underlying326,rfl⟩,fun h=>nomatch h⟩
def KV:aA:=⟨.ai (.unsafePointer),1,8, .pointer none,false⟩
theorem EU:ad Tryz.prog 327 KV:=⟨ab (by kernel_rfl),⟨Tryz.underlying327,rfl⟩,fun h=>nomatch h⟩
def KU:aA:=⟨.ai (.func #[327] #[327] false),1,8, .nilFunc,false⟩
theorem ET:ad Tryz.prog 328 KU:=⟨ab (by kernel_rfl),⟨Tryz.underlying328,rfl⟩,fun h=>nomatch h⟩
def KT:aA:=⟨.ai (.func #[9] #[9] false),1,8, .nilFunc,false⟩
theorem ES:ad Tryz.prog 329 KT:=⟨ab (by kernel_rfl),⟨Tryz.underlying329,rfl⟩,fun h=>nomatch h⟩
def KS:aA:=⟨.ai (.func #[3,9,98] #[320] false),1,8, .nilFunc,false⟩
theorem ER:ad Tryz.prog 330 KS:=⟨ab (by kernel_rfl),⟨Tryz.underlying330,rfl⟩,fun h=>nomatch h⟩
def KR:aA:=⟨.ai (.func #[101,3] #[320] false),1,8, .nilFunc,false⟩
theorem EP:ad Tryz.prog 331 KR:=⟨ab (by kernel_rfl),⟨Tryz.underlying331,rfl⟩,fun h=>nomatch h⟩
def KQ:aA:=⟨.ai (.func #[103,3] #[320] false),1,8, .nilFunc,false⟩
theorem EO:ad Tryz.prog 332 KQ:=⟨ab (by kernel_rfl),⟨Tryz.underlying332,rfl⟩,fun h=>nomatch h⟩
def KP:aA:=⟨.ai (.func #[103,53,53] #[4] false),1,8, .nilFunc,false⟩
theorem EN:ad Tryz.prog 333 KP:=⟨ab (by kernel_rfl),⟨Tryz.underlying333,rfl⟩,fun h=>nomatch h⟩
def KO:aA:=⟨.ai (.func #[101,4,3] #[320] false),1,8, .nilFunc,false⟩
theorem EM:ad Tryz.prog 334 KO:=⟨ab (by kernel_rfl),⟨Tryz.underlying334,rfl⟩,fun h=>nomatch h⟩
def KN:aA:=⟨.ai (.func #[74,3] #[320] false),1,8, .nilFunc,false⟩
theorem EL:ad Tryz.prog 335 KN:=⟨ab (by kernel_rfl),⟨Tryz.underlying335,rfl⟩,fun h=>nomatch h⟩
def KL:aA:=⟨.ai (.func #[2,3] #[9] false),1,8, .nilFunc,false⟩
theorem EK:ad Tryz.prog 336 KL:=⟨ab (by kernel_rfl),⟨Tryz.underlying336,rfl⟩,fun h=>nomatch h⟩
def KK:aA:=⟨.arr 24 5,24,24, .agg #[.int .u8 (0), .int .u8 (0), .int .u8 (0), .int .u8 (0), .int .u8 (0), .int .u8 (0), .int .u8 (0), .int .u8 (0), .int .u8 (0), .int .u8 (0), .int .u8 (0), .int .u8 (0), .int .u8 (0), .int .u8 (0), .int .u8 (0), .int .u8 (0), .int .u8 (0), .int .u8 (0), .int .u8 (0), .int .u8 (0), .int .u8 (0), .int .u8 (0), .int .u8 (0), .int .u8 (0)],false⟩
theorem EJ:ad Tryz.prog 337 KK:=⟨ab (by kernel_rfl),Tryz.underlying337,fun h=>nomatch h⟩
def KJ:aA:=⟨.ai (.func #[243,205] #[] false),1,8, .nilFunc,false⟩
theorem EI:ad Tryz.prog 338 KJ:=⟨ab (by kernel_rfl),⟨Tryz.underlying338,rfl⟩,fun h=>nomatch h⟩
def KH:aA:=⟨.ai (.func #[243,205,3,4,4] #[243,9] false),1,8, .nilFunc,false⟩
theorem EH:ad Tryz.prog 340 KH:=⟨ab (by kernel_rfl),⟨Tryz.underlying340,rfl⟩,fun h=>nomatch h⟩
def KG:aA:=⟨.ai (.func #[5] #[9] false),1,8, .nilFunc,false⟩
theorem EG:ad Tryz.prog 341 KG:=⟨ab (by kernel_rfl),⟨Tryz.underlying341,rfl⟩,fun h=>nomatch h⟩
def KF:aA:=⟨.ai (.func #[4] #[3] false),1,8, .nilFunc,false⟩
theorem EF:ad Tryz.prog 342 KF:=⟨ab (by kernel_rfl),⟨Tryz.underlying342,rfl⟩,fun h=>nomatch h⟩
def KE:aA:=⟨.arr 20 205,20,160, .agg #[.int .u64 (0), .int .u64 (0), .int .u64 (0), .int .u64 (0), .int .u64 (0), .int .u64 (0), .int .u64 (0), .int .u64 (0), .int .u64 (0), .int .u64 (0), .int .u64 (0), .int .u64 (0), .int .u64 (0), .int .u64 (0), .int .u64 (0), .int .u64 (0), .int .u64 (0), .int .u64 (0), .int .u64 (0), .int .u64 (0)],false⟩
theorem EE:ad Tryz.prog 343 KE:=⟨ab (by kernel_rfl),Tryz.underlying343,fun h=>nomatch h⟩
def KD:aA:=⟨.arr 65 5,65,65, .agg #[.int .u8 (0), .int .u8 (0), .int .u8 (0), .int .u8 (0), .int .u8 (0), .int .u8 (0), .int .u8 (0), .int .u8 (0), .int .u8 (0), .int .u8 (0), .int .u8 (0), .int .u8 (0), .int .u8 (0), .int .u8 (0), .int .u8 (0), .int .u8 (0), .int .u8 (0), .int .u8 (0), .int .u8 (0), .int .u8 (0), .int .u8 (0), .int .u8 (0), .int .u8 (0), .int .u8 (0), .int .u8 (0), .int .u8 (0), .int .u8 (0), .int .u8 (0), .int .u8 (0), .int .u8 (0), .int .u8 (0), .int .u8 (0), .int .u8 (0), .int .u8 (0), .int .u8 (0), .int .u8 (0), .int .u8 (0), .int .u8 (0), .int .u8 (0), .int .u8 (0), .int .u8 (0), .int .u8 (0), .int .u8 (0), .int .u8 (0), .int .u8 (0), .int .u8 (0), .int .u8 (0), .int .u8 (0), .int .u8 (0), .int .u8 (0), .int .u8 (0), .int .u8 (0), .int .u8 (0), .int .u8 (0), .int .u8 (0), .int .u8 (0), .int .u8 (0), .int .u8 (0), .int .u8 (0), .int .u8 (0), .int .u8 (0), .int .u8 (0), .int .u8 (0), .int .u8 (0), .int .u8 (0)],false⟩
theorem ED:ad Tryz.prog 344 KD:=⟨ab (by kernel_rfl),Tryz.underlying344,fun h=>nomatch h⟩
def KB:aA:=⟨.arr 32 5,32,32, .agg #[.int .u8 (0), .int .u8 (0), .int .u8 (0), .int .u8 (0), .int .u8 (0), .int .u8 (0), .int .u8 (0), .int .u8 (0), .int .u8 (0), .int .u8 (0), .int .u8 (0), .int .u8 (0), .int .u8 (0), .int .u8 (0), .int .u8 (0), .int .u8 (0), .int .u8 (0), .int .u8 (0), .int .u8 (0), .int .u8 (0), .int .u8 (0), .int .u8 (0), .int .u8 (0), .int .u8 (0), .int .u8 (0), .int .u8 (0), .int .u8 (0), .int .u8 (0), .int .u8 (0), .int .u8 (0), .int .u8 (0), .int .u8 (0)],false⟩
theorem EC:ad Tryz.prog 345 KB:=⟨ab (by kernel_rfl),Tryz.underlying345,fun h=>nomatch h⟩
def KA:aA:=⟨.arr 64 5,64,64, .agg #[.int .u8 (0), .int .u8 (0), .int .u8 (0), .int .u8 (0), .int .u8 (0), .int .u8 (0), .int .u8 (0), .int .u8 (0), .int .u8 (0), .int .u8 (0), .int .u8 (0), .int .u8 (0), .int .u8 (0), .int .u8 (0), .int .u8 (0), .int .u8 (0), .int .u8 (0), .int .u8 (0), .int .u8 (0), .int .u8 (0), .int .u8 (0), .int .u8 (0), .int .u8 (0), .int .u8 (0), .int .u8 (0), .int .u8 (0), .int .u8 (0), .int .u8 (0), .int .u8 (0), .int .u8 (0), .int .u8 (0), .int .u8 (0), .int .u8 (0), .int .u8 (0), .int .u8 (0), .int .u8 (0), .int .u8 (0), .int .u8 (0), .int .u8 (0), .int .u8 (0), .int .u8 (0), .int .u8 (0), .int .u8 (0), .int .u8 (0), .int .u8 (0), .int .u8 (0), .int .u8 (0), .int .u8 (0), .int .u8 (0), .int .u8 (0), .int .u8 (0), .int .u8 (0), .int .u8 (0), .int .u8 (0), .int .u8 (0), .int .u8 (0), .int .u8 (0), .int .u8 (0), .int .u8 (0), .int .u8 (0), .int .u8 (0), .int .u8 (0), .int .u8 (0), .int .u8 (0)],false⟩
theorem EB:ad Tryz.prog 346 KA:=⟨ab (by kernel_rfl),Tryz.underlying346,fun h=>nomatch h⟩
def Kz:aA:=⟨.aR [(0,17),(1,17),(2,17),(3,9)],4,40, .agg #[.pointer none, .pointer none, .pointer none, .string VT],false⟩
theorem EA:ad Tryz.prog 347 Kz:=⟨ab (by kernel_rfl),⟨_,Tryz.underlying347,rfl⟩,fun h=>nomatch h⟩
def Ky:aA:=⟨.aR [(0,17),(1,17),(2,17),(3,9)],4,40, .agg #[.pointer none, .pointer none, .pointer none, .string VT],false⟩
theorem Ez:ad Tryz.prog 348 Ky:=⟨ab (by kernel_rfl),⟨_,Tryz.underlying348,rfl⟩,fun h=>nomatch h⟩
def Kx:aA:=⟨.arr 0 16,0,0, .agg #[],false⟩
theorem Ey:ad Tryz.prog 349 Kx:=⟨ab (by kernel_rfl),Tryz.underlying349,fun h=>nomatch h⟩
def Kw:aA:=⟨.aR [(0,349)],0,0, .agg #[],false⟩
theorem Ex:ad Tryz.prog 350 Kw:=⟨ab (by kernel_rfl),⟨_,Tryz.underlying350,rfl⟩,fun h=>nomatch h⟩
def Kv:aA:=⟨.aR [(0,349)],0,0, .agg #[],false⟩
theorem Ew:ad Tryz.prog 351 Kv:=⟨ab (by kernel_rfl),⟨_,Tryz.underlying351,rfl⟩,fun h=>nomatch h⟩
def Ku:aA:=⟨.ai (.int .u8),1,1, .int .u8 (0),false⟩
theorem Ev:ad Tryz.prog 352 Ku:=⟨ab (by kernel_rfl),⟨Tryz.underlying352,rfl⟩,fun h=>nomatch h⟩
def Kt:aA:=⟨.ai (.int .u8),1,1, .int .u8 (0),false⟩
theorem Eu:ad Tryz.prog 353 Kt:=⟨ab (by kernel_rfl),⟨Tryz.underlying353,rfl⟩,fun h=>nomatch h⟩
def Ks:aA:=⟨.ai (.func #[327,327] #[4] false),1,8, .nilFunc,false⟩
theorem Et:ad Tryz.prog 354 Ks:=⟨ab (by kernel_rfl),⟨Tryz.underlying354,rfl⟩,fun h=>nomatch h⟩
def Kr:aA:=⟨.ai (.int .i32),1,4, .int .i32 (0),false⟩
theorem Es:ad Tryz.prog 355 Kr:=⟨ab (by kernel_rfl),⟨Tryz.underlying355,rfl⟩,fun h=>nomatch h⟩
def Kq:aA:=⟨.ai (.int .i32),1,4, .int .i32 (0),false⟩
theorem Er:ad Tryz.prog 356 Kq:=⟨ab (by kernel_rfl),⟨Tryz.underlying356,rfl⟩,fun h=>nomatch h⟩
def Kp:aA:=⟨.aR [(0,12),(1,12),(2,203),(3,352),(4,5),(5,5),(6,353),(7,354),(8,306),(9,355),(10,356)],11,48, .agg #[.int .u64 (0), .int .u64 (0), .int .u32 (0), .int .u8 (0), .int .u8 (0), .int .u8 (0), .int .u8 (0), .nilFunc, .pointer none, .int .i32 (0), .int .i32 (0)],false⟩
theorem Ep:ad Tryz.prog 357 Kp:=⟨ab (by kernel_rfl),⟨_,Tryz.underlying357,rfl⟩,fun h=>nomatch h⟩
def Ko:aA:=⟨.aR [(0,12),(1,12),(2,203),(3,352),(4,5),(5,5),(6,353),(7,354),(8,306),(9,355),(10,356)],11,48, .agg #[.int .u64 (0), .int .u64 (0), .int .u32 (0), .int .u8 (0), .int .u8 (0), .int .u8 (0), .int .u8 (0), .nilFunc, .pointer none, .int .i32 (0), .int .i32 (0)],false⟩
theorem Eo:ad Tryz.prog 358 Ko:=⟨ab (by kernel_rfl),⟨_,Tryz.underlying358,rfl⟩,fun h=>nomatch h⟩
def BR:TT:=(.node (.node (.node (.node (.node (.node (.node (.node (.node .leaf 1 ty1 .leaf) 2 ty2 .leaf) 3 ty3 (.node (.node .leaf 4 ty4 .leaf) 5 ty5 .leaf)) 6 ty6 (.node (.node (.node .leaf 7 ty7 .leaf) 8 ty8 .leaf) 9 ty9 (.node .leaf 10 TV .leaf))) 11 TU (.node (.node (.node (.node .leaf 12 TR .leaf) 13 TQ .leaf) 14 TP (.node (.node .leaf 15 TO .leaf) 16 TN .leaf)) 17 TM (.node (.node (.node .leaf 18 TL .leaf) 19 TJ .leaf) 21 TI (.node .leaf 22 TH .leaf)))) 23 TG (.node (.node (.node (.node (.node .leaf 24 TF .leaf) 25 TE .leaf) 26 TD (.node (.node .leaf 27 TC .leaf) 28 TB .leaf)) 29 TA (.node (.node (.node .leaf 30 Tz .leaf) 31 Tx .leaf) 32 Tw (.node .leaf 33 Tv .leaf))) 34 Tu (.node (.node (.node (.node .leaf 35 Tt .leaf) 36 Ts .leaf) 37 Tr (.node .leaf 39 Tq .leaf)) 40 Tp (.node (.node (.node .leaf 41 To .leaf) 42 Tn .leaf) 43 Tm (.node .leaf 44 Tl .leaf))))) 45 Tk (.node (.node (.node (.node (.node (.node .leaf 46 Ti .leaf) 47 Th .leaf) 48 Tg (.node (.node .leaf 49 Tf .leaf) 51 Te .leaf)) 52 Td (.node (.node (.node .leaf 53 Tc .leaf) 54 Tb .leaf) 55 Ta (.node .leaf 56 S9 .leaf))) 57 S8 (.node (.node (.node (.node .leaf 58 S7 .leaf) 59 S6 .leaf) 60 S5 (.node (.node .leaf 61 S4 .leaf) 62 S3 .leaf)) 64 S2 (.node (.node (.node .leaf 65 S1 .leaf) 66 S0 .leaf) 67 SZ (.node .leaf 68 SY .leaf)))) 69 SW (.node (.node (.node (.node (.node .leaf 70 SV .leaf) 71 SU .leaf) 72 SS (.node (.node .leaf 73 SR .leaf) 74 SQ .leaf)) 75 SP (.node (.node (.node .leaf 76 SO .leaf) 77 SN .leaf) 78 SM (.node .leaf 79 SK .leaf))) 80 SJ (.node (.node (.node (.node .leaf 81 SI .leaf) 82 SH .leaf) 83 SG (.node .leaf 84 SF .leaf)) 86 SE (.node (.node (.node .leaf 87 SD .leaf) 88 SC .leaf) 89 SA (.node .leaf 90 Sz .leaf)))))) 91 Sy (.node (.node (.node (.node (.node (.node (.node .leaf 92 Sx .leaf) 93 Sw .leaf) 94 Sv (.node (.node .leaf 95 Su .leaf) 96 Ss .leaf)) 97 Sr (.node (.node (.node .leaf 98 Sq .leaf) 99 Sp .leaf) 100 OJ (.node .leaf 101 OI .leaf))) 102 OH (.node (.node (.node (.node .leaf 103 OG .leaf) 104 OF .leaf) 105 OE (.node (.node .leaf 106 OD .leaf) 107 OC .leaf)) 108 OB (.node (.node (.node .leaf 109 OA .leaf) 110 Oz .leaf) 111 Oy (.node .leaf 112 Ox .leaf)))) 113 Ow (.node (.node (.node (.node (.node .leaf 114 Ov .leaf) 115 Ou .leaf) 116 Ot (.node (.node .leaf 117 Oq .leaf) 118 Oo .leaf)) 119 On (.node (.node (.node .leaf 120 Om .leaf) 121 Ol .leaf) 123 Oj (.node .leaf 124 Oi .leaf))) 125 Oh (.node (.node (.node (.node .leaf 126 Og .leaf) 127 Of .leaf) 128 Oe (.node .leaf 129 Od .leaf)) 130 Oc (.node (.node (.node .leaf 131 Ob .leaf) 132 Oa .leaf) 133 N9 (.node .leaf 134 N8 .leaf))))) 135 N7 (.node (.node (.node (.node (.node (.node .leaf 137 N6 .leaf) 138 N5 .leaf) 139 N4 (.node (.node .leaf 140 N3 .leaf) 141 NZ .leaf)) 142 NY (.node (.node (.node .leaf 143 NX .leaf) 144 NW .leaf) 145 NV (.node .leaf 146 NU .leaf))) 147 NT (.node (.node (.node (.node .leaf 148 NS .leaf) 149 NR .leaf) 150 NQ (.node .leaf 151 NP .leaf)) 152 NO (.node (.node (.node .leaf 153 NN .leaf) 154 NL .leaf) 155 NK (.node .leaf 156 NJ .leaf)))) 157 NI (.node (.node (.node (.node (.node .leaf 158 NH .leaf) 159 NG .leaf) 160 NF (.node (.node .leaf 161 ND .leaf) 162 NC .leaf)) 163 NB (.node (.node (.node .leaf 164 NA .leaf) 165 Nz .leaf) 166 Ny (.node .leaf 167 Nx .leaf))) 168 Nw (.node (.node (.node (.node .leaf 169 Nv .leaf) 170 Nu .leaf) 171 Nt (.node .leaf 172 Ns .leaf)) 173 Nr (.node (.node (.node .leaf 174 Nq .leaf) 175 Np .leaf) 176 No (.node .leaf 177 Nn .leaf))))))) 178 Nl (.node (.node (.node (.node (.node (.node (.node (.node .leaf 179 Nk .leaf) 180 Nj .leaf) 181 Ni (.node (.node .leaf 182 Nh .leaf) 183 Ng .leaf)) 184 Nf (.node (.node (.node .leaf 185 Nd .leaf) 186 Nc .leaf) 187 Nb (.node .leaf 188 Na .leaf))) 189 M9 (.node (.node (.node (.node .leaf 190 M8 .leaf) 191 M7 .leaf) 192 M6 (.node (.node .leaf 193 M5 .leaf) 194 M4 .leaf)) 195 M3 (.node (.node (.node .leaf 197 MZ .leaf) 198 MY .leaf) 199 MX (.node .leaf 200 MW .leaf)))) 201 MV (.node (.node (.node (.node (.node .leaf 202 MU .leaf) 203 MT .leaf) 204 MS (.node (.node .leaf 205 MR .leaf) 206 MQ .leaf)) 207 MP (.node (.node (.node .leaf 208 MO .leaf) 211 MN .leaf) 212 MM (.node .leaf 213 ML .leaf))) 214 MK (.node (.node (.node (.node .leaf 215 MJ .leaf) 216 MI .leaf) 217 MH (.node .leaf 218 MG .leaf)) 219 MF (.node (.node (.node .leaf 220 ME .leaf) 221 MD .leaf) 222 MC (.node .leaf 223 MA .leaf))))) 225 Mz (.node (.node (.node (.node (.node (.node .leaf 226 My .leaf) 227 Mx .leaf) 228 Mw (.node (.node .leaf 229 Mv .leaf) 230 Mu .leaf)) 231 Mt (.node (.node (.node .leaf 232 Ms .leaf) 233 Mr .leaf) 234 Mq (.node .leaf 235 Mp .leaf))) 236 Mo (.node (.node (.node (.node .leaf 237 Mn .leaf) 238 Mm .leaf) 239 Ml (.node (.node .leaf 240 Mk .leaf) 241 Mj .leaf)) 242 Mi (.node (.node (.node .leaf 243 Mh .leaf) 244 Mg .leaf) 245 Mf (.node .leaf 246 Me .leaf)))) 247 Md (.node (.node (.node (.node (.node .leaf 248 Mc .leaf) 249 Mb .leaf) 250 Ma (.node (.node .leaf 251 L9 .leaf) 252 L8 .leaf)) 253 L7 (.node (.node (.node .leaf 254 L6 .leaf) 255 L5 .leaf) 256 L4 (.node .leaf 257 L3 .leaf))) 258 L2 (.node (.node (.node (.node .leaf 259 L1 .leaf) 260 LZ .leaf) 261 LY (.node .leaf 262 LX .leaf)) 263 LW (.node (.node (.node .leaf 264 LV .leaf) 265 LU .leaf) 266 LS (.node .leaf 267 LR .leaf)))))) 268 LQ (.node (.node (.node (.node (.node (.node (.node .leaf 269 LP .leaf) 270 LO .leaf) 271 LN (.node (.node .leaf 272 LM .leaf) 273 LL .leaf)) 274 LK (.node (.node (.node .leaf 275 LJ .leaf) 276 LI .leaf) 277 LH (.node .leaf 278 LG .leaf))) 279 LF (.node (.node (.node (.node .leaf 280 LD .leaf) 282 LC .leaf) 283 LB (.node (.node .leaf 284 LA .leaf) 285 Lz .leaf)) 286 Ly (.node (.node (.node .leaf 287 Lx .leaf) 288 Lw .leaf) 289 Lu (.node .leaf 290 Lt .leaf)))) 291 Ls (.node (.node (.node (.node (.node .leaf 292 Lr .leaf) 293 Lq .leaf) 295 Lp (.node (.node .leaf 296 Lo .leaf) 297 Ln .leaf)) 298 Lm (.node (.node (.node .leaf 299 Ll .leaf) 300 Lk .leaf) 304 Lj (.node .leaf 305 Li .leaf))) 306 Lh (.node (.node (.node (.node .leaf 307 Lg .leaf) 308 Lf .leaf) 309 Ld (.node .leaf 310 Lc .leaf)) 311 Lb (.node (.node (.node .leaf 312 La .leaf) 313 K9 .leaf) 314 K8 (.node .leaf 315 K7 .leaf))))) 316 K6 (.node (.node (.node (.node (.node (.node .leaf 317 K5 .leaf) 318 K4 .leaf) 319 K3 (.node (.node .leaf 320 K2 .leaf) 321 K1 .leaf)) 322 K0 (.node (.node (.node .leaf 323 KZ .leaf) 324 KY .leaf) 325 KX (.node .leaf 326 KW .leaf))) 327 KV (.node (.node (.node (.node .leaf 328 KU .leaf) 329 KT .leaf) 330 KS (.node .leaf 331 KR .leaf)) 332 KQ (.node (.node (.node .leaf 333 KP .leaf) 334 KO .leaf) 335 KN (.node .leaf 336 KL .leaf)))) 337 KK (.node (.node (.node (.node (.node .leaf 338 KJ .leaf) 340 KH .leaf) 341 KG (.node (.node .leaf 342 KF .leaf) 343 KE .leaf)) 344 KD (.node (.node (.node .leaf 345 KB .leaf) 346 KA .leaf) 347 Kz (.node .leaf 348 Ky .leaf))) 349 Kx (.node (.node (.node (.node .leaf 350 Kw .leaf) 351 Kv .leaf) 352 Ku (.node .leaf 353 Kt .leaf)) 354 Ks (.node (.node (.node .leaf 355 Kr .leaf) 356 Kq .leaf) 357 Kp (.node .leaf 358 Ko .leaf))))))))
theorem yd:BR.Pa (ad Tryz.prog):=⟨Ho,⟨Pp,⟨P9,⟨Qu,⟨QK,⟨Si,⟨Sl,⟨Sm,⟨Sn,trivial,trivial⟩,trivial⟩,⟨Sj,⟨Sk,trivial,trivial⟩,trivial⟩⟩,⟨Sf,⟨Sg,⟨Sh,trivial,trivial⟩,trivial⟩,⟨QM,trivial,trivial⟩⟩⟩,⟨Qz,⟨QH,⟨QI,⟨QJ,trivial,trivial⟩,trivial⟩,⟨QC,⟨QF,trivial,trivial⟩,trivial⟩⟩,⟨Qw,⟨Qx,⟨Qy,trivial,trivial⟩,trivial⟩,⟨Qv,trivial,trivial⟩⟩⟩⟩,⟨Qj,⟨Qo,⟨Qr,⟨Qs,⟨Qt,trivial,trivial⟩,trivial⟩,⟨Qp,⟨Qq,trivial,trivial⟩,trivial⟩⟩,⟨Ql,⟨Qm,⟨Qn,trivial,trivial⟩,trivial⟩,⟨Qk,trivial,trivial⟩⟩⟩,⟨Qe,⟨Qg,⟨Qh,⟨Qi,trivial,trivial⟩,trivial⟩,⟨Qf,trivial,trivial⟩⟩,⟨Qb,⟨Qc,⟨Qd,trivial,trivial⟩,trivial⟩,⟨Qa,trivial,trivial⟩⟩⟩⟩⟩,⟨PL,⟨PY,⟨P3,⟨P6,⟨P7,⟨P8,trivial,trivial⟩,trivial⟩,⟨P4,⟨P5,trivial,trivial⟩,trivial⟩⟩,⟨P0,⟨P1,⟨P2,trivial,trivial⟩,trivial⟩,⟨PZ,trivial,trivial⟩⟩⟩,⟨PR,⟨PU,⟨PW,⟨PX,trivial,trivial⟩,trivial⟩,⟨PS,⟨PT,trivial,trivial⟩,trivial⟩⟩,⟨PN,⟨PO,⟨PQ,trivial,trivial⟩,trivial⟩,⟨PM,trivial,trivial⟩⟩⟩⟩,⟨Pz,⟨PF,⟨PI,⟨PJ,⟨PK,trivial,trivial⟩,trivial⟩,⟨PG,⟨PH,trivial,trivial⟩,trivial⟩⟩,⟨PB,⟨PC,⟨PD,trivial,trivial⟩,trivial⟩,⟨PA,trivial,trivial⟩⟩⟩,⟨Pu,⟨Pw,⟨Px,⟨Py,trivial,trivial⟩,trivial⟩,⟨Pv,trivial,trivial⟩⟩,⟨Pr,⟨Ps,⟨Pt,trivial,trivial⟩,trivial⟩,⟨Pq,trivial,trivial⟩⟩⟩⟩⟩⟩,⟨H6,⟨Iu,⟨IF,⟨Pj,⟨Pm,⟨Pn,⟨Po,trivial,trivial⟩,trivial⟩,⟨Pk,⟨Pl,trivial,trivial⟩,trivial⟩⟩,⟨IH,⟨Pg,⟨Ph,trivial,trivial⟩,trivial⟩,⟨IG,trivial,trivial⟩⟩⟩,⟨Iz,⟨IC,⟨ID,⟨IE,trivial,trivial⟩,trivial⟩,⟨IA,⟨IB,trivial,trivial⟩,trivial⟩⟩,⟨Iw,⟨Ix,⟨Iy,trivial,trivial⟩,trivial⟩,⟨Iv,trivial,trivial⟩⟩⟩⟩,⟨Ii,⟨Io,⟨Ir,⟨Is,⟨It,trivial,trivial⟩,trivial⟩,⟨Ip,⟨Iq,trivial,trivial⟩,trivial⟩⟩,⟨Ik,⟨Il,⟨Im,trivial,trivial⟩,trivial⟩,⟨Ij,trivial,trivial⟩⟩⟩,⟨Ib,⟨Ie,⟨Ig,⟨Ih,trivial,trivial⟩,trivial⟩,⟨Ic,trivial,trivial⟩⟩,⟨H8,⟨H9,⟨Ia,trivial,trivial⟩,trivial⟩,⟨H7,trivial,trivial⟩⟩⟩⟩⟩,⟨HJ,⟨HT,⟨HY,⟨H3,⟨H4,⟨H5,trivial,trivial⟩,trivial⟩,⟨HZ,⟨H0,trivial,trivial⟩,trivial⟩⟩,⟨HV,⟨HW,⟨HX,trivial,trivial⟩,trivial⟩,⟨HU,trivial,trivial⟩⟩⟩,⟨HO,⟨HQ,⟨HR,⟨HS,trivial,trivial⟩,trivial⟩,⟨HP,trivial,trivial⟩⟩,⟨HL,⟨HM,⟨HN,trivial,trivial⟩,trivial⟩,⟨HK,trivial,trivial⟩⟩⟩⟩,⟨Hy,⟨HD,⟨HG,⟨HH,⟨HI,trivial,trivial⟩,trivial⟩,⟨HE,⟨HF,trivial,trivial⟩,trivial⟩⟩,⟨HA,⟨HB,⟨HC,trivial,trivial⟩,trivial⟩,⟨Hz,trivial,trivial⟩⟩⟩,⟨Ht,⟨Hv,⟨Hw,⟨Hx,trivial,trivial⟩,trivial⟩,⟨Hu,trivial,trivial⟩⟩,⟨Hq,⟨Hr,⟨Hs,trivial,trivial⟩,trivial⟩,⟨Hp,trivial,trivial⟩⟩⟩⟩⟩⟩⟩,⟨FQ,⟨GB,⟨G2,⟨Hd,⟨Hi,⟨Hl,⟨Hm,⟨Hn,trivial,trivial⟩,trivial⟩,⟨Hj,⟨Hk,trivial,trivial⟩,trivial⟩⟩,⟨Hf,⟨Hg,⟨Hh,trivial,trivial⟩,trivial⟩,⟨He,trivial,trivial⟩⟩⟩,⟨G7,⟨Ha,⟨Hb,⟨Hc,trivial,trivial⟩,trivial⟩,⟨G8,⟨G9,trivial,trivial⟩,trivial⟩⟩,⟨G4,⟨G5,⟨G6,trivial,trivial⟩,trivial⟩,⟨G3,trivial,trivial⟩⟩⟩⟩,⟨GP,⟨GV,⟨GZ,⟨G0,⟨G1,trivial,trivial⟩,trivial⟩,⟨GW,⟨GY,trivial,trivial⟩,trivial⟩⟩,⟨GR,⟨GS,⟨GU,trivial,trivial⟩,trivial⟩,⟨GQ,trivial,trivial⟩⟩⟩,⟨GH,⟨GJ,⟨GK,⟨GN,trivial,trivial⟩,trivial⟩,⟨GI,trivial,trivial⟩⟩,⟨GD,⟨GF,⟨GG,trivial,trivial⟩,trivial⟩,⟨GC,trivial,trivial⟩⟩⟩⟩⟩,⟨Ge,⟨Gq,⟨Gv,⟨Gy,⟨Gz,⟨GA,trivial,trivial⟩,trivial⟩,⟨Gw,⟨Gx,trivial,trivial⟩,trivial⟩⟩,⟨Gs,⟨Gt,⟨Gu,trivial,trivial⟩,trivial⟩,⟨Gr,trivial,trivial⟩⟩⟩,⟨Gj,⟨Gm,⟨Gn,⟨Gp,trivial,trivial⟩,trivial⟩,⟨Gk,⟨Gl,trivial,trivial⟩,trivial⟩⟩,⟨Gg,⟨Gh,⟨Gi,trivial,trivial⟩,trivial⟩,⟨Gf,trivial,trivial⟩⟩⟩⟩,⟨F3,⟨F8,⟨Gb,⟨Gc,⟨Gd,trivial,trivial⟩,trivial⟩,⟨F9,⟨Ga,trivial,trivial⟩,trivial⟩⟩,⟨F5,⟨F6,⟨F7,trivial,trivial⟩,trivial⟩,⟨F4,trivial,trivial⟩⟩⟩,⟨FY,⟨F0,⟨F1,⟨F2,trivial,trivial⟩,trivial⟩,⟨FZ,trivial,trivial⟩⟩,⟨FV,⟨FW,⟨FX,trivial,trivial⟩,trivial⟩,⟨FU,trivial,trivial⟩⟩⟩⟩⟩⟩,⟨E5,⟨Fu,⟨FF,⟨FK,⟨FN,⟨FO,⟨FP,trivial,trivial⟩,trivial⟩,⟨FL,⟨FM,trivial,trivial⟩,trivial⟩⟩,⟨FH,⟨FI,⟨FJ,trivial,trivial⟩,trivial⟩,⟨FG,trivial,trivial⟩⟩⟩,⟨Fz,⟨FC,⟨FD,⟨FE,trivial,trivial⟩,trivial⟩,⟨FA,⟨FB,trivial,trivial⟩,trivial⟩⟩,⟨Fw,⟨Fx,⟨Fy,trivial,trivial⟩,trivial⟩,⟨Fv,trivial,trivial⟩⟩⟩⟩,⟨Fh,⟨Fm,⟨Fq,⟨Fs,⟨Ft,trivial,trivial⟩,trivial⟩,⟨Fo,⟨Fp,trivial,trivial⟩,trivial⟩⟩,⟨Fj,⟨Fk,⟨Fl,trivial,trivial⟩,trivial⟩,⟨Fi,trivial,trivial⟩⟩⟩,⟨Fb,⟨Fe,⟨Ff,⟨Fg,trivial,trivial⟩,trivial⟩,⟨Fc,trivial,trivial⟩⟩,⟨E7,⟨E8,⟨E9,trivial,trivial⟩,trivial⟩,⟨E6,trivial,trivial⟩⟩⟩⟩⟩,⟨EJ,⟨EU,⟨EZ,⟨E2,⟨E3,⟨E4,trivial,trivial⟩,trivial⟩,⟨E0,⟨E1,trivial,trivial⟩,trivial⟩⟩,⟨EW,⟨EX,⟨EY,trivial,trivial⟩,trivial⟩,⟨EV,trivial,trivial⟩⟩⟩,⟨EO,⟨ER,⟨ES,⟨ET,trivial,trivial⟩,trivial⟩,⟨EP,trivial,trivial⟩⟩,⟨EL,⟨EM,⟨EN,trivial,trivial⟩,trivial⟩,⟨EK,trivial,trivial⟩⟩⟩⟩,⟨Ey,⟨ED,⟨EG,⟨EH,⟨EI,trivial,trivial⟩,trivial⟩,⟨EE,⟨EF,trivial,trivial⟩,trivial⟩⟩,⟨EA,⟨EB,⟨EC,trivial,trivial⟩,trivial⟩,⟨Ez,trivial,trivial⟩⟩⟩,⟨Et,⟨Ev,⟨Ew,⟨Ex,trivial,trivial⟩,trivial⟩,⟨Eu,trivial,trivial⟩⟩,⟨Ep,⟨Er,⟨Es,trivial,trivial⟩,trivial⟩,⟨Eo,trivial,trivial⟩⟩⟩⟩⟩⟩⟩⟩
def uT:Ty:=BR.find
theorem ae:bP Tryz.prog uT:=TT.kn yd
theorem Jv:Tryz.prog.follows .mixedOrders=true:=rfl
theorem lB {Q:AQ} {nt:Nat} {k:List KI} {s:AS} {C:Prop} {nt':Nat} {st:Stop} (h:bA uT ⟨fun _=>none,0,false⟩ 400 nt k s True=some (C,nt',st)) (hC:C) (hg:fu Tryz.prog nt' Q st):GO Tryz.prog nt k Q s:=yN Jv ae 400 h hC hg
theorem gA {Q:AQ} {nt:Nat} {k:List KI} {s:AS} {C:Prop} {nt':Nat} {st:Stop} (h:bA uT ⟨fun _=>none,0,false⟩ 400 nt k s True=some (C,nt',st)) (hg:fu Tryz.prog nt' Q st)
  (hC:C:=by(repeat' (first|exact trivial|exact rfl|exact ak.refl _|exact ak.bk (by assumption)|apply VJ))<;>first|omega|exact gZ (fun _=>rfl) _|(simp only[VQ];omega)|(simp;done)|(simp;omega)):GO Tryz.prog nt k Q s:=yN Jv ae 400 h hC hg
theorem gM (N:Nat) {Q:AQ} {nt:Nat} {k:List KI} {s:AS} {C:Prop} {nt':Nat} {st:Stop} (h:bA uT ⟨fun _=>none,0,false⟩ N nt k s True=some (C,nt',st)) (hg:fu Tryz.prog nt' Q st)
  (hC:C:=by(repeat' (first|exact trivial|exact rfl|exact ak.refl _|exact ak.bk (by assumption)|apply VJ))<;>first|omega|exact gZ (fun _=>rfl) _|(simp only[VQ];omega)|(simp;done)|(simp;omega)):GO Tryz.prog nt k Q s:=yN Jv ae N h hC hg
end Go.Proofs.YtflegjieadkonaaGreatDoor
namespace Go.Proofs.YtflegjieadkonaaGreatDoor
open Go Go.Al
abbrev ah:=ByteArray
structure s8 where
 kind:Int
 num:Int
 sym:ah
 deriving Inhabited,DecidableEq
structure Term where
 kind:Int
 var:ah
 val:s8
 deriving Inhabited,DecidableEq
inductive Expr where
 |mk (kind:Int) (var:ah) (val:s8) (op:Int) (args:List Expr)
instance:Inhabited Expr:=⟨.mk 0 VT ⟨0,0,VT⟩ 0 []⟩
def Expr.kind:Expr→Int| .mk k _ _ _ _=>k
def Expr.var:Expr→ah| .mk _ v _ _ _=>v
def Expr.val:Expr→s8| .mk _ _ v _ _=>v
def Expr.op:Expr→Int| .mk _ _ _ o _=>o
def Expr.args:Expr→List Expr| .mk _ _ _ _ a=>a
structure Atom where
 rel:ah
 an:List Term
 deriving Inhabited,DecidableEq
structure Pos where
 line:Int
 BH:Int
 deriving Inhabited,DecidableEq
inductive Lit where
 |mk (kind:Int) (atom:Atom) (op:Int) (left right:Expr) (dC:Int) (bs:ah) (jV:Expr) (ar:List Lit) (at_:Pos)
instance:Inhabited Lit:=⟨.mk 0 default 0 default default 0 VT default [] ⟨0,0⟩⟩
def Lit.kind:Lit→Int| .mk k _ _ _ _ _ _ _ _ _=>k
def Lit.atom:Lit→Atom| .mk _ a _ _ _ _ _ _ _ _=>a
def Lit.op:Lit→Int| .mk _ _ o _ _ _ _ _ _ _=>o
def Lit.left:Lit→Expr| .mk _ _ _ l _ _ _ _ _ _=>l
def Lit.right:Lit→Expr| .mk _ _ _ _ r _ _ _ _ _=>r
def Lit.dC:Lit→Int| .mk _ _ _ _ _ f _ _ _ _=>f
def Lit.bs:Lit→ah| .mk _ _ _ _ _ _ v _ _ _=>v
def Lit.jV:Lit→Expr| .mk _ _ _ _ _ _ _ o _ _=>o
def Lit.ar:Lit→List Lit| .mk _ _ _ _ _ _ _ _ b _=>b
def Lit.at:Lit→Pos| .mk _ _ _ _ _ _ _ _ _ p=>p
structure eZ where
 func:Int
 var:ah
 ig:Expr
 body:List Lit
 deriving Inhabited
def Lit.agg (l:Lit):eZ:=⟨l.dC,l.bs,l.jV,l.ar⟩
structure aw where
 head:Atom
 body:List Lit
 at_:Pos
 deriving Inhabited
structure Decl where
 name:ah
 types:List Int
 at_:Pos
 deriving Inhabited
structure Prog where
 aS:List Decl
 rules:List aw
 deriving Inhabited
structure Fact where
 rel:ah
 args:List s8
 deriving Inhabited
def s8.c (v:s8):List IV:=[iI v.kind,iI v.num,iS v.sym]
def Term.c (t:Term):List IV:=[iI t.kind,iS t.var,iI t.val.kind,iI t.val.num,iS t.val.sym]
def ch (s:ah):List IV:=[iS s]
def gx (n:Int):List IV:=[iI n]
abbrev strs (l:List ah):IV:=cV 1 l ch
def Atom.c (a:Atom):List IV:=[iS a.rel,cV 5 a.an Term.c]
mutual
def Expr.cr:Expr→List IV
 | .mk k v val op args=> [iI k,iS v,iI val.kind,iI val.num,iS val.sym,iI op, .cK 7 args.length (fun j=>(Expr.vS args).getD j [])]
def Expr.vS:List Expr→List (List IV)
 | []=> []
 |e::r=>e.cr::Expr.vS r
end
def Expr.c (e:Expr):List IV:=[iI e.kind,iS e.var,iI e.val.kind,iI e.val.num,iS e.val.sym,iI e.op, .cK 7 e.args.length (fun j=>(Expr.vS e.args).getD j [])]
def Expr.c1 (e:Expr):List IV:=[iI e.kind,iS e.var,iI e.val.kind,iI e.val.num,iS e.val.sym,iI e.op,cV 7 e.args Expr.c]
theorem Expr.DS (e:Expr):e.cr=e.c:=by cases e;rfl
theorem Expr.nW: ∀(l:List Expr) (k:Nat),k<l.length→(Expr.vS l).getD k []=(l.getD k default).c
 |e::r,0,_=>by simp[Expr.vS,Expr.DS]
 |e::r,k+1,h=>by simpa[Expr.vS] using Expr.nW r k (by simpa using h)
 | [],k,h=>by simp at h
theorem RL (e:Expr):kB (.cK 7 e.args.length (fun j=>(Expr.vS e.args).getD j [])) (cV 7 e.args Expr.c):= .cK rfl (Expr.nW e.args)
theorem z6 (e:Expr):kB (cV 7 e.args Expr.c) (.cK 7 e.args.length (fun j=>(Expr.vS e.args).getD j [])):= .cK rfl (fun k hk=>(Expr.nW e.args k hk).symm)
mutual
def Lit.cr:Lit→List IV
 | .mk kind atom op left right dC bs jV ar at_=>
  iI kind::(atom.c++(iI op::(left.c++(right.c++(iI dC::iS bs::(jV.c++ [.cK 30 ar.length (fun j=>(Lit.vS ar).getD j []),iI at_.line,iI at_.BH]))))))
def Lit.vS:List Lit→List (List IV)
 | []=> []
 |e::r=>e.cr::Lit.vS r
end
def Lit.cw (l:Lit) (b:IV):List IV:=
 [iI l.kind,iS l.atom.rel,cV 5 l.atom.an Term.c,iI l.op,
  iI l.left.kind,iS l.left.var,iI l.left.val.kind,iI l.left.val.num,iS l.left.val.sym,iI l.left.op, .cK 7 l.left.args.length (fun j=>(Expr.vS l.left.args).getD j []),
  iI l.right.kind,iS l.right.var,iI l.right.val.kind,iI l.right.val.num,iS l.right.val.sym,iI l.right.op, .cK 7 l.right.args.length (fun j=>(Expr.vS l.right.args).getD j []),
  iI l.dC,iS l.bs,
  iI l.jV.kind,iS l.jV.var,iI l.jV.val.kind,iI l.jV.val.num,iS l.jV.val.sym,iI l.jV.op, .cK 7 l.jV.args.length (fun j=>(Expr.vS l.jV.args).getD j []),
  b,iI l.at.line,iI l.at.BH]
def xX (l:List Lit):IV:= .cK 30 l.length (fun j=>(Lit.vS l).getD j [])
def Lit.c (l:Lit):List IV:=l.cw (xX l.ar)
abbrev lits (l:List Lit):IV:=cV 30 l Lit.c
def Lit.c1 (l:Lit):List IV:=l.cw (lits l.ar)
theorem Lit.DS (e:Lit):e.cr=e.c:=by cases e;rfl
theorem Lit.nW: ∀(l:List Lit) (k:Nat),k<l.length→(Lit.vS l).getD k []=(l.getD k default).c
 |e::r,0,_=>by simp[Lit.vS,Lit.DS]
 |e::r,k+1,h=>by simpa[Lit.vS] using Lit.nW r k (by simpa using h)
 | [],k,h=>by simp at h
theorem nO (l:List Lit):kB (xX l) (lits l):= .cK rfl (Lit.nW l)
theorem CX (l:List Lit):kB (lits l) (xX l):= .cK rfl (fun k hk=>(Lit.nW l k hk).symm)
def eZ.cw (a:eZ) (b:IV):List IV:=[iI a.func,iS a.var,iI a.ig.kind,iS a.ig.var,iI a.ig.val.kind,iI a.ig.val.num,iS a.ig.val.sym,iI a.ig.op, .cK 7 a.ig.args.length (fun j=>(Expr.vS a.ig.args).getD j []),b]
def eZ.c (a:eZ):List IV:=a.cw (xX a.body)
def eZ.c1 (a:eZ):List IV:=a.cw (lits a.body)
def aw.c (r:aw):List IV:=[iS r.head.rel,cV 5 r.head.an Term.c,lits r.body,iI r.at_.line,iI r.at_.BH]
def Decl.c (r:Decl):List IV:=[iS r.name,cV 1 r.types gx,iI r.at_.line,iI r.at_.BH]
def Prog.c (p:Prog):List IV:=[cV 4 p.aS Decl.c,cV 5 p.rules aw.c]
def Fact.c (f:Fact):List IV:=[iS f.rel,cV 3 f.args s8.c]
theorem Expr.zE (e:Expr):ak (ag e.c) (ag e.c1):= .agg ⟨.refl _, .refl _, .refl _, .refl _, .refl _, .refl _, .iv (RL e),trivial⟩
theorem Expr.Ug (e:Expr):ak (ag e.c1) (ag e.c):= .agg ⟨.refl _, .refl _, .refl _, .refl _, .refl _, .refl _, .iv (z6 e),trivial⟩
theorem Lit.Ab (l:Lit) {b b':IV} (h:kB b b'):ak (ag (l.cw b)) (ag (l.cw b')):=
 .agg ⟨.refl _, .refl _, .refl _, .refl _, .refl _, .refl _, .refl _, .refl _, .refl _, .refl _, .refl _, .refl _, .refl _, .refl _, .refl _, .refl _, .refl _, .refl _, .refl _, .refl _, .refl _, .refl _, .refl _, .refl _, .refl _, .refl _, .refl _, .iv h, .refl _, .refl _,trivial⟩
theorem Lit.zE (l:Lit):ak (ag l.c) (ag l.c1):=l.Ab (nO _)
theorem eZ.Ab (l:eZ) {b b':IV} (h:kB b b'):ak (ag (l.cw b)) (ag (l.cw b')):=
 .agg ⟨.refl _, .refl _, .refl _, .refl _, .refl _, .refl _, .refl _, .refl _, .refl _, .iv h,trivial⟩
theorem eZ.zE (l:eZ):ak (ag l.c) (ag l.c1):=l.Ab (nO _)
theorem eZ.Ug (l:eZ):ak (ag l.c1) (ag l.c):=l.Ab (CX _)
mutual
def Expr.size:Expr→Nat
 | .mk _ _ _ _ args=>1+Expr.aB args
def Expr.aB:List Expr→Nat
 | []=>0
 |e::r=>e.size+Expr.aB r
end
mutual
def Lit.size:Lit→Nat
 | .mk _ a _ l r _ _ o b _=>2+a.an.length+l.size+r.size+o.size+Lit.aB b
def Lit.aB:List Lit→Nat
 | []=>0
 |e::r=>e.size+Lit.aB r
end
theorem Expr.size_eq (e:Expr):e.size=1+Expr.aB e.args:=by cases e;rfl
theorem Lit.size_eq (l:Lit):l.size=2+l.atom.an.length+l.left.size+l.right.size+l.jV.size+Lit.aB l.ar:=by cases l;rfl
theorem Expr.bS: ∀(l:List Expr) (k:Nat),k<l.length→(l.getD k default).size≤Expr.aB l
 |e::r,0,_=>by simp[Expr.aB]
 |e::r,k+1,h=>by
  have:=Expr.bS r k (by simpa using h)
  simp only[Xj,Expr.aB];omega
 | [],k,h=>by simp at h
theorem Lit.bS: ∀(l:List Lit) (k:Nat),k<l.length→(l.getD k default).size≤Lit.aB l
 |e::r,0,_=>by simp[Lit.aB]
 |e::r,k+1,h=>by
  have:=Lit.bS r k (by simpa using h)
  simp only[Xj,Lit.aB];omega
 | [],k,h=>by simp at h
theorem Expr.size_pos (e:Expr):1≤e.size:=by rw[e.size_eq];omega
theorem Lit.size_pos (e:Lit):2≤e.size:=by rw[e.size_eq];omega
theorem Expr.aI: ∀(l:List Expr),l.length≤Expr.aB l
 | []=>VZ _
 |e::r=>by have:=e.size_pos;have:=Expr.aI r;simp only[Wu,Expr.aB];omega
theorem Lit.aI: ∀(l:List Lit),l.length≤Lit.aB l
 | []=>VZ _
 |e::r=>by have:=e.size_pos;have:=Lit.aI r;simp only[Wu,Lit.aB];omega
def aw.size (r:aw):Nat:=r.head.an.length+Lit.aB r.body
end Go.Proofs.YtflegjieadkonaaGreatDoor
namespace Go.Proofs.YtflegjieadkonaaGreatDoor
open Go Go.Al
set_option maxRecDepth 10000
def c4 (l:List ah) (s:ah):Bool:=l.any fun x=>decide (x=s)
def dw (s:ah) (a:List ah×Bool) (x:ah):List ah×Bool:=
 if(a.2||decide (x=s))=false∧(!(Op.bytesLess x.toList s.toList||decide (x=s)))=true then(a.1++ [s]++ [x],true) else(a.1++ [x],a.2||decide (x=s))
def eV (l:List ah) (s:ah):List ah:=
 let r:=l.foldl (dw s) ([],false)
 if r.2 then r.1 else r.1++ [s]
end Go.Proofs.YtflegjieadkonaaGreatDoor
namespace Go.Proofs.YtflegjieadkonaaGreatDoor
open Go Go.Al
set_option maxRecDepth 10000
def fS (l m:List ah):List ah:=m.foldl eV l
def ye (a:List ah) (t:Term):List ah:=if t.kind=1 then eV a t.var else a
def ku (a:Atom):List ah:=a.an.foldl ye []
mutual
def gU:Expr→List ah
 | .mk k v _ _ args=>if k=1 then eV [] v else if k=4 then uD [] args else[]
def uD (a:List ah):List Expr→List ah
 | []=>a
 |e::r=>uD (fS a (gU e)) r
end
theorem Expr.kJ: ∀(l:List Expr) (i:Nat),Expr.aB (l.take i)≤Expr.aB l
 | [],i=>by simp
 |e::r,0=>by simp[Expr.aB]
 |e::r,i+1=>by have:=Expr.kJ r i;simp only[W4,Expr.aB];omega
theorem Lit.kJ: ∀(l:List Lit) (i:Nat),Lit.aB (l.take i)≤Lit.aB l
 | [],i=>by simp
 |e::r,0=>by simp[Lit.aB]
 |e::r,i+1=>by have:=Lit.kJ r i;simp only[W4,Lit.aB];omega
theorem Expr.dd: ∀(l:List Expr) (i:Nat),i<l.length→Expr.aB (l.take i)+(l.getD i default).size≤Expr.aB l
 |e::r,0,_=>by simp[Expr.aB]
 |e::r,i+1,h=>by have:=Expr.dd r i (by simpa using h);simp only[W4,Xj,Expr.aB];omega
 | [],i,h=>by simp at h
theorem Lit.dd: ∀(l:List Lit) (i:Nat),i<l.length→Lit.aB (l.take i)+(l.getD i default).size≤Lit.aB l
 |e::r,0,_=>by simp[Lit.aB]
 |e::r,i+1,h=>by have:=Lit.dd r i (by simpa using h);simp only[W4,Xj,Lit.aB];omega
 | [],i,h=>by simp at h
def pj (l:Lit):List ah:=if l.kind=1∨l.kind=2 then ku l.atom else if l.kind=3 then fS (gU l.left) (gU l.right) else[]
abbrev plF (a:List ah) (l:Lit):List ah:=fS a (pj l)
def Bf (a:eZ):List ah:=a.body.foldl plF (if a.func=1 then[] else gU a.ig)
def eZ.size (a:eZ):Nat:=a.ig.size+Lit.aB a.body
end Go.Proofs.YtflegjieadkonaaGreatDoor
namespace Go.Proofs.YtflegjieadkonaaGreatDoor
open Go Go.Al
set_option maxRecDepth 10000
def sE (n:Int):IV:= .v (.int .i64 n)
def US (p:PV):Int:=match p with
 | .iv (.v (.int _ n))=>n
 |_=>0
abbrev NM:=List ((KC.str).K×Int)
abbrev cf (m:NM):AO:= .map .str sE 0 (.int .i64 0) US m
abbrev nY (m:NM):IV:= .dG .str sE 0 (.int .i64 0) m
theorem eL: ∀M,IR M (sE 0) (.int .i64 0):=fun _=> .v _
def bump (m:NM) (s:ah):NM:=bQ .str m s (bF .str m s 0+1)
def aG (l:List ah):NM:=l.foldl bump []
theorem cS (l:List ah) (s:ah):aG (l++ [s])=bump (aG l) s:=by simp[aG]
section
variable {V:Type}
theorem fZ {m:List ((KC.str).K×V)} {s t:ah} {v z:V}:bF .str (bQ .str m s v) t z=if s=t then v else bF .str m t z:=by
 induction m with
 |nil=>simp only[bQ,bF]
 |cons x r ih=>
  obtain⟨a,b⟩:=x;simp only[bQ];by_cases h:a=s
  ·rw[if_pos h];simp only[bF]
   by_cases h2:s=t
   ·simp[h2]
   ·have: ¬a=t:=fun e=>h2 (h▸e)
    rw[if_neg h2,if_neg h2,if_neg this]
  ·rw[if_neg h];simp only[bF,ih]
   by_cases h2:a=t
   ·have: ¬s=t:=fun e=>h (h2.trans e.symm)
    simp[h2,this]
   ·simp[h2]
theorem xy {m:List ((KC.str).K×V)} {t:ah}:eI .str m t=true↔t∈m.map We:=by
 induction m with
 |nil=>simp[eI]
 |cons x r ih=>
  obtain⟨a,b⟩:=x;simp only[eI,V6,V4];by_cases h:a=t
  ·simp[h]
  ·have: ¬t=a:=fun e=>h e.symm
   simp[h,this,ih]
theorem oA {m:List ((KC.str).K×V)} {s:ah} {v:V} (h:s∈m.map We):(bQ .str m s v).map We=m.map We:=by
 induction m with
 |nil=>simp at h
 |cons x r ih=>
  obtain⟨a,b⟩:=x;simp only[bQ];by_cases h2:a=s
  ·rw[if_pos h2];simp[h2]
  ·have: ¬s=a:=fun e=>h2 e.symm
   rw[if_neg h2,V6,ih (by simpa[this] using h)];rfl
theorem df {m:List ((KC.str).K×V)} {s:ah} {v:V} (h:s∉m.map We):(bQ .str m s v).map We=m.map We++ [s]:=by
 induction m with
 |nil=>simp[bQ]
 |cons x r ih=>
  obtain⟨a,b⟩:=x;simp only[V6,V4,not_or] at h;have: ¬a=s:=fun e=>h.1 e.symm;simp only[bQ,if_neg this,V6,ih h.2];rfl
theorem yD {m:List ((KC.str).K×V)} {t:ah} {z:V} (h:t∉m.map We):bF .str m t z=z:=by
 induction m with
 |nil=>rfl
 |cons x r ih=>
  obtain⟨a,b⟩:=x;simp only[V6,V4,not_or] at h;have: ¬a=t:=fun e=>h.1 e.symm;simp only[bF,if_neg this];exact ih h.2
end
theorem iP {α:Type} {p:List α→Prop} (h0:p []) (h1: ∀l a,p l→p (l++ [a])) (l:List α):p l:=by
 have key: ∀r:List α,p r.reverse:=by
  intro r
  induction r with
  |nil=>exact h0
  |cons a r ih=>rw[List.reverse_cons];exact h1 _ _ ih
 simpa using key l.reverse
def nX (l:List ah) (t:ah):Nat:=(l.filter fun x=>decide (x=t)).length
theorem xS (l m:List ah) (t:ah):nX (l++m) t=nX l t+nX m t:=by simp[nX]
theorem fx (l:List ah) (t:ah):nX l t≤l.length:=WR _ _
theorem sI {l:List ah} {t:ah}:0<nX l t↔t∈l:=by
 rw[nX,List.length_pos_iff_exists_mem];constructor
 ·rintro⟨x,hx⟩
  obtain⟨h1,h2⟩:=Wi.1 hx;exact(of_decide_eq_true h2)▸h1
 ·exact fun h=>⟨t,Wi.2 ⟨h,by simp⟩⟩
theorem pT {l:List ah} {t:ah}:nX l t=0↔t∉l:=by
 rw[←sI];omega
theorem bu (l:List ah) (t:ah):bF .str (aG l) t 0=(nX l t:Int):=by
 induction l using iP with
 |h0=>rfl
 |h1 l s ih=>
  rw[cS,bump,fZ,xS];by_cases h:s=t
  ·subst h;rw[ih];simp[nX]
  ·rw[if_neg h,ih];simp[h,nX]
theorem dy (l:List ah):((aG l).map We).Nodup∧ ∀t:ah,t∈(aG l).map We↔t∈l:=by
 induction l using iP with
 |h0=>simp[aG]
 |h1 l s ih=>
  rw[cS,bump];obtain⟨h1,h2⟩:=ih;by_cases h:s∈(aG l).map We
  ·rw[oA h]
   refine⟨h1,fun t=>?_⟩;rw[h2,V3,VX];exact⟨.inl,fun h3=>h3.elim id fun e=>e▸(h2 s).1 h⟩
  ·rw[df h]
   refine⟨?_,fun t=>by rw[V3,h2,V3]⟩;rw[W8];refine⟨h1,WC.2 ⟨Yh,WB⟩,fun a ha b hb e=>?_⟩;rw[VX] at hb;exact h ((e.trans hb)▸ha)
def cC (a:Atom):List ah:=a.an.flatMap fun t=>if t.kind=1 then[t.var] else[]
theorem bH {α β:Type} [Inhabited α] {l:List α} {f:α→List β} {i:Nat} (h:i<l.length):(l.take (i+1)).flatMap f=(l.take i).flatMap f++f (l.getD i default):=by
 rw[aY h,XM];simp
theorem rv: ∀l:List Term,(l.flatMap fun t=>if t.kind=1 then[t.var] else[]).length≤l.length
 | []=>by simp
 |t::r=>by
  have:=rv r;have h2:(if t.kind=1 then[t.var] else[]).length≤1:=by split<;>simp
  rw[WT,VL,Wu];omega
theorem gY (a:Atom):(cC a).length≤a.an.length:=rv a.an
theorem d88 (occ:List ah) (a:Atom) (hb:occ.length+a.an.length≤1000000000000):b8 Tryz.prog 135 [.mp 0,ag a.c] [cf (aG occ)] (.bM []) [(0,some (cf (aG (occ++cC a))))] 1:=by
 refine aF ae Tryz.func135 rfl (by decide) Tryz.ntmps135 rfl (by simp) ?_;refine gA rfl ?_
 refine aL 0 a.an.length (V1 _) (fun i=>⟨[(0, .mp 0),(3, .ptr 1 0),(7, .iv (cV 5 a.an Term.c)),(8,pI a.an.length),(9,pI i)],[(0,some (cf (aG (occ++(a.an.take i).flatMap fun t=>if t.kind=1 then[t.var] else[]))))],2⟩) (fun _=>True) [] trivial
  (wk rfl rfl rfl ⟨.refl _,rfl, .refl _,rfl, .refl _,rfl, .refl _,rfl, .refl _,rfl,trivial⟩ (hM rfl (by simp) rfl trivial) rfl) fun i hi _=>?_
 have hl:=rv (a.an.take i);simp only[Xc] at hl;refine gA rfl ?_;refine VJ (fun h1=>?_) (fun h1=>?_)
 ·have h1:i<a.an.length:=by simpa using h1
  have hs:=bH (f:=fun t:Term=>if t.kind=1 then[t.var] else[]) h1;have hlk:=bu (occ++(a.an.take i).flatMap fun t=>if t.kind=1 then[t.var] else[]) (a.an.getD i default).var;have hct:=fx (occ++(a.an.take i).flatMap fun t=>if t.kind=1 then[t.var] else[]) (a.an.getD i default).var;rw[VL] at hct;refine gA rfl ?_;refine VJ (fun h2=>?_) (fun h2=>?_)
  ·have h2:(a.an.getD i default).kind=1:=by simpa using h2
   rw[if_pos h2] at hs;refine gA rfl ?_;exact⟨h1,trivial,[],wk rfl rfl rfl ⟨.refl _,rfl, .refl _,rfl, .refl _,rfl, .refl _,rfl, .refl _,rfl,trivial⟩ (hM rfl (by rw[hs,←VU,cS];rfl) rfl trivial) rfl⟩
  ·have h2: ¬(a.an.getD i default).kind=1:=by simpa using h2
   rw[if_neg h2,WL] at hs;refine gA rfl ?_;exact⟨h1,trivial,[],wk rfl rfl rfl ⟨.refl _,rfl, .refl _,rfl, .refl _,rfl, .refl _,rfl, .refl _,rfl,trivial⟩ (hM rfl (by rw[hs]) rfl trivial) rfl⟩
 ·have h1:a.an.length≤i:=by simpa using h1
  have e0:a.an.take i=a.an:=VY h1;refine gA rfl (ax [] (by first|exact .inr rfl|exact .inl rfl) rfl (wk rfl rfl rfl ⟨.refl _,rfl,trivial⟩ (hM rfl (by rw[e0];rfl) rfl trivial) rfl))
end Go.Proofs.YtflegjieadkonaaGreatDoor
namespace Go.Proofs.YtflegjieadkonaaGreatDoor
open Go Go.Al
set_option maxRecDepth 10000
mutual
def b5:Expr→List ah
 | .mk k v _ _ args=>if k=1 then[v] else if k=4 then jk args else[]
def jk:List Expr→List ah
 | []=> []
 |e::r=>b5 e++jk r
end
theorem mc: ∀l:List Expr,jk l=l.flatMap b5
 | []=>rfl
 |e::r=>by simp only[jk,WT,mc r]
theorem yW (e:Expr):b5 e=if e.kind=1 then[e.var] else if e.kind=4 then e.args.flatMap b5 else[]:=by
 cases e with
 |mk k v val op args=>simp only[b5,Expr.kind,Expr.var,Expr.args,mc];rfl
mutual
theorem fM: ∀e:Expr,(b5 e).length≤e.size
 | .mk k v _ _ args=>by
  have:=ld args;simp only[b5,Expr.size];split
  ·simp
  ·split
   ·omega
   ·simp
theorem ld: ∀l:List Expr,(jk l).length≤Expr.aB l
 | []=>by simp[jk]
 |e::r=>by
  have h1:=fM e;have h2:=ld r;simp only[jk,Expr.aB,VL];omega
end
theorem d135: ∀(n:Nat) (e:Expr) (occ:List ah),e.size≤n→occ.length+e.size≤1000000000000→b8 Tryz.prog 178 [.mp 0,ag e.c] [cf (aG occ)] (.bM []) [(0,some (cf (aG (occ++b5 e))))] 1
 |0,e,_,h,_=>by have:=e.size_pos;omega
 |n+1,e,occ,h,hb=>by
  refine b8.le (args:=[.mp 0,ag e.c1]) ?_ ⟨.refl _,e.zE,trivial⟩;have he:=yW e;have hsz:=e.size_eq;have hlk:=bu occ e.var;have hct:=fx occ e.var;refine aF ae Tryz.func178 rfl (by decide) Tryz.ntmps178 rfl (by simp) ?_;refine gA rfl ?_;refine VJ (fun h1=>?_) (fun h1=>?_)
  ·have h1:e.kind=1:=by simpa using h1
   rw[if_pos h1] at he;refine gA rfl (ax [] (by first|exact .inr rfl|exact .inl rfl) rfl (wk rfl rfl rfl ⟨.refl _,rfl,trivial⟩ (hM rfl (by rw[he,cS];rfl) rfl trivial) rfl))
  have h1: ¬e.kind=1:=by simpa using h1
  rw[if_neg h1] at he;refine gA rfl ?_;refine VJ (fun h2=>?_) (fun h2=>?_)
  ·have h2:e.kind=4:=by simpa using h2
   rw[if_pos h2] at he;refine gA rfl ?_
   refine aL 0 e.args.length (V1 _) (fun i=>⟨[(0, .mp 0),(3, .ptr 1 0),(18, .iv (cV 7 e.args Expr.c)),(19,pI e.args.length),(20,pI i)],[(0,some (cf (aG (occ++(e.args.take i).flatMap b5))))],2⟩) (fun _=>True) [] trivial
    (wk rfl rfl rfl ⟨.refl _,rfl, .refl _,rfl, .refl _,rfl, .refl _,rfl, .refl _,rfl,trivial⟩ (hM rfl (by simp) rfl trivial) rfl) fun i hi _=>?_
   have hal:=Expr.aI e.args;refine gA rfl ?_;refine VJ (fun h3=>?_) (fun h3=>?_)
   ·have h3:i<e.args.length:=by simpa using h3
    have hs:=bH (f:=b5) h3;have hn:=Expr.dd e.args i h3;have hv:=ld (e.args.take i);rw[mc] at hv;refine gA rfl (aK [0] (d135 n (e.args.getD i default) _ (by omega) (by rw[VL];omega)) rfl rfl rfl rfl rfl rfl rfl rfl ?_);refine gA rfl ?_;exact⟨h3,trivial,[],wk rfl rfl rfl ⟨.refl _,rfl, .refl _,rfl, .refl _,rfl, .refl _,rfl, .refl _,rfl,trivial⟩ (hM rfl (by rw[hs,VU]) rfl trivial) rfl⟩
   ·have h3:e.args.length≤i:=by simpa using h3
    have e0:e.args.take i=e.args:=VY h3;refine gA rfl (ax [] (by first|exact .inr rfl|exact .inl rfl) rfl (wk rfl rfl rfl ⟨.refl _,rfl,trivial⟩ (hM rfl (by rw[he,e0]) rfl trivial) rfl))
  ·have h2: ¬e.kind=4:=by simpa using h2
   rw[if_neg h2] at he;refine gA rfl (ax [] (by first|exact .inr rfl|exact .inl rfl) rfl (wk rfl rfl rfl ⟨.refl _,rfl,trivial⟩ (hM rfl (by rw[he,WL]) rfl trivial) rfl))
theorem DR (e:Expr) (occ:List ah) (hb:occ.length+e.size≤1000000000000):b8 Tryz.prog 178 [.mp 0,ag e.c] [cf (aG occ)] (.bM []) [(0,some (cf (aG (occ++b5 e))))] 1:=d135 e.size e occ (VZ _) hb
def cD (l:Lit):List ah:=if l.kind=1∨l.kind=2 then cC l.atom else if l.kind=3 then b5 l.left++b5 l.right else[]
theorem kW (l:Lit):(cD l).length+2≤l.size:=by
 have h1:=gY l.atom;have h2:=fM l.left;have h3:=fM l.right;rw[l.size_eq];unfold cD;split
 ·omega
 ·split
  ·rw[VL];omega
  ·simp;omega
theorem d89 (l:Lit) (occ:List ah) (hb:occ.length+l.size≤1000000000000):b8 Tryz.prog 136 [.mp 0,ag l.c] [cf (aG occ)] (.bM []) [(0,some (cf (aG (occ++cD l))))] 1:=by
 have hsz:=l.size_eq;have h2:=fM l.left;refine aF ae Tryz.func136 rfl (by decide) Tryz.ntmps136 rfl (by simp) ?_;refine gA rfl ?_;refine VJ (fun k1=>?_) (fun k1=>?_)
 ·have k1:l.kind=1:=of_decide_eq_true k1
  have he:cD l=cC l.atom:=if_pos (.inl k1);refine gA rfl (aK [0] (d88 occ l.atom (by omega)) rfl rfl rfl rfl rfl rfl rfl rfl ?_);refine gA rfl (ax [] (by first|exact .inr rfl|exact .inl rfl) rfl (wk rfl rfl rfl ⟨.refl _,rfl,trivial⟩ (hM rfl (by rw[he]) rfl trivial) rfl))
 have k1: ¬l.kind=1:=of_decide_eq_false k1;refine gA rfl ?_;refine VJ (fun k2=>?_) (fun k2=>?_)
 ·have k2:l.kind=2:=of_decide_eq_true k2
  have he:cD l=cC l.atom:=if_pos (.inr k2);refine gA rfl (aK [0] (d88 occ l.atom (by omega)) rfl rfl rfl rfl rfl rfl rfl rfl ?_);refine gA rfl (ax [] (by first|exact .inr rfl|exact .inl rfl) rfl (wk rfl rfl rfl ⟨.refl _,rfl,trivial⟩ (hM rfl (by rw[he]) rfl trivial) rfl))
 have k2: ¬l.kind=2:=of_decide_eq_false k2;have he0:cD l=if l.kind=3 then b5 l.left++b5 l.right else[]:=if_neg (by simp[k1,k2]);refine gA rfl ?_;refine VJ (fun k3=>?_) (fun k3=>?_)
 ·have k3:l.kind=3:=of_decide_eq_true k3
  rw[if_pos k3] at he0;refine gA rfl (aK [0] (DR l.left occ (by omega)) rfl rfl rfl rfl rfl rfl rfl rfl ?_);refine gA rfl (aK [0] (DR l.right _ (by rw[VL];omega)) rfl rfl rfl rfl rfl rfl rfl rfl ?_);refine gA rfl (ax [] (by first|exact .inr rfl|exact .inl rfl) rfl (wk rfl rfl rfl ⟨.refl _,rfl,trivial⟩ (hM rfl (by rw[he0,VU]) rfl trivial) rfl))
 ·have k3: ¬l.kind=3:=of_decide_eq_false k3
  rw[if_neg k3] at he0;refine gA rfl (ax [] (by first|exact .inr rfl|exact .inl rfl) rfl (wk rfl rfl rfl ⟨.refl _,rfl,trivial⟩ (hM rfl (by rw[he0,WL]) rfl trivial) rfl))
def aZ (a:eZ):List ah:=(if a.func=1 then[] else b5 a.ig)++a.body.flatMap cD
theorem jG: ∀l:List Lit,(l.flatMap cD).length≤Lit.aB l
 | []=>by simp
 |e::r=>by
  have h1:=kW e;have h2:=jG r;rw[WT,VL];simp only[Lit.aB];omega
theorem O4 (e:Expr) (hb:e.size≤1000000000000):b8 Tryz.prog 178 [.mp 0,ag e.c] [.ej] (.bM []) [(0,some (cf (aG (b5 e))))] 1:=
 (DR e [] (by simpa using hb)).OX ⟨⟨id,fun M N U w j hj=>⟨#[],0,hj,⟨rfl,by simp[aG],by simp[aG],by simp,by simp⟩,eL M⟩⟩,trivial⟩
theorem Vb (a:Atom) (hb:a.an.length≤1000000000000):b8 Tryz.prog 135 [.mp 0,ag a.c] [.ej] (.bM []) [(0,some (cf (aG (cC a))))] 1:=
 (d88 [] a (by simpa using hb)).OX ⟨⟨id,fun M N U w j hj=>⟨#[],0,hj,⟨rfl,by simp[aG],by simp[aG],by simp,by simp⟩,eL M⟩⟩,trivial⟩
theorem d127 (a:eZ) (hb:a.size≤1000000000000):b8 Tryz.prog 196 [ag a.c] [] (.mp 0) [(0,some (cf (aG (aZ a))))] 1:=by
 refine b8.le (args:=[ag a.c1]) ?_ ⟨a.zE,trivial⟩;unfold eZ.size at hb;have hev:=fM a.ig;have hal:=Lit.aI a.body;refine aF ae Tryz.func196 rfl (by decide) Tryz.ntmps196 rfl (by simp) ?_;refine gA rfl ?_;refine VJ (fun h1=>?_) (fun h1=>?_)
 ·have h1: ¬a.func=1:=by simpa using h1
  have hin:aZ a=b5 a.ig++a.body.flatMap cD:=by unfold aZ;rw[if_neg h1]
  refine gA rfl (aK [1] (O4 a.ig (by omega)) rfl rfl rfl rfl rfl rfl rfl rfl ?_);refine gA rfl ?_
  refine aL 0 a.body.length (V1 _) (fun i=>⟨[(3, .mp 1),(15, .iv (lits a.body)),(16,pI a.body.length),(17,pI i)],[(1,some (cf (aG (b5 a.ig++(a.body.take i).flatMap cD))))],2⟩) (fun _=>True) [] trivial
   (wk rfl rfl rfl ⟨.refl _,rfl, .refl _,rfl, .refl _,rfl, .refl _,rfl,trivial⟩ (hM rfl (by simp) rfl trivial) rfl) fun i hi _=>?_
  refine gA rfl ?_;refine VJ (fun h3=>?_) (fun h3=>?_)
  ·have h3:i<a.body.length:=by simpa using h3
   have hs:=bH (f:=cD) h3;have hn:=Lit.dd a.body i h3;have hv:=jG (a.body.take i);refine gA rfl (aK [1] (d89 (a.body.getD i default) _ (by rw[VL];omega)) rfl rfl rfl rfl rfl rfl rfl rfl ?_);refine gA rfl ?_;exact⟨h3,trivial,[],wk rfl rfl rfl ⟨.refl _,rfl, .refl _,rfl, .refl _,rfl, .refl _,rfl,trivial⟩ (hM rfl (by rw[hs,VU]) rfl trivial) rfl⟩
  ·have h3:a.body.length≤i:=by simpa using h3
   have e0:a.body.take i=a.body:=VY h3;refine gA rfl (ax [1] (by first|exact .inr rfl|exact .inl rfl) rfl (wk rfl rfl rfl ⟨.refl _,rfl,trivial⟩ (hM rfl (by rw[e0,hin]) rfl trivial) rfl))
 ·have h1:a.func=1:=by simpa using h1
  have hin:aZ a=a.body.flatMap cD:=by unfold aZ;rw[if_pos h1];rfl
  refine gA rfl ?_
  refine aL 0 a.body.length (V1 _) (fun i=>⟨[(3, .mp 1),(15, .iv (lits a.body)),(16,pI a.body.length),(17,pI i)],[(1,some (cf (aG ((a.body.take i).flatMap cD))))],2⟩) (fun _=>True) [] trivial
   (wk rfl rfl rfl ⟨.refl _,rfl, .refl _,rfl, .refl _,rfl, .refl _,rfl,trivial⟩ (Dc rfl eL rfl trivial) rfl) fun i hi _=>?_
  refine gA rfl ?_;refine VJ (fun h3=>?_) (fun h3=>?_)
  ·have h3:i<a.body.length:=by simpa using h3
   have hs:=bH (f:=cD) h3;have hn:=Lit.dd a.body i h3;have hv:=jG (a.body.take i);refine gA rfl (aK [1] (d89 (a.body.getD i default) _ (by omega)) rfl rfl rfl rfl rfl rfl rfl rfl ?_);refine gA rfl ?_;exact⟨h3,trivial,[],wk rfl rfl rfl ⟨.refl _,rfl, .refl _,rfl, .refl _,rfl, .refl _,rfl,trivial⟩ (hM rfl (by rw[hs]) rfl trivial) rfl⟩
  ·have h3:a.body.length≤i:=by simpa using h3
   have e0:a.body.take i=a.body:=VY h3;refine gA rfl (ax [1] (by first|exact .inr rfl|exact .inl rfl) rfl (wk rfl rfl rfl ⟨.refl _,rfl,trivial⟩ (hM rfl (by rw[e0,hin]) rfl trivial) rfl))
end Go.Proofs.YtflegjieadkonaaGreatDoor
namespace Go.Proofs.YtflegjieadkonaaGreatDoor
open Go Go.Al
set_option maxRecDepth 10000
def ins:List ah→ah→List ah
 | [],s=> [s]
 |x::r,s=>if x=s then x::r else if Op.bytesLess x.toList s.toList=true then x::ins r s else s::x::r
theorem jh (s:ah): ∀(l a:List ah),l.foldl (dw s) (a,true)=(a++l,true)
 | [],a=>by simp
 |x::r,a=>by
  have:dw s (a,true) x=(a++ [x],true):=by simp[dw]
  rw[Wm,this,jh s r];simp
theorem uC (s:ah): ∀(l a:List ah),(if(l.foldl (dw s) (a,false)).2 then(l.foldl (dw s) (a,false)).1 else(l.foldl (dw s) (a,false)).1++ [s])=a++ins l s
 | [],a=>by simp[ins]
 |x::r,a=>by
  by_cases h1:x=s
  ·have:dw s (a,false) x=(a++ [x],true):=by simp[dw,h1]
   rw[Wm,this,jh];simp[ins,h1]
  ·cases h2:Op.bytesLess x.toList s.toList with
   |true=>
    have:dw s (a,false) x=(a++ [x],false):=by simp[dw,h1,h2]
    rw[Wm,this,uC s r];simp[ins,h1,h2]
   |false=>
    have:dw s (a,false) x=(a++ [s]++ [x],true):=by simp[dw,h1,h2]
    rw[Wm,this,jh];simp[ins,h1,h2]
theorem tz (l:List ah) (s:ah):eV l s=ins l s:=by
 have:=uC s l [];simpa[eV] using this
theorem vp {x:ah}: ∀{l:List ah} {s:ah},x∈ins l s↔x∈l∨x=s
 | [],s=>by simp[ins]
 |y::r,s=>by
  simp only[ins];split
  ·rename_i h;subst h;simp;exact fun h=> .inl h
  ·split
   ·simp[vp (l:=r),or_assoc]
   ·simp;constructor
    ·rintro(h|h|h)
     ·exact .inr h
     ·exact .inl (.inl h)
     ·exact .inl (.inr h)
    ·rintro((h|h)|h)
     ·exact .inr (.inl h)
     ·exact .inr (.inr h)
     ·exact .inl h
theorem c6 {x s:ah} {l:List ah}:x∈eV l s↔x∈l∨x=s:=by rw[tz];exact vp
theorem qi {x:ah}: ∀{m l:List ah},x∈fS l m↔x∈l∨x∈m
 | [],l=>by simp[fS]
 |y::r,l=>by
  have h:=qi (x:=x) (m:=r) (l:=eV l y);simp only[fS,Wm] at h ⊢;rw[h,c6,V4,or_assoc]
theorem bw {l:List ah} {s:ah}:c4 l s=true↔s∈l:=by
 simp[c4]
theorem dX {l:List ah} {s:ah}:c4 l s=false↔s∉l:=by
 rw[←Bool.not_eq_true,bw]
def Kd (l m:List ah):Bool:=m.all fun x=>c4 l x
def UZ (a:List ah) (l:Lit):List ah:=if l.kind=4 then eV (fS a (pj l)) l.bs else fS a (pj l)
def outer (r:aw):List ah:=r.body.foldl UZ (ku r.head)
def ij (l:Lit):List ah:=cD l++if l.kind=4 then[l.bs] else[]
def aD (r:aw):List ah:=cC r.head++r.body.flatMap ij
theorem yE (l:Lit):(ij l).length+1≤l.size:=by
 have:=kW l;unfold ij;rw[VL];split<;>simp<;>omega
theorem lU: ∀l:List Lit,(l.flatMap ij).length≤Lit.aB l
 | []=>by simp
 |e::r=>by
  have h1:=yE e;have h2:=lU r;rw[WT,VL];simp only[Lit.aB];omega
theorem vj (r:aw):(aD r).length≤r.size:=by
 have h1:=lU r.body;have h2:=gY r.head;unfold aD aw.size;rw[VL];omega
def O6 (r:aw):List IV:=[iS r.head.rel,cV 5 r.head.an Term.c,lits r.body,iI r.at_.line,iI r.at_.BH,nY (aG (aD r))]
abbrev b6 (r:aw):IV:= .jv (O6 r)
theorem c48 (r:aw) (hb:r.size≤1000000000000):Pure Tryz.prog 113 [ag r.c] (.iv (b6 r)):=by
 unfold aw.size at hb;have hao:=gY r.head;have hal:=Lit.aI r.body;refine az ae Tryz.func113 rfl (by decide) Tryz.ntmps113 rfl (by simp) rfl ?_;refine gA rfl (cz ae [1] (Vb r.head (by omega)) rfl rfl rfl rfl rfl rfl rfl rfl rfl rfl rfl rfl (by(repeat' (first|exact trivial|exact rfl|exact ak.refl _|exact ak.bk (by assumption)|apply VJ))<;>first|omega|(simp only[VQ];omega)|(simp;done)|(simp;omega)) rfl (by(repeat' (first|exact trivial|exact rfl|exact ak.refl _|exact ak.bk (by assumption)|apply VJ))<;>first|omega|(simp only[VQ];omega)|(simp;done)|(simp;omega)) ?_);refine gA rfl ?_
 refine aL 0 r.body.length (V1 _) (fun i=>⟨[(3, .ptr 2 0),(18, .iv (lits r.body)),(19,pI r.body.length),(20,pI i)],
   [(1,some (cf (aG (cC r.head++(r.body.take i).flatMap ij)))),(2,some (.cells [pS r.head.rel, .iv (cV 5 r.head.an Term.c), .iv (lits r.body),pI r.at_.line,pI r.at_.BH, .mp 1]))],3⟩) (fun _=>True) [] trivial
  (wk rfl rfl rfl ⟨.refl _,rfl, .refl _,rfl, .refl _,rfl, .refl _,rfl,trivial⟩ (hM rfl (by simp) rfl ⟨⟨_,rfl, .of_eq rfl⟩,VI rfl,rfl,trivial⟩) rfl) fun i hi _=>?_
 refine gA rfl ?_;refine VJ (fun h3=>?_) (fun h3=>?_)
 ·have h3:i<r.body.length:=by simpa using h3
  have hs:=bH (f:=ij) h3;have hn:=Lit.dd r.body i h3;have hv:=lU (r.body.take i);have hlo:=kW (r.body.getD i default);refine gA rfl (cz ae [1] (d89 (r.body.getD i default) _ (by rw[VL];omega)) rfl rfl rfl rfl rfl rfl rfl rfl rfl rfl rfl rfl (by(repeat' (first|exact trivial|exact rfl|exact ak.refl _|exact ak.bk (by assumption)|apply VJ))<;>first|omega|(simp only[VQ];omega)|(simp;done)|(simp;omega)) rfl (by(repeat' (first|exact trivial|exact rfl|exact ak.refl _|exact ak.bk (by assumption)|apply VJ))<;>first|omega|(simp only[VQ];omega)|(simp;done)|(simp;omega)) ?_);refine gA rfl ?_;refine VJ (fun h4=>?_) (fun h4=>?_)
  ·have h4:(r.body.getD i default).kind=4:=of_decide_eq_true h4
   have hlo2:ij (r.body.getD i default)=cD (r.body.getD i default)++ [(r.body.getD i default).bs]:=by unfold ij;rw[if_pos h4]
   rw[hlo2] at hs;have hlk:=bu (cC r.head++(r.body.take i).flatMap ij++cD (r.body.getD i default)) (r.body.getD i default).bs;have hct:=fx (cC r.head++(r.body.take i).flatMap ij++cD (r.body.getD i default)) (r.body.getD i default).bs;rw[VL,VL] at hct;refine gA rfl ?_;exact⟨h3,trivial,[],wk rfl rfl rfl ⟨.refl _,rfl, .refl _,rfl, .refl _,rfl, .refl _,rfl,trivial⟩ (hM rfl (by rw[hs,←VU,←VU,cS];rfl) rfl ⟨⟨_,rfl, .of_eq rfl⟩,VI rfl,rfl,trivial⟩) rfl⟩
  ·have h4: ¬(r.body.getD i default).kind=4:=of_decide_eq_false h4
   have hlo2:ij (r.body.getD i default)=cD (r.body.getD i default):=by unfold ij;rw[if_neg h4,WL]
   rw[hlo2] at hs;refine gA rfl ?_;exact⟨h3,trivial,[],wk rfl rfl rfl ⟨.refl _,rfl, .refl _,rfl, .refl _,rfl, .refl _,rfl,trivial⟩ (hM rfl (by rw[hs,←VU]) rfl ⟨⟨_,rfl, .of_eq rfl⟩,VI rfl,rfl,trivial⟩) rfl⟩
 ·have h3:r.body.length≤i:=by simpa using h3
  have e0:r.body.take i=r.body:=VY h3;refine lB rfl trivial (oO (.inr rfl) rfl (.map 1 rfl (.cells 2 _ rfl (show _=List.map PV.iv (O6 r) by rw[e0];rfl) (.done (.of_eq rfl)))))
def aW (occ:List ah) (e:Expr):Bool:=(b5 e).all fun x=>c4 occ x
theorem qS {l:List ah} {j:Nat} {x:(KC.str).K×Int} (h:(aG l)[j]? =some x):x.1∈l:=
 ((dy l).2 x.1).1 (Wo.2 ⟨x,Wj h,rfl⟩)
theorem all_keys {l:List ah} {vs:List Nat} (h: ∀j,j<(aG l).length→j∈vs) {p:ah→Prop} (hp: ∀j∈vs,∀x,(aG l)[j]? =some x→p x.1): ∀t∈l,p t:=by
 intro t ht;obtain⟨x,hx,rfl⟩:=Wo.1 (((dy l).2 t).2 ht);obtain⟨j,hj⟩:=WE hx;exact hp j (h j (VO.1 hj).1) x hj
theorem d125 (occ:List ah) (e:Expr) (hb:e.size≤1000000000000):b8 Tryz.prog 227 [.mp 0,ag e.c] [cf (aG occ)] (pB (aW occ e)) [(0,some (cf (aG occ)))] 1:=by
 refine aF ae Tryz.func227 rfl (by decide) Tryz.ntmps227 rfl (by simp) ?_;refine gA rfl (aK [2] (O4 e hb) rfl rfl rfl rfl rfl rfl rfl rfl ?_);refine gA rfl ?_
 refine eJ (aG (b5 e)) (fun vs=>⟨[(0, .mp 0),(12, .ptr 3 0)],[(0,some (cf (aG occ))),(3,some (.bt .str sE (aG (b5 e)) vs none))],4⟩) (fun vs=> ∀j∈vs,∀x,(aG (b5 e))[j]? =some x→x.1∈occ) [] (by simp)
  (wk rfl rfl rfl ⟨.refl _,rfl, .refl _,rfl,trivial⟩ (hM rfl rfl rfl (hI rfl rfl (.inl rfl) rfl trivial)) rfl) fun vs hJ=>?_
 refine lB rfl trivial (db rfl rfl rfl rfl rfl (by decide) (fun hall=>?_) fun j x hx hj=>?_)
 ·refine gA rfl (ax [] (by first|exact .inr rfl|exact .inl rfl) rfl (wk rfl rfl rfl ⟨.of_eq (by rw[show aW occ e=true from Wl.2 fun t ht=>bw.2 (all_keys hall hJ t ht)];rfl),rfl,trivial⟩ (hM rfl rfl rfl trivial) rfl))
 ·have hlk:=bu occ x.1
  refine gA rfl ?_;refine VJ (fun h1=>?_) (fun h1=>?_)
  ·have h1:bF .str (aG occ) x.1 0=0:=of_decide_eq_true h1
   have h2:x.1∉occ:=pT.1 (by rw[hlk] at h1;omega);refine gA rfl (ax [] (by first|exact .inr rfl|exact .inl rfl) rfl (wk rfl rfl rfl ⟨.of_eq (by rw[show aW occ e=false from XW.2 ⟨x.1,qS hx,by rw[dX.2 h2];simp⟩];rfl),rfl,trivial⟩ (hM rfl rfl rfl trivial) rfl))
  ·have h1: ¬bF .str (aG occ) x.1 0=0:=of_decide_eq_false h1
   have h2:x.1∈occ:=sI.1 (by rw[hlk] at h1;omega);refine gA rfl ?_
   exact⟨j,x,hx,hj,fun i hi y hy=>by
    rcases V4.1 hi with rfl|hi
    ·rw[hx] at hy;cases hy;exact h2
    ·exact hJ i hi y hy,[],wk rfl rfl rfl ⟨.refl _,rfl, .refl _,rfl,trivial⟩ (hM rfl rfl rfl (hI rfl rfl (.inr rfl) rfl trivial)) rfl⟩
def aq (r:aw) (lit:Int):Lit:=r.body.getD lit.toNat default
theorem Lit.jt (l:Lit):l.agg.size+2≤l.size:=by
 rw[l.size_eq];unfold eZ.size Lit.agg;dsimp only;omega
def T3 (l:Lit) (known:List ah):ah×Bool:=
 if¬l.kind=3∨ ¬l.op=1 then(VT,false)
 else if l.left.kind=1∧Kd known (gU l.left)=false∧Kd known (gU l.right)=true then(l.left.var,true)
 else if l.right.kind=1∧Kd known (gU l.right)=false∧Kd known (gU l.left)=true then(l.right.var,true)
 else(VT,false)
theorem nv {a b:ah×Bool} (h:a=b):PV.bM [pS a.1,pB a.2]= .bM [pS b.1,pB b.2]:=by rw[h]
def UG (a:eZ) (known outer:List ah):Bool:=!c4 known a.var&&(Bf a).all fun x=>!(c4 outer x&&(!c4 known x&&!decide (x=a.var)))
def jJ (l:Lit) (known:List ah):ah×Bool:=
 if¬l.kind=3∨ ¬l.op=1 then(VT,false)
 else if l.left.kind=1∧c4 known l.left.var=false∧(l.right.kind=2∨l.right.kind=1∧c4 known l.right.var=true) then(l.left.var,true)
 else if l.right.kind=1∧(if l.left.kind=1 then c4 known l.left.var else decide (l.left.kind=2))=true then(l.right.var,!c4 known l.right.var)
 else(VT,false)
def bB (body:List Lit):List ah:=body.flatMap fun l=> [l.left.var,l.right.var,l.bs]
def ck (c k:List ah):Nat:=(c.filter fun x=>!c4 k x).length
theorem iM: ∀body:List Lit,(bB body).length=3*body.length
 | []=>rfl
 |l::r=>by have:=iM r;simp only[bB,WT,VL,Wu,XH] at this ⊢;omega
theorem ox (c k:List ah):ck c k≤c.length:=WR _ _
theorem ow {v:ah} {k:List ah}: ∀{c:List ah},v∈c→v∉k→ck c (eV k v)<ck c k:=by
 have mono: ∀c:List ah,ck c (eV k v)≤ck c k:=by
  intro c
  induction c with
  |nil=>exact VZ _
  |cons x r ih=>
   simp only[ck] at ih ⊢;simp only[Xp];by_cases h1:x∈k
   ·have:c4 (eV k v) x=true:=bw.2 (c6.2 (.inl h1))
    rw[this,bw.2 h1];exact ih
   ·simp only[dX.2 h1,Yf,if_true,Wu]
    split<;>(try simp only[Wu])<;>omega
 intro c hc hk
 induction c with
 |nil=>cases hc
 |cons x r ih=>
  have hm:=mono r;simp only[ck] at ih hm ⊢;simp only[Xp];by_cases hx:x=v
  ·subst hx
   have:c4 (eV k x) x=true:=bw.2 (c6.2 (.inr rfl));simp[this,dX.2 hk];omega
  ·have hr:v∈r:=by
    rcases V4.1 hc with h|h
    ·exact absurd h.symm hx
    ·exact h
   have ih:=ih hr;by_cases h1:x∈k
   ·have:c4 (eV k v) x=true:=bw.2 (c6.2 (.inl h1))
    simp[this,bw.2 h1];exact ih
   ·have:c4 (eV k v) x=false:=dX.2 fun h=>by rcases c6.1 h with h|h;exact h1 h;exact hx h
    simp[this,dX.2 h1];omega
def n7 (own:Bool) (outer:List ah) (k:List ah) (l:Lit):ah×Bool:=if own=true∧l.kind=4 then(l.bs,UG l.agg k outer) else T3 l k
def AR (k:List ah) (l:Lit):List ah:=if l.kind=1 then fS k (ku l.atom) else k
theorem uI {body:List Lit} {l:Lit} (h:l∈body) {v:ah} (hv:v∈ [l.left.var,l.right.var,l.bs]):v∈bB body:=WY.2 ⟨l,h,hv⟩
def fj (may:Expr→Bool) (occ:List ah) (l:Lit):ah×Bool:=
 if¬l.kind=3∨ ¬l.op=1 then(VT,false)
 else if l.left.kind=1∧c4 occ l.left.var=false∧may l.right=true then(l.left.var,true)
 else if l.right.kind=1∧c4 occ l.right.var=false∧may l.left=true then(l.right.var,true)
 else(VT,false)
theorem bU {occ:List ah} {s:ah}:c4 occ s=!decide (bF .str (aG occ) s 0=0):=by
 rw[bu];by_cases h:s∈occ
 ·have:=sI.2 h
  rw[bw.2 h];simp;omega
 ·rw[dX.2 h,pT.2 h];rfl
def b3 (occ:List ah) (e:Expr):Bool:=decide (e.kind=2)||(decide (e.kind=1)&&c4 occ e.var)
theorem kE {a b:Bool} (h:a=b):pB a=pB b:=by rw[h]
theorem d76 (occ:List ah) (e:Expr) (hb:e.size≤1000000000000):b8 Tryz.prog 127 [ag e.c, .ptr 1 0] [cf (aG occ), .cells [.mp 0]] (pB (b3 occ e)) [(0,some (cf (aG occ))),(1,some (.cells [.mp 0]))] 2:=by
 have hlk:=bu occ e.var;have hi:=bU (occ:=occ) (s:=e.var);refine aF ae Tryz.func127 rfl (by decide) Tryz.ntmps127 rfl (by simp) ?_
 repeat' (first
  |(refine gA rfl (VJ (fun _=>?_) (fun _=>?_)))
  |fail)
 all_goals first
  |(refine gA rfl (ax [] (.inr rfl) rfl (wk rfl rfl rfl ⟨.of_eq (kE (a:=true) ?_),rfl,trivial⟩ (hM rfl rfl rfl ⟨⟨_,rfl, .of_eq rfl⟩,VI rfl,rfl,trivial⟩) rfl));simp_all [b3];done)
  |(refine gA rfl (ax [] (.inr rfl) rfl (wk rfl rfl rfl ⟨.of_eq (kE (a:=false) ?_),rfl,trivial⟩ (hM rfl rfl rfl ⟨⟨_,rfl, .of_eq rfl⟩,VI rfl,rfl,trivial⟩) rfl));simp_all [b3];done)
  |(refine gA rfl (ax [] (.inr rfl) rfl (wk rfl rfl rfl ⟨.of_eq (kE (a:=decide (bF .str (aG occ) e.var 0>0)) ?_),rfl,trivial⟩ (hM rfl rfl rfl ⟨⟨_,rfl, .of_eq rfl⟩,VI rfl,rfl,trivial⟩) rfl));rw[b3,hi,hlk];simp_all;by_cases hz:nX occ e.var=0<;>simp[hz]<;>omega)
theorem c77 (a:eZ):Pure Tryz.prog 128 [ag a.c] (pB false):=by
 refine az ae Tryz.func128 rfl (by decide) Tryz.ntmps128 rfl (by simp) rfl ?_;refine gA rfl (au (by first|exact .inr rfl|exact .inl rfl) rfl (.of_eq ?_));rfl
theorem Vo (a:eZ):Pure Tryz.prog 229 [ag a.c] (pB false):=by
 refine az ae Tryz.func229 rfl (by decide) Tryz.ntmps229 rfl (by simp) rfl ?_;refine gA rfl (au (by first|exact .inr rfl|exact .inl rfl) rfl (.of_eq ?_));rfl
def lQ (out occ:List ah) (a:eZ):Bool:=(aZ a).all fun x=>decide (x=a.var)||(!c4 out x||c4 occ x)
theorem d126 (r:aw) (occ:List ah) (a:eZ) (hb:a.size≤1000000000000):b8 Tryz.prog 228 [ag a.c, .ptr 1 0, .ptr 2 0] [cf (aG occ), .cells [.iv (b6 r)], .cells [.mp 0]] (pB (lQ (aD r) occ a)) [(0,some (cf (aG occ))),(1,some (.cells [.iv (b6 r)])),(2,some (.cells [.mp 0]))] 3:=by
 refine aF ae Tryz.func228 rfl (by decide) Tryz.ntmps228 rfl (by simp) ?_;refine gA rfl (aK [] (d127 a hb) rfl rfl rfl rfl rfl rfl rfl rfl ?_);refine gA rfl ?_
 refine eJ (aG (aZ a)) (fun vs=>⟨[(1, .ptr 1 0),(2, .ptr 2 0),(3, .ptr 3 0),(8, .ptr 5 0)],[(0,some (cf (aG occ))),(1,some (.cells [.iv (b6 r)])),(2,some (.cells [.mp 0])),(3,some (aE a.c)),(5,some (.bt .str sE (aG (aZ a)) vs none))],6⟩) (fun vs=> ∀j∈vs,∀x,(aG (aZ a))[j]? =some x→(decide (x.1=a.var)||(!c4 (aD r) x.1||c4 occ x.1))=true) [] (by simp)
  (wk rfl rfl rfl ⟨.refl _,rfl, .refl _,rfl, .refl _,rfl, .refl _,rfl,trivial⟩ (hM rfl rfl rfl ⟨⟨_,rfl, .of_eq rfl⟩,VI rfl,rfl,⟨_,rfl, .of_eq rfl⟩,VI rfl,rfl,hC rfl rfl rfl (hI rfl rfl (.inl rfl) rfl trivial)⟩) rfl) fun vs hJ=>?_
 refine lB rfl trivial (db rfl rfl rfl rfl rfl (by decide) (fun hall=>?_) fun j x hx hj=>?_)
 ·refine gA rfl (ax [] (by first|exact .inr rfl|exact .inl rfl) rfl (wk rfl rfl rfl ⟨.of_eq (kE (a:=true) (Wl.2 fun t ht=>all_keys (p:=fun t=>(decide (t=a.var)||(!c4 (aD r) t||c4 occ t))=true) hall hJ t ht).symm),rfl,trivial⟩ (hM rfl rfl rfl ⟨⟨_,rfl, .of_eq rfl⟩,VI rfl,rfl,⟨_,rfl, .of_eq rfl⟩,VI rfl,rfl,trivial⟩) rfl))
 ·have more:(decide (x.1=a.var)||(!c4 (aD r) x.1||c4 occ x.1))=true→ ∀i∈j::vs,∀x,(aG (aZ a))[i]? =some x→(decide (x.1=a.var)||(!c4 (aD r) x.1||c4 occ x.1))=true:=fun h i hi y hy=>by
   rcases V4.1 hi with rfl|hi
   ·rw[hx] at hy;cases hy;exact h
   ·exact hJ i hi y hy
  have h5:=bU (occ:=aD r) (s:=x.1);have h6:=bU (occ:=occ) (s:=x.1);have h7:=bu (aD r) x.1;have h8:=bu occ x.1;refine gA rfl ?_;refine VJ (fun g1=>?_) (fun g1=>?_)
  ·have g1:decide (x.1=a.var)=false:=by simpa using g1
   refine gA rfl ?_;refine VJ (fun g2=>?_) (fun g2=>?_)
   ·have g2:c4 (aD r) x.1=true:=by
     have:=of_decide_eq_true g2;rw[h5];simp;omega
    refine gA rfl ?_;refine VJ (fun g3=>?_) (fun g3=>?_)
    ·have g3:c4 occ x.1=false:=by rw[h6,g3];rfl
     refine gA rfl (ax [] (by first|exact .inr rfl|exact .inl rfl) rfl (wk rfl rfl rfl ⟨.of_eq (kE (a:=false) (XW.2 ⟨x.1,qS hx,by rw[g1,g2,g3];simp⟩).symm),rfl,trivial⟩ (hM rfl rfl rfl ⟨⟨_,rfl, .of_eq rfl⟩,VI rfl,rfl,⟨_,rfl, .of_eq rfl⟩,VI rfl,rfl,trivial⟩) rfl))
    ·have g3:c4 occ x.1=true:=by rw[h6,g3];rfl
     refine gA rfl ?_;exact⟨j,x,hx,hj,more (by rw[g3];simp),[],wk rfl rfl rfl ⟨.refl _,rfl, .refl _,rfl, .refl _,rfl, .refl _,rfl,trivial⟩ (hM rfl rfl rfl ⟨⟨_,rfl, .of_eq rfl⟩,VI rfl,rfl,⟨_,rfl, .of_eq rfl⟩,VI rfl,rfl,hC rfl rfl rfl (hI rfl rfl (.inr rfl) rfl trivial)⟩) rfl⟩
   ·have g2:c4 (aD r) x.1=false:=by
     have:=of_decide_eq_false g2;rw[h5];simp;omega
    refine gA rfl ?_;exact⟨j,x,hx,hj,more (by rw[g2];simp),[],wk rfl rfl rfl ⟨.refl _,rfl, .refl _,rfl, .refl _,rfl, .refl _,rfl,trivial⟩ (hM rfl rfl rfl ⟨⟨_,rfl, .of_eq rfl⟩,VI rfl,rfl,⟨_,rfl, .of_eq rfl⟩,VI rfl,rfl,hC rfl rfl rfl (hI rfl rfl (.inr rfl) rfl trivial)⟩) rfl⟩
  ·have g1:decide (x.1=a.var)=true:=by simpa using g1
   refine gA rfl ?_;exact⟨j,x,hx,hj,more (by rw[g1];simp),[],wk rfl rfl rfl ⟨.refl _,rfl, .refl _,rfl, .refl _,rfl, .refl _,rfl,trivial⟩ (hM rfl rfl rfl ⟨⟨_,rfl, .of_eq rfl⟩,VI rfl,rfl,⟨_,rfl, .of_eq rfl⟩,VI rfl,rfl,hC rfl rfl rfl (hI rfl rfl (.inr rfl) rfl trivial)⟩) rfl⟩
def kS (may:Expr→Bool) (more:eZ→Bool) (occ:List ah) (l:Lit):Option ah:=
 if(fj may occ l).2=true then some (fj may occ l).1 else if l.kind=4∧c4 occ l.bs=false∧more l.agg=true then some l.bs else none
def bJ (may:Expr→Bool) (more:eZ→Bool) (occ:List ah):List Lit→Option ah
 | []=>none
 |l::r=>match kS may more occ l with
  |some v=>some v
  |none=>bJ may more occ r
def cP (may:List ah→Expr→Bool) (more:List ah→eZ→Bool) (body:List Lit):Nat→List ah→List ah
 |0,occ=>occ
 |n+1,occ=>match bJ (may occ) (more occ) occ body with
  |some v=>cP may more body n (occ++ [v])
  |none=>occ
def bc (l:Lit):List ah:=if l.kind=1 then cC l.atom else[]
def bK (may:List ah→Expr→Bool) (more:List ah→eZ→Bool) (body:List Lit) (occ:List ah):List ah:=cP may more body (3*body.length+1) (occ++body.flatMap bc)
theorem dM {may:List ah→Expr→Bool} {more:List ah→eZ→Bool} {body:List Lit} {n:Nat} {occ:List ah} {v:ah} (h:bJ (may occ) (more occ) occ body=some v):cP may more body (n+1) occ=cP may more body n (occ++ [v]):=by
 simp only[cP,h]
theorem dN {may:List ah→Expr→Bool} {more:List ah→eZ→Bool} {body:List Lit} {n:Nat} {occ:List ah} (h:bJ (may occ) (more occ) occ body=none):cP may more body (n+1) occ=occ:=by
 simp only[cP,h]
theorem jU {may:Expr→Bool} {more:eZ→Bool} {occ:List ah}: ∀{l m:List Lit},bJ may more occ l=none→bJ may more occ (l++m)=bJ may more occ m
 | [],_,_=>rfl
 |x::r,m,h=>by
  simp only[bJ] at h;split at h
  ·cases h
  ·rename_i h1
   simp only[W7,bJ,h1];exact jU h
theorem dc {may:Expr→Bool} {more:eZ→Bool} {occ:List ah} {l:List Lit} {i:Nat} (h:bJ may more occ (l.take i)=none) (hi:i<l.length) (hx:kS may more occ (l.getD i default)=none):bJ may more occ (l.take (i+1))=none:=by
 rw[aY hi,jU h];simp only[bJ,hx]
theorem nU {may:Expr→Bool} {more:eZ→Bool} {occ:List ah} {l:List Lit} {i:Nat} {v:ah} (h:bJ may more occ (l.take i)=none) (hi:i<l.length) (hx:kS may more occ (l.getD i default)=some v):bJ may more occ l=some v:=by
 have e:l=l.take i++(l.getD i default::l.drop (i+1)):=by
  rw[VP,VS hi,W6,List.getElem_cons_drop,List.take_append_drop]
 rw[e,jU h];simp only[bJ,hx]
theorem rV {may:Expr→Bool} {more:eZ→Bool} {occ:List ah} {l:Lit} {v:ah} (h:kS may more occ l=some v):v∈ [l.left.var,l.right.var,l.bs]∧v∉occ:=by
 unfold kS at h;split at h
 ·rename_i h1
  simp only[VM] at h;subst h;unfold fj at h1 ⊢;split at h1
  ·cases h1
  ·rename_i h0
   rw[if_neg h0];split at h1
   ·rename_i h2;rw[if_pos h2];exact⟨by simp,dX.1 h2.2.1⟩
   ·rename_i h2
    rw[if_neg h2];split at h1
    ·rename_i h3;rw[if_pos h3];exact⟨by simp,dX.1 h3.2.1⟩
    ·cases h1
 ·split at h
  ·rename_i h2
   simp only[VM] at h;subst h;exact⟨by simp,dX.1 h2.2.1⟩
  ·cases h
theorem ji {may:Expr→Bool} {more:eZ→Bool} {occ:List ah} {v:ah}: ∀{l:List Lit},bJ may more occ l=some v→v∈bB l∧v∉occ
 | [],h=>by cases h
 |x::r,h=>by
  simp only[bJ] at h;split at h
  ·rename_i w hw
   simp only[VM] at h;subst h;obtain⟨h1,h2⟩:=rV hw;exact⟨uI V8 h1,h2⟩
  ·obtain⟨h1,h2⟩:=ji h
   refine⟨?_,h2⟩;simp only[bB,WT,V3] at h1 ⊢;exact .inr h1
theorem eE: ∀l:List Lit,(l.flatMap bc).length≤Lit.aB l
 | []=>by simp
 |e::r=>by
  have h2:=eE r
  have h3:(bc e).length≤e.size:=by
   have:=gY e.atom;have:=e.size_eq;unfold bc;split
   ·omega
   ·simp
  rw[WT,VL];simp only[Lit.aB];omega
theorem Uz (occ:List ah) (l:Lit) (hb:l.size≤100000000000):b8 Tryz.prog 172 [ag l.c, .cH (.func 227) [.mp 0] [], .mp 0] [cf (aG occ)] (.bM [pS (fj (aW occ) occ l).1,pB (fj (aW occ) occ l).2]) [(0,some (cf (aG occ)))] 1:=by
 have hsz:=l.size_eq;have hl1:=bu occ l.left.var;have hl2:=bu occ l.right.var;refine aF ae Tryz.func172 rfl (by decide) Tryz.ntmps172 rfl (by simp) ?_;refine gA rfl ?_;refine VJ (fun h1=>?_) (fun h1=>?_);rotate_left
 ·have h1: ¬l.kind=3:=by simpa using h1
  refine gA rfl (ax [] (by first|exact .inr rfl|exact .inl rfl) rfl (wk rfl rfl rfl ⟨.of_eq (nv (a:=(VT,false)) (by rw[fj,if_pos (.inl h1)])),rfl,trivial⟩ (hM rfl rfl rfl trivial) rfl))
 have h1:l.kind=3:=by simpa using h1
 refine gA rfl ?_;refine VJ (fun h2=>?_) (fun h2=>?_)
 ·have h2: ¬l.op=1:=by simpa using h2
  refine gA rfl (ax [] (by first|exact .inr rfl|exact .inl rfl) rfl (wk rfl rfl rfl ⟨.of_eq (nv (a:=(VT,false)) (by rw[fj,if_pos (.inr h2)])),rfl,trivial⟩ (hM rfl rfl rfl trivial) rfl))
 have h2:l.op=1:=by simpa using h2
 have e1:fj (aW occ) occ l=if l.left.kind=1∧c4 occ l.left.var=false∧(aW occ) l.right=true then(l.left.var,true) else if l.right.kind=1∧c4 occ l.right.var=false∧(aW occ) l.left=true then(l.right.var,true) else(VT,false):=by
  rw[fj,if_neg (by simp[h1,h2])]
 repeat' (first
  |(refine gA rfl (VJ (fun _=>?_) (fun _=>?_)))
  |(refine gA rfl (aK [0] (d125 occ l.left (by omega)) rfl rfl rfl rfl rfl rfl rfl rfl ?_))
  |(refine gA rfl (aK [0] (d125 occ l.right (by omega)) rfl rfl rfl rfl rfl rfl rfl rfl ?_))
  |fail)
 all_goals first
  |(refine gA rfl (ax [] (.inr rfl) rfl (wk rfl rfl rfl ⟨.of_eq (nv (a:=(VT,false)) ?_),rfl,trivial⟩ (hM rfl rfl rfl trivial) rfl));rw[e1];simp only[bU] at*;simp_all;done)
  |(refine gA rfl (ax [] (.inr rfl) rfl (wk rfl rfl rfl ⟨.of_eq (nv (a:=(l.left.var,true)) ?_),rfl,trivial⟩ (hM rfl rfl rfl trivial) rfl));rw[e1];simp only[bU] at*;simp_all;done)
  |(refine gA rfl (ax [] (.inr rfl) rfl (wk rfl rfl rfl ⟨.of_eq (nv (a:=(l.right.var,true)) ?_),rfl,trivial⟩ (hM rfl rfl rfl trivial) rfl));rw[e1];simp only[bU] at*;simp_all;done)
  |(exfalso;simp_all;done)
theorem Ve (occ:List ah) (body:List Lit) (hb:occ.length+8*Lit.aB body≤100000000000):b8 Tryz.prog 126 [.iv (lits body), .mp 0, .cH (.func 227) [.mp 0] [], .cH (.func 229) [] []] [cf (aG occ)] (.bM []) [(0,some (cf (aG (bK (fun occ=>aW occ) (fun occ=>fun _=>false) body occ))))] 1:=by
 have hal:=Lit.aI body;have hpl:=eE body;have hcl:=iM body;have hml:=ox (bB body) (occ++body.flatMap bc);refine aF ae Tryz.func126 rfl (by decide) Tryz.ntmps126 rfl (by simp) ?_;refine gA rfl ?_
 refine aL 0 body.length (V1 _) (fun i=>⟨[(0, .iv (lits body)),(1, .mp 0),(2, .cH (.func 227) [.mp 0] []),(3, .cH (.func 229) [] []),(14, .iv (lits body)),(15,pI body.length),(16,pI i)],[(0,some (cf (aG (occ++(body.take i).flatMap bc))))],1⟩) (fun _=>True) [] trivial
  (wk rfl rfl rfl ⟨.refl _,rfl, .refl _,rfl, .refl _,rfl, .refl _,rfl, .refl _,rfl, .refl _,rfl, .refl _,rfl,trivial⟩ (hM rfl (by simp) rfl trivial) rfl) fun i hi _=>?_
 refine gA rfl ?_;refine VJ (fun h1=>?_) (fun h1=>?_)
 ·have h1:i<body.length:=by simpa using h1
  have hs:=bH (f:=bc) h1;have hn:=Lit.dd body i h1;have hv:=eE (body.take i);have hsz:=(body.getD i default).size_eq;refine gA rfl ?_;refine VJ (fun h2=>?_) (fun h2=>?_)
  ·have h2:(body.getD i default).kind=1:=by simpa using h2
   rw[show bc (body.getD i default)=_ from if_pos h2] at hs;refine gA rfl (aK [0] (d88 (occ++(body.take i).flatMap bc) (body.getD i default).atom (by rw[VL];omega)) rfl rfl rfl rfl rfl rfl rfl rfl ?_);refine gA rfl ?_;exact⟨h1,trivial,[],wk rfl rfl rfl ⟨.refl _,rfl, .refl _,rfl, .refl _,rfl, .refl _,rfl, .refl _,rfl, .refl _,rfl, .refl _,rfl,trivial⟩ (hM rfl (by rw[hs,VU]) rfl trivial) rfl⟩
  ·have h2: ¬(body.getD i default).kind=1:=by simpa using h2
   rw[show bc (body.getD i default)=_ from if_neg h2,WL] at hs;refine gA rfl ?_;exact⟨h1,trivial,[],wk rfl rfl rfl ⟨.refl _,rfl, .refl _,rfl, .refl _,rfl, .refl _,rfl, .refl _,rfl, .refl _,rfl, .refl _,rfl,trivial⟩ (hM rfl (by rw[hs]) rfl trivial) rfl⟩
 have h1:body.length≤i:=by simpa using h1
 have e0:body.take i=body:=VY h1;rw[e0];refine gA rfl ?_
 refine lZ (σ:={x:List ah×Nat//bK (fun occ=>aW occ) (fun occ=>fun _=>false) body occ=cP (fun occ=>aW occ) (fun occ=>fun _=>false) body (x.2+1) x.1∧ck (bB body) x.1≤x.2∧x.1.length+ck (bB body) x.1≤(occ++body.flatMap bc).length+ck (bB body) (occ++body.flatMap bc)})
  (fun x=>⟨[(0, .iv (lits body)),(1, .mp 0),(2, .cH (.func 227) [.mp 0] []),(3, .cH (.func 229) [] [])],[(0,some (cf (aG x.1.1)))],1⟩) (fun x=>ck (bB body) x.1.1)
  ⟨(occ++body.flatMap bc,3*body.length),rfl,by dsimp only;omega,VZ _⟩ [] (wk rfl rfl rfl ⟨.refl _,rfl, .refl _,rfl, .refl _,rfl, .refl _,rfl,trivial⟩ (hM rfl rfl rfl trivial) rfl) ?_
 rintro⟨⟨ok,f⟩,hx1,hx2,hx3⟩
 dsimp only at hx1 hx2 hx3 ⊢;rw[VL] at hx3;refine gA rfl ?_
 refine aL 0 body.length (V1 _) (fun i=>⟨[(0, .iv (lits body)),(1, .mp 0),(2, .cH (.func 227) [.mp 0] []),(3, .cH (.func 229) [] []),(28, .iv (lits body)),(29,pI body.length),(30,pI i)],[(0,some (cf (aG ok)))],1⟩) (fun i=>bJ ((fun occ=>aW occ) ok) ((fun occ=>fun _=>false) ok) ok (body.take i)=none) [] rfl
  (wk rfl rfl rfl ⟨.refl _,rfl, .refl _,rfl, .refl _,rfl, .refl _,rfl, .refl _,rfl, .refl _,rfl, .refl _,rfl,trivial⟩ (hM rfl rfl rfl trivial) rfl) fun i hi hJ=>?_
 refine gA rfl ?_;refine VJ (fun h3=>?_) (fun h3=>?_)
 ·have h3:i<body.length:=by simpa using h3
  have hsl:=Lit.bS body i h3;have hag:=(body.getD i default).jt
  have found: ∀v,kS ((fun occ=>aW occ) ok) ((fun occ=>fun _=>false) ok) ok (body.getD i default)=some v→bK (fun occ=>aW occ) (fun occ=>fun _=>false) body occ=cP (fun occ=>aW occ) (fun occ=>fun _=>false) body (f-1+1) (ok++ [v])∧ck (bB body) (ok++ [v])≤f-1∧
    (ok++ [v]).length+ck (bB body) (ok++ [v])≤(occ++body.flatMap bc).length+ck (bB body) (occ++body.flatMap bc)∧ck (bB body) (ok++ [v])<ck (bB body) ok:=by
   intro v hv;have hf:=nU hJ h3 hv;obtain⟨g1,g2⟩:=ji hf;have hlt:=ow g1 g2
   have hlt2:ck (bB body) (ok++ [v])=ck (bB body) (eV ok v):=by
    unfold ck;congr 2
    funext x
    congr 1;rw[WK,bw,bw,c6,V3,VX]
   have hf1:f-1+1=f:=by omega
   refine⟨?_,by omega,?_,by omega⟩
   ·rw[hx1,dM hf,hf1]
   ·rw[VL,VL,WM];omega
  have hlk1:=bu ok (fj (aW ok) ok (body.getD i default)).1;have hct1:=fx ok (fj (aW ok) ok (body.getD i default)).1;have hlk2:=bu ok (body.getD i default).bs;have hct2:=fx ok (body.getD i default).bs;refine gA rfl (aK [0] (Uz ok (body.getD i default) (by omega)) rfl rfl rfl rfl rfl rfl rfl rfl ?_);refine gA rfl ?_;refine VJ (fun h4=>?_) (fun h4=>?_)
  ·obtain⟨g1,g2,g3,g4⟩:=found _ (if_pos h4)
   refine gA rfl ?_;exact⟨⟨(_,f-1),g1,g2,g3⟩,[],g4,wk rfl rfl rfl ⟨.refl _,rfl, .refl _,rfl, .refl _,rfl, .refl _,rfl,trivial⟩ (hM rfl (by dsimp only;rw[cS];rfl) rfl trivial) rfl⟩
  ·refine gA rfl ?_
   refine VJ (fun h5=>?_) (fun h5=>?_)
   ·have h5:(body.getD i default).kind=4:=by simpa using h5
    refine gA rfl ?_;refine VJ (fun h6=>?_) (fun h6=>?_)
    ·have h6:c4 ok (body.getD i default).bs=false:=by rw[bU];simpa using h6
     refine gA rfl (aj (Vo (body.getD i default).agg) rfl rfl rfl rfl rfl rfl ?_);refine gA rfl ?_;refine VJ (fun h7=>?_) (fun h7=>?_)
     ·obtain⟨g1,g2,g3,g4⟩:=found _ ((if_neg (by rw[h4];simp)).trans (if_pos ⟨h5,h6,h7⟩))
      refine gA rfl ?_;exact⟨⟨(_,f-1),g1,g2,g3⟩,[],g4,wk rfl rfl rfl ⟨.refl _,rfl, .refl _,rfl, .refl _,rfl, .refl _,rfl,trivial⟩ (hM rfl (by dsimp only;rw[cS];rfl) rfl trivial) rfl⟩
     ·refine gA rfl ?_
      exact⟨h3,dc hJ h3 ((if_neg (by rw[h4];simp)).trans (if_neg (fun h=>nomatch (h.2.2.symm.trans h7)))),[],wk rfl rfl rfl ⟨.refl _,rfl, .refl _,rfl, .refl _,rfl, .refl _,rfl, .refl _,rfl, .refl _,rfl, .refl _,rfl,trivial⟩ (hM rfl rfl rfl trivial) rfl⟩
    ·have h6:c4 ok (body.getD i default).bs=true:=by rw[bU];simpa using h6
     refine gA rfl ?_;exact⟨h3,dc hJ h3 ((if_neg (by rw[h4];simp)).trans (if_neg (by rw[h6];simp))),[],wk rfl rfl rfl ⟨.refl _,rfl, .refl _,rfl, .refl _,rfl, .refl _,rfl, .refl _,rfl, .refl _,rfl, .refl _,rfl,trivial⟩ (hM rfl rfl rfl trivial) rfl⟩
   ·have h5: ¬(body.getD i default).kind=4:=by simpa using h5
    refine gA rfl ?_;exact⟨h3,dc hJ h3 ((if_neg (by rw[h4];simp)).trans (if_neg (fun h=>h5 h.1))),[],wk rfl rfl rfl ⟨.refl _,rfl, .refl _,rfl, .refl _,rfl, .refl _,rfl, .refl _,rfl, .refl _,rfl, .refl _,rfl,trivial⟩ (hM rfl rfl rfl trivial) rfl⟩
 ·have h3:body.length≤i:=by simpa using h3
  rw[VY h3] at hJ;have hcl2:bK (fun occ=>aW occ) (fun occ=>fun _=>false) body occ=ok:=by rw[hx1,dN hJ]
  refine gA rfl (ax [] (by first|exact .inr rfl|exact .inl rfl) rfl (wk rfl rfl rfl ⟨.refl _,rfl,trivial⟩ (hM rfl (by rw[hcl2]) rfl trivial) rfl))
theorem Uy (occ:List ah) (l:Lit) (hb:l.size≤100000000000):b8 Tryz.prog 172 [ag l.c, .cH (.func 127) [] [.ptr 1 0], .mp 0] [cf (aG occ), .cells [.mp 0]] (.bM [pS (fj (b3 occ) occ l).1,pB (fj (b3 occ) occ l).2]) [(0,some (cf (aG occ))),(1,some (.cells [.mp 0]))] 2:=by
 have hsz:=l.size_eq;have hl1:=bu occ l.left.var;have hl2:=bu occ l.right.var;refine aF ae Tryz.func172 rfl (by decide) Tryz.ntmps172 rfl (by simp) ?_;refine gA rfl ?_;refine VJ (fun h1=>?_) (fun h1=>?_);rotate_left
 ·have h1: ¬l.kind=3:=by simpa using h1
  refine gA rfl (ax [] (by first|exact .inr rfl|exact .inl rfl) rfl (wk rfl rfl rfl ⟨.of_eq (nv (a:=(VT,false)) (by rw[fj,if_pos (.inl h1)])),rfl,trivial⟩ (hM rfl rfl rfl ⟨⟨_,rfl, .of_eq rfl⟩,VI rfl,rfl,trivial⟩) rfl))
 have h1:l.kind=3:=by simpa using h1
 refine gA rfl ?_;refine VJ (fun h2=>?_) (fun h2=>?_)
 ·have h2: ¬l.op=1:=by simpa using h2
  refine gA rfl (ax [] (by first|exact .inr rfl|exact .inl rfl) rfl (wk rfl rfl rfl ⟨.of_eq (nv (a:=(VT,false)) (by rw[fj,if_pos (.inr h2)])),rfl,trivial⟩ (hM rfl rfl rfl ⟨⟨_,rfl, .of_eq rfl⟩,VI rfl,rfl,trivial⟩) rfl))
 have h2:l.op=1:=by simpa using h2
 have e1:fj (b3 occ) occ l=if l.left.kind=1∧c4 occ l.left.var=false∧(b3 occ) l.right=true then(l.left.var,true) else if l.right.kind=1∧c4 occ l.right.var=false∧(b3 occ) l.left=true then(l.right.var,true) else(VT,false):=by
  rw[fj,if_neg (by simp[h1,h2])]
 repeat' (first
  |(refine gA rfl (VJ (fun _=>?_) (fun _=>?_)))
  |(refine gA rfl (aK [0,1] (d76 occ l.left (by omega)) rfl rfl rfl rfl rfl rfl rfl rfl ?_))
  |(refine gA rfl (aK [0,1] (d76 occ l.right (by omega)) rfl rfl rfl rfl rfl rfl rfl rfl ?_))
  |fail)
 all_goals first
  |(refine gA rfl (ax [] (.inr rfl) rfl (wk rfl rfl rfl ⟨.of_eq (nv (a:=(VT,false)) ?_),rfl,trivial⟩ (hM rfl rfl rfl ⟨⟨_,rfl, .of_eq rfl⟩,VI rfl,rfl,trivial⟩) rfl));rw[e1];simp only[bU] at*;simp_all;done)
  |(refine gA rfl (ax [] (.inr rfl) rfl (wk rfl rfl rfl ⟨.of_eq (nv (a:=(l.left.var,true)) ?_),rfl,trivial⟩ (hM rfl rfl rfl ⟨⟨_,rfl, .of_eq rfl⟩,VI rfl,rfl,trivial⟩) rfl));rw[e1];simp only[bU] at*;simp_all;done)
  |(refine gA rfl (ax [] (.inr rfl) rfl (wk rfl rfl rfl ⟨.of_eq (nv (a:=(l.right.var,true)) ?_),rfl,trivial⟩ (hM rfl rfl rfl ⟨⟨_,rfl, .of_eq rfl⟩,VI rfl,rfl,trivial⟩) rfl));rw[e1];simp only[bU] at*;simp_all;done)
  |(exfalso;simp_all;done)
theorem Vd (occ:List ah) (body:List Lit) (hb:occ.length+8*Lit.aB body≤100000000000):b8 Tryz.prog 126 [.iv (lits body), .mp 0, .cH (.func 127) [] [.ptr 1 0], .cH (.func 128) [] []] [cf (aG occ), .cells [.mp 0]] (.bM []) [(0,some (cf (aG (bK (fun occ=>b3 occ) (fun occ=>fun _=>false) body occ)))),(1,some (.cells [.mp 0]))] 2:=by
 have hal:=Lit.aI body;have hpl:=eE body;have hcl:=iM body;have hml:=ox (bB body) (occ++body.flatMap bc);refine aF ae Tryz.func126 rfl (by decide) Tryz.ntmps126 rfl (by simp) ?_;refine gA rfl ?_
 refine aL 0 body.length (V1 _) (fun i=>⟨[(0, .iv (lits body)),(1, .mp 0),(2, .cH (.func 127) [] [.ptr 1 0]),(3, .cH (.func 128) [] []),(14, .iv (lits body)),(15,pI body.length),(16,pI i)],[(0,some (cf (aG (occ++(body.take i).flatMap bc)))),(1,some (.cells [.mp 0]))],2⟩) (fun _=>True) [] trivial
  (wk rfl rfl rfl ⟨.refl _,rfl, .refl _,rfl, .refl _,rfl, .refl _,rfl, .refl _,rfl, .refl _,rfl, .refl _,rfl,trivial⟩ (hM rfl (by simp) rfl ⟨⟨_,rfl, .of_eq rfl⟩,VI rfl,rfl,trivial⟩) rfl) fun i hi _=>?_
 refine gA rfl ?_;refine VJ (fun h1=>?_) (fun h1=>?_)
 ·have h1:i<body.length:=by simpa using h1
  have hs:=bH (f:=bc) h1;have hn:=Lit.dd body i h1;have hv:=eE (body.take i);have hsz:=(body.getD i default).size_eq;refine gA rfl ?_;refine VJ (fun h2=>?_) (fun h2=>?_)
  ·have h2:(body.getD i default).kind=1:=by simpa using h2
   rw[show bc (body.getD i default)=_ from if_pos h2] at hs;refine gA rfl (aK [0] (d88 (occ++(body.take i).flatMap bc) (body.getD i default).atom (by rw[VL];omega)) rfl rfl rfl rfl rfl rfl rfl rfl ?_);refine gA rfl ?_;exact⟨h1,trivial,[],wk rfl rfl rfl ⟨.refl _,rfl, .refl _,rfl, .refl _,rfl, .refl _,rfl, .refl _,rfl, .refl _,rfl, .refl _,rfl,trivial⟩ (hM rfl (by rw[hs,VU]) rfl ⟨⟨_,rfl, .of_eq rfl⟩,VI rfl,rfl,trivial⟩) rfl⟩
  ·have h2: ¬(body.getD i default).kind=1:=by simpa using h2
   rw[show bc (body.getD i default)=_ from if_neg h2,WL] at hs;refine gA rfl ?_;exact⟨h1,trivial,[],wk rfl rfl rfl ⟨.refl _,rfl, .refl _,rfl, .refl _,rfl, .refl _,rfl, .refl _,rfl, .refl _,rfl, .refl _,rfl,trivial⟩ (hM rfl (by rw[hs]) rfl ⟨⟨_,rfl, .of_eq rfl⟩,VI rfl,rfl,trivial⟩) rfl⟩
 have h1:body.length≤i:=by simpa using h1
 have e0:body.take i=body:=VY h1;rw[e0];refine gA rfl ?_
 refine lZ (σ:={x:List ah×Nat//bK (fun occ=>b3 occ) (fun occ=>fun _=>false) body occ=cP (fun occ=>b3 occ) (fun occ=>fun _=>false) body (x.2+1) x.1∧ck (bB body) x.1≤x.2∧x.1.length+ck (bB body) x.1≤(occ++body.flatMap bc).length+ck (bB body) (occ++body.flatMap bc)})
  (fun x=>⟨[(0, .iv (lits body)),(1, .mp 0),(2, .cH (.func 127) [] [.ptr 1 0]),(3, .cH (.func 128) [] [])],[(0,some (cf (aG x.1.1))),(1,some (.cells [.mp 0]))],2⟩) (fun x=>ck (bB body) x.1.1)
  ⟨(occ++body.flatMap bc,3*body.length),rfl,by dsimp only;omega,VZ _⟩ [] (wk rfl rfl rfl ⟨.refl _,rfl, .refl _,rfl, .refl _,rfl, .refl _,rfl,trivial⟩ (hM rfl rfl rfl ⟨⟨_,rfl, .of_eq rfl⟩,VI rfl,rfl,trivial⟩) rfl) ?_
 rintro⟨⟨ok,f⟩,hx1,hx2,hx3⟩
 dsimp only at hx1 hx2 hx3 ⊢;rw[VL] at hx3;refine gA rfl ?_
 refine aL 0 body.length (V1 _) (fun i=>⟨[(0, .iv (lits body)),(1, .mp 0),(2, .cH (.func 127) [] [.ptr 1 0]),(3, .cH (.func 128) [] []),(28, .iv (lits body)),(29,pI body.length),(30,pI i)],[(0,some (cf (aG ok))),(1,some (.cells [.mp 0]))],2⟩) (fun i=>bJ ((fun occ=>b3 occ) ok) ((fun occ=>fun _=>false) ok) ok (body.take i)=none) [] rfl
  (wk rfl rfl rfl ⟨.refl _,rfl, .refl _,rfl, .refl _,rfl, .refl _,rfl, .refl _,rfl, .refl _,rfl, .refl _,rfl,trivial⟩ (hM rfl rfl rfl ⟨⟨_,rfl, .of_eq rfl⟩,VI rfl,rfl,trivial⟩) rfl) fun i hi hJ=>?_
 refine gA rfl ?_;refine VJ (fun h3=>?_) (fun h3=>?_)
 ·have h3:i<body.length:=by simpa using h3
  have hsl:=Lit.bS body i h3;have hag:=(body.getD i default).jt
  have found: ∀v,kS ((fun occ=>b3 occ) ok) ((fun occ=>fun _=>false) ok) ok (body.getD i default)=some v→bK (fun occ=>b3 occ) (fun occ=>fun _=>false) body occ=cP (fun occ=>b3 occ) (fun occ=>fun _=>false) body (f-1+1) (ok++ [v])∧ck (bB body) (ok++ [v])≤f-1∧
    (ok++ [v]).length+ck (bB body) (ok++ [v])≤(occ++body.flatMap bc).length+ck (bB body) (occ++body.flatMap bc)∧ck (bB body) (ok++ [v])<ck (bB body) ok:=by
   intro v hv;have hf:=nU hJ h3 hv;obtain⟨g1,g2⟩:=ji hf;have hlt:=ow g1 g2
   have hlt2:ck (bB body) (ok++ [v])=ck (bB body) (eV ok v):=by
    unfold ck;congr 2
    funext x
    congr 1;rw[WK,bw,bw,c6,V3,VX]
   have hf1:f-1+1=f:=by omega
   refine⟨?_,by omega,?_,by omega⟩
   ·rw[hx1,dM hf,hf1]
   ·rw[VL,VL,WM];omega
  have hlk1:=bu ok (fj (b3 ok) ok (body.getD i default)).1;have hct1:=fx ok (fj (b3 ok) ok (body.getD i default)).1;have hlk2:=bu ok (body.getD i default).bs;have hct2:=fx ok (body.getD i default).bs;refine gA rfl (aK [0,1] (Uy ok (body.getD i default) (by omega)) rfl rfl rfl rfl rfl rfl rfl rfl ?_);refine gA rfl ?_;refine VJ (fun h4=>?_) (fun h4=>?_)
  ·obtain⟨g1,g2,g3,g4⟩:=found _ (if_pos h4)
   refine gA rfl ?_;exact⟨⟨(_,f-1),g1,g2,g3⟩,[],g4,wk rfl rfl rfl ⟨.refl _,rfl, .refl _,rfl, .refl _,rfl, .refl _,rfl,trivial⟩ (hM rfl (by dsimp only;rw[cS];rfl) rfl ⟨⟨_,rfl, .of_eq rfl⟩,VI rfl,rfl,trivial⟩) rfl⟩
  ·refine gA rfl ?_
   refine VJ (fun h5=>?_) (fun h5=>?_)
   ·have h5:(body.getD i default).kind=4:=by simpa using h5
    refine gA rfl ?_;refine VJ (fun h6=>?_) (fun h6=>?_)
    ·have h6:c4 ok (body.getD i default).bs=false:=by rw[bU];simpa using h6
     refine gA rfl (aj (c77 (body.getD i default).agg) rfl rfl rfl rfl rfl rfl ?_);refine gA rfl ?_;refine VJ (fun h7=>?_) (fun h7=>?_)
     ·obtain⟨g1,g2,g3,g4⟩:=found _ ((if_neg (by rw[h4];simp)).trans (if_pos ⟨h5,h6,h7⟩))
      refine gA rfl ?_;exact⟨⟨(_,f-1),g1,g2,g3⟩,[],g4,wk rfl rfl rfl ⟨.refl _,rfl, .refl _,rfl, .refl _,rfl, .refl _,rfl,trivial⟩ (hM rfl (by dsimp only;rw[cS];rfl) rfl ⟨⟨_,rfl, .of_eq rfl⟩,VI rfl,rfl,trivial⟩) rfl⟩
     ·refine gA rfl ?_
      exact⟨h3,dc hJ h3 ((if_neg (by rw[h4];simp)).trans (if_neg (fun h=>nomatch (h.2.2.symm.trans h7)))),[],wk rfl rfl rfl ⟨.refl _,rfl, .refl _,rfl, .refl _,rfl, .refl _,rfl, .refl _,rfl, .refl _,rfl, .refl _,rfl,trivial⟩ (hM rfl rfl rfl ⟨⟨_,rfl, .of_eq rfl⟩,VI rfl,rfl,trivial⟩) rfl⟩
    ·have h6:c4 ok (body.getD i default).bs=true:=by rw[bU];simpa using h6
     refine gA rfl ?_;exact⟨h3,dc hJ h3 ((if_neg (by rw[h4];simp)).trans (if_neg (by rw[h6];simp))),[],wk rfl rfl rfl ⟨.refl _,rfl, .refl _,rfl, .refl _,rfl, .refl _,rfl, .refl _,rfl, .refl _,rfl, .refl _,rfl,trivial⟩ (hM rfl rfl rfl ⟨⟨_,rfl, .of_eq rfl⟩,VI rfl,rfl,trivial⟩) rfl⟩
   ·have h5: ¬(body.getD i default).kind=4:=by simpa using h5
    refine gA rfl ?_;exact⟨h3,dc hJ h3 ((if_neg (by rw[h4];simp)).trans (if_neg (fun h=>h5 h.1))),[],wk rfl rfl rfl ⟨.refl _,rfl, .refl _,rfl, .refl _,rfl, .refl _,rfl, .refl _,rfl, .refl _,rfl, .refl _,rfl,trivial⟩ (hM rfl rfl rfl ⟨⟨_,rfl, .of_eq rfl⟩,VI rfl,rfl,trivial⟩) rfl⟩
 ·have h3:body.length≤i:=by simpa using h3
  rw[VY h3] at hJ;have hcl2:bK (fun occ=>b3 occ) (fun occ=>fun _=>false) body occ=ok:=by rw[hx1,dN hJ]
  refine gA rfl (ax [] (by first|exact .inr rfl|exact .inl rfl) rfl (wk rfl rfl rfl ⟨.refl _,rfl,trivial⟩ (hM rfl (by rw[hcl2]) rfl ⟨⟨_,rfl, .of_eq rfl⟩,VI rfl,rfl,trivial⟩) rfl))
theorem Ux (r:aw) (occ:List ah) (l:Lit) (hb:l.size≤100000000000):b8 Tryz.prog 172 [ag l.c, .cH (.func 227) [.mp 0] [], .mp 0] [cf (aG occ), .cells [.iv (b6 r)], .cells [.mp 0]] (.bM [pS (fj (aW occ) occ l).1,pB (fj (aW occ) occ l).2]) [(0,some (cf (aG occ))),(1,some (.cells [.iv (b6 r)])),(2,some (.cells [.mp 0]))] 3:=by
 have hsz:=l.size_eq;have hl1:=bu occ l.left.var;have hl2:=bu occ l.right.var;refine aF ae Tryz.func172 rfl (by decide) Tryz.ntmps172 rfl (by simp) ?_;refine gA rfl ?_;refine VJ (fun h1=>?_) (fun h1=>?_);rotate_left
 ·have h1: ¬l.kind=3:=by simpa using h1
  refine gA rfl (ax [] (by first|exact .inr rfl|exact .inl rfl) rfl (wk rfl rfl rfl ⟨.of_eq (nv (a:=(VT,false)) (by rw[fj,if_pos (.inl h1)])),rfl,trivial⟩ (hM rfl rfl rfl ⟨⟨_,rfl, .of_eq rfl⟩,VI rfl,rfl,⟨_,rfl, .of_eq rfl⟩,VI rfl,rfl,trivial⟩) rfl))
 have h1:l.kind=3:=by simpa using h1
 refine gA rfl ?_;refine VJ (fun h2=>?_) (fun h2=>?_)
 ·have h2: ¬l.op=1:=by simpa using h2
  refine gA rfl (ax [] (by first|exact .inr rfl|exact .inl rfl) rfl (wk rfl rfl rfl ⟨.of_eq (nv (a:=(VT,false)) (by rw[fj,if_pos (.inr h2)])),rfl,trivial⟩ (hM rfl rfl rfl ⟨⟨_,rfl, .of_eq rfl⟩,VI rfl,rfl,⟨_,rfl, .of_eq rfl⟩,VI rfl,rfl,trivial⟩) rfl))
 have h2:l.op=1:=by simpa using h2
 have e1:fj (aW occ) occ l=if l.left.kind=1∧c4 occ l.left.var=false∧(aW occ) l.right=true then(l.left.var,true) else if l.right.kind=1∧c4 occ l.right.var=false∧(aW occ) l.left=true then(l.right.var,true) else(VT,false):=by
  rw[fj,if_neg (by simp[h1,h2])]
 repeat' (first
  |(refine gA rfl (VJ (fun _=>?_) (fun _=>?_)))
  |(refine gA rfl (aK [0] (d125 occ l.left (by omega)) rfl rfl rfl rfl rfl rfl rfl rfl ?_))
  |(refine gA rfl (aK [0] (d125 occ l.right (by omega)) rfl rfl rfl rfl rfl rfl rfl rfl ?_))
  |fail)
 all_goals first
  |(refine gA rfl (ax [] (.inr rfl) rfl (wk rfl rfl rfl ⟨.of_eq (nv (a:=(VT,false)) ?_),rfl,trivial⟩ (hM rfl rfl rfl ⟨⟨_,rfl, .of_eq rfl⟩,VI rfl,rfl,⟨_,rfl, .of_eq rfl⟩,VI rfl,rfl,trivial⟩) rfl));rw[e1];simp only[bU] at*;simp_all;done)
  |(refine gA rfl (ax [] (.inr rfl) rfl (wk rfl rfl rfl ⟨.of_eq (nv (a:=(l.left.var,true)) ?_),rfl,trivial⟩ (hM rfl rfl rfl ⟨⟨_,rfl, .of_eq rfl⟩,VI rfl,rfl,⟨_,rfl, .of_eq rfl⟩,VI rfl,rfl,trivial⟩) rfl));rw[e1];simp only[bU] at*;simp_all;done)
  |(refine gA rfl (ax [] (.inr rfl) rfl (wk rfl rfl rfl ⟨.of_eq (nv (a:=(l.right.var,true)) ?_),rfl,trivial⟩ (hM rfl rfl rfl ⟨⟨_,rfl, .of_eq rfl⟩,VI rfl,rfl,⟨_,rfl, .of_eq rfl⟩,VI rfl,rfl,trivial⟩) rfl));rw[e1];simp only[bU] at*;simp_all;done)
  |(exfalso;simp_all;done)
theorem Vc (r:aw) (occ:List ah) (body:List Lit) (hb:occ.length+8*Lit.aB body≤100000000000):b8 Tryz.prog 126 [.iv (lits body), .mp 0, .cH (.func 227) [.mp 0] [], .cH (.func 228) [] [.ptr 1 0, .ptr 2 0]] [cf (aG occ), .cells [.iv (b6 r)], .cells [.mp 0]] (.bM []) [(0,some (cf (aG (bK (fun occ=>aW occ) (fun occ=>lQ (aD r) occ) body occ)))),(1,some (.cells [.iv (b6 r)])),(2,some (.cells [.mp 0]))] 3:=by
 have hal:=Lit.aI body;have hpl:=eE body;have hcl:=iM body;have hml:=ox (bB body) (occ++body.flatMap bc);refine aF ae Tryz.func126 rfl (by decide) Tryz.ntmps126 rfl (by simp) ?_;refine gA rfl ?_
 refine aL 0 body.length (V1 _) (fun i=>⟨[(0, .iv (lits body)),(1, .mp 0),(2, .cH (.func 227) [.mp 0] []),(3, .cH (.func 228) [] [.ptr 1 0, .ptr 2 0]),(14, .iv (lits body)),(15,pI body.length),(16,pI i)],[(0,some (cf (aG (occ++(body.take i).flatMap bc)))),(1,some (.cells [.iv (b6 r)])),(2,some (.cells [.mp 0]))],3⟩) (fun _=>True) [] trivial
  (wk rfl rfl rfl ⟨.refl _,rfl, .refl _,rfl, .refl _,rfl, .refl _,rfl, .refl _,rfl, .refl _,rfl, .refl _,rfl,trivial⟩ (hM rfl (by simp) rfl ⟨⟨_,rfl, .of_eq rfl⟩,VI rfl,rfl,⟨_,rfl, .of_eq rfl⟩,VI rfl,rfl,trivial⟩) rfl) fun i hi _=>?_
 refine gA rfl ?_;refine VJ (fun h1=>?_) (fun h1=>?_)
 ·have h1:i<body.length:=by simpa using h1
  have hs:=bH (f:=bc) h1;have hn:=Lit.dd body i h1;have hv:=eE (body.take i);have hsz:=(body.getD i default).size_eq;refine gA rfl ?_;refine VJ (fun h2=>?_) (fun h2=>?_)
  ·have h2:(body.getD i default).kind=1:=by simpa using h2
   rw[show bc (body.getD i default)=_ from if_pos h2] at hs;refine gA rfl (aK [0] (d88 (occ++(body.take i).flatMap bc) (body.getD i default).atom (by rw[VL];omega)) rfl rfl rfl rfl rfl rfl rfl rfl ?_);refine gA rfl ?_;exact⟨h1,trivial,[],wk rfl rfl rfl ⟨.refl _,rfl, .refl _,rfl, .refl _,rfl, .refl _,rfl, .refl _,rfl, .refl _,rfl, .refl _,rfl,trivial⟩ (hM rfl (by rw[hs,VU]) rfl ⟨⟨_,rfl, .of_eq rfl⟩,VI rfl,rfl,⟨_,rfl, .of_eq rfl⟩,VI rfl,rfl,trivial⟩) rfl⟩
  ·have h2: ¬(body.getD i default).kind=1:=by simpa using h2
   rw[show bc (body.getD i default)=_ from if_neg h2,WL] at hs;refine gA rfl ?_;exact⟨h1,trivial,[],wk rfl rfl rfl ⟨.refl _,rfl, .refl _,rfl, .refl _,rfl, .refl _,rfl, .refl _,rfl, .refl _,rfl, .refl _,rfl,trivial⟩ (hM rfl (by rw[hs]) rfl ⟨⟨_,rfl, .of_eq rfl⟩,VI rfl,rfl,⟨_,rfl, .of_eq rfl⟩,VI rfl,rfl,trivial⟩) rfl⟩
 have h1:body.length≤i:=by simpa using h1
 have e0:body.take i=body:=VY h1;rw[e0];refine gA rfl ?_
 refine lZ (σ:={x:List ah×Nat//bK (fun occ=>aW occ) (fun occ=>lQ (aD r) occ) body occ=cP (fun occ=>aW occ) (fun occ=>lQ (aD r) occ) body (x.2+1) x.1∧ck (bB body) x.1≤x.2∧x.1.length+ck (bB body) x.1≤(occ++body.flatMap bc).length+ck (bB body) (occ++body.flatMap bc)})
  (fun x=>⟨[(0, .iv (lits body)),(1, .mp 0),(2, .cH (.func 227) [.mp 0] []),(3, .cH (.func 228) [] [.ptr 1 0, .ptr 2 0])],[(0,some (cf (aG x.1.1))),(1,some (.cells [.iv (b6 r)])),(2,some (.cells [.mp 0]))],3⟩) (fun x=>ck (bB body) x.1.1)
  ⟨(occ++body.flatMap bc,3*body.length),rfl,by dsimp only;omega,VZ _⟩ [] (wk rfl rfl rfl ⟨.refl _,rfl, .refl _,rfl, .refl _,rfl, .refl _,rfl,trivial⟩ (hM rfl rfl rfl ⟨⟨_,rfl, .of_eq rfl⟩,VI rfl,rfl,⟨_,rfl, .of_eq rfl⟩,VI rfl,rfl,trivial⟩) rfl) ?_
 rintro⟨⟨ok,f⟩,hx1,hx2,hx3⟩
 dsimp only at hx1 hx2 hx3 ⊢;rw[VL] at hx3;refine gA rfl ?_
 refine aL 0 body.length (V1 _) (fun i=>⟨[(0, .iv (lits body)),(1, .mp 0),(2, .cH (.func 227) [.mp 0] []),(3, .cH (.func 228) [] [.ptr 1 0, .ptr 2 0]),(28, .iv (lits body)),(29,pI body.length),(30,pI i)],[(0,some (cf (aG ok))),(1,some (.cells [.iv (b6 r)])),(2,some (.cells [.mp 0]))],3⟩) (fun i=>bJ ((fun occ=>aW occ) ok) ((fun occ=>lQ (aD r) occ) ok) ok (body.take i)=none) [] rfl
  (wk rfl rfl rfl ⟨.refl _,rfl, .refl _,rfl, .refl _,rfl, .refl _,rfl, .refl _,rfl, .refl _,rfl, .refl _,rfl,trivial⟩ (hM rfl rfl rfl ⟨⟨_,rfl, .of_eq rfl⟩,VI rfl,rfl,⟨_,rfl, .of_eq rfl⟩,VI rfl,rfl,trivial⟩) rfl) fun i hi hJ=>?_
 refine gA rfl ?_;refine VJ (fun h3=>?_) (fun h3=>?_)
 ·have h3:i<body.length:=by simpa using h3
  have hsl:=Lit.bS body i h3;have hag:=(body.getD i default).jt
  have found: ∀v,kS ((fun occ=>aW occ) ok) ((fun occ=>lQ (aD r) occ) ok) ok (body.getD i default)=some v→bK (fun occ=>aW occ) (fun occ=>lQ (aD r) occ) body occ=cP (fun occ=>aW occ) (fun occ=>lQ (aD r) occ) body (f-1+1) (ok++ [v])∧ck (bB body) (ok++ [v])≤f-1∧
    (ok++ [v]).length+ck (bB body) (ok++ [v])≤(occ++body.flatMap bc).length+ck (bB body) (occ++body.flatMap bc)∧ck (bB body) (ok++ [v])<ck (bB body) ok:=by
   intro v hv;have hf:=nU hJ h3 hv;obtain⟨g1,g2⟩:=ji hf;have hlt:=ow g1 g2
   have hlt2:ck (bB body) (ok++ [v])=ck (bB body) (eV ok v):=by
    unfold ck;congr 2
    funext x
    congr 1;rw[WK,bw,bw,c6,V3,VX]
   have hf1:f-1+1=f:=by omega
   refine⟨?_,by omega,?_,by omega⟩
   ·rw[hx1,dM hf,hf1]
   ·rw[VL,VL,WM];omega
  have hlk1:=bu ok (fj (aW ok) ok (body.getD i default)).1;have hct1:=fx ok (fj (aW ok) ok (body.getD i default)).1;have hlk2:=bu ok (body.getD i default).bs;have hct2:=fx ok (body.getD i default).bs;refine gA rfl (aK [0,1,2] (Ux r ok (body.getD i default) (by omega)) rfl rfl rfl rfl rfl rfl rfl rfl ?_);refine gA rfl ?_;refine VJ (fun h4=>?_) (fun h4=>?_)
  ·obtain⟨g1,g2,g3,g4⟩:=found _ (if_pos h4)
   refine gA rfl ?_;exact⟨⟨(_,f-1),g1,g2,g3⟩,[],g4,wk rfl rfl rfl ⟨.refl _,rfl, .refl _,rfl, .refl _,rfl, .refl _,rfl,trivial⟩ (hM rfl (by dsimp only;rw[cS];rfl) rfl ⟨⟨_,rfl, .of_eq rfl⟩,VI rfl,rfl,⟨_,rfl, .of_eq rfl⟩,VI rfl,rfl,trivial⟩) rfl⟩
  ·refine gA rfl ?_
   refine VJ (fun h5=>?_) (fun h5=>?_)
   ·have h5:(body.getD i default).kind=4:=by simpa using h5
    refine gA rfl ?_;refine VJ (fun h6=>?_) (fun h6=>?_)
    ·have h6:c4 ok (body.getD i default).bs=false:=by rw[bU];simpa using h6
     refine gA rfl (aK [0,1,2] (d126 r ok (body.getD i default).agg (by omega)) rfl rfl rfl rfl rfl rfl rfl rfl ?_);refine gA rfl ?_;refine VJ (fun h7=>?_) (fun h7=>?_)
     ·obtain⟨g1,g2,g3,g4⟩:=found _ ((if_neg (by rw[h4];simp)).trans (if_pos ⟨h5,h6,h7⟩))
      refine gA rfl ?_;exact⟨⟨(_,f-1),g1,g2,g3⟩,[],g4,wk rfl rfl rfl ⟨.refl _,rfl, .refl _,rfl, .refl _,rfl, .refl _,rfl,trivial⟩ (hM rfl (by dsimp only;rw[cS];rfl) rfl ⟨⟨_,rfl, .of_eq rfl⟩,VI rfl,rfl,⟨_,rfl, .of_eq rfl⟩,VI rfl,rfl,trivial⟩) rfl⟩
     ·refine gA rfl ?_
      exact⟨h3,dc hJ h3 ((if_neg (by rw[h4];simp)).trans (if_neg (fun h=>nomatch (h.2.2.symm.trans h7)))),[],wk rfl rfl rfl ⟨.refl _,rfl, .refl _,rfl, .refl _,rfl, .refl _,rfl, .refl _,rfl, .refl _,rfl, .refl _,rfl,trivial⟩ (hM rfl rfl rfl ⟨⟨_,rfl, .of_eq rfl⟩,VI rfl,rfl,⟨_,rfl, .of_eq rfl⟩,VI rfl,rfl,trivial⟩) rfl⟩
    ·have h6:c4 ok (body.getD i default).bs=true:=by rw[bU];simpa using h6
     refine gA rfl ?_;exact⟨h3,dc hJ h3 ((if_neg (by rw[h4];simp)).trans (if_neg (by rw[h6];simp))),[],wk rfl rfl rfl ⟨.refl _,rfl, .refl _,rfl, .refl _,rfl, .refl _,rfl, .refl _,rfl, .refl _,rfl, .refl _,rfl,trivial⟩ (hM rfl rfl rfl ⟨⟨_,rfl, .of_eq rfl⟩,VI rfl,rfl,⟨_,rfl, .of_eq rfl⟩,VI rfl,rfl,trivial⟩) rfl⟩
   ·have h5: ¬(body.getD i default).kind=4:=by simpa using h5
    refine gA rfl ?_;exact⟨h3,dc hJ h3 ((if_neg (by rw[h4];simp)).trans (if_neg (fun h=>h5 h.1))),[],wk rfl rfl rfl ⟨.refl _,rfl, .refl _,rfl, .refl _,rfl, .refl _,rfl, .refl _,rfl, .refl _,rfl, .refl _,rfl,trivial⟩ (hM rfl rfl rfl ⟨⟨_,rfl, .of_eq rfl⟩,VI rfl,rfl,⟨_,rfl, .of_eq rfl⟩,VI rfl,rfl,trivial⟩) rfl⟩
 ·have h3:body.length≤i:=by simpa using h3
  rw[VY h3] at hJ;have hcl2:bK (fun occ=>aW occ) (fun occ=>lQ (aD r) occ) body occ=ok:=by rw[hx1,dN hJ]
  refine gA rfl (ax [] (by first|exact .inr rfl|exact .inl rfl) rfl (wk rfl rfl rfl ⟨.refl _,rfl,trivial⟩ (hM rfl (by rw[hcl2]) rfl ⟨⟨_,rfl, .of_eq rfl⟩,VI rfl,rfl,⟨_,rfl, .of_eq rfl⟩,VI rfl,rfl,trivial⟩) rfl))
theorem qR:eP .ej (cf (aG [])):=⟨id,fun M N U w j hj=>⟨#[],0,hj,⟨rfl,by simp[aG],by simp[aG],by simp,by simp⟩,eL M⟩⟩
def bG (r:aw):List ah:=bK (fun occ=>aW occ) (fun occ=>lQ (aD r) occ) r.body []
theorem Uu (r:aw) (hb:8*Lit.aB r.body≤100000000000):b8 Tryz.prog 126 [.iv (lits r.body), .mp 0, .cH (.func 227) [.mp 0] [], .cH (.func 228) [] [.ptr 1 0, .ptr 2 0]] [.ej, .cells [.iv (b6 r)], .cells [.mp 0]] (.bM []) [(0,some (cf (aG (bG r)))),(1,some (.cells [.iv (b6 r)])),(2,some (.cells [.mp 0]))] 3:=
 b8.OX (Vc r [] r.body (by simp;omega)) ⟨qR, .refl _, .refl _,trivial⟩
theorem d73 (r:aw) (hb:8*r.size≤100000000000):b8 Tryz.prog 202 [.iv (b6 r)] [] (.mp 0) [(0,some (cf (aG (bG r))))] 1:=by
 unfold aw.size at hb;refine aF ae Tryz.func202 rfl (by decide) Tryz.ntmps202 rfl (by simp) ?_;refine gA rfl (cz ae [1,0,2] (Uu r (by omega)) rfl rfl rfl rfl rfl rfl rfl rfl rfl rfl rfl rfl (by(repeat' (first|exact trivial|exact rfl|exact ak.refl _|exact ak.bk (by assumption)|apply VJ))<;>first|omega|(simp only[VQ];omega)|(simp;done)|(simp;omega)) rfl (by(repeat' (first|exact trivial|exact rfl|exact ak.refl _|exact ak.bk (by assumption)|apply VJ))<;>first|omega|(simp only[VQ];omega)|(simp;done)|(simp;omega)) ?_);refine gA rfl (ax [1] (by first|exact .inr rfl|exact .inl rfl) rfl (wk rfl rfl rfl ⟨.refl _,rfl,trivial⟩ (hM rfl rfl rfl trivial) rfl))
def R1 (p:List ah→Prop) (q:PV) (h:AH) (n:Nat):Prop:= ∃ok,p ok∧q= .mp 0∧h=[(0,some (cf (aG ok)))]∧n=1
def Db (r:aw) (a:eZ) (occ:List ah):Prop:=occ.Nodup∧ ∀x,x∈occ↔x∈aZ a∧x∈aD r
theorem ub {l m:List ah} (h:l.Nodup) (hs: ∀x∈l,x∈m):l.length≤m.length:=WJ h hs
theorem ju (a:eZ):(aZ a).length≤a.size:=by
 have h1:=jG a.body;have h2:=fM a.ig;unfold aZ eZ.size;rw[VL];split
 ·rw[XH];omega
 ·omega
theorem O5 (a:eZ) (hb:a.size≤100000000000):b8 Tryz.prog 196 [ag a.c1] [] (.mp 0) [(0,some (cf (aG (aZ a))))] 1:=b8.le (d127 a (by omega)) ⟨a.Ug,trivial⟩
theorem d161 (r:aw) (a:eZ) (hb:16*a.size≤100000000000):Al.Fn Tryz.prog 203 [.iv (b6 r),ag a.c] [] (R1 fun ok=> ∃occ,Db r a occ∧ok=bK (fun occ=>aW occ) (fun _=>fun _=>false) a.body occ):=by
 have hal:=ju a;have hbs:Lit.aB a.body≤a.size:=by unfold eZ.size;omega
 refine Al.Fn.le (args:=[.iv (b6 r),ag a.c1]) ?_ ⟨.refl _,a.zE,trivial⟩;refine sB ae Tryz.func203 rfl (by decide) Tryz.ntmps203 rfl (by simp) ?_;refine gA rfl (aK [] (O5 a (by omega)) rfl rfl rfl rfl rfl rfl rfl rfl ?_);refine gA rfl ?_
 let pick:List Nat→List ah:=fun vs=>(vs.reverse.filterMap fun j=>((aG (aZ a))[j]?).bind fun x=>if c4 (aD r) x.1 then some x.1 else none)
 refine eJ (aG (aZ a)) (fun vs=>⟨[(0, .iv (b6 r)),(3, .ptr 0 0),(5, .mp 1),(10, .ptr 3 0)],[(0,some (aE a.c1)),(1,some (cf (aG (pick vs)))),(3,some (.bt .str sE (aG (aZ a)) vs none))],4⟩)
  (fun vs=>(pick vs).Nodup∧ ∀x,x∈pick vs↔x∈aD r∧ ∃j∈vs,∃y,(aG (aZ a))[j]? =some y∧y.1=x) [] ⟨WB,by simp[pick]⟩
  (wk rfl rfl rfl ⟨.refl _,rfl, .refl _,rfl, .refl _,rfl, .refl _,rfl,trivial⟩ (hC rfl rfl rfl (Dc rfl eL rfl (hI rfl rfl (.inl rfl) rfl trivial))) rfl) fun vs hJ=>?_
 obtain⟨hJ1,hJ2⟩:=hJ
 have hpl:(pick vs).length≤(aZ a).length:=ub hJ1 fun x hx=>by
  obtain⟨_,j,_,y,h2,rfl⟩:=(hJ2 x).1 hx;exact qS h2
 refine lB rfl trivial (db rfl rfl rfl rfl rfl (by decide) (fun hall=>?_) fun j x hx hj=>?_)
 ·have hio:Db r a (pick vs):=⟨hJ1,fun x=>by
   rw[hJ2];constructor
   ·rintro⟨h1,j,h2,y,h3,rfl⟩
    exact⟨qS h3,h1⟩
   ·rintro⟨h1,h2⟩
    refine⟨h2,?_⟩;obtain⟨y,hy,rfl⟩:=Wo.1 (((dy (aZ a)).2 x).2 h1);obtain⟨j,hj⟩:=WE hy
    exact⟨j,hall j (VO.1 hj).1,y,hj,rfl⟩⟩
  refine gA rfl (aK [1] (Ve (pick vs) a.body (by omega)) rfl rfl rfl rfl rfl rfl rfl rfl ?_);refine lB rfl trivial (zW [1] (.inr rfl) rfl ⟨_,⟨pick vs,hio,rfl⟩,rfl,rfl,rfl⟩ (wk rfl rfl rfl ⟨.refl _,rfl,trivial⟩ (hM rfl rfl rfl trivial) rfl))
 ·have h5:=bU (occ:=aD r) (s:=x.1)
  have h7:=bu (aD r) x.1;have h8:=bu (pick vs) x.1;have h9:=fx (pick vs) x.1
  have fresh:x.1∉pick vs:=fun h=>by
   obtain⟨_,i,hi,y,h2,h3⟩:=(hJ2 x.1).1 h;have hnd:=(dy (aZ a)).1
   have:i=j:=by
    have hi1:=(VO.1 h2)
    have hj1:=(VO.1 hx)
    obtain⟨hi1,hi2⟩:=hi1;obtain⟨hj1,hj2⟩:=hj1;refine(X4 (i:=i) (j:=j) (h₀:=by rw[Wr];exact hi1) (h₁:=by rw[Wr];exact hj1) hnd).1 ?_;rw[Yi,Yi,hi2,hj2,h3]
   exact hj (this▸hi)
  have hpk:pick (j::vs)=pick vs++if c4 (aD r) x.1 then[x.1] else[]:=by
   simp only[pick,List.reverse_cons,YJ,YR,List.filterMap_nil,hx,Xi];congr 1;cases c4 (aD r) x.1<;>rfl
  have step:(pick (j::vs)).Nodup∧ ∀z,z∈pick (j::vs)↔z∈aD r∧ ∃i∈j::vs,∃y,(aG (aZ a))[i]? =some y∧y.1=z:=by
   rw[hpk];constructor
   ·split
    ·rw[W8]
     refine⟨hJ1,WC.2 ⟨Yh,WB⟩,fun p hp q hq e=>?_⟩;rw[VX] at hq;exact fresh ((e.trans hq)▸hp)
    ·rw[WL];exact hJ1
   ·intro z
    rw[V3,hJ2];constructor
    ·rintro(⟨h1,i,h2,h3⟩|h1)
     ·exact⟨h1,i,V2 _ h2,h3⟩
     ·split at h1
      ·rename_i h2
       rw[VX] at h1;exact⟨h1▸bw.1 h2,j,V8,x,hx,h1.symm⟩
      ·cases h1
    ·rintro⟨h1,i,h2,y,h3,h4⟩
     rcases V4.1 h2 with rfl|h2
     ·rw[hx] at h3;cases h3
      exact .inr (by rw[if_pos (bw.2 (h4▸h1))];simp[h4])
     ·exact .inl ⟨h1,i,h2,y,h3,h4⟩
  refine gA rfl ?_;refine VJ (fun g1=>?_) (fun g1=>?_)
  ·have g1:c4 (aD r) x.1=true:=by
    have:=of_decide_eq_true g1;rw[h5];simp;omega
   rw[g1,if_pos rfl] at hpk;refine gA rfl ?_;exact⟨j,x,hx,hj,step,[],wk rfl rfl rfl ⟨.refl _,rfl, .refl _,rfl, .refl _,rfl, .refl _,rfl,trivial⟩ (hC rfl rfl rfl (hM rfl (by rw[hpk,cS];rfl) rfl (hI rfl rfl (.inr rfl) rfl trivial))) rfl⟩
  ·have g1:c4 (aD r) x.1=false:=by
    have:=of_decide_eq_false g1;rw[h5];simp;omega
   rw[g1,if_neg (by simp),WL] at hpk;refine gA rfl ?_;exact⟨j,x,hx,hj,step,[],wk rfl rfl rfl ⟨.refl _,rfl, .refl _,rfl, .refl _,rfl, .refl _,rfl,trivial⟩ (hC rfl rfl rfl (hM rfl (by rw[hpk]) rfl (hI rfl rfl (.inr rfl) rfl trivial))) rfl⟩
end Go.Proofs.YtflegjieadkonaaGreatDoor
namespace Go.Proofs.YtflegjieadkonaaGreatDoor
open Go Go.Al
def ly (s:ah):List UInt8:=s.data.toList
def Rs (l:List UInt8):ah:=⟨l.toArray⟩
theorem qQ (s:ah):Rs (ly s)=s:=by simp[ly,Rs]
theorem IM (l:List UInt8):ly (Rs l)=l:=by simp[ly,Rs]
def c5 (l:List (List UInt8)):List (List UInt8):=l.mergeSort fun x y=>decide (x≤y)
def c9 (l:List ah):List ah:=(c5 (l.map ly)).map Rs
def dD:Prop:=
 (∀(aH off cap:Nat) (ss:List (List UInt8)) (w:World),Go.Sort.Holds encStr w aH off ss.toArray→aH<w.heap.size→ss.length<4611686018427387904→
  Calls Tryz.prog 91 #[.slice (some ⟨aH,off,none⟩) ss.length cap] w fun e w'=>
   e= .returned (.tuple #[])∧ ∃n os,w'=Go.Sort.grow (Go.Sort.putRow encStr (Go.Sort.ahead w n) aH off (ss.mergeSort fun x y=>decide (x≤y)).toArray) os)∧
 (∀(p:Option Addr) (cap:Nat) (w:World),Calls Tryz.prog 91 #[.slice p 0 cap] w fun e w'=>e= .returned (.tuple #[])∧w'=w)
theorem gr (l:List ah):(c9 l).length=l.length:=by simp[c9,c5]
theorem mC:c9 []=[]:=by simp[c9,c5]
theorem o6 (l:List ah):(c9 l).map ly=c5 (l.map ly):=by
 unfold c9;rw[List.map_map];have:ly ∘ Rs=id:=by funext x;exact IM x
 rw[this,List.map_id]
theorem wP {l:List ah} {k:Nat} {e:List PV} (h:(l.map fun x=>(ch x).map PV.iv)[k]? =some e): ∃s,l[k]? =some s∧e=[pS s]:=by
 rw[VV,VW] at h;obtain⟨s,h1,rfl⟩:=h;exact⟨s,h1,rfl⟩
theorem D1 (hS:dD) (l:List ah) (hl:l.length≤1000000000000):b8 Tryz.prog 91 [.sl 0 0 l.length 1] [a7 1 l ch] (.bM []) [(0,some (a7 1 (c9 l) ch))] 1:=by
 refine⟨bL Tryz.func91 rfl (by decide),fun M N w vs hr hlen hv=>?_⟩
 obtain⟨v,rfl⟩: ∃v,vs=[v]:=by
  cases vs with
  |nil=>cases hlen
  |cons v r=>cases r with
   |nil=>exact⟨v,rfl⟩
   |cons a b=>simp at hlen
 have hv0:=hv 0 _ rfl;simp only[List.getD_cons_zero] at hv0;have hob:=hr.obj 0 _ rfl
 cases l with
 |nil=>
  have hvs:v= .slice none 0 0:=by
   generalize hq:PV.sl 0 0 ([]:List ah).length 1=q at hv0
   cases hv0 with
   |sl i off len sz cap h h0 h1 hc he=>cases hq;simp at h0
   |mD i sz h=>rfl
   |_=>cases hq
  subst hvs;refine(hS.2 none 0 w).mono ?_
  rintro e w' ⟨rfl,rfl⟩
  refine⟨_,M,N, .bM [],_,1,rfl,⟨rfl,rfl,rfl⟩,?_,?_, .bM [] #[] rfl (by simp)⟩
  ·rw[mC];exact .refl _ _ _ _ _
  ·rw[mC];exact hr
 |cons s0 r=>
  generalize hL:s0::r=L at*
  have hpos:0<L.length:=by rw[←hL];simp
  obtain⟨cap,hvs⟩: ∃cap,v= .slice (some ⟨N.aH 0,0,none⟩) L.length cap:=by
   generalize hn:L.length=n at hv0 hpos;generalize hq:PV.sl 0 0 n 1=q at hv0
   cases hv0 with
   |sl i off len sz cap h h0 h1 hc he=>cases hq;exact⟨cap,by simp⟩
   |mD i sz h=>cases hq;omega
   |_=>cases hq
  subst hvs;rcases hob with h0|⟨_,c,T,h1,h2,h3,h4,h5⟩
  ·rw[←hL] at h0;cases h0
  rw[Wr] at h3;have hre:(a7 1 L ch).real=true:=by rw[←hL];rfl
  have hval: ∀j s,L[j]? =some s→c.getD j undef= .string s:=fun j s hj=>by
   have:=h5 j [pS s] 0 (pS s) (by rw[VV,hj];rfl) rfl;rw[Yv,XR] at this;generalize c.getD j undef=y at this ⊢
   cases this with
   |iv _ _ h=>cases h;rfl
  have hlt:=hr.lt (i:=0) rfl hre;have hlm:(L.map ly).length=L.length:=by simp
  have hH:Go.Sort.Holds encStr w (N.aH 0) 0 (L.map ly).toArray:=by
   intro j hj;have hj':j<L.length:=by simpa using hj
   have hjc:j<c.size:=by omega
   have:=hval j L[j] (VS hj');rw[VK,Wx hjc,W6] at this;constructor
   ·simp only[World.cell?,h1,Wn,Option.isSome_none,Xn,if_false]
    rw[Wx hjc,this,getElem!_pos _ j hj];simp[encStr,ly]
   ·simp[World.frozen?,h1]
  have hcall:=hS.1 (N.aH 0) 0 cap (L.map ly) w hH hlt (by omega);rw[hlm] at hcall;refine hcall.mono ?_
  rintro e w' ⟨rfl,n,os,rfl⟩
  let w1:=Go.Sort.putRow encStr (Go.Sort.ahead w n) (N.aH 0) 0 ((L.map ly).mergeSort fun x y=>decide (x≤y)).toArray
  have hsl:(c5 (L.map ly)).length=L.length:=by simp[c5]
  have hw1:Ext M N (· <1) (dB 0 [a7 1 L ch]) w M N (· <1) ((0,some (a7 1 (c9 L) ch))::dB 0 [a7 1 L ch]) w1∧Rel M N (· <1) ((0,some (a7 1 (c9 L) ch))::dB 0 [a7 1 L ch]) w1:=by
   refine hr.write (i:=0) (o0:=a7 1 L ch) rfl hre w1 (a7 1 (c9 L) ch) rfl rfl rfl ?_ ?_ ?_
   ·show(Go.Sort.putRow _ _ _ _ _).heap.size=_
    rw[Go.Sort.size_putRow];rfl
   ·intro b hb
    show((w.heap.modify (N.aH 0) _))[b]? =_;rw[WG,if_neg (fun e=>hb e.symm)]
   ·refine .inr ⟨Nat.one_pos,Go.Sort.putCells encStr 0 (c5 (L.map ly)).toArray c,T,?_,?_,?_,?_,?_⟩
    ·show((w.heap.modify (N.aH 0) _))[N.aH 0]? =_
     rw[WG,if_pos rfl,h1];rfl
    ·simp[Go.Sort.putCells,h2]
    ·rw[Wr,gr];simp[Go.Sort.putCells];omega
    ·intro k e he
     obtain⟨s,_,rfl⟩:=wP he;rfl
    ·intro k e j p he hp
     obtain⟨s,hs,rfl⟩:=wP he
     have hj:j=0:=by
      rcases j with _|j
      ·rfl
      ·simp at hp
     subst hj;cases hp
     have hk:k<L.length:=by
      have:=(VO.1 hs).1;rwa[gr] at this
     have hs2:(c5 (L.map ly))[k]? =some (ly s):=by
      rw[←o6,VV,hs];rfl
     have hkc:k<c.size:=by omega
     have hval2:(Go.Sort.putCells encStr 0 (c5 (L.map ly)).toArray c).getD (k*1+0) undef= .string s:=by
      rw[Yv,XR,VK];simp only[Go.Sort.putCells,Array.getElem?_mapIdx];rw[Wx hkc,W1,W6,if_pos ⟨V1 _,by simp[hsl];omega⟩,YD];rw[getElem!_pos _ k (by simp[hsl];omega)]
      have h9:(c5 (L.map ly)).toArray[k]'(by simp[hsl];omega)=ly s:=by
       rw[List.getElem_toArray];exact(VO.1 hs2).2
      rw[h9];simp[encStr,ly]
     rw[hval2];exact .iv _ _ (.v _)
  have hw2:Rel M N (· <1) ((0,some (a7 1 (c9 L) ch))::dB 0 [a7 1 L ch]) (Go.Sort.grow w1 os):=hw1.2.more fun b hb=>by
   show(w1.heap++os)[b]? =_;rw[WO hb]
  have hsz:w1.heap.size=w.heap.size:=by
   show(Go.Sort.putRow _ _ _ _ _).heap.size=_;rw[Go.Sort.size_putRow];rfl
  have hget: ∀i o,AH.get [(0,some (a7 1 (c9 L) ch))] i=some o→AH.get ((0,some (a7 1 (c9 L) ch))::dB 0 [a7 1 L ch]) i=some o:=by
   intro i o h;rw[AH.ay] at h ⊢;split at h
   ·rename_i h6;rw[if_pos h6];exact h
   ·simp[AH.get] at h
  refine⟨_,M,N, .bM [],_,1,rfl,⟨rfl,rfl,rfl⟩,⟨hw1.1.os,hw1.1.tape,hw1.1.output,?_,?_, .refl _,fun b c h1 h2=>(nomatch (h1.symm.trans h2)), .refl _ _,fun _ h=>h,fun i o hi=>hw1.1.fN i o (hget i o hi)⟩,?_, .bM [] #[] rfl (by simp)⟩
  ·show w.heap.size≤(Go.Sort.grow w1 os).heap.size
   rw[Go.Sort.size_grow,hsz];omega
  ·intro b hb hn
   have h7:=hw1.1.gd b hb hn;show(w1.heap++os)[b]? =_;rw[WO (by omega)];exact h7
  ·exact⟨hw2.du,fun i o hi=>hw2.used i o (hget i o hi),fun i o hi=>hw2.dz i o (hget i o hi),fun i o hi=>hw2.obj i o (hget i o hi),fun i j o p hi hj=>hw2.inj i j o p (hget i o hi) (hget j p hj)⟩
end Go.Proofs.YtflegjieadkonaaGreatDoor
namespace Go.Proofs.YtflegjieadkonaaGreatDoor
open Go Go.Al
set_option maxRecDepth 10000
theorem ew (l:List (List UInt8)):(c5 l).Perm l:=List.mergeSort_perm _ _
theorem gq (l:List (List UInt8)):(c5 l).Pairwise (fun x y=>decide (x≤y)=true):=
 List.pairwise_mergeSort (le:=fun x y=>decide (x≤y)) (fun a b c h1 h2=>by simp only[decide_eq_true_eq] at*;exact List.le_trans h1 h2)
  (fun a b=>by
   rcases List.le_total a b with h|h
   ·simp[h]
   ·simp[h]) l
theorem Ax {a b:List (List UInt8)} (h:a.Perm b) (ha:a.Pairwise (fun x y=>decide (x≤y)=true)) (hb:b.Pairwise (fun x y=>decide (x≤y)=true)):a=b:=
 List.Perm.eq_of_pairwise (fun x y _ _ h1 h2=>Yz (of_decide_eq_true h1) (of_decide_eq_true h2)) ha hb h
theorem nC {a b:List ah} (h:a.Perm b):c9 a=c9 b:=by
 unfold c9;rw[Ax (((ew _).trans (h.map ly)).trans (ew _).symm) (gq _) (gq _)]
theorem cJ {x:ah} {l:List ah}:x∈c9 l↔x∈l:=by
 unfold c9;rw[Wo];constructor
 ·rintro⟨b,hb,rfl⟩
  obtain⟨s,hs,rfl⟩:=Wo.1 ((ew _).mem_iff.1 hb);rwa[qQ]
 ·intro h
  exact⟨ly x,(ew _).mem_iff.2 (Wo.2 ⟨x,h,rfl⟩),qQ x⟩
def fC (m:NM) (vs:List Nat):List ah:=vs.reverse.filterMap fun j=>(m[j]?).map (·.1)
theorem jH (m:NM) (vs:List Nat) (j:Nat) (x:(KC.str).K×Int) (h:m[j]? =some x):fC m (j::vs)=fC m vs++ [x.1]:=by
 simp[fC,YJ,h]
theorem sb (m:NM) (vs:List Nat):(fC m vs).length≤vs.length:=by
 unfold fC;have:=List.length_filterMap_le (fun j=>(m[j]?).map (·.1)) vs.reverse;rwa[List.length_reverse] at this
theorem vE (m:NM):(V5 m.length).filterMap (fun j=>(m[j]?).map (·.1))=m.map (·.1):=by
 apply List.ext_getElem?;intro k
 have h:(V5 m.length).filterMap (fun j=>(m[j]?).map (·.1))=(V5 m.length).map (fun j=>(m.getD j (VT,0)).1):=by
  rw[show(fun j=>(m.getD j (VT,0)).1)=fun j=>(m.getD j (VT,0)).1 from rfl]
  have key: ∀l:List Nat,(∀j∈l,j<m.length)→l.filterMap (fun j=>(m[j]?).map (·.1))=l.map (fun j=>(m.getD j (VT,0)).1):=by
   intro l
   induction l with
   |nil=>simp
   |cons j r ih=>
    intro h;have hj:=h j V8;rw[YR,VS hj,ih fun k hk=>h k (V2 _ hk)];simp[hj]
  exact key _ fun j hj=>Wf.1 hj
 rw[h];by_cases hk:k<m.length
 ·simp[hk]
 ·simp[hk]
theorem iZ (m:NM) (vs:List Nat) (hn:vs.Nodup) (hb: ∀j∈vs,j<m.length) (hall: ∀j,j<m.length→j∈vs):(fC m vs).Perm (m.map (·.1)):=by
 rw[←vE];unfold fC;apply List.Perm.filterMap;refine(List.reverse_perm _).trans ?_;rw[List.perm_ext_iff_of_nodup hn List.nodup_range];intro j;rw[Wf];exact⟨hb j,hall j⟩
def ec (m:NM):List ah:=c9 (m.map (·.1))
theorem rU {vs:List Nat} {n:Nat} (h:vs.Nodup) (hb: ∀j∈vs,j<n):vs.length≤n:=by
 have:=WJ h (l₂:=V5 n) fun j hj=>Wf.2 (hb j hj);rwa[Xt] at this
theorem rC (σ:Nat→Nat) (l:List ah):(l.map fun x=>(ch x).map PV.iv).map (dF σ)=l.map fun x=>(ch x).map PV.iv:=by
 simp only[List.map_map,ch,V6,Wv];rfl
theorem c51 (hS:dD) (m:NM) (hm:m.length≤100000000):Pure Tryz.prog 112 [.iv (nY m)] (.iv (strs (ec m))):=by
 refine az ae Tryz.func112 rfl (by decide) Tryz.ntmps112 rfl (by simp) rfl ?_;refine gA rfl ?_;refine jI 3 1 rfl ?_
 refine eJ m (fun vs=>⟨[(3, .sl 2 0 (fC m vs).length 1),(6, .ptr 0 0)],[(0,some (.bt .str sE m vs none)),(2,some (a7 1 (fC m vs) ch))],3⟩) (fun vs=>vs.Nodup∧ ∀j∈vs,j<m.length) [1] ⟨WB,by simp⟩
  (wk rfl rfl rfl ⟨.refl _,rfl, .refl _,rfl,trivial⟩ (hI rfl rfl (.inl rfl) rfl (hR rfl rfl rfl trivial)) rfl) fun vs hJ=>?_
 obtain⟨hJ1,hJ2⟩:=hJ;have hvl:=rU hJ1 hJ2;have hkl:=sb m vs;refine lB rfl trivial (db rfl rfl rfl rfl rfl (by decide) (fun hall=>?_) fun j x hx hj=>?_)
 ·refine lB rfl trivial (aK [2] (D1 hS (fC m vs) (by omega)) rfl rfl rfl rfl rfl (congrArg (fun o=> [some o]) (cj _).symm) rfl rfl ?_)
  refine lB rfl trivial (eU (.inr rfl) rfl rfl ((rC _ _).trans (by rw[ec,nC (iZ m vs hJ1 hJ2 hall)])) ?_);rw[ec,gr,←(iZ m vs hJ1 hJ2 hall).length_eq]
 ·have hk:=jH m vs j x hx
  refine gA rfl ?_;exact⟨j,x,hx,hj,⟨WC.2 ⟨hj,hJ1⟩,fun i hi=>(V4.1 hi).elim (fun h=>h▸(VO.1 hx).1) (hJ2 i)⟩,[4],wk rfl rfl rfl ⟨.row (by rw[hk,VL];rfl),rfl, .refl _,rfl,trivial⟩ (hI rfl rfl (.inr rfl) rfl (hR rfl (by rw[hk,VN];rfl) rfl trivial)) rfl⟩
theorem Jm {P:Program} {k:FuncId} {kc:KC} {V:Type} {e:V→IV} {z:V} {zv:Value} {dv:PV→V} {m:List (kc.K×V)} {y:IV} (h:Al.Pure P k [.iv (.dG kc e z zv m)] (.iv y)):b8 P k [.mp 0] [.map kc e z zv dv m] (.iv y) [] 1:=by
 refine⟨h.1,fun M N w vs hr hl hv=>?_⟩;obtain⟨M1,h1,h2,h3,h4⟩:=oI (n:=1) hr (i:=0) rfl;have hr2:Rel M1 N (· <0) (dB 0 []) w:=⟨h2.du,fun i o hi=>(nomatch hi),fun i o hi=>(nomatch hi),fun i o hi=>(nomatch hi),fun i j o p hi=>(nomatch hi)⟩
 refine(h.2 M1 N w vs hr2 hl fun j p hj=>?_).mono ?_
 ·cases j with
  |zero=>
   cases hj;have:=h4 _ _ (hv 0 _ rfl);generalize vs.getD 0 undef=x at this ⊢
   cases this with
   |iv _ _ h=>exact .iv _ _ h
  |succ j=>cases hj
 ·rintro _ w' ⟨x,M',N',r,h',n',rfl,⟨rfl,rfl,rfl⟩,hx,hrr,hvr⟩
  refine⟨x,M',N, .iv y,[],1,rfl,⟨rfl,rfl,rfl⟩,?_,⟨hrr.du,fun i o hi=>(nomatch hi),fun i o hi=>(nomatch hi),fun i o hi=>(nomatch hi),fun i j o p hi=>(nomatch hi)⟩,?_⟩
  ·refine⟨hx.os,hx.tape,hx.output,hx.size,fun b hb hn=>hx.gd b hb fun i o hi=>(nomatch hi),h1.nZ.trans hx.nZ,fun b c g1 g2=>?_, .refl _ _,fun _ h=>h,fun i o hi=>(nomatch hi)⟩
   cases g3:M1 b with
   |some c'=>exact h1.gm b c' g1 g3
   |none=>
    rcases hx.gm b c g3 g2 with g4|⟨i,o,g4,_⟩
    ·exact .inl g4
    ·exact nomatch g4
  ·cases hvr with
   |iv _ _ h=>exact .iv _ _ h
theorem Vi (hS:dD) (m:NM) (hm:m.length≤100000000):b8 Tryz.prog 112 [.mp 0] [cf m] (.iv (strs (ec m))) [] 1:=Jm (c51 hS m hm)
theorem qt: ∀{m:NM} (_:(m.map (·.1)).Nodup) (k:ah),lA .str m k=m.filter fun x=>!decide (x.1=k)
 | [],_,k=>rfl
 |(a,b)::r,h,k=>by
  rw[V6,WC] at h;by_cases hk:a=k
  ·subst hk
   have:r.filter (fun x=>!decide (x.1=a))=r:=YS.2 fun x hx=>by
    have:x.1≠a:=fun e=>h.1 (e▸Wo.2 ⟨x,hx,rfl⟩);simp[this]
   simp[lA,this]
  ·have ih:=qt h.2 k
   simp[lA,hk,ih]
theorem tk {m:NM} {p:(KC.str).K×Int→Bool} (h:(m.map (·.1)).Nodup):((m.filter p).map (·.1)).Nodup:=h.sublist ((List.filter_sublist).map _)
theorem mg: ∀(ks:List ah) {m:NM} (_:(m.map (·.1)).Nodup),ks.foldl (fun m k=>lA .str m k) m=m.filter fun x=>!c4 ks x.1
 | [],m,h=>(YS.2 fun _ _=>rfl).symm
 |k::r,m,h=>by
  rw[Wm,qt h,mg r (tk h),List.filter_filter];congr 1
  funext x
  by_cases hk:x.1=k
  ·simp[c4,hk]
  ·have: ¬k=x.1:=fun e=>hk e.symm
   simp[c4,hk,this]
def kh (r:aw) (a:eZ):NM:=(aG (aZ a)).filter fun x=>!c4 (aD r) x.1
theorem j9 (l:List ah):(aG l).length≤l.length:=by
 have h:=dy l;have:=ub h.1 fun x hx=>(h.2 x).1 hx;rwa[Wr] at this
theorem d79 (r:aw) (a:eZ) (hb:a.size≤100000000000):b8 Tryz.prog 191 [.iv (b6 r),ag a.c] [] (.mp 0) [(0,some (cf (kh r a)))] 1:=by
 refine b8.le (args:=[.iv (b6 r),ag a.c1]) ?_ ⟨.refl _,a.zE,trivial⟩;have hal:=ju a;have hkd:=(dy (aZ a)).1;refine aF ae Tryz.func191 rfl (by decide) Tryz.ntmps191 rfl (by simp) ?_;refine gA rfl (aK [] (O5 a (by omega)) rfl rfl rfl rfl rfl rfl rfl rfl ?_);refine gA rfl ?_
 refine eJ (aG (aD r)) (fun vs=>⟨[(5, .mp 1),(13, .ptr 2 0)],[(1,some (cf ((fC (aG (aD r)) vs).foldl (fun m k=>lA .str m k) (aG (aZ a))))),(2,some (.bt .str sE (aG (aD r)) vs none))],3⟩)
  (fun vs=>vs.Nodup∧ ∀j∈vs,j<(aG (aD r)).length) [] ⟨WB,by simp⟩
  (wk rfl rfl rfl ⟨.refl _,rfl, .refl _,rfl,trivial⟩ (hM rfl rfl rfl (hI rfl rfl (.inl rfl) rfl trivial)) rfl) fun vs hJ=>?_
 obtain⟨hJ1,hJ2⟩:=hJ;refine lB rfl trivial (db rfl rfl rfl rfl rfl (by decide) (fun hall=>?_) fun j x hx hj=>?_)
 ·have hlm:(fC (aG (aD r)) vs).foldl (fun m k=>lA .str m k) (aG (aZ a))=kh r a:=by
   rw[mg _ hkd];unfold kh;congr 1
   funext x
   congr 1;rw[WK,bw,bw,(iZ _ vs hJ1 hJ2 hall).mem_iff];exact(dy (aD r)).2 x.1
  rw[hlm];refine gA rfl (ax [1] (by first|exact .inr rfl|exact .inl rfl) rfl (wk rfl rfl rfl ⟨.refl _,rfl,trivial⟩ (hM rfl rfl rfl trivial) rfl))
 ·have hk:=jH (aG (aD r)) vs j x hx
  refine gA rfl ?_;exact⟨j,x,hx,hj,⟨WC.2 ⟨hj,hJ1⟩,fun i hi=>(V4.1 hi).elim (fun h=>h▸(VO.1 hx).1) (hJ2 i)⟩,[],wk rfl rfl rfl ⟨.refl _,rfl, .refl _,rfl,trivial⟩ (hM rfl (by rw[hk,Xe];rfl) rfl (hI rfl rfl (.inr rfl) rfl trivial)) rfl⟩
theorem qu {may:List ah→Expr→Bool} {more:List ah→eZ→Bool} {body:List Lit}: ∀(n:Nat) (occ:List ah),(cP may more body n occ).length≤occ.length+n
 |0,occ=>VZ _
 |n+1,occ=>by
  cases h:bJ (may occ) (more occ) occ body with
  |none=>rw[dN h];omega
  |some v=>
   rw[dM h];have:=qu (may:=may) (more:=more) (body:=body) n (occ++ [v]);rw[VL,WM] at this;omega
theorem qx {may:List ah→Expr→Bool} {more:List ah→eZ→Bool} {body:List Lit} (occ:List ah):(bK may more body occ).length≤occ.length+4*Lit.aB body+1:=by
 have h1:=qu (may:=may) (more:=more) (body:=body) (3*body.length+1) (occ++body.flatMap bc);have h2:=eE body;have h3:=Lit.aI body;rw[VL] at h1;unfold bK;omega
theorem yF (r:aw):(bG r).length≤4*Lit.aB r.body+1:=by
 have:=qx (may:=fun occ=>aW occ) (more:=fun occ=>lQ (aD r) occ) (body:=r.body) [];rw[XH] at this;unfold bG;omega
def mW (r:aw):List ah:=bK (fun occ=>b3 occ) (fun _=>fun _=>false) r.body []
theorem AU (r:aw):(mW r).length≤4*Lit.aB r.body+1:=by
 have:=qx (may:=fun occ=>b3 occ) (more:=fun _=>fun _=>false) (body:=r.body) [];rw[XH] at this;unfold mW;omega
theorem Uv (r:aw) (hb:8*Lit.aB r.body≤100000000000):b8 Tryz.prog 126 [.iv (lits r.body), .mp 0, .cH (.func 127) [] [.ptr 1 0], .cH (.func 128) [] []] [.ej, .cells [.mp 0]] (.bM []) [(0,some (cf (aG (mW r)))),(1,some (.cells [.mp 0]))] 2:=
 b8.OX (Vd [] r.body (by simp;omega)) ⟨qR, .refl _,trivial⟩
theorem c33 (hS:dD) (r:aw) (hb:r.size≤10000000):Pure Tryz.prog 98 [ag r.c] (.iv (strs (ec (aG (mW r))))):=by
 have h1:=j9 (mW r);have h2:=AU r;have h3:Lit.aB r.body≤r.size:=X8 _ _;refine az ae Tryz.func98 rfl (by decide) Tryz.ntmps98 rfl (by simp) rfl ?_;refine gA rfl ?_;refine gA rfl (aK [1,2] (Uv r (by omega)) rfl rfl rfl rfl rfl rfl rfl rfl ?_);refine gA rfl (aK [1] (Vi hS (aG (mW r)) (by omega)) rfl rfl rfl rfl rfl rfl rfl rfl ?_);refine gA rfl (au (by first|exact .inr rfl|exact .inl rfl) rfl (.of_eq ?_));rfl
def vw (r:aw) (lit:Int):List ah:=if lit<0∨(r.body.length:Int)≤lit∨ ¬(aq r lit).kind=4 then[] else ec (kh r (aq r lit).agg)
theorem pP {P:Program} {k:FuncId} {args:List PV} {os:List AO} {r:PV} {h:AH} {n0:Nat} (hc:kD P k) {n:Nat} (hn: ∃sz el,PV.iv (.cK sz n el)∈args) (hh:n≤maxLen→b8 P k args os r h n0):b8 P k args os r h n0:=Dy hc hn hh
def oC {α:Type} (p:α→Bool) (l:List α):Int:=match l.findIdx? p with
 |some i=>i
 |none=> -1
theorem fL {α:Type} {p:α→Bool} {l:List α} (h:l.any p=false):oC p l= -1:=by
 have:l.findIdx? p=none:=by
  rw[Yq];intro x hx;have:=WA.1 h x hx;simpa using this
 rw[oC,this]
theorem gQ {α:Type} [Inhabited α] {p:α→Bool} {l:List α} {i:Nat} (h:(l.take i).any p=false) (hi:i<l.length) (hp:p (l.getD i default)=true):oC p l=i:=by
 have:l.findIdx? p=some i:=by
  rw[Yb];have hg:l.getD i default=l[i]:=by simp[hi]
  refine⟨hi,hg▸hp,fun j hj=>?_⟩;have:=WA.1 h l[j] (List.mem_iff_getElem?.2 ⟨j,by rw[WN,if_pos hj,VS (by omega)]⟩);simpa using this
 rw[oC,this]
theorem gT {α:Type} (p:α→Bool) (l:List α):decide (oC p l≥0)=l.any p:=by
 unfold oC
 cases h:l.findIdx? p with
 |none=>
  have:=Yq.1 h;have:l.any p=false:=WA.2 fun x hx=>by simp[this x hx]
  rw[this];rfl
 |some i=>
  obtain⟨h1,h2,_⟩:=Yb.1 h;rw[WU.2 ⟨_,WI h1,h2⟩];simp
theorem CG {a b:Int} (h:a=b):pI a=pI b:=by rw[h]
theorem Vu (x:Int):Pure Tryz.prog 155 [pI x] (pB (!decide (x=1)&&!decide (x=2))):=by
 refine az ae Tryz.func155 rfl (by decide) Tryz.ntmps155 rfl (by simp) rfl ?_
 repeat' (first
  |(refine gA rfl (VJ (fun _=>?_) (fun _=>?_)))
  |(refine gA rfl (au (by first|exact .inr rfl|exact .inl rfl) rfl (.of_eq ?_))))
 all_goals(refine(kE ?_:pB _=pB _);simp_all)
theorem Vt (t:Term):Pure Tryz.prog 194 [ag t.c] (pB (decide (t.kind=3))):=by
 refine az ae Tryz.func194 rfl (by decide) Tryz.ntmps194 rfl (by simp) rfl ?_;refine gA rfl (au (by first|exact .inr rfl|exact .inl rfl) rfl (.of_eq ?_));rfl
theorem Vs (t:Lit):Pure Tryz.prog 195 [ag t.c] (pB (decide (t.kind=4))):=by
 refine az ae Tryz.func195 rfl (by decide) Tryz.ntmps195 rfl (by simp) rfl ?_;refine gA rfl (au (by first|exact .inr rfl|exact .inl rfl) rfl (.of_eq ?_));rfl
def gp (v:s8):Int:=if v.kind=1 then(if v.sym=VT∧ -2147483647≤v.num∧v.num≤2147483647 then 0 else 20) else if v.kind=2 then(if v.num=0∧v.sym.size≤64 then 0 else 20) else 20
theorem Vv (v:s8):Pure Tryz.prog 261 [ag v.c] (pI (gp v)):=by
 refine az ae Tryz.func261 rfl (by decide) Tryz.ntmps261 rfl (by simp) rfl ?_
 repeat' (first
  |(refine gA rfl (VJ (fun _=>?_) (fun _=>?_)))
  |(refine gA rfl (au (by first|exact .inr rfl|exact .inl rfl) rfl (.of_eq ?_))))
 all_goals(refine(CG ?_:pI _=pI _);have hE:(⟨#[]⟩:ByteArray)=VT:=rfl;simp_all [gp];try omega)
def Decl.z:Decl:=⟨VT,[],⟨0,0⟩⟩
def Aa (d:Decl):IV:= .agg d.c
def DN:Value:= .agg #[.string VT, .slice none 0 0, .int .i64 0, .int .i64 0]
def intOf:List IV→Int
 | [.v (.int .i64 n)]=>n
 |_=>0
def U8:PV→Decl
 | .agg [.iv (.v (.string s)), .iv (.cK _ n el), .iv (.v (.int _ a)), .iv (.v (.int _ b))]=>⟨s,(V5 n).map fun k=>intOf (el k),⟨a,b⟩⟩
 |_=>Decl.z
abbrev DM:=List ((KC.str).K×Decl)
abbrev O2 (m:DM):AO:= .map .str Aa Decl.z DN U8 m
abbrev Us (m:DM):IV:= .dG .str Aa Decl.z DN m
theorem O1 (d:Decl):U8 (ag d.c)=d:=by
 show(⟨d.name,(V5 d.types.length).map fun k=>intOf (gx (d.types.getD k default)),⟨d.at_.line,d.at_.BH⟩⟩:Decl)=d
 have:(V5 d.types.length).map (fun k=>intOf (gx (d.types.getD k default)))=d.types:=by
  apply List.ext_getElem?;intro k;by_cases hk:k<d.types.length
  ·simp[hk,intOf,gx]
  ·simp[hk]
 rw[this]
theorem DK: ∀M,IR M (Aa Decl.z) DN:=fun M=>by
 refine .agg _ _ rfl fun j p hj=>?_
 match j,hj with
 |0,hj=>cases hj;exact .v _
 |1,hj=>cases hj;exact .iC _ _ _ _
 |2,hj=>cases hj;exact .v _
 |3,hj=>cases hj;exact .v _
 |j+4,hj=>simp[Decl.c] at hj
theorem agI (l:List IV):ak (ag l) (.iv (.agg l)):=by
 intro M N U x h;generalize hq:ag l=q at h
 cases h with
 |agg cs ys hl hr=>
  cases hq;refine .iv _ _ (.agg _ _ (by simpa using hl) fun j p hj=>?_);have:=hr j (.iv p) (by rw[VV,hj];rfl);generalize ys.getD j undef=y at this ⊢
  cases this with
  |iv _ _ h=>exact h
 |_=>cases hq
theorem DO (d:Decl):ak (ag d.c) (.iv (Aa (U8 (ag d.c)))):=by rw[O1];exact agI _
def iw (m:DM) (d:Decl):DM:=if eI .str m d.name=true then m else bQ .str m d.name d
def zs (p:Prog):DM:=p.aS.foldl iw []
abbrev ct (p:Prog):IV:=Us (zs p)
theorem rK {V:Type}: ∀(m:List ((KC.str).K×V)) (k:ah) (v:V),(bQ .str m k v).length≤m.length+1
 | [],_,_=>by simp[bQ]
 |(a,b)::r,k,v=>by
  have:=rK r k v;simp only[bQ];split
  ·simp
  ·simp only[Wu];omega
theorem d50 (p:Prog) (hb:p.aS.length≤1000000000000):b8 Tryz.prog 124 [ag p.c] [] (.mp 0) [(0,some (O2 (zs p)))] 1:=by
 refine aF ae Tryz.func124 rfl (by decide) Tryz.ntmps124 rfl (by simp) ?_;refine gA rfl ?_
 refine aL 0 p.aS.length (V1 _) (fun i=>⟨[(3, .mp 1),(13, .iv (cV 4 p.aS Decl.c)),(14,pI p.aS.length),(15,pI i)],[(1,some (O2 ((p.aS.take i).foldl iw [])))],2⟩) (fun _=>True) [] trivial
  (wk rfl rfl rfl ⟨.refl _,rfl, .refl _,rfl, .refl _,rfl, .refl _,rfl,trivial⟩ (Dc rfl DK rfl trivial) rfl) fun i hi _=>?_
 refine gA rfl ?_;refine VJ (fun h1=>?_) (fun h1=>?_)
 ·have h1:i<p.aS.length:=by simpa using h1
  have hs:=c8 (g:=iw) (b:=[]) h1;refine gA rfl ?_;refine VJ (fun h2=>?_) (fun h2=>?_)
  ·have h2:eI .str ((p.aS.take i).foldl iw []) (p.aS.getD i default).name=false:=by simpa using h2
   rw[iw,if_neg (by rw[h2];simp)] at hs;refine lB rfl ?_ ?_
   ·repeat' (first|exact trivial|exact rfl|exact DO _|exact ak.refl _|apply VJ)
    all_goals omega
   exact⟨h1,trivial,[],wk rfl rfl rfl ⟨.refl _,rfl, .refl _,rfl, .refl _,rfl, .refl _,rfl,trivial⟩ (hM rfl (by rw[hs,←O1 (p.aS.getD i default)];rfl) rfl trivial) rfl⟩
  ·have h2:eI .str ((p.aS.take i).foldl iw []) (p.aS.getD i default).name=true:=by simpa using h2
   rw[iw,if_pos h2] at hs;refine gA rfl ?_;exact⟨h1,trivial,[],wk rfl rfl rfl ⟨.refl _,rfl, .refl _,rfl, .refl _,rfl, .refl _,rfl,trivial⟩ (hM rfl (by rw[hs]) rfl trivial) rfl⟩
 ·have h1:p.aS.length≤i:=by simpa using h1
  rw[VY h1];refine gA rfl (ax [1] (by first|exact .inr rfl|exact .inl rfl) rfl (wk rfl rfl rfl ⟨.refl _,rfl,trivial⟩ (hM rfl rfl rfl trivial) rfl))
def s7 (p:Prog) (a:Atom):Bool:=!eI .str (zs p) a.rel
def mh (p:Prog) (s:ah):Decl:=bF .str (zs p) s Decl.z
def vY (p:Prog) (a:Atom):Bool:=!decide ((a.an.length:Int)=((mh p a.rel).types.length:Int))
theorem d113 (p:Prog) (a:Atom):b8 Tryz.prog 163 [ag a.c, .ptr 0 0] [.cells [.iv (ct p)]] (pB (s7 p a)) [(0,some (.cells [.iv (ct p)]))] 1:=by
 refine aF ae Tryz.func163 rfl (by decide) Tryz.ntmps163 rfl (by simp) ?_;refine gA rfl (ax [] (by first|exact .inr rfl|exact .inl rfl) rfl (wk rfl rfl rfl ⟨.of_eq rfl,rfl,trivial⟩ ⟨⟨_,rfl, .of_eq rfl⟩,VI rfl,rfl,trivial⟩ rfl))
theorem d115 (p:Prog) (a:Atom):b8 Tryz.prog 165 [ag a.c, .ptr 0 0] [.cells [.iv (ct p)]] (pB (vY p a)) [(0,some (.cells [.iv (ct p)]))] 1:=by
 refine aF ae Tryz.func165 rfl (by decide) Tryz.ntmps165 rfl (by simp) ?_;refine gA rfl (ax [] (by first|exact .inr rfl|exact .inl rfl) rfl (wk rfl rfl rfl ⟨.of_eq rfl,rfl,trivial⟩ ⟨⟨_,rfl, .of_eq rfl⟩,VI rfl,rfl,trivial⟩ rfl))
theorem i187 (l:List Int):b8 Tryz.prog 186 [.iv (cV 1 l gx), .cH (.func 155) [] []] [] (pI (oC (fun x=>!decide (x=1)&&!decide (x=2)) l)) [] 0:=by
 refine pP (bL Tryz.func186 rfl (by decide)) ⟨_,_,V8⟩ fun hlen=>?_;simp only[maxLen] at hlen;refine aF ae Tryz.func186 rfl (by decide) Tryz.ntmps186 rfl (by simp) ?_;refine gA rfl ?_
 refine aL 0 l.length (V1 _) (fun i=>⟨[(0, .iv (cV 1 l gx)),(1, .cH (.func 155) [] []),(7,pI l.length),(8,pI i)],[],0⟩) (fun i=>(l.take i).any (fun x=>!decide (x=1)&&!decide (x=2))=false) [] (by simp)
  (wk rfl rfl rfl ⟨.refl _,rfl, .refl _,rfl, .refl _,rfl, .refl _,rfl,trivial⟩ trivial rfl) fun i hi hJ=>?_
 refine gA rfl ?_;refine VJ (fun h1=>?_) (fun h1=>?_)
 ·have h1:i<l.length:=by simpa using h1
  refine gA rfl (aj (Vu (l.getD i default)) rfl rfl rfl rfl rfl rfl ?_);refine gA rfl ?_;refine VJ (fun h2=>?_) (fun h2=>?_)
  ·have h2:(fun x=>!decide (x=1)&&!decide (x=2)) (l.getD i default)=true:=h2
   rw[gQ hJ h1 h2];refine gA rfl (ax [] (by first|exact .inr rfl|exact .inl rfl) rfl (wk rfl rfl rfl ⟨.refl _,rfl,trivial⟩ trivial rfl))
  ·have h2:(fun x=>!decide (x=1)&&!decide (x=2)) (l.getD i default)=false:=h2
   refine gA rfl ?_;exact⟨h1,(cG hJ h1).2 h2,[],wk rfl rfl rfl ⟨.refl _,rfl, .refl _,rfl, .refl _,rfl, .refl _,rfl,trivial⟩ trivial rfl⟩
 ·have h1:l.length≤i:=by simpa using h1
  rw[fL (any_none hJ h1)];refine gA rfl (ax [] (by first|exact .inr rfl|exact .inl rfl) rfl (wk rfl rfl rfl ⟨.refl _,rfl,trivial⟩ trivial rfl))
theorem d153 (l:List Int):b8 Tryz.prog 154 [.iv (cV 1 l gx), .cH (.func 155) [] []] [] (pB (l.any (fun x=>!decide (x=1)&&!decide (x=2)))) [] 0:=by
 refine aF ae Tryz.func154 rfl (by decide) Tryz.ntmps154 rfl (by simp) ?_;refine gA rfl (aK [] (i187 l) rfl rfl rfl rfl rfl rfl rfl rfl ?_);refine gA rfl (ax [] (by first|exact .inr rfl|exact .inl rfl) rfl (wk rfl rfl rfl ⟨.of_eq (kE (gT _ l)),rfl,trivial⟩ trivial rfl))
theorem i191 (l:List Term):b8 Tryz.prog 224 [.iv (cV 5 l Term.c), .cH (.func 194) [] []] [] (pI (oC (fun x:Term=>decide (x.kind=3)) l)) [] 0:=by
 refine pP (bL Tryz.func224 rfl (by decide)) ⟨_,_,V8⟩ fun hlen=>?_;simp only[maxLen] at hlen;refine aF ae Tryz.func224 rfl (by decide) Tryz.ntmps224 rfl (by simp) ?_;refine gA rfl ?_
 refine aL 0 l.length (V1 _) (fun i=>⟨[(0, .iv (cV 5 l Term.c)),(1, .cH (.func 194) [] []),(7,pI l.length),(8,pI i)],[],0⟩) (fun i=>(l.take i).any (fun x:Term=>decide (x.kind=3))=false) [] (by simp)
  (wk rfl rfl rfl ⟨.refl _,rfl, .refl _,rfl, .refl _,rfl, .refl _,rfl,trivial⟩ trivial rfl) fun i hi hJ=>?_
 refine gA rfl ?_;refine VJ (fun h1=>?_) (fun h1=>?_)
 ·have h1:i<l.length:=by simpa using h1
  refine gA rfl (aj (Vt (l.getD i default)) rfl rfl rfl rfl rfl rfl ?_);refine gA rfl ?_;refine VJ (fun h2=>?_) (fun h2=>?_)
  ·have h2:(fun x:Term=>decide (x.kind=3)) (l.getD i default)=true:=h2
   rw[gQ hJ h1 h2];refine gA rfl (ax [] (by first|exact .inr rfl|exact .inl rfl) rfl (wk rfl rfl rfl ⟨.refl _,rfl,trivial⟩ trivial rfl))
  ·have h2:(fun x:Term=>decide (x.kind=3)) (l.getD i default)=false:=h2
   refine gA rfl ?_;exact⟨h1,(cG hJ h1).2 h2,[],wk rfl rfl rfl ⟨.refl _,rfl, .refl _,rfl, .refl _,rfl, .refl _,rfl,trivial⟩ trivial rfl⟩
 ·have h1:l.length≤i:=by simpa using h1
  rw[fL (any_none hJ h1)];refine gA rfl (ax [] (by first|exact .inr rfl|exact .inl rfl) rfl (wk rfl rfl rfl ⟨.refl _,rfl,trivial⟩ trivial rfl))
theorem d157 (l:List Term):b8 Tryz.prog 193 [.iv (cV 5 l Term.c), .cH (.func 194) [] []] [] (pB (l.any (fun x:Term=>decide (x.kind=3)))) [] 0:=by
 refine aF ae Tryz.func193 rfl (by decide) Tryz.ntmps193 rfl (by simp) ?_;refine gA rfl (aK [] (i191 l) rfl rfl rfl rfl rfl rfl rfl rfl ?_);refine gA rfl (ax [] (by first|exact .inr rfl|exact .inl rfl) rfl (wk rfl rfl rfl ⟨.of_eq (kE (gT _ l)),rfl,trivial⟩ trivial rfl))
theorem i192 (l:List Lit):b8 Tryz.prog 130 [.iv (cV 30 l Lit.c), .cH (.func 195) [] []] [] (pI (oC (fun x:Lit=>decide (x.kind=4)) l)) [] 0:=by
 refine pP (bL Tryz.func130 rfl (by decide)) ⟨_,_,V8⟩ fun hlen=>?_;simp only[maxLen] at hlen;refine aF ae Tryz.func130 rfl (by decide) Tryz.ntmps130 rfl (by simp) ?_;refine gA rfl ?_
 refine aL 0 l.length (V1 _) (fun i=>⟨[(0, .iv (cV 30 l Lit.c)),(1, .cH (.func 195) [] []),(7,pI l.length),(8,pI i)],[],0⟩) (fun i=>(l.take i).any (fun x:Lit=>decide (x.kind=4))=false) [] (by simp)
  (wk rfl rfl rfl ⟨.refl _,rfl, .refl _,rfl, .refl _,rfl, .refl _,rfl,trivial⟩ trivial rfl) fun i hi hJ=>?_
 refine gA rfl ?_;refine VJ (fun h1=>?_) (fun h1=>?_)
 ·have h1:i<l.length:=by simpa using h1
  refine gA rfl (aj (Vs (l.getD i default)) rfl rfl rfl rfl rfl rfl ?_);refine gA rfl ?_;refine VJ (fun h2=>?_) (fun h2=>?_)
  ·have h2:(fun x:Lit=>decide (x.kind=4)) (l.getD i default)=true:=h2
   rw[gQ hJ h1 h2];refine gA rfl (ax [] (by first|exact .inr rfl|exact .inl rfl) rfl (wk rfl rfl rfl ⟨.refl _,rfl,trivial⟩ trivial rfl))
  ·have h2:(fun x:Lit=>decide (x.kind=4)) (l.getD i default)=false:=h2
   refine gA rfl ?_;exact⟨h1,(cG hJ h1).2 h2,[],wk rfl rfl rfl ⟨.refl _,rfl, .refl _,rfl, .refl _,rfl, .refl _,rfl,trivial⟩ trivial rfl⟩
 ·have h1:l.length≤i:=by simpa using h1
  rw[fL (any_none hJ h1)];refine gA rfl (ax [] (by first|exact .inr rfl|exact .inl rfl) rfl (wk rfl rfl rfl ⟨.refl _,rfl,trivial⟩ trivial rfl))
theorem d159 (l:List Lit):b8 Tryz.prog 101 [.iv (cV 30 l Lit.c), .cH (.func 195) [] []] [] (pB (l.any (fun x:Lit=>decide (x.kind=4)))) [] 0:=by
 refine aF ae Tryz.func101 rfl (by decide) Tryz.ntmps101 rfl (by simp) ?_;refine gA rfl (aK [] (i192 l) rfl rfl rfl rfl rfl rfl rfl rfl ?_);refine gA rfl (ax [] (by first|exact .inr rfl|exact .inl rfl) rfl (wk rfl rfl rfl ⟨.of_eq (kE (gT _ l)),rfl,trivial⟩ trivial rfl))
theorem Uk (p:Prog) (l:List Atom):b8 Tryz.prog 192 [.iv (cV 2 l Atom.c), .cH (.func 163) [] [.ptr 0 0]] [.cells [.iv (ct p)]] (pI (oC (fun x:Atom=>s7 p x) l)) [(0,some (.cells [.iv (ct p)]))] 1:=by
 refine pP (bL Tryz.func192 rfl (by decide)) ⟨_,_,V8⟩ fun hlen=>?_;simp only[maxLen] at hlen;refine aF ae Tryz.func192 rfl (by decide) Tryz.ntmps192 rfl (by simp) ?_;refine gA rfl ?_
 refine aL 0 l.length (V1 _) (fun i=>⟨[(0, .iv (cV 2 l Atom.c)),(1, .cH (.func 163) [] [.ptr 0 0]),(7,pI l.length),(8,pI i)],[(0,some (.cells [.iv (ct p)]))],1⟩) (fun i=>(l.take i).any (fun x:Atom=>s7 p x)=false) [] (by simp)
  (wk rfl rfl rfl ⟨.refl _,rfl, .refl _,rfl, .refl _,rfl, .refl _,rfl,trivial⟩ ⟨⟨_,rfl, .of_eq rfl⟩,VI rfl,rfl,trivial⟩ rfl) fun i hi hJ=>?_
 refine gA rfl ?_;refine VJ (fun h1=>?_) (fun h1=>?_)
 ·have h1:i<l.length:=by simpa using h1
  refine gA rfl (aK [0] (d113 p (l.getD i default)) rfl rfl rfl rfl rfl rfl rfl rfl ?_);refine gA rfl ?_;refine VJ (fun h2=>?_) (fun h2=>?_)
  ·have h2:(fun x:Atom=>s7 p x) (l.getD i default)=true:=h2
   rw[gQ hJ h1 h2];refine gA rfl (ax [] (by first|exact .inr rfl|exact .inl rfl) rfl (wk rfl rfl rfl ⟨.refl _,rfl,trivial⟩ ⟨⟨_,rfl, .of_eq rfl⟩,VI rfl,rfl,trivial⟩ rfl))
  ·have h2:(fun x:Atom=>s7 p x) (l.getD i default)=false:=h2
   refine gA rfl ?_;exact⟨h1,(cG hJ h1).2 h2,[],wk rfl rfl rfl ⟨.refl _,rfl, .refl _,rfl, .refl _,rfl, .refl _,rfl,trivial⟩ ⟨⟨_,rfl, .of_eq rfl⟩,VI rfl,rfl,trivial⟩ rfl⟩
 ·have h1:l.length≤i:=by simpa using h1
  rw[fL (any_none hJ h1)];refine gA rfl (ax [] (by first|exact .inr rfl|exact .inl rfl) rfl (wk rfl rfl rfl ⟨.refl _,rfl,trivial⟩ ⟨⟨_,rfl, .of_eq rfl⟩,VI rfl,rfl,trivial⟩ rfl))
theorem UC (p:Prog) (l:List Atom):b8 Tryz.prog 161 [.iv (cV 2 l Atom.c), .cH (.func 163) [] [.ptr 0 0]] [.cells [.iv (ct p)]] (pB (l.any (fun x:Atom=>s7 p x))) [(0,some (.cells [.iv (ct p)]))] 1:=by
 refine aF ae Tryz.func161 rfl (by decide) Tryz.ntmps161 rfl (by simp) ?_;refine gA rfl (aK [0] (Uk p l) rfl rfl rfl rfl rfl rfl rfl rfl ?_);refine gA rfl (ax [] (by first|exact .inr rfl|exact .inl rfl) rfl (wk rfl rfl rfl ⟨.of_eq (kE (gT _ l)),rfl,trivial⟩ ⟨⟨_,rfl, .of_eq rfl⟩,VI rfl,rfl,trivial⟩ rfl))
theorem Uj (p:Prog) (l:List Atom):b8 Tryz.prog 192 [.iv (cV 2 l Atom.c), .cH (.func 165) [] [.ptr 0 0]] [.cells [.iv (ct p)]] (pI (oC (fun x:Atom=>vY p x) l)) [(0,some (.cells [.iv (ct p)]))] 1:=by
 refine pP (bL Tryz.func192 rfl (by decide)) ⟨_,_,V8⟩ fun hlen=>?_;simp only[maxLen] at hlen;refine aF ae Tryz.func192 rfl (by decide) Tryz.ntmps192 rfl (by simp) ?_;refine gA rfl ?_
 refine aL 0 l.length (V1 _) (fun i=>⟨[(0, .iv (cV 2 l Atom.c)),(1, .cH (.func 165) [] [.ptr 0 0]),(7,pI l.length),(8,pI i)],[(0,some (.cells [.iv (ct p)]))],1⟩) (fun i=>(l.take i).any (fun x:Atom=>vY p x)=false) [] (by simp)
  (wk rfl rfl rfl ⟨.refl _,rfl, .refl _,rfl, .refl _,rfl, .refl _,rfl,trivial⟩ ⟨⟨_,rfl, .of_eq rfl⟩,VI rfl,rfl,trivial⟩ rfl) fun i hi hJ=>?_
 refine gA rfl ?_;refine VJ (fun h1=>?_) (fun h1=>?_)
 ·have h1:i<l.length:=by simpa using h1
  refine gA rfl (aK [0] (d115 p (l.getD i default)) rfl rfl rfl rfl rfl rfl rfl rfl ?_);refine gA rfl ?_;refine VJ (fun h2=>?_) (fun h2=>?_)
  ·have h2:(fun x:Atom=>vY p x) (l.getD i default)=true:=h2
   rw[gQ hJ h1 h2];refine gA rfl (ax [] (by first|exact .inr rfl|exact .inl rfl) rfl (wk rfl rfl rfl ⟨.refl _,rfl,trivial⟩ ⟨⟨_,rfl, .of_eq rfl⟩,VI rfl,rfl,trivial⟩ rfl))
  ·have h2:(fun x:Atom=>vY p x) (l.getD i default)=false:=h2
   refine gA rfl ?_;exact⟨h1,(cG hJ h1).2 h2,[],wk rfl rfl rfl ⟨.refl _,rfl, .refl _,rfl, .refl _,rfl, .refl _,rfl,trivial⟩ ⟨⟨_,rfl, .of_eq rfl⟩,VI rfl,rfl,trivial⟩ rfl⟩
 ·have h1:l.length≤i:=by simpa using h1
  rw[fL (any_none hJ h1)];refine gA rfl (ax [] (by first|exact .inr rfl|exact .inl rfl) rfl (wk rfl rfl rfl ⟨.refl _,rfl,trivial⟩ ⟨⟨_,rfl, .of_eq rfl⟩,VI rfl,rfl,trivial⟩ rfl))
theorem UB (p:Prog) (l:List Atom):b8 Tryz.prog 161 [.iv (cV 2 l Atom.c), .cH (.func 165) [] [.ptr 0 0]] [.cells [.iv (ct p)]] (pB (l.any (fun x:Atom=>vY p x))) [(0,some (.cells [.iv (ct p)]))] 1:=by
 refine aF ae Tryz.func161 rfl (by decide) Tryz.ntmps161 rfl (by simp) ?_;refine gA rfl (aK [0] (Uj p l) rfl rfl rfl rfl rfl rfl rfl rfl ?_);refine gA rfl (ax [] (by first|exact .inr rfl|exact .inl rfl) rfl (wk rfl rfl rfl ⟨.of_eq (kE (gT _ l)),rfl,trivial⟩ ⟨⟨_,rfl, .of_eq rfl⟩,VI rfl,rfl,trivial⟩ rfl))
def cq (l:Lit):List Atom:=if l.kind=1∨l.kind=2 then[l.atom] else[]
theorem nL: ∀l:List Lit,(l.flatMap cq).length≤l.length
 | []=>by simp
 |x::r=>by
  have h1:=nL r;have h2:(cq x).length≤1:=by unfold cq;split<;>simp
  simp only[WT,VL,Wu];omega
def vy (r:aw) (lit:Int):List Lit:=if(aq r lit).kind=4 then(aq r lit).ar else[aq r lit]
def dZ (r:aw) (lit:Int):List Atom:=if lit<0 then[r.head] else(vy r lit).flatMap cq
theorem JD (r:aw) (lit:Int) (h:0≤lit):kB (.cK 30 ((lit+1).toNat-lit.toNat) (fun j=>(r.body.getD (lit.toNat+j) default).c)) (lits [aq r lit]):=by
 have e:(lit+1).toNat-lit.toNat=1:=by omega
 rw[e]
 exact .cK rfl (fun j hj=>by
  have:j=0:=by omega
  subst this;rfl)
theorem UE (r:aw) (lit:Int) (h1:lit<r.body.length) (hb:r.size≤1000000000000):Pure Tryz.prog 162 [ag r.c,pI lit] (.iv (cV 2 (dZ r lit) Atom.c)):=by
 have hbl:=Lit.aI r.body;have h0:Lit.aB r.body≤r.size:=X8 _ _;refine az ae Tryz.func162 rfl (by decide) Tryz.ntmps162 rfl (by simp) rfl ?_;refine gA rfl ?_;refine VJ (fun h2=>?_) (fun h2=>?_)
 ·have h2:lit<0:=by simpa using h2
  refine gA rfl (eU (by first|exact .inr rfl|exact .inl rfl) rfl rfl (by rw[dZ,if_pos h2];rfl) (by rw[dZ,if_pos h2];rfl))
 have h2: ¬lit<0:=by simpa using h2
 have hk:lit.toNat<r.body.length:=by omega
 have hsz:=Lit.bS r.body lit.toNat hk;have hse:=(aq r lit).size_eq;have hsl:=Lit.aI (aq r lit).ar;have hle:(aq r lit).size≤Lit.aB r.body:=hsz;refine gA rfl ?_;refine VJ (fun h3=>?_) (fun h3=>?_)
 ·have h3:(aq r lit).kind=4:=by simpa[aq] using h3
  have hat:dZ r lit=(aq r lit).ar.flatMap cq:=by rw[dZ,if_neg h2,vy,if_pos h3]
  refine gA rfl ?_;refine jI 6 2 rfl ?_
  refine aL 0 ((aq r lit).ar).length (V1 _) (fun i=>⟨[(6, .sl 2 0 ((((aq r lit).ar).take i).flatMap cq).length 2),(30, .iv (lits ((aq r lit).ar))),(31,pI ((aq r lit).ar).length),(32,pI i)],[(2,some (a7 2 ((((aq r lit).ar).take i).flatMap cq) Atom.c))],3⟩) (fun _=>True) [1] trivial
   (wk rfl rfl rfl ⟨.refl _,rfl, .iv (nO _),rfl, .refl _,rfl, .refl _,rfl,trivial⟩ (hR rfl rfl rfl trivial) rfl) fun i hi _=>?_
  have hpl:=nL (((aq r lit).ar).take i);have htl:(((aq r lit).ar).take i).length≤((aq r lit).ar).length:=by rw[Xc];exact Y0 _ _
  have hLb:((aq r lit).ar).length≤1000000000000:=by first|omega|(rw[WM];omega)
  refine gA rfl ?_;refine VJ (fun h4=>?_) (fun h4=>?_)
  ·have h4:i<((aq r lit).ar).length:=Wz.1 (of_decide_eq_true h4)
   have hs:=bH (f:=cq) h4;have hyes:((((aq r lit).ar).getD i default).kind=1∨(((aq r lit).ar).getD i default).kind=2)→(((aq r lit).ar).take (i+1)).flatMap cq=(((aq r lit).ar).take i).flatMap cq++ [(((aq r lit).ar).getD i default).atom]:=fun h=>by rw[hs,cq,if_pos h]
   have hno: ¬((((aq r lit).ar).getD i default).kind=1∨(((aq r lit).ar).getD i default).kind=2)→(((aq r lit).ar).take (i+1)).flatMap cq=(((aq r lit).ar).take i).flatMap cq:=fun h=>by rw[hs,cq,if_neg h,WL]
   refine gA rfl ?_;refine VJ (fun h5=>?_) (fun h5=>?_)
   ·have h5: ¬(((aq r lit).ar).getD i default).kind=1:=by simpa using h5
    refine gA rfl ?_;refine VJ (fun h6=>?_) (fun h6=>?_)
    ·have h6:(((aq r lit).ar).getD i default).kind=2:=by simpa using h6
     have hs:=hyes (.inr h6);refine gA rfl ?_;exact⟨h4,trivial,[5],wk rfl rfl rfl ⟨.row (by rw[hs,VL];rfl),rfl, .refl _,rfl, .refl _,rfl, .refl _,rfl,trivial⟩ (hR rfl (by rw[hs,VN];rfl) rfl trivial) rfl⟩
    ·have h6: ¬(((aq r lit).ar).getD i default).kind=2:=by simpa using h6
     have hs:=hno (fun h=>h.elim h5 h6);refine gA rfl ?_;exact⟨h4,trivial,[2],wk rfl rfl rfl ⟨.row (by rw[hs]),rfl, .refl _,rfl, .refl _,rfl, .refl _,rfl,trivial⟩ (hR rfl (by rw[hs]) rfl trivial) rfl⟩
   ·have h5:(((aq r lit).ar).getD i default).kind=1:=by simpa using h5
    have hs:=hyes (.inl h5);refine gA rfl ?_;exact⟨h4,trivial,[5],wk rfl rfl rfl ⟨.row (by rw[hs,VL];rfl),rfl, .refl _,rfl, .refl _,rfl, .refl _,rfl,trivial⟩ (hR rfl (by rw[hs,VN];rfl) rfl trivial) rfl⟩
  ·have h4:((aq r lit).ar).length≤i:=Ww fun hh=>absurd (Wz.2 hh) (of_decide_eq_false h4)
   rw[VY h4] at*
   refine gA rfl (eU (by first|exact .inr rfl|exact .inl rfl) rfl rfl (by rw[hat]) (by rw[hat]))
 ·have h3: ¬(aq r lit).kind=4:=by simpa[aq] using h3
  have hat:dZ r lit=[aq r lit].flatMap cq:=by rw[dZ,if_neg h2,vy,if_neg h3]
  refine gA rfl ?_;refine jI 6 2 rfl ?_
  refine aL 0 ([aq r lit]).length (V1 _) (fun i=>⟨[(6, .sl 2 0 ((([aq r lit]).take i).flatMap cq).length 2),(30, .iv (lits ([aq r lit]))),(31,pI ([aq r lit]).length),(32,pI i)],[(2,some (a7 2 ((([aq r lit]).take i).flatMap cq) Atom.c))],3⟩) (fun _=>True) [1] trivial
   (wk rfl rfl rfl ⟨.refl _,rfl, .iv (JD r lit (by omega)),rfl, .of_eq (CG (by simp only[WM];omega)),rfl, .refl _,rfl,trivial⟩ (hR rfl rfl rfl trivial) rfl) fun i hi _=>?_
  have hpl:=nL (([aq r lit]).take i);have htl:(([aq r lit]).take i).length≤([aq r lit]).length:=by rw[Xc];exact Y0 _ _
  have hLb:([aq r lit]).length≤1000000000000:=by first|omega|(rw[WM];omega)
  refine gA rfl ?_;refine VJ (fun h4=>?_) (fun h4=>?_)
  ·have h4:i<([aq r lit]).length:=Wz.1 (of_decide_eq_true h4)
   have hs:=bH (f:=cq) h4;have hyes:((([aq r lit]).getD i default).kind=1∨(([aq r lit]).getD i default).kind=2)→(([aq r lit]).take (i+1)).flatMap cq=(([aq r lit]).take i).flatMap cq++ [(([aq r lit]).getD i default).atom]:=fun h=>by rw[hs,cq,if_pos h]
   have hno: ¬((([aq r lit]).getD i default).kind=1∨(([aq r lit]).getD i default).kind=2)→(([aq r lit]).take (i+1)).flatMap cq=(([aq r lit]).take i).flatMap cq:=fun h=>by rw[hs,cq,if_neg h,WL]
   refine gA rfl ?_;refine VJ (fun h5=>?_) (fun h5=>?_)
   ·have h5: ¬(([aq r lit]).getD i default).kind=1:=by simpa using h5
    refine gA rfl ?_;refine VJ (fun h6=>?_) (fun h6=>?_)
    ·have h6:(([aq r lit]).getD i default).kind=2:=by simpa using h6
     have hs:=hyes (.inr h6);refine gA rfl ?_;exact⟨h4,trivial,[5],wk rfl rfl rfl ⟨.row (by rw[hs,VL];rfl),rfl, .refl _,rfl, .refl _,rfl, .refl _,rfl,trivial⟩ (hR rfl (by rw[hs,VN];rfl) rfl trivial) rfl⟩
    ·have h6: ¬(([aq r lit]).getD i default).kind=2:=by simpa using h6
     have hs:=hno (fun h=>h.elim h5 h6);refine gA rfl ?_;exact⟨h4,trivial,[2],wk rfl rfl rfl ⟨.row (by rw[hs]),rfl, .refl _,rfl, .refl _,rfl, .refl _,rfl,trivial⟩ (hR rfl (by rw[hs]) rfl trivial) rfl⟩
   ·have h5:(([aq r lit]).getD i default).kind=1:=by simpa using h5
    have hs:=hyes (.inl h5);refine gA rfl ?_;exact⟨h4,trivial,[5],wk rfl rfl rfl ⟨.row (by rw[hs,VL];rfl),rfl, .refl _,rfl, .refl _,rfl, .refl _,rfl,trivial⟩ (hR rfl (by rw[hs,VN];rfl) rfl trivial) rfl⟩
  ·have h4:([aq r lit]).length≤i:=Ww fun hh=>absurd (Wz.2 hh) (of_decide_eq_false h4)
   rw[VY h4] at*
   refine gA rfl (eU (by first|exact .inr rfl|exact .inl rfl) rfl rfl (by rw[hat]) (by rw[hat]))
theorem d110 (p:Prog) (r:aw) (lit:Int) (h1:lit<r.body.length) (hb:r.size≤1000000000000):b8 Tryz.prog 160 [pI lit, .ptr 0 0, .ptr 1 0] [aE r.c, .cells [.iv (ct p)]] (pB ((dZ r lit).any fun x=>s7 p x)) [(0,some (aE r.c)),(1,some (.cells [.iv (ct p)]))] 2:=by
 refine aF ae Tryz.func160 rfl (by decide) Tryz.ntmps160 rfl (by simp) ?_;refine gA rfl (aj (UE r lit h1 hb) rfl rfl rfl rfl rfl rfl ?_);refine gA rfl (aK [1] (UC p (dZ r lit)) rfl rfl rfl rfl rfl rfl rfl rfl ?_);refine gA rfl (ax [] (by first|exact .inr rfl|exact .inl rfl) rfl (wk rfl rfl rfl ⟨.refl _,rfl,trivial⟩ (hC rfl rfl rfl ⟨⟨_,rfl, .of_eq rfl⟩,VI rfl,rfl,trivial⟩) rfl))
theorem d114 (p:Prog) (r:aw) (lit:Int) (h1:lit<r.body.length) (hb:r.size≤1000000000000):b8 Tryz.prog 164 [pI lit, .ptr 0 0, .ptr 1 0] [aE r.c, .cells [.iv (ct p)]] (pB ((dZ r lit).any fun x=>vY p x)) [(0,some (aE r.c)),(1,some (.cells [.iv (ct p)]))] 2:=by
 refine aF ae Tryz.func164 rfl (by decide) Tryz.ntmps164 rfl (by simp) ?_;refine gA rfl (aj (UE r lit h1 hb) rfl rfl rfl rfl rfl rfl ?_);refine gA rfl (aK [1] (UB p (dZ r lit)) rfl rfl rfl rfl rfl rfl rfl rfl ?_);refine gA rfl (ax [] (by first|exact .inr rfl|exact .inl rfl) rfl (wk rfl rfl rfl ⟨.refl _,rfl,trivial⟩ (hC rfl rfl rfl ⟨⟨_,rfl, .of_eq rfl⟩,VI rfl,rfl,trivial⟩) rfl))
def kL (r:aw) (lit:Int):Bool:=if lit<0 then r.head.an.any fun x=>decide (x.kind=3) else if(aq r lit).kind=4 then((aq r lit).ar.any fun x=>decide (x.kind=4))||c4 (aZ (aq r lit).agg) (aq r lit).bs else false
theorem Vy (r:aw) (lit:Int) (h1:lit<r.body.length) (hb:r.size≤100000000):Pure Tryz.prog 167 [ag r.c,pI lit] (pB (kL r lit)):=by
 have hbl:=Lit.aI r.body;have h0:Lit.aB r.body≤r.size:=X8 _ _;refine az ae Tryz.func167 rfl (by decide) Tryz.ntmps167 rfl (by simp) rfl ?_;refine gA rfl ?_;refine VJ (fun h2=>?_) (fun h2=>?_)
 ·have h2:lit<0:=by simpa using h2
  refine gA rfl (aK [] (d157 r.head.an) rfl rfl rfl rfl rfl rfl rfl rfl ?_);refine gA rfl (au (by first|exact .inr rfl|exact .inl rfl) rfl (.of_eq ?_));rw[kL,if_pos h2];rfl
 have h2: ¬lit<0:=by simpa using h2
 have hk:lit.toNat<r.body.length:=by omega
 have hsz:=Lit.bS r.body lit.toNat hk;have hag:=(aq r lit).jt;have hle:(aq r lit).size≤Lit.aB r.body:=hsz;have hal:=ju (aq r lit).agg;refine gA rfl ?_;refine VJ (fun h3=>?_) (fun h3=>?_)
 ·have h3: ¬(aq r lit).kind=4:=by simpa[aq] using h3
  refine gA rfl (au (by first|exact .inr rfl|exact .inl rfl) rfl (.of_eq ?_));rw[kL,if_neg h2,if_neg h3]
 have h3:(aq r lit).kind=4:=by simpa[aq] using h3
 refine gA rfl (aK [] (b8.le (aa:=[.iv (xX (aq r lit).ar), .cH (.func 195) [] []]) (d159 (aq r lit).ar) ⟨.iv (nO _), .refl _,trivial⟩) rfl rfl rfl rfl rfl rfl rfl rfl ?_);refine gA rfl ?_;refine VJ (fun h4=>?_) (fun h4=>?_);rotate_left
 ·have h4:((aq r lit).ar.any fun x=>decide (x.kind=4))=false:=h4
  have hlk:=bu (aZ (aq r lit).agg) (aq r lit).bs;have hct:=bU (occ:=aZ (aq r lit).agg) (s:=(aq r lit).bs);refine gA rfl (cz ae [] (d127 (aq r lit).agg (by omega)) rfl rfl rfl rfl rfl rfl rfl rfl rfl rfl rfl rfl (by(repeat' (first|exact trivial|exact rfl|exact ak.refl _|exact ak.bk (by assumption)|apply VJ))<;>first|omega|(simp only[VQ];omega)|(simp;done)|(simp;omega)) rfl (by(repeat' (first|exact trivial|exact rfl|exact ak.refl _|exact ak.bk (by assumption)|apply VJ))<;>first|omega|(simp only[VQ];omega)|(simp;done)|(simp;omega)) ?_);refine gA rfl (au (by first|exact .inr rfl|exact .inl rfl) rfl (.of_eq ?_));refine(kE ?_:pB (decide (bF .str (aG (aZ (aq r lit).agg)) (aq r lit).bs 0>0))=_);rw[kL,if_neg h2,if_pos h3,h4,hct,hlk,Xr];by_cases hz:nX (aZ (aq r lit).agg) (aq r lit).bs=0<;>simp[hz];omega
 ·have h4:((aq r lit).ar.any fun x=>decide (x.kind=4))=true:=h4
  refine gA rfl (au (by first|exact .inr rfl|exact .inl rfl) rfl (.of_eq ?_));rw[kL,if_neg h2,if_pos h3,h4];rfl
theorem d116 (r:aw) (lit:Int) (h1:lit<r.body.length) (hb:r.size≤100000000):b8 Tryz.prog 166 [pI lit, .ptr 0 0] [aE r.c] (pB (kL r lit)) [(0,some (aE r.c))] 1:=by
 refine aF ae Tryz.func166 rfl (by decide) Tryz.ntmps166 rfl (by simp) ?_;refine gA rfl (aj (Vy r lit h1 hb) rfl rfl rfl rfl rfl rfl ?_);refine gA rfl (ax [] (by first|exact .inr rfl|exact .inl rfl) rfl (wk rfl rfl rfl ⟨.refl _,rfl,trivial⟩ (hC rfl rfl rfl trivial) rfl))
def pn (r:aw) (lit:Int):Pos:=if lit<0 then r.at_ else(aq r lit).at
theorem D2 (r:aw) (lit:Int) (h1:lit<r.body.length):Pure Tryz.prog 171 [ag r.c,pI lit] (ag [iI (pn r lit).line,iI (pn r lit).BH]):=by
 refine az ae Tryz.func171 rfl (by decide) Tryz.ntmps171 rfl (by simp) rfl ?_;refine gA rfl ?_;refine VJ (fun h2=>?_) (fun h2=>?_)
 ·have h2:lit<0:=by simpa using h2
  refine gA rfl (au (by first|exact .inr rfl|exact .inl rfl) rfl (.of_eq ?_));rw[pn,if_pos h2];rfl
 have h2: ¬lit<0:=by simpa using h2
 refine gA rfl (au (by first|exact .inr rfl|exact .inl rfl) rfl (.of_eq ?_));rw[pn,if_neg h2];rfl
def kV (r:aw) (l:Lit):Nat:=if l.kind=4 then(kh r l.agg).length else 0
def Cd (r:aw):Nat:=r.body.foldl (fun n l=>n+kV r l) (aG (aD r)).length
theorem ug (r:aw) (l:Lit):kV r l≤l.size:=by
 unfold kV;split
 ·have h1:(kh r l.agg).length≤(aG (aZ l.agg)).length:=WR _ _
  have h2:=j9 (aZ l.agg);have h3:=ju l.agg;have h4:=l.jt;omega
 ·omega
theorem wD (r:aw): ∀(l:List Lit) (n:Nat),l.foldl (fun n l=>n+kV r l) n≤n+Lit.aB l
 | [],n=>by simp
 |x::t,n=>by
  have h1:=wD r t (n+kV r x);have h2:=ug r x;simp only[Wm,Lit.aB];omega
theorem Vz (r:aw) (hb:r.size≤100000000):Pure Tryz.prog 159 [.iv (b6 r)] (pI (Cd r)):=by
 have hbl:=Lit.aI r.body;have h0:Lit.aB r.body≤r.size:=X8 _ _;have ho:=vj r;have ho2:=j9 (aD r);refine az ae Tryz.func159 rfl (by decide) Tryz.ntmps159 rfl (by simp) rfl ?_;refine gA rfl ?_
 refine aL 0 r.body.length (V1 _) (fun i=>⟨[(0, .iv (b6 r)),(3,pI (((r.body.take i).foldl (fun n l=>n+kV r l) (aG (aD r)).length:Nat))),(15, .iv (lits r.body)),(16,pI r.body.length),(17,pI i)],[],0⟩) (fun _=>True) [] trivial
  (wk rfl rfl rfl ⟨.refl _,rfl, .refl _,rfl, .refl _,rfl, .refl _,rfl, .refl _,rfl,trivial⟩ trivial rfl) fun i hi _=>?_
 have hs1:=wD r (r.body.take i) (aG (aD r)).length;have hs2:=Lit.kJ r.body i;refine gA rfl ?_;refine VJ (fun h1=>?_) (fun h1=>?_)
 ·have h1:i<r.body.length:=by simpa using h1
  have hs:=c8 (g:=fun n l=>n+kV r l) (b:=(aG (aD r)).length) h1;have hsz:=Lit.bS r.body i h1;have hag:=(r.body.getD i default).jt;have hll:=ug r (r.body.getD i default);refine gA rfl ?_;refine VJ (fun h2=>?_) (fun h2=>?_)
  ·have h2:(r.body.getD i default).kind=4:=by simpa using h2
   rw[kV,if_pos h2] at hs hll;refine gA rfl (aK [] (d79 r (r.body.getD i default).agg (by omega)) rfl rfl rfl rfl rfl rfl rfl rfl ?_);refine gA rfl ?_;exact⟨h1,trivial,[],wk rfl rfl rfl ⟨.refl _,rfl, .of_eq (CG (by rw[hs];rfl)),rfl, .refl _,rfl, .refl _,rfl, .refl _,rfl,trivial⟩ trivial rfl⟩
  ·have h2: ¬(r.body.getD i default).kind=4:=by simpa using h2
   rw[kV,if_neg h2] at hs;refine gA rfl ?_;exact⟨h1,trivial,[],wk rfl rfl rfl ⟨.refl _,rfl, .of_eq (CG (by rw[hs];rfl)),rfl, .refl _,rfl, .refl _,rfl, .refl _,rfl,trivial⟩ trivial rfl⟩
 ·have h1:r.body.length≤i:=by simpa using h1
  refine gA rfl (au (by first|exact .inr rfl|exact .inl rfl) rfl (.of_eq ?_));rw[VY h1];rfl
end Go.Proofs.YtflegjieadkonaaGreatDoor
namespace Go.Proofs.YtflegjieadkonaaGreatDoor
open Go Go.Al
set_option maxRecDepth 10000
section
variable {may:List ah→Expr→Bool} {more:List ah→eZ→Bool} {body:List Lit}
theorem qv: ∀(n:Nat) (occ:List ah),ck (bB body) occ<n→bJ (may (cP may more body n occ)) (more (cP may more body n occ)) (cP may more body n occ) body=none
 |0,occ,h=>by omega
 |n+1,occ,h=>by
  cases hv:bJ (may occ) (more occ) occ body with
  |none=>rw[dN hv];exact hv
  |some v=>
   rw[dM hv];refine qv n _ ?_;obtain⟨g1,g2⟩:=ji hv;have hlt:=ow g1 g2
   have hlt2:ck (bB body) (occ++ [v])=ck (bB body) (eV occ v):=by
    unfold ck;congr 2
    funext x
    congr 1;rw[WK,bw,bw,c6,V3,VX]
   omega
theorem qy (occ:List ah):bJ (may (bK may more body occ)) (more (bK may more body occ)) (bK may more body occ) body=none:=by
 refine qv _ _ ?_;have h1:=ox (bB body) (occ++body.flatMap bc);have h2:=iM body;omega
theorem mq: ∀(n:Nat) (occ:List ah),∀x∈occ,x∈cP may more body n occ
 |0,occ,x,h=>h
 |n+1,occ,x,h=>by
  cases hv:bJ (may occ) (more occ) occ body with
  |none=>rw[dN hv];exact h
  |some v=>rw[dM hv];exact mq n _ x (Wp _ h)
theorem ma {m1:Expr→Bool} {m2:eZ→Bool} {occ:List ah}: ∀{l:List Lit},bJ m1 m2 occ l=none→ ∀x∈l,kS m1 m2 occ x=none
 | [],_,x,hx=>by cases hx
 |y::r,h,x,hx=>by
  simp only[bJ] at h;split at h
  ·cases h
  ·rename_i h1
   rcases V4.1 hx with rfl|hx
   ·exact h1
   ·exact ma h x hx
theorem qp {m1:Expr→Bool} {m2:eZ→Bool} {occ:List ah} {v:ah}: ∀{l:List Lit},bJ m1 m2 occ l=some v→ ∃x∈l,kS m1 m2 occ x=some v
 | [],h=>by cases h
 |y::r,h=>by
  simp only[bJ] at h;split at h
  ·rename_i w hw;exact⟨y,V8,hw.trans h⟩
  ·obtain⟨x,hx,h2⟩:=qp h;exact⟨x,V2 _ hx,h2⟩
variable (hmay: ∀a b:List ah,(∀x∈a,x∈b)→ ∀e,may a e=true→may b e=true) (hmore: ∀a b:List ah,(∀x∈a,x∈b)→ ∀e,more a e=true→more b e=true)
include hmay hmore
theorem zB {occ C:List ah} (hsub: ∀x∈occ,x∈C) {l:Lit} {v:ah} (h:kS (may occ) (more occ) occ l=some v) (hC:kS (may C) (more C) C l=none):v∈C:=by
 have hl: ∀y,y∉C→c4 C y=false:=fun y hy=>dX.2 hy;have hnew:=(rV h).2;refine Xa fun hv=>?_;unfold kS at h hC;by_cases hc:(fj (may occ) occ l).2=true
 ·rw[if_pos hc] at h
  simp only[VM] at h
  have hcC:(fj (may C) C l).2=true:=by
   unfold fj at hc h ⊢;split at hc
   ·cases hc
   ·rename_i h0
    rw[if_neg h0] at h ⊢;split at hc
    ·rename_i h1
     rw[if_pos h1] at h;have e1:l.left.var=v:=h;rw[if_pos ⟨h1.1,by rw[e1];exact hl v hv,hmay occ C hsub _ h1.2.2⟩]
    ·rename_i h1
     rw[if_neg h1] at h;split at hc
     ·rename_i h2
      rw[if_pos h2] at h;have e1:l.right.var=v:=h;split
      ·rfl
      ·rw[if_pos ⟨h2.1,by rw[e1];exact hl v hv,hmay occ C hsub _ h2.2.2⟩]
     ·cases hc
  rw[if_pos hcC] at hC;cases hC
 ·rw[if_neg hc] at h
  split at h
  ·rename_i h2
   simp only[VM] at h;split at hC
   ·cases hC
   ·rw[if_pos ⟨h2.1,by rw[h];exact hl v hv,hmore occ C hsub _ h2.2.2⟩] at hC
    cases hC
  ·cases h
theorem mo {C:List ah} (hC:bJ (may C) (more C) C body=none): ∀(n:Nat) (occ:List ah),(∀x∈occ,x∈C)→ ∀x∈cP may more body n occ,x∈C
 |0,occ,h,x,hx=>h x hx
 |n+1,occ,h,x,hx=>by
  cases hv:bJ (may occ) (more occ) occ body with
  |none=>rw[dN hv] at hx;exact h x hx
  |some v=>
   rw[dM hv] at hx;refine mo hC n _ (fun y hy=>?_) x hx;rcases V3.1 hy with hy|hy
   ·exact h y hy
   ·rw[VX] at hy
    subst hy;obtain⟨l,hl,hl2⟩:=qp hv;exact zB hmay hmore h hl2 (ma hC l hl)
theorem qw {occ1 occ2:List ah} (h: ∀x∈occ1,x∈occ2): ∀x∈bK may more body occ1,x∈bK may more body occ2:=by
 refine mo hmay hmore (qy occ2) _ _ fun x hx=>?_;refine mq _ _ x ?_;rcases V3.1 hx with hx|hx
 ·exact Wp _ (h x hx)
 ·exact Xk _ hx
end
theorem oR (a b:List ah) (h: ∀x∈a,x∈b) (e:Expr) (hc:aW a e=true):aW b e=true:=by
 unfold aW at*
 rw[Wl] at*
 exact fun x hx=>bw.2 (h x (bw.1 (hc x hx)))
theorem xa (a b:List ah) (h: ∀x∈a,x∈b) (e:Expr) (hc:b3 a e=true):b3 b e=true:=by
 unfold b3 at*
 cases hk:decide (e.kind=2) with
 |true=>simp
 |false=>
  rw[hk,Xr,Wc] at hc;rw[Xr,Wc];exact⟨hc.1,bw.2 (h _ (bw.1 hc.2))⟩
def yK (r:aw) (a:eZ):List ah:=((aG (aZ a)).map (·.1)).filter fun x=>c4 (aD r) x
def yw (r:aw) (a:eZ):List ah:=bK (fun occ=>aW occ) (fun _=>fun _=>false) a.body (yK r a)
theorem Jp {r:aw} {a:eZ} {occ:List ah} (h:Db r a occ) (s:ah):c4 (bK (fun occ=>aW occ) (fun _=>fun _=>false) a.body occ) s=c4 (yw r a) s:=by
 have hm: ∀x,x∈yK r a↔x∈occ:=fun x=>by
  unfold yK;rw[Wi,(dy (aZ a)).2 x,bw,h.2 x]
 rw[WK,bw,bw];exact⟨qw (more:=fun _=>fun _=>false) oR (fun _ _ _ _ h=>h) (fun x hx=>(hm x).2 hx) s,qw (more:=fun _=>fun _=>false) oR (fun _ _ _ _ h=>h) (fun x hx=>(hm x).1 hx) s⟩
def r6 (r:aw) (m:NM):Bool:=m.any fun x=>!c4 (bG r) x.1
theorem lR {r:aw} {m:NM} (h: ∀j,j<m.length→ ∀x,m[j]? =some x→c4 (bG r) x.1=true):r6 r m=false:=by
 refine WA.2 fun x hx=>?_;obtain⟨j,hj⟩:=WE hx;rw[h j (VO.1 hj).1 x hj];simp
theorem nN {r:aw} {m:NM} {j:Nat} {x:(KC.str).K×Int} (h:m[j]? =some x) (hx:c4 (bG r) x.1=false):r6 r m=true:=
 WU.2 ⟨x,Wj h,by rw[hx];rfl⟩
def ki (r:aw) (a:eZ):NM:=(aG (aZ a)).filter fun x=>!c4 ((kh r a).map (·.1)) x.1
def jR (r:aw) (lit:Int):Bool:=
 if lit<0 then r6 r (aG (cC r.head))
 else if(aq r lit).kind=4 then(kh r (aq r lit).agg).any (fun x=>!c4 (yw r (aq r lit).agg) x.1)||r6 r (bump (ki r (aq r lit).agg) (aq r lit).bs)
 else r6 r (aG (cD (aq r lit)))
theorem Va (a:Atom) (hb:a.an.length≤100000000000):b8 Tryz.prog 135 [.mp 0,ag a.c] [.ej] (.bM []) [(0,some (cf (aG (cC a))))] 1:=
 b8.OX (d88 [] a (by simp;omega)) ⟨qR,trivial⟩
theorem U9 (l:Lit) (hb:l.size≤100000000000):b8 Tryz.prog 136 [.mp 0,ag l.c] [.ej] (.bM []) [(0,some (cf (aG (cD l))))] 1:=
 b8.OX (d89 l [] (by simp;omega)) ⟨qR,trivial⟩
theorem uh (f:ah→Bool) (s:ah): ∀(m:NM),bF .str (m.filter fun x=>f x.1) s 0=if f s=true then bF .str m s 0 else 0
 | []=>by simp[bF]
 |(a,b)::r=>by
  have ih:=uh f s r
  cases hf:f a with
  |true=>
   rw[List.filter_cons_of_pos (by exact hf)];simp only[bF];split
   ·rename_i h;subst h;rw[if_pos hf]
   ·exact ih
  |false=>
   rw[List.filter_cons_of_neg (by simp[hf]),ih];simp only[bF];split
   ·rename_i h
    split
    ·rename_i h2;subst h2;rw[hf] at h;cases h
    ·rfl
   ·rfl
theorem Jz (r:aw) (a:eZ) (s:ah):0≤bF .str (ki r a) s 0∧bF .str (ki r a) s 0≤nX (aZ a) s:=by
 have h1:=bu (aZ a) s;have h2:=uh (fun x=>!c4 ((kh r a).map (·.1)) x) s (aG (aZ a));unfold ki;rw[h2,h1];split<;>omega
set_option maxHeartbeats 2000000 in
theorem Vw (r:aw) (lit:Int) (hl:lit<r.body.length) (hb:r.size≤10000000):Pure Tryz.prog 170 [.iv (b6 r),pI lit] (pB (jR r lit)):=by
 have hbl:=Lit.aI r.body;have h0:Lit.aB r.body≤r.size:=X8 _ _;have h0':r.head.an.length≤r.size:=Nat.le_add_right _ _;have hlo:=yF r;refine az ae Tryz.func170 rfl (by decide) Tryz.ntmps170 rfl (by simp) rfl ?_;refine gA rfl (aK [] (d73 r (by omega)) rfl rfl rfl rfl rfl rfl rfl rfl ?_);refine gA rfl ?_;refine VJ (fun h2=>?_) (fun h2=>?_)
 ·have h2:lit<0:=by simpa using h2
  refine gA rfl (aK [1] (Va r.head (by omega)) rfl rfl rfl rfl rfl rfl rfl rfl ?_);refine gA rfl ?_;have hml:(aG (cC r.head)).length≤1000000000000:=by have:=j9 (cC r.head);have:=gY r.head;omega
  refine eJ (aG (cC r.head)) (fun vs=>⟨[(5, .mp 0),(76, .ptr 2 0)],[(0,some (cf (aG (bG r)))),(2,some (.bt .str sE (aG (cC r.head)) vs none))],3⟩) (fun vs=> ∀j∈vs,∀x,(aG (cC r.head))[j]? =some x→c4 (bG r) x.1=true) [] (by simp)
   (wk rfl rfl rfl ⟨.refl _,rfl, .refl _,rfl,trivial⟩ (hM rfl rfl rfl (hI rfl rfl (.inl rfl) rfl trivial)) rfl) fun vs hJ=>?_
  refine lB rfl trivial (db rfl rfl rfl rfl rfl (by decide) (fun hall=>?_) fun j x hx hj=>?_)
  ·refine gA rfl (au (by first|exact .inr rfl|exact .inl rfl) rfl (.of_eq ?_))
   refine(kE ?_:pB false=_);rw[jR,if_pos h2,lR fun j hj x hx=>hJ j (hall j hj) x hx]
  ·have hlk:=bu (bG r) x.1
   have hct:=bU (occ:=bG r) (s:=x.1);refine gA rfl ?_;refine VJ (fun g1=>?_) (fun g1=>?_)
   ·have g1:c4 (bG r) x.1=false:=by
     have:=of_decide_eq_true g1;rw[hct];simp;omega
    refine gA rfl (au (by first|exact .inr rfl|exact .inl rfl) rfl (.of_eq ?_));refine(kE ?_:pB true=_);rw[jR,if_pos h2,nN hx g1]
   ·have g1:c4 (bG r) x.1=true:=by
     have:=of_decide_eq_false g1;rw[hct];simp;omega
    refine gA rfl ?_
    exact⟨j,x,hx,hj,fun i hi y hy=>by
     rcases V4.1 hi with rfl|hi
     ·rw[hx] at hy;cases hy;exact g1
     ·exact hJ i hi y hy,[],wk rfl rfl rfl ⟨.refl _,rfl, .refl _,rfl,trivial⟩ (hM rfl rfl rfl (hI rfl rfl (.inr rfl) rfl trivial)) rfl⟩
 have h2: ¬lit<0:=by simpa using h2
 have hk:lit.toNat<r.body.length:=by omega
 have hsz:=Lit.bS r.body lit.toNat hk;have hag:=(aq r lit).jt;have hle:(aq r lit).size≤Lit.aB r.body:=hsz;have hal:=ju (aq r lit).agg;have hlol:=kW (aq r lit);refine gA rfl ?_;refine VJ (fun h3=>?_) (fun h3=>?_);rotate_left
 ·have h3: ¬(aq r lit).kind=4:=by simpa[aq] using h3
  refine gA rfl (aK [1] (U9 (aq r lit) (by omega)) rfl rfl rfl rfl rfl rfl rfl rfl ?_);refine gA rfl ?_;have hml:(aG (cD (aq r lit))).length≤1000000000000:=by have:=j9 (cD (aq r lit));omega
  refine eJ (aG (cD (aq r lit))) (fun vs=>⟨[(5, .mp 0),(76, .ptr 3 0)],[(0,some (cf (aG (bG r)))),(3,some (.bt .str sE (aG (cD (aq r lit))) vs none))],4⟩) (fun vs=> ∀j∈vs,∀x,(aG (cD (aq r lit)))[j]? =some x→c4 (bG r) x.1=true) [] (by simp)
   (wk rfl rfl rfl ⟨.refl _,rfl, .refl _,rfl,trivial⟩ (hM rfl rfl rfl (hI rfl rfl (.inl rfl) rfl trivial)) rfl) fun vs hJ=>?_
  refine lB rfl trivial (db rfl rfl rfl rfl rfl (by decide) (fun hall=>?_) fun j x hx hj=>?_)
  ·refine gA rfl (au (by first|exact .inr rfl|exact .inl rfl) rfl (.of_eq ?_))
   refine(kE ?_:pB false=_);rw[jR,if_neg h2,if_neg h3,lR fun j hj x hx=>hJ j (hall j hj) x hx]
  ·have hlk:=bu (bG r) x.1
   have hct:=bU (occ:=bG r) (s:=x.1);refine gA rfl ?_;refine VJ (fun g1=>?_) (fun g1=>?_)
   ·have g1:c4 (bG r) x.1=false:=by
     have:=of_decide_eq_true g1;rw[hct];simp;omega
    refine gA rfl (au (by first|exact .inr rfl|exact .inl rfl) rfl (.of_eq ?_));refine(kE ?_:pB true=_);rw[jR,if_neg h2,if_neg h3,nN hx g1]
   ·have g1:c4 (bG r) x.1=true:=by
     have:=of_decide_eq_false g1;rw[hct];simp;omega
    refine gA rfl ?_
    exact⟨j,x,hx,hj,fun i hi y hy=>by
     rcases V4.1 hi with rfl|hi
     ·rw[hx] at hy;cases hy;exact g1
     ·exact hJ i hi y hy,[],wk rfl rfl rfl ⟨.refl _,rfl, .refl _,rfl,trivial⟩ (hM rfl rfl rfl (hI rfl rfl (.inr rfl) rfl trivial)) rfl⟩
 have h3:(aq r lit).kind=4:=by simpa[aq] using h3
 refine gA rfl (xF [] (d161 r (aq r lit).agg (by omega)) rfl rfl rfl rfl rfl rfl rfl fun q h' n' hR=>?_);obtain⟨ok,⟨occ,hio,hok⟩,rfl,rfl,rfl⟩:=hR;have hoki: ∀s,c4 ok s=c4 (yw r (aq r lit).agg) s:=fun s=>by rw[hok];exact Jp hio s
 refine⟨_,rfl,?_⟩;have hom:=j9 (aZ (aq r lit).agg);have hlm:(kh r (aq r lit).agg).length≤(aG (aZ (aq r lit).agg)).length:=WR _ _;have hkm:(ki r (aq r lit).agg).length≤(aG (aZ (aq r lit).agg)).length:=WR _ _;have hkd:=(dy (aZ (aq r lit).agg)).1;refine gA rfl (aK [] (d79 r (aq r lit).agg (by omega)) rfl rfl rfl rfl rfl rfl rfl rfl ?_);refine gA rfl ?_
 refine eJ (kh r (aq r lit).agg) (fun vs=>⟨[(0, .iv (b6 r)),(5, .mp 0),(7, .ptr 2 0),(8, .mp 3),(43, .ptr 5 0)],[(0,some (cf (aG (bG r)))),(2,some (aE (aq r lit).c)),(3,some (cf (aG ok))),(5,some (.bt .str sE (kh r (aq r lit).agg) vs none))],6⟩) (fun vs=> ∀j∈vs,∀x,(kh r (aq r lit).agg)[j]? =some x→c4 (yw r (aq r lit).agg) x.1=true) [] (by simp)
  (wk rfl rfl rfl ⟨.refl _,rfl, .refl _,rfl, .refl _,rfl, .refl _,rfl, .refl _,rfl,trivial⟩ (hM rfl rfl rfl (hC rfl rfl rfl (hM rfl rfl rfl (hI rfl rfl (.inl rfl) rfl trivial)))) rfl) fun vs hJ=>?_
 refine lB rfl trivial (db rfl rfl rfl rfl rfl (by decide) (fun hall=>?_) fun j x hx hj=>?_);rotate_left
 ·have hlk:=bu ok x.1
  have hct:=bU (occ:=ok) (s:=x.1);have hok2:=hoki x.1;refine gA rfl ?_;refine VJ (fun g1=>?_) (fun g1=>?_)
  ·have g1:c4 (yw r (aq r lit).agg) x.1=false:=by
    have:=of_decide_eq_true g1;rw[←hok2,hct];simp;omega
   refine gA rfl (au (by first|exact .inr rfl|exact .inl rfl) rfl (.of_eq ?_));refine(kE ?_:pB true=_);rw[jR,if_neg h2,if_pos h3,WU.2 ⟨x,Wj hx,by rw[g1];rfl⟩,Yn]
  ·have g1:c4 (yw r (aq r lit).agg) x.1=true:=by
    have:=of_decide_eq_false g1;rw[←hok2,hct];simp;omega
   refine gA rfl ?_
   exact⟨j,x,hx,hj,fun i hi y hy=>by
    rcases V4.1 hi with rfl|hi
    ·rw[hx] at hy;cases hy;exact g1
    ·exact hJ i hi y hy,[],wk rfl rfl rfl ⟨.refl _,rfl, .refl _,rfl, .refl _,rfl, .refl _,rfl, .refl _,rfl,trivial⟩ (hM rfl rfl rfl (hC rfl rfl rfl (hM rfl rfl rfl (hI rfl rfl (.inr rfl) rfl trivial)))) rfl⟩
 have hA:(kh r (aq r lit).agg).any (fun x=>!c4 (yw r (aq r lit).agg) x.1)=false:=WA.2 fun x hx=>by
  obtain⟨j,hj⟩:=WE hx;rw[hJ j (hall j (VO.1 hj).1) x hj];simp
 refine gA rfl (aK [] (d127 (aq r lit).agg (by omega)) rfl rfl rfl rfl rfl rfl rfl rfl ?_);refine gA rfl (aK [] (d79 r (aq r lit).agg (by omega)) rfl rfl rfl rfl rfl rfl rfl rfl ?_);refine gA rfl ?_
 refine eJ (kh r (aq r lit).agg) (fun vs=>⟨[(5, .mp 0),(6, .mp 6),(7, .ptr 2 0),(59, .ptr 8 0)],[(0,some (cf (aG (bG r)))),(2,some (aE (aq r lit).c)),(6,some (cf ((fC (kh r (aq r lit).agg) vs).foldl (fun m k=>lA .str m k) (aG (aZ (aq r lit).agg))))),(8,some (.bt .str sE (kh r (aq r lit).agg) vs none))],9⟩) (fun vs=>vs.Nodup∧ ∀j∈vs,j<(kh r (aq r lit).agg).length) [] ⟨WB,by simp⟩
  (wk rfl rfl rfl ⟨.refl _,rfl, .refl _,rfl, .refl _,rfl, .refl _,rfl,trivial⟩ (hM rfl rfl rfl (hC rfl rfl rfl (hM rfl rfl rfl (hI rfl rfl (.inl rfl) rfl trivial)))) rfl) fun vs2 hJ2=>?_
 obtain⟨hJ3,hJ4⟩:=hJ2;refine lB rfl trivial (db rfl rfl rfl rfl rfl (by decide) (fun hall2=>?_) fun j x hx hj=>?_);rotate_left
 ·have hk:=jH (kh r (aq r lit).agg) vs2 j x hx
  refine gA rfl ?_;exact⟨j,x,hx,hj,⟨WC.2 ⟨hj,hJ3⟩,fun i hi=>(V4.1 hi).elim (fun h=>h▸(VO.1 hx).1) (hJ4 i)⟩,[],wk rfl rfl rfl ⟨.refl _,rfl, .refl _,rfl, .refl _,rfl, .refl _,rfl,trivial⟩ (hM rfl rfl rfl (hC rfl rfl rfl (hM rfl (by rw[hk,Xe];rfl) rfl (hI rfl rfl (.inr rfl) rfl trivial)))) rfl⟩
 have hkp:(fC (kh r (aq r lit).agg) vs2).foldl (fun m k=>lA .str m k) (aG (aZ (aq r lit).agg))=ki r (aq r lit).agg:=by
  rw[mg _ hkd];unfold ki;congr 1
  funext x
  congr 1;rw[WK,bw,bw,(iZ _ vs2 hJ3 hJ4 hall2).mem_iff]
 rw[hkp];have hlkk:=Jz r (aq r lit).agg (aq r lit).bs;have hctt:=fx (aZ (aq r lit).agg) (aq r lit).bs;refine gA rfl ?_;have hml:(bump (ki r (aq r lit).agg) (aq r lit).bs).length≤1000000000000:=by have:=rK (ki r (aq r lit).agg) (aq r lit).bs (bF .str (ki r (aq r lit).agg) (aq r lit).bs 0+1);unfold bump;omega
 refine eJ (bump (ki r (aq r lit).agg) (aq r lit).bs) (fun vs=>⟨[(5, .mp 0),(76, .ptr 9 0)],[(0,some (cf (aG (bG r)))),(9,some (.bt .str sE (bump (ki r (aq r lit).agg) (aq r lit).bs) vs none))],10⟩) (fun vs=> ∀j∈vs,∀x,(bump (ki r (aq r lit).agg) (aq r lit).bs)[j]? =some x→c4 (bG r) x.1=true) [] (by simp)
  (wk rfl rfl rfl ⟨.refl _,rfl, .refl _,rfl,trivial⟩ (hM rfl rfl rfl (hI rfl rfl (.inl rfl) rfl trivial)) rfl) fun vs hJ=>?_
 refine lB rfl trivial (db rfl rfl rfl rfl rfl (by decide) (fun hall=>?_) fun j x hx hj=>?_)
 ·refine gA rfl (au (by first|exact .inr rfl|exact .inl rfl) rfl (.of_eq ?_))
  refine(kE ?_:pB false=_);rw[jR,if_neg h2,if_pos h3,hA,Xr,lR fun j hj x hx=>hJ j (hall j hj) x hx]
 ·have hlk:=bu (bG r) x.1
  have hct:=bU (occ:=bG r) (s:=x.1);refine gA rfl ?_;refine VJ (fun g1=>?_) (fun g1=>?_)
  ·have g1:c4 (bG r) x.1=false:=by
    have:=of_decide_eq_true g1;rw[hct];simp;omega
   refine gA rfl (au (by first|exact .inr rfl|exact .inl rfl) rfl (.of_eq ?_));refine(kE ?_:pB true=_);rw[jR,if_neg h2,if_pos h3,hA,Xr,nN hx g1]
  ·have g1:c4 (bG r) x.1=true:=by
    have:=of_decide_eq_false g1;rw[hct];simp;omega
   refine gA rfl ?_
   exact⟨j,x,hx,hj,fun i hi y hy=>by
    rcases V4.1 hi with rfl|hi
    ·rw[hx] at hy;cases hy;exact g1
    ·exact hJ i hi y hy,[],wk rfl rfl rfl ⟨.refl _,rfl, .refl _,rfl,trivial⟩ (hM rfl rfl rfl (hI rfl rfl (.inr rfl) rfl trivial)) rfl⟩
end Go.Proofs.YtflegjieadkonaaGreatDoor
namespace Go.Proofs.YtflegjieadkonaaGreatDoor
open Go Go.Al
set_option maxRecDepth 10000
def CV (a b:ah):Prop:=ly a<ly b
theorem D3 (a b:ah):Op.bytesLess a.toList b.toList=true↔CV a b:=by
 rw[ByteArray.toList_eq,ByteArray.toList_eq,bytesLess_eq,decide_eq_true_eq];rfl
theorem uX {a b:ah} (h:ly a=ly b):a=b:=by rw[←qQ a,←qQ b,h]
theorem uf {a b c:ah} (h:CV a b) (k:CV b c):CV a c:=List.lt_trans h k
theorem kT (a:ah): ¬CV a a:=List.lt_irrefl _
theorem Jy {a b:ah} (h: ¬a=b) (k: ¬CV a b):CV b a:=by
 refine Xa fun hc=>h (uX (Yz ?_ ?_))
 ·exact Y2.1 hc
 ·exact Y2.1 k
abbrev te (l:List ah):Prop:=l.Pairwise CV
theorem sd: ∀{l:List ah} (_:te l) (s:ah),te (ins l s)
 | [],_,s=>List.pairwise_singleton _ _
 |x::r,h,s=>by
  obtain⟨h1,h2⟩:=Xb.1 h;simp only[ins];split
  ·exact h
  ·rename_i hne
   split
   ·rename_i hlt
    have hlt:=(D3 x s).1 hlt;refine Xb.2 ⟨fun y hy=>?_,sd h2 s⟩;rcases vp.1 hy with hy|rfl
    ·exact h1 y hy
    ·exact hlt
   ·rename_i hlt
    have hlt:CV s x:=Jy hne fun h=>hlt ((D3 x s).2 h);refine Xb.2 ⟨fun y hy=>?_,h⟩;rcases V4.1 hy with rfl|hy
    ·exact hlt
    ·exact uf hlt (h1 y hy)
theorem n4 {l:List ah} (h:te l) (s:ah):te (eV l s):=by rw[tz];exact sd h s
theorem lC: ∀{m l:List ah} (_:te l),te (fS l m)
 | [],_,h=>h
 |x::r,_,h=>lC (m:=r) (n4 h x)
theorem kI: ∀{a b:List ah},te a→te b→(∀x,x∈a↔x∈b)→a=b
 | [],[],_,_,_=>rfl
 | [],y::s,_,_,h=>by have:=(h y).2 V8;cases this
 |x::r,[],_,_,h=>by have:=(h x).1 V8;cases this
 |x::r,y::s,ha,hb,h=>by
  obtain⟨a1,a2⟩:=Xb.1 ha;obtain⟨b1,b2⟩:=Xb.1 hb
  have hxy:x=y:=by
   rcases V4.1 ((h x).1 V8) with h1|h1
   ·exact h1
   ·rcases V4.1 ((h y).2 V8) with h2|h2
    ·exact h2.symm
    ·exact absurd (uf (b1 x h1) (a1 y h2)) (kT _)
  subst hxy;rw[kI a2 b2 fun z=>?_];constructor
  ·intro hz
   rcases V4.1 ((h z).1 (V2 _ hz)) with rfl|h3
   ·exact absurd (a1 z hz) (kT _)
   ·exact h3
  ·intro hz
   rcases V4.1 ((h z).2 (V2 _ hz)) with rfl|h3
   ·exact absurd (b1 z hz) (kT _)
   ·exact h3
theorem dK {l:List ah} (h:l.Nodup):te (c9 l):=by
 have h1:=gq (l.map ly);rw[←o6] at h1
 have hn:(c9 l).Nodup:=by
  have hp:((c9 l).map ly).Perm (l.map ly):=by rw[o6];exact ew _
  have hln:(l.map ly).Nodup:=List.Pairwise.map ly (fun a b hab e=>hab (uX e)) h;have:=hp.nodup_iff.2 hln;exact List.Pairwise.of_map ly (fun a b hab e=>hab (by rw[e])) this
 have h2:(c9 l).Pairwise fun a b=>ly a≤ly b:=(List.pairwise_map.1 h1).imp fun{a b} hab=>of_decide_eq_true hab;refine(List.Pairwise.and h2 hn).imp fun{a b} hab=>?_;obtain⟨h3,h4⟩:=hab;exact Xa fun hc=>h4 (uX (Yz h3 (Y2.1 hc)))
theorem IK {m:NM} {l:List ah} (hm:(m.map (·.1)).Nodup) (hl:te l) (h: ∀x,x∈m.map (·.1)↔x∈l):ec m=l:=by
 refine kI (dK hm) hl fun x=>?_;rw[ec,cJ];exact h x
theorem BW {occ l:List ah} (hl:te l) (h: ∀x,x∈occ↔x∈l):ec (aG occ)=l:=
 IK (dy occ).1 hl fun x=>((dy occ).2 x).trans (h x)
theorem mY {x:ah}: ∀{l:List Term} {a:List ah},x∈l.foldl ye a↔x∈a∨x∈l.flatMap fun t=>if t.kind=1 then[t.var] else[]
 | [],a=>by simp
 |t::r,a=>by
  rw[Wm,mY,WT,V3];unfold ye;split
  ·rw[c6,VX,or_assoc]
  ·simp
theorem vq {x:ah} {a:Atom}:x∈ku a↔x∈cC a:=by
 unfold ku cC;rw[mY];simp
def T2 (a:List ah×Bool) (l:Lit):List ah×Bool:=if(jJ l a.1).2=true then(eV a.1 (jJ l a.1).1,true) else a
def pb (body:List Lit) (k:List ah):List ah×Bool:=body.foldl T2 (k,false)
def rL (body:List Lit):Nat→List ah→List ah
 |0,k=>k
 |n+1,k=>if(pb body k).2=true then rL body n (pb body k).1 else(pb body k).1
theorem w9 {body:List Lit} {n:Nat} {k:List ah}:rL body (n+1) k=if(pb body k).2=true then rL body n (pb body k).1 else(pb body k).1:=rfl
def jQ (r:aw):List ah:=rL r.body (3*r.body.length+1) (r.body.foldl AR [])
end Go.Proofs.YtflegjieadkonaaGreatDoor
