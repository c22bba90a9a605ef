/-
  What the proofs of the claims need: part 3 of 7.
-/
import Derived.Test.YtflegjieadkonaaGreatDoorPart2
import Derived.KernelRfl
import Derived.Test.YtflegjieadkonaaGreatDoorProg
import Derived.Sort.EncStr
import Derived.Sort.Grow
import Derived.Sort.Walk0
open And renaming intro→Wl
open Array renaming getD_eq_getD_getElem?→Wm,getElem?_append_left→Xq,getElem?_eq_getElem→Xa,getElem?_modify→W8
open Bool renaming and_eq_true→WN,eq_iff_iff→Xn,false_eq_true→Yl,false_or→Yb,not_false→YW,true_or→Y7
open ByteArray renaming empty→Wu
open Classical renaming byContradiction→XJ
open Int renaming ofNat_lt→Xe,toNat_natCast→Wp
open List.Nodup renaming length_le_of_subset→Xm
open List renaming all_eq_false→YB,all_eq_true→WX,any_eq_false→Xg,any_eq_true→Xr,append_assoc→Wv,append_nil→Xo,cons_append→XF,ext_getElem?→Yo,filterMap_append→Zo,filterMap_cons→Zw,filter_cons→Yk,filter_eq_self→Zx,filter_sublist→Y6,findIdx?_eq_none_iff→Y9,findIdx?_eq_some_iff_getElem→YS,flatMap_append→Ys,flatMap_cons→XA,foldl_append→Ye,foldl_cons→Xf,getD_cons_succ→XO,getD_eq_getElem?_getD→Ws,getElem?_eq_getElem→Wt,getElem?_eq_some_iff→Wr,getElem?_map→Ww,getElem?_of_mem→W6,getElem?_take→W7,getElem_inj→YJ,getElem_map→Y2,getElem_mem→Xj,le_antisymm→Zg,length_append→Wn,length_cons→W2,length_filter_le→XB,length_map→W3,length_nil→X4,length_range→Yp,length_singleton→Xp,length_take→Xb,map_append→Wq,map_cons→WI,map_nil→Xd,mem_append→WD,mem_append_left→W0,mem_append_right→XV,mem_cons→WG,mem_cons_of_mem→WE,mem_cons_self→WM,mem_filter→WW,mem_flatMap→X9,mem_map→W4,mem_of_getElem?→WY,mem_range→WZ,mem_singleton→Wy,nodup_append→XR,nodup_cons→Xu,nodup_nil→Xk,not_lt→ZF,not_mem_nil→Y1,pairwise_cons→XK,range→WL,take_append_drop→X6,take_of_length_le→WB,take_succ_cons→XE
open Nat renaming add_zero→Yv,le_add_left→YO,le_of_ble_eq_true→Wj,le_of_not_lt→Xc,le_refl→Wz,min_le_right→ZD,mul_one→Zd,sub_zero→Zj,zero_add→WQ,zero_le→WC
open Option renaming getD_some→XM,map_eq_some_iff→Wx,map_some→Xy
open Option.some renaming injEq→Wo
open Prod renaming fst→WT
namespace Go.Proofs.YtflegjieadkonaaGreatDoor
open Go Go.Al
def ty1:aB:=⟨.ai (.func #[] #[] false),1,8, .nilFunc,false⟩
theorem SZ:ad Tryz.prog 1 ty1:=⟨ab (by kernel_rfl),⟨Tryz.underlying1,rfl⟩,fun h=>nomatch h⟩
def ty2:aB:=⟨.ai (.int .i64),1,8, .int .i64 (0),false⟩
theorem SY:ad Tryz.prog 2 ty2:=⟨ab (by kernel_rfl),⟨Tryz.underlying2,rfl⟩,fun h=>nomatch h⟩
def ty3:aB:=⟨.ai (.int .i64),1,8, .int .i64 (0),false⟩
theorem SW:ad Tryz.prog 3 ty3:=⟨ab (by kernel_rfl),⟨Tryz.underlying3,rfl⟩,fun h=>nomatch h⟩
def ty4:aB:=⟨.ai (.bool),1,1, .bool false,false⟩
theorem SV:ad Tryz.prog 4 ty4:=⟨ab (by kernel_rfl),⟨Tryz.underlying4,rfl⟩,fun h=>nomatch h⟩
def ty5:aB:=⟨.ai (.int .u8),1,1, .int .u8 (0),false⟩
theorem SU:ad Tryz.prog 5 ty5:=⟨ab (by kernel_rfl),⟨Tryz.underlying5,rfl⟩,fun h=>nomatch h⟩
def ty6:aB:=⟨.ai (.int .u8),1,1, .int .u8 (0),false⟩
theorem SS:ad Tryz.prog 6 ty6:=⟨ab (by kernel_rfl),⟨Tryz.underlying6,rfl⟩,fun h=>nomatch h⟩
def ty7:aB:=⟨.aU [(0,2),(1,3),(2,4),(3,6)],4,24, .agg #[.int .i64 (0), .int .i64 (0), .bool false, .int .u8 (0)],true⟩
theorem SR:ad Tryz.prog 7 ty7:=⟨ab (by kernel_rfl),⟨_,Tryz.underlying7,rfl⟩,fun _=>aM Tryz.underlying7 Tryz.stoodInHeld7 Tryz.eqGuardType7 (by decide)⟩
def ty8:aB:=⟨.aU [(0,2),(1,3),(2,4),(3,6)],4,24, .agg #[.int .i64 (0), .int .i64 (0), .bool false, .int .u8 (0)],true⟩
theorem SQ:ad Tryz.prog 8 ty8:=⟨ab (by kernel_rfl),⟨_,Tryz.underlying8,rfl⟩,fun _=>aM Tryz.underlying8 Tryz.stoodInHeld8 Tryz.eqGuardType8 (by decide)⟩
def ty9:aB:=⟨.ai (.string),1,16, .string Wu,false⟩
theorem SP:ad Tryz.prog 9 ty9:=⟨ab (by kernel_rfl),⟨Tryz.underlying9,rfl⟩,fun h=>nomatch h⟩
def Uu:aB:=⟨.ai (.string),1,16, .string Wu,false⟩
theorem Ru:ad Tryz.prog 10 Uu:=⟨ab (by kernel_rfl),⟨Tryz.underlying10,rfl⟩,fun h=>nomatch h⟩
def Ut:aB:=⟨.ai (.string),1,16, .string Wu,false⟩
theorem Rt:ad Tryz.prog 11 Ut:=⟨ab (by kernel_rfl),⟨Tryz.underlying11,rfl⟩,fun h=>nomatch h⟩
def Us:aB:=⟨.ai (.int .u64),1,8, .int .u64 (0),false⟩
theorem Rs:ad Tryz.prog 12 Us:=⟨ab (by kernel_rfl),⟨Tryz.underlying12,rfl⟩,fun h=>nomatch h⟩
def Ur:aB:=⟨.aU [(0,9),(1,12)],2,24, .agg #[.string Wu, .int .u64 (0)],false⟩
theorem Rr:ad Tryz.prog 13 Ur:=⟨ab (by kernel_rfl),⟨_,Tryz.underlying13,rfl⟩,fun h=>nomatch h⟩
def Uq:aB:=⟨.aU [(0,9),(1,12)],2,24, .agg #[.string Wu, .int .u64 (0)],false⟩
theorem Rq:ad Tryz.prog 14 Uq:=⟨ab (by kernel_rfl),⟨_,Tryz.underlying14,rfl⟩,fun h=>nomatch h⟩
def Uo:aB:=⟨.ai (.pointer 348),1,8, .pointer none,false⟩
theorem Rp:ad Tryz.prog 15 Uo:=⟨ab (by kernel_rfl),⟨Tryz.underlying15,rfl⟩,fun h=>nomatch h⟩
def Un:aB:=⟨.ai (.pointer 351),1,8, .pointer none,false⟩
theorem Ro:ad Tryz.prog 16 Un:=⟨ab (by kernel_rfl),⟨Tryz.underlying16,rfl⟩,fun h=>nomatch h⟩
def Um:aB:=⟨.ai (.pointer 358),1,8, .pointer none,false⟩
theorem Rn:ad Tryz.prog 17 Um:=⟨ab (by kernel_rfl),⟨Tryz.underlying17,rfl⟩,fun h=>nomatch h⟩
def Ul:aB:=⟨.aU [(0,17)],1,8, .agg #[.pointer none],false⟩
theorem Rm:ad Tryz.prog 18 Ul:=⟨ab (by kernel_rfl),⟨_,Tryz.underlying18,rfl⟩,fun h=>nomatch h⟩
def Uk:aB:=⟨.aU [(0,17)],1,8, .agg #[.pointer none],false⟩
theorem Rl:ad Tryz.prog 19 Uk:=⟨ab (by kernel_rfl),⟨_,Tryz.underlying19,rfl⟩,fun h=>nomatch h⟩
def Uj:aB:=⟨.ai (.int .i32),1,4, .int .i32 (0),false⟩
theorem Rk:ad Tryz.prog 21 Uj:=⟨ab (by kernel_rfl),⟨Tryz.underlying21,rfl⟩,fun h=>nomatch h⟩
def Ui:aB:=⟨.ai (.slice 49),1,24, .slice none 0 0,false⟩
theorem Rj:ad Tryz.prog 22 Ui:=⟨ab (by kernel_rfl),⟨Tryz.underlying22,rfl⟩,fun h=>nomatch h⟩
def Uh:aB:=⟨.ai (.slice 76),1,24, .slice none 0 0,false⟩
theorem Ri:ad Tryz.prog 23 Uh:=⟨ab (by kernel_rfl),⟨Tryz.underlying23,rfl⟩,fun h=>nomatch h⟩
def Ug:aB:=⟨.aU [(0,22),(1,23)],2,48, .agg #[.slice none 0 0, .slice none 0 0],true⟩
theorem Rh:ad Tryz.prog 24 Ug:=⟨ab (by kernel_rfl),⟨_,Tryz.underlying24,rfl⟩,fun _=>aM Tryz.underlying24 Tryz.stoodInHeld24 Tryz.eqGuardType24 (by decide)⟩
def Uf:aB:=⟨.aU [(0,22),(1,23)],2,48, .agg #[.slice none 0 0, .slice none 0 0],true⟩
theorem Rf:ad Tryz.prog 25 Uf:=⟨ab (by kernel_rfl),⟨_,Tryz.underlying25,rfl⟩,fun _=>aM Tryz.underlying25 Tryz.stoodInHeld25 Tryz.eqGuardType25 (by decide)⟩
def Ue:aB:=⟨.ai (.func #[] #[4] false),1,8, .nilFunc,false⟩
theorem Rc:ad Tryz.prog 26 Ue:=⟨ab (by kernel_rfl),⟨Tryz.underlying26,rfl⟩,fun h=>nomatch h⟩
def Ud:aB:=⟨.ai (.func #[25] #[25] false),1,8, .nilFunc,false⟩
theorem Rb:ad Tryz.prog 27 Ud:=⟨ab (by kernel_rfl),⟨Tryz.underlying27,rfl⟩,fun h=>nomatch h⟩
def Uc:aB:=⟨.ai (.slice 80),1,24, .slice none 0 0,false⟩
theorem Ra:ad Tryz.prog 28 Uc:=⟨ab (by kernel_rfl),⟨Tryz.underlying28,rfl⟩,fun h=>nomatch h⟩
def Ub:aB:=⟨.ai (.func #[25] #[28] false),1,8, .nilFunc,false⟩
theorem Q9:ad Tryz.prog 29 Ub:=⟨ab (by kernel_rfl),⟨Tryz.underlying29,rfl⟩,fun h=>nomatch h⟩
def Ua:aB:=⟨.ai (.slice 53),1,24, .slice none 0 0,false⟩
theorem Q8:ad Tryz.prog 30 Ua:=⟨ab (by kernel_rfl),⟨Tryz.underlying30,rfl⟩,fun h=>nomatch h⟩
def T9:aB:=⟨.ai (.func #[25] #[30] false),1,8, .nilFunc,false⟩
theorem Q7:ad Tryz.prog 31 T9:=⟨ab (by kernel_rfl),⟨Tryz.underlying31,rfl⟩,fun h=>nomatch h⟩
def T8:aB:=⟨.ai (.slice 56),1,24, .slice none 0 0,false⟩
theorem Q6:ad Tryz.prog 32 T8:=⟨ab (by kernel_rfl),⟨Tryz.underlying32,rfl⟩,fun h=>nomatch h⟩
def T7:aB:=⟨.ai (.int .i64),1,8, .int .i64 (0),false⟩
theorem Q5:ad Tryz.prog 33 T7:=⟨ab (by kernel_rfl),⟨Tryz.underlying33,rfl⟩,fun h=>nomatch h⟩
def T6:aB:=⟨.aU [(0,3),(1,3)],2,16, .agg #[.int .i64 (0), .int .i64 (0)],true⟩
theorem Q4:ad Tryz.prog 34 T6:=⟨ab (by kernel_rfl),⟨_,Tryz.underlying34,rfl⟩,fun _=>aM Tryz.underlying34 Tryz.stoodInHeld34 Tryz.eqGuardType34 (by decide)⟩
def T5:aB:=⟨.aU [(0,3),(1,3)],2,16, .agg #[.int .i64 (0), .int .i64 (0)],true⟩
theorem Q3:ad Tryz.prog 35 T5:=⟨ab (by kernel_rfl),⟨_,Tryz.underlying35,rfl⟩,fun _=>aM Tryz.underlying35 Tryz.stoodInHeld35 Tryz.eqGuardType35 (by decide)⟩
def T4:aB:=⟨.aU [(0,33),(1,35)],3,24, .agg #[.int .i64 (0), .int .i64 (0), .int .i64 (0)],true⟩
theorem QZ:ad Tryz.prog 36 T4:=⟨ab (by kernel_rfl),⟨_,Tryz.underlying36,rfl⟩,fun _=>aM Tryz.underlying36 Tryz.stoodInHeld36 Tryz.eqGuardType36 (by decide)⟩
def T3:aB:=⟨.aU [(0,33),(1,35)],3,24, .agg #[.int .i64 (0), .int .i64 (0), .int .i64 (0)],true⟩
theorem QY:ad Tryz.prog 37 T3:=⟨ab (by kernel_rfl),⟨_,Tryz.underlying37,rfl⟩,fun _=>aM Tryz.underlying37 Tryz.stoodInHeld37 Tryz.eqGuardType37 (by decide)⟩
def T2:aB:=⟨.ai (.func #[25] #[32,37] false),1,8, .nilFunc,false⟩
theorem QX:ad Tryz.prog 39 T2:=⟨ab (by kernel_rfl),⟨Tryz.underlying39,rfl⟩,fun h=>nomatch h⟩
def T1:aB:=⟨.ai (.func #[25] #[37] false),1,8, .nilFunc,false⟩
theorem QW:ad Tryz.prog 40 T1:=⟨ab (by kernel_rfl),⟨Tryz.underlying40,rfl⟩,fun h=>nomatch h⟩
def TZ:aB:=⟨.ai (.func #[25] #[4] false),1,8, .nilFunc,false⟩
theorem QU:ad Tryz.prog 41 TZ:=⟨ab (by kernel_rfl),⟨Tryz.underlying41,rfl⟩,fun h=>nomatch h⟩
def TY:aB:=⟨.ai (.func #[25,25] #[4] false),1,8, .nilFunc,false⟩
theorem QS:ad Tryz.prog 42 TY:=⟨ab (by kernel_rfl),⟨Tryz.underlying42,rfl⟩,fun h=>nomatch h⟩
def TX:aB:=⟨.ai (.func #[25,3] #[4] false),1,8, .nilFunc,false⟩
theorem QR:ad Tryz.prog 43 TX:=⟨ab (by kernel_rfl),⟨Tryz.underlying43,rfl⟩,fun h=>nomatch h⟩
def TV:aB:=⟨.ai (.func #[28,28] #[4] false),1,8, .nilFunc,false⟩
theorem QQ:ad Tryz.prog 44 TV:=⟨ab (by kernel_rfl),⟨Tryz.underlying44,rfl⟩,fun h=>nomatch h⟩
def TU:aB:=⟨.ai (.func #[30,30] #[4] false),1,8, .nilFunc,false⟩
theorem QO:ad Tryz.prog 45 TU:=⟨ab (by kernel_rfl),⟨Tryz.underlying45,rfl⟩,fun h=>nomatch h⟩
def TR:aB:=⟨.ai (.func #[32,32] #[4] false),1,8, .nilFunc,false⟩
theorem QN:ad Tryz.prog 46 TR:=⟨ab (by kernel_rfl),⟨Tryz.underlying46,rfl⟩,fun h=>nomatch h⟩
def TQ:aB:=⟨.ai (.slice 3),1,24, .slice none 0 0,false⟩
theorem QM:ad Tryz.prog 47 TQ:=⟨ab (by kernel_rfl),⟨Tryz.underlying47,rfl⟩,fun h=>nomatch h⟩
def TP:aB:=⟨.aU [(0,9),(1,47),(2,35)],4,56, .agg #[.string Wu, .slice none 0 0, .int .i64 (0), .int .i64 (0)],true⟩
theorem QK:ad Tryz.prog 48 TP:=⟨ab (by kernel_rfl),⟨_,Tryz.underlying48,rfl⟩,fun _=>aM Tryz.underlying48 Tryz.stoodInHeld48 Tryz.eqGuardType48 (by decide)⟩
def TO:aB:=⟨.aU [(0,9),(1,47),(2,35)],4,56, .agg #[.string Wu, .slice none 0 0, .int .i64 (0), .int .i64 (0)],true⟩
theorem QJ:ad Tryz.prog 49 TO:=⟨ab (by kernel_rfl),⟨_,Tryz.underlying49,rfl⟩,fun _=>aM Tryz.underlying49 Tryz.stoodInHeld49 Tryz.eqGuardType49 (by decide)⟩
def TN:aB:=⟨.ai (.func #[25,32,30,9] #[3,4] false),1,8, .nilFunc,false⟩
theorem QI:ad Tryz.prog 51 TN:=⟨ab (by kernel_rfl),⟨Tryz.underlying51,rfl⟩,fun h=>nomatch h⟩
def TM:aB:=⟨.ai (.func #[30,9] #[3] false),1,8, .nilFunc,false⟩
theorem QH:ad Tryz.prog 52 TM:=⟨ab (by kernel_rfl),⟨Tryz.underlying52,rfl⟩,fun h=>nomatch h⟩
def TL:aB:=⟨.ai (.slice 9),1,24, .slice none 0 0,false⟩
theorem QF:ad Tryz.prog 53 TL:=⟨ab (by kernel_rfl),⟨Tryz.underlying53,rfl⟩,fun h=>nomatch h⟩
def TJ:aB:=⟨.ai (.func #[32,9] #[3] false),1,8, .nilFunc,false⟩
theorem QC:ad Tryz.prog 54 TJ:=⟨ab (by kernel_rfl),⟨Tryz.underlying54,rfl⟩,fun h=>nomatch h⟩
def TI:aB:=⟨.aU [(0,9),(1,3)],2,24, .agg #[.string Wu, .int .i64 (0)],true⟩
theorem Qz:ad Tryz.prog 55 TI:=⟨ab (by kernel_rfl),⟨_,Tryz.underlying55,rfl⟩,fun _=>aM Tryz.underlying55 Tryz.stoodInHeld55 Tryz.eqGuardType55 (by decide)⟩
def TH:aB:=⟨.aU [(0,9),(1,3)],2,24, .agg #[.string Wu, .int .i64 (0)],true⟩
theorem Qy:ad Tryz.prog 56 TH:=⟨ab (by kernel_rfl),⟨_,Tryz.underlying56,rfl⟩,fun _=>aM Tryz.underlying56 Tryz.stoodInHeld56 Tryz.eqGuardType56 (by decide)⟩
def TG:aB:=⟨.ai (.func #[25,3] #[25] false),1,8, .nilFunc,false⟩
theorem Qx:ad Tryz.prog 57 TG:=⟨ab (by kernel_rfl),⟨Tryz.underlying57,rfl⟩,fun h=>nomatch h⟩
def TF:aB:=⟨.ai (.func #[3,3] #[3] false),1,8, .nilFunc,false⟩
theorem Qw:ad Tryz.prog 58 TF:=⟨ab (by kernel_rfl),⟨Tryz.underlying58,rfl⟩,fun h=>nomatch h⟩
def TE:aB:=⟨.ai (.func #[25,3,3] #[4] false),1,8, .nilFunc,false⟩
theorem Qv:ad Tryz.prog 59 TE:=⟨ab (by kernel_rfl),⟨Tryz.underlying59,rfl⟩,fun h=>nomatch h⟩
def TD:aB:=⟨.ai (.slice 119),1,24, .slice none 0 0,false⟩
theorem Qu:ad Tryz.prog 60 TD:=⟨ab (by kernel_rfl),⟨Tryz.underlying60,rfl⟩,fun h=>nomatch h⟩
def TC:aB:=⟨.aU [(0,3),(1,3),(2,53),(3,60)],4,64, .agg #[.int .i64 (0), .int .i64 (0), .slice none 0 0, .slice none 0 0],true⟩
theorem Qt:ad Tryz.prog 61 TC:=⟨ab (by kernel_rfl),⟨_,Tryz.underlying61,rfl⟩,fun _=>aM Tryz.underlying61 Tryz.stoodInHeld61 Tryz.eqGuardType61 (by decide)⟩
def TB:aB:=⟨.aU [(0,3),(1,3),(2,53),(3,60)],4,64, .agg #[.int .i64 (0), .int .i64 (0), .slice none 0 0, .slice none 0 0],true⟩
theorem Qs:ad Tryz.prog 62 TB:=⟨ab (by kernel_rfl),⟨_,Tryz.underlying62,rfl⟩,fun _=>aM Tryz.underlying62 Tryz.stoodInHeld62 Tryz.eqGuardType62 (by decide)⟩
def TA:aB:=⟨.ai (.func #[25,3,3] #[62,33] false),1,8, .nilFunc,false⟩
theorem Qr:ad Tryz.prog 64 TA:=⟨ab (by kernel_rfl),⟨Tryz.underlying64,rfl⟩,fun h=>nomatch h⟩
def Tz:aB:=⟨.ai (.func #[62,62] #[4] false),1,8, .nilFunc,false⟩
theorem Qq:ad Tryz.prog 65 Tz:=⟨ab (by kernel_rfl),⟨Tryz.underlying65,rfl⟩,fun h=>nomatch h⟩
def Tx:aB:=⟨.ai (.func #[25,3,53] #[62,33] false),1,8, .nilFunc,false⟩
theorem Qp:ad Tryz.prog 66 Tx:=⟨ab (by kernel_rfl),⟨Tryz.underlying66,rfl⟩,fun h=>nomatch h⟩
def Tw:aB:=⟨.ai (.func #[25,3] #[62,33] false),1,8, .nilFunc,false⟩
theorem Qo:ad Tryz.prog 67 Tw:=⟨ab (by kernel_rfl),⟨Tryz.underlying67,rfl⟩,fun h=>nomatch h⟩
def Tv:aB:=⟨.ai (.func #[25,3,53] #[4] false),1,8, .nilFunc,false⟩
theorem Qn:ad Tryz.prog 68 Tv:=⟨ab (by kernel_rfl),⟨Tryz.underlying68,rfl⟩,fun h=>nomatch h⟩
def Tu:aB:=⟨.ai (.func #[62] #[62] false),1,8, .nilFunc,false⟩
theorem Qm:ad Tryz.prog 69 Tu:=⟨ab (by kernel_rfl),⟨Tryz.underlying69,rfl⟩,fun h=>nomatch h⟩
def Tt:aB:=⟨.ai (.func #[25,62] #[4] false),1,8, .nilFunc,false⟩
theorem Ql:ad Tryz.prog 70 Tt:=⟨ab (by kernel_rfl),⟨Tryz.underlying70,rfl⟩,fun h=>nomatch h⟩
def Ts:aB:=⟨.ai (.slice 143),1,24, .slice none 0 0,false⟩
theorem Qk:ad Tryz.prog 71 Ts:=⟨ab (by kernel_rfl),⟨Tryz.underlying71,rfl⟩,fun h=>nomatch h⟩
def Tr:aB:=⟨.aU [(0,9),(1,71)],2,40, .agg #[.string Wu, .slice none 0 0],true⟩
theorem Qj:ad Tryz.prog 72 Tr:=⟨ab (by kernel_rfl),⟨_,Tryz.underlying72,rfl⟩,fun _=>aM Tryz.underlying72 Tryz.stoodInHeld72 Tryz.eqGuardType72 (by decide)⟩
def Tq:aB:=⟨.aU [(0,9),(1,71)],2,40, .agg #[.string Wu, .slice none 0 0],true⟩
theorem Qi:ad Tryz.prog 73 Tq:=⟨ab (by kernel_rfl),⟨_,Tryz.underlying73,rfl⟩,fun _=>aM Tryz.underlying73 Tryz.stoodInHeld73 Tryz.eqGuardType73 (by decide)⟩
def Tp:aB:=⟨.ai (.slice 105),1,24, .slice none 0 0,false⟩
theorem Qh:ad Tryz.prog 74 Tp:=⟨ab (by kernel_rfl),⟨Tryz.underlying74,rfl⟩,fun h=>nomatch h⟩
def To:aB:=⟨.aU [(0,73),(2,74),(3,35)],5,80, .agg #[.string Wu, .slice none 0 0, .slice none 0 0, .int .i64 (0), .int .i64 (0)],true⟩
theorem Qg:ad Tryz.prog 75 To:=⟨ab (by kernel_rfl),⟨_,Tryz.underlying75,rfl⟩,fun _=>aM Tryz.underlying75 Tryz.stoodInHeld75 Tryz.eqGuardType75 (by decide)⟩
def Tn:aB:=⟨.aU [(0,73),(2,74),(3,35)],5,80, .agg #[.string Wu, .slice none 0 0, .slice none 0 0, .int .i64 (0), .int .i64 (0)],true⟩
theorem Qf:ad Tryz.prog 76 Tn:=⟨ab (by kernel_rfl),⟨_,Tryz.underlying76,rfl⟩,fun _=>aM Tryz.underlying76 Tryz.stoodInHeld76 Tryz.eqGuardType76 (by decide)⟩
def Tm:aB:=⟨.ai (.func #[76,62] #[4] false),1,8, .nilFunc,false⟩
theorem Qe:ad Tryz.prog 77 Tm:=⟨ab (by kernel_rfl),⟨Tryz.underlying77,rfl⟩,fun h=>nomatch h⟩
def Tl:aB:=⟨.ai (.func #[4] #[25] false),1,8, .nilFunc,false⟩
theorem Qd:ad Tryz.prog 78 Tl:=⟨ab (by kernel_rfl),⟨Tryz.underlying78,rfl⟩,fun h=>nomatch h⟩
def Tk:aB:=⟨.aU [(0,9),(1,9),(2,4)],3,40, .agg #[.string Wu, .string Wu, .bool false],true⟩
theorem Qc:ad Tryz.prog 79 Tk:=⟨ab (by kernel_rfl),⟨_,Tryz.underlying79,rfl⟩,fun _=>aM Tryz.underlying79 Tryz.stoodInHeld79 Tryz.eqGuardType79 (by decide)⟩
def Ti:aB:=⟨.aU [(0,9),(1,9),(2,4)],3,40, .agg #[.string Wu, .string Wu, .bool false],true⟩
theorem Qb:ad Tryz.prog 80 Ti:=⟨ab (by kernel_rfl),⟨_,Tryz.underlying80,rfl⟩,fun _=>aM Tryz.underlying80 Tryz.stoodInHeld80 Tryz.eqGuardType80 (by decide)⟩
def Th:aB:=⟨.ai (.func #[73] #[73] false),1,8, .nilFunc,false⟩
theorem Qa:ad Tryz.prog 81 Th:=⟨ab (by kernel_rfl),⟨Tryz.underlying81,rfl⟩,fun h=>nomatch h⟩
def Tg:aB:=⟨.ai (.func #[74] #[74] false),1,8, .nilFunc,false⟩
theorem P9:ad Tryz.prog 82 Tg:=⟨ab (by kernel_rfl),⟨Tryz.underlying82,rfl⟩,fun h=>nomatch h⟩
def Tf:aB:=⟨.ai (.map 9 88),1,8, .map none,false⟩
theorem P8:ad Tryz.prog 83 Tf:=⟨ab (by kernel_rfl),⟨Tryz.underlying83,rfl⟩,fun h=>nomatch h⟩
def Te:aB:=⟨.ai (.map 9 88),1,8, .map none,false⟩
theorem P7:ad Tryz.prog 84 Te:=⟨ab (by kernel_rfl),⟨Tryz.underlying84,rfl⟩,fun h=>nomatch h⟩
def Td:aB:=⟨.ai (.func #[25] #[84,4] false),1,8, .nilFunc,false⟩
theorem P6:ad Tryz.prog 86 Td:=⟨ab (by kernel_rfl),⟨Tryz.underlying86,rfl⟩,fun h=>nomatch h⟩
def Tc:aB:=⟨.ai (.func #[83] #[53] false),1,8, .nilFunc,false⟩
theorem P5:ad Tryz.prog 87 Tc:=⟨ab (by kernel_rfl),⟨Tryz.underlying87,rfl⟩,fun h=>nomatch h⟩
def Tb:aB:=⟨.ai (.map 9 3),1,8, .map none,false⟩
theorem P4:ad Tryz.prog 88 Tb:=⟨ab (by kernel_rfl),⟨Tryz.underlying88,rfl⟩,fun h=>nomatch h⟩
def Ta:aB:=⟨.ai (.func #[88] #[53] false),1,8, .nilFunc,false⟩
theorem P3:ad Tryz.prog 89 Ta:=⟨ab (by kernel_rfl),⟨Tryz.underlying89,rfl⟩,fun h=>nomatch h⟩
def S9:aB:=⟨.ai (.func #[] #[88] false),1,8, .nilFunc,false⟩
theorem P2:ad Tryz.prog 90 S9:=⟨ab (by kernel_rfl),⟨Tryz.underlying90,rfl⟩,fun h=>nomatch h⟩
def S8:aB:=⟨.ai (.map 3 53),1,8, .map none,false⟩
theorem P1:ad Tryz.prog 91 S8:=⟨ab (by kernel_rfl),⟨Tryz.underlying91,rfl⟩,fun h=>nomatch h⟩
def S7:aB:=⟨.ai (.map 3 3),1,8, .map none,false⟩
theorem P0:ad Tryz.prog 92 S7:=⟨ab (by kernel_rfl),⟨Tryz.underlying92,rfl⟩,fun h=>nomatch h⟩
def S6:aB:=⟨.ai (.func #[25] #[53] false),1,8, .nilFunc,false⟩
theorem PZ:ad Tryz.prog 93 S6:=⟨ab (by kernel_rfl),⟨Tryz.underlying93,rfl⟩,fun h=>nomatch h⟩
def S5:aB:=⟨.ai (.slice 47),1,24, .slice none 0 0,false⟩
theorem PY:ad Tryz.prog 94 S5:=⟨ab (by kernel_rfl),⟨Tryz.underlying94,rfl⟩,fun h=>nomatch h⟩
def S4:aB:=⟨.ai (.func #[25,53] #[94] false),1,8, .nilFunc,false⟩
theorem PX:ad Tryz.prog 95 S4:=⟨ab (by kernel_rfl),⟨Tryz.underlying95,rfl⟩,fun h=>nomatch h⟩
def S3:aB:=⟨.ai (.func #[76,88] #[37] false),1,8, .nilFunc,false⟩
theorem PW:ad Tryz.prog 96 S3:=⟨ab (by kernel_rfl),⟨Tryz.underlying96,rfl⟩,fun h=>nomatch h⟩
def S2:aB:=⟨.aU [(0,3),(1,3),(2,9)],3,32, .agg #[.int .i64 (0), .int .i64 (0), .string Wu],true⟩
theorem PU:ad Tryz.prog 97 S2:=⟨ab (by kernel_rfl),⟨_,Tryz.underlying97,rfl⟩,fun _=>aM Tryz.underlying97 Tryz.stoodInHeld97 Tryz.eqGuardType97 (by decide)⟩
def S1:aB:=⟨.aU [(0,3),(1,3),(2,9)],3,32, .agg #[.int .i64 (0), .int .i64 (0), .string Wu],true⟩
theorem PT:ad Tryz.prog 98 S1:=⟨ab (by kernel_rfl),⟨_,Tryz.underlying98,rfl⟩,fun _=>aM Tryz.underlying98 Tryz.stoodInHeld98 Tryz.eqGuardType98 (by decide)⟩
def S0:aB:=⟨.ai (.slice 101),1,24, .slice none 0 0,false⟩
theorem PS:ad Tryz.prog 99 S0:=⟨ab (by kernel_rfl),⟨Tryz.underlying99,rfl⟩,fun h=>nomatch h⟩
def Pk:aB:=⟨.aU [(0,3),(1,9),(2,98),(5,3),(6,99)],7,88, .agg #[.int .i64 (0), .string Wu, .int .i64 (0), .int .i64 (0), .string Wu, .int .i64 (0), .slice none 0 0],true⟩
theorem Jf:ad Tryz.prog 100 Pk:=⟨ab (by kernel_rfl),⟨_,Tryz.underlying100,rfl⟩,fun _=>aM Tryz.underlying100 Tryz.stoodInHeld100 Tryz.eqGuardType100 (by decide)⟩
def Pj:aB:=⟨.aU [(0,3),(1,9),(2,98),(5,3),(6,99)],7,88, .agg #[.int .i64 (0), .string Wu, .int .i64 (0), .int .i64 (0), .string Wu, .int .i64 (0), .slice none 0 0],true⟩
theorem Je:ad Tryz.prog 101 Pj:=⟨ab (by kernel_rfl),⟨_,Tryz.underlying101,rfl⟩,fun _=>aM Tryz.underlying101 Tryz.stoodInHeld101 Tryz.eqGuardType101 (by decide)⟩
def Ph:aB:=⟨.aU [(0,3),(1,9),(2,101),(9,74)],10,136, .agg #[.int .i64 (0), .string Wu, .int .i64 (0), .string Wu, .int .i64 (0), .int .i64 (0), .string Wu, .int .i64 (0), .slice none 0 0, .slice none 0 0],true⟩
theorem Jd:ad Tryz.prog 102 Ph:=⟨ab (by kernel_rfl),⟨_,Tryz.underlying102,rfl⟩,fun _=>aM Tryz.underlying102 Tryz.stoodInHeld102 Tryz.eqGuardType102 (by decide)⟩
def Pg:aB:=⟨.aU [(0,3),(1,9),(2,101),(9,74)],10,136, .agg #[.int .i64 (0), .string Wu, .int .i64 (0), .string Wu, .int .i64 (0), .int .i64 (0), .string Wu, .int .i64 (0), .slice none 0 0, .slice none 0 0],true⟩
theorem Jc:ad Tryz.prog 103 Pg:=⟨ab (by kernel_rfl),⟨_,Tryz.underlying103,rfl⟩,fun _=>aM Tryz.underlying103 Tryz.stoodInHeld103 Tryz.eqGuardType103 (by decide)⟩
def Pf:aB:=⟨.aU [(0,3),(1,73),(3,3),(4,101),(11,101),(18,103),(28,35)],30,384, .agg #[.int .i64 (0), .string Wu, .slice none 0 0, .int .i64 (0), .int .i64 (0), .string Wu, .int .i64 (0), .int .i64 (0), .string Wu, .int .i64 (0), .slice none 0 0, .int .i64 (0), .string Wu, .int .i64 (0), .int .i64 (0), .string Wu, .int .i64 (0), .slice none 0 0, .int .i64 (0), .string Wu, .int .i64 (0), .string Wu, .int .i64 (0), .int .i64 (0), .string Wu, .int .i64 (0), .slice none 0 0, .slice none 0 0, .int .i64 (0), .int .i64 (0)],true⟩
theorem Jb:ad Tryz.prog 104 Pf:=⟨ab (by kernel_rfl),⟨_,Tryz.underlying104,rfl⟩,fun _=>aM Tryz.underlying104 Tryz.stoodInHeld104 Tryz.eqGuardType104 (by decide)⟩
def Pe:aB:=⟨.aU [(0,3),(1,73),(3,3),(4,101),(11,101),(18,103),(28,35)],30,384, .agg #[.int .i64 (0), .string Wu, .slice none 0 0, .int .i64 (0), .int .i64 (0), .string Wu, .int .i64 (0), .int .i64 (0), .string Wu, .int .i64 (0), .slice none 0 0, .int .i64 (0), .string Wu, .int .i64 (0), .int .i64 (0), .string Wu, .int .i64 (0), .slice none 0 0, .int .i64 (0), .string Wu, .int .i64 (0), .string Wu, .int .i64 (0), .int .i64 (0), .string Wu, .int .i64 (0), .slice none 0 0, .slice none 0 0, .int .i64 (0), .int .i64 (0)],true⟩
theorem Ja:ad Tryz.prog 105 Pe:=⟨ab (by kernel_rfl),⟨_,Tryz.underlying105,rfl⟩,fun _=>aM Tryz.underlying105 Tryz.stoodInHeld105 Tryz.eqGuardType105 (by decide)⟩
def Pd:aB:=⟨.ai (.func #[73,73] #[4] false),1,8, .nilFunc,false⟩
theorem I9:ad Tryz.prog 106 Pd:=⟨ab (by kernel_rfl),⟨Tryz.underlying106,rfl⟩,fun h=>nomatch h⟩
def Pc:aB:=⟨.ai (.func #[74,74] #[4] false),1,8, .nilFunc,false⟩
theorem I8:ad Tryz.prog 107 Pc:=⟨ab (by kernel_rfl),⟨Tryz.underlying107,rfl⟩,fun h=>nomatch h⟩
def Pb:aB:=⟨.ai (.func #[76,88] #[4] false),1,8, .nilFunc,false⟩
theorem I7:ad Tryz.prog 108 Pb:=⟨ab (by kernel_rfl),⟨Tryz.underlying108,rfl⟩,fun h=>nomatch h⟩
def Pa:aB:=⟨.ai (.func #[76,53,110] #[4] false),1,8, .nilFunc,false⟩
theorem I6:ad Tryz.prog 109 Pa:=⟨ab (by kernel_rfl),⟨Tryz.underlying109,rfl⟩,fun h=>nomatch h⟩
def O9:aB:=⟨.ai (.slice 113),1,24, .slice none 0 0,false⟩
theorem I5:ad Tryz.prog 110 O9:=⟨ab (by kernel_rfl),⟨Tryz.underlying110,rfl⟩,fun h=>nomatch h⟩
def O8:aB:=⟨.ai (.func #[94] #[110] false),1,8, .nilFunc,false⟩
theorem I4:ad Tryz.prog 111 O8:=⟨ab (by kernel_rfl),⟨Tryz.underlying111,rfl⟩,fun h=>nomatch h⟩
def O7:aB:=⟨.ai (.func #[53,53] #[4] false),1,8, .nilFunc,false⟩
theorem I3:ad Tryz.prog 112 O7:=⟨ab (by kernel_rfl),⟨Tryz.underlying112,rfl⟩,fun h=>nomatch h⟩
def O6:aB:=⟨.ai (.slice 4),1,24, .slice none 0 0,false⟩
theorem I2:ad Tryz.prog 113 O6:=⟨ab (by kernel_rfl),⟨Tryz.underlying113,rfl⟩,fun h=>nomatch h⟩
def O5:aB:=⟨.ai (.func #[110,113,3] #[4] false),1,8, .nilFunc,false⟩
theorem I1:ad Tryz.prog 114 O5:=⟨ab (by kernel_rfl),⟨Tryz.underlying114,rfl⟩,fun h=>nomatch h⟩
def O4:aB:=⟨.ai (.func #[76,53,110] #[37] false),1,8, .nilFunc,false⟩
theorem I0:ad Tryz.prog 115 O4:=⟨ab (by kernel_rfl),⟨Tryz.underlying115,rfl⟩,fun h=>nomatch h⟩
def O3:aB:=⟨.ai (.func #[105] #[53] false),1,8, .nilFunc,false⟩
theorem IZ:ad Tryz.prog 116 O3:=⟨ab (by kernel_rfl),⟨Tryz.underlying116,rfl⟩,fun h=>nomatch h⟩
def O2:aB:=⟨.ai (.func #[] #[25] false),1,8, .nilFunc,false⟩
theorem IY:ad Tryz.prog 117 O2:=⟨ab (by kernel_rfl),⟨Tryz.underlying117,rfl⟩,fun h=>nomatch h⟩
def O1:aB:=⟨.aU [(0,3),(1,3),(2,47),(3,9)],4,56, .agg #[.int .i64 (0), .int .i64 (0), .slice none 0 0, .string Wu],true⟩
theorem IX:ad Tryz.prog 118 O1:=⟨ab (by kernel_rfl),⟨_,Tryz.underlying118,rfl⟩,fun _=>aM Tryz.underlying118 Tryz.stoodInHeld118 Tryz.eqGuardType118 (by decide)⟩
def O0:aB:=⟨.aU [(0,3),(1,3),(2,47),(3,9)],4,56, .agg #[.int .i64 (0), .int .i64 (0), .slice none 0 0, .string Wu],true⟩
theorem IW:ad Tryz.prog 119 O0:=⟨ab (by kernel_rfl),⟨_,Tryz.underlying119,rfl⟩,fun _=>aM Tryz.underlying119 Tryz.stoodInHeld119 Tryz.eqGuardType119 (by decide)⟩
def OZ:aB:=⟨.ai (.func #[25,3] #[33] false),1,8, .nilFunc,false⟩
theorem IU:ad Tryz.prog 120 OZ:=⟨ab (by kernel_rfl),⟨Tryz.underlying120,rfl⟩,fun h=>nomatch h⟩
def OY:aB:=⟨.ai (.func #[76,3,53] #[60] false),1,8, .nilFunc,false⟩
theorem IT:ad Tryz.prog 121 OY:=⟨ab (by kernel_rfl),⟨Tryz.underlying121,rfl⟩,fun h=>nomatch h⟩
def OX:aB:=⟨.ai (.func #[25,3] #[76,33] false),1,8, .nilFunc,false⟩
theorem IS:ad Tryz.prog 123 OX:=⟨ab (by kernel_rfl),⟨Tryz.underlying123,rfl⟩,fun h=>nomatch h⟩
def OW:aB:=⟨.ai (.pointer 135),1,8, .pointer none,false⟩
theorem IQ:ad Tryz.prog 124 OW:=⟨ab (by kernel_rfl),⟨Tryz.underlying124,rfl⟩,fun h=>nomatch h⟩
def OV:aB:=⟨.ai (.func #[76,53] #[124] false),1,8, .nilFunc,false⟩
theorem IP:ad Tryz.prog 125 OV:=⟨ab (by kernel_rfl),⟨Tryz.underlying125,rfl⟩,fun h=>nomatch h⟩
def OU:aB:=⟨.ai (.func #[3] #[60] false),1,8, .nilFunc,false⟩
theorem IN:ad Tryz.prog 126 OU:=⟨ab (by kernel_rfl),⟨Tryz.underlying126,rfl⟩,fun h=>nomatch h⟩
def OS:aB:=⟨.ai (.func #[119,119] #[4] false),1,8, .nilFunc,false⟩
theorem IM:ad Tryz.prog 127 OS:=⟨ab (by kernel_rfl),⟨Tryz.underlying127,rfl⟩,fun h=>nomatch h⟩
def OQ:aB:=⟨.ai (.func #[76,53] #[4] false),1,8, .nilFunc,false⟩
theorem IL:ad Tryz.prog 128 OQ:=⟨ab (by kernel_rfl),⟨Tryz.underlying128,rfl⟩,fun h=>nomatch h⟩
def OP:aB:=⟨.ai (.func #[53,53] #[53] false),1,8, .nilFunc,false⟩
theorem IK:ad Tryz.prog 129 OP:=⟨ab (by kernel_rfl),⟨Tryz.underlying129,rfl⟩,fun h=>nomatch h⟩
def OO:aB:=⟨.ai (.func #[73] #[53] false),1,8, .nilFunc,false⟩
theorem IJ:ad Tryz.prog 130 OO:=⟨ab (by kernel_rfl),⟨Tryz.underlying130,rfl⟩,fun h=>nomatch h⟩
def ON:aB:=⟨.ai (.func #[53] #[53] false),1,8, .nilFunc,false⟩
theorem II:ad Tryz.prog 131 ON:=⟨ab (by kernel_rfl),⟨Tryz.underlying131,rfl⟩,fun h=>nomatch h⟩
def OL:aB:=⟨.ai (.func #[76] #[53] false),1,8, .nilFunc,false⟩
theorem IH:ad Tryz.prog 132 OL:=⟨ab (by kernel_rfl),⟨Tryz.underlying132,rfl⟩,fun h=>nomatch h⟩
def OK:aB:=⟨.ai (.map 9 3),1,8, .map none,false⟩
theorem IG:ad Tryz.prog 133 OK:=⟨ab (by kernel_rfl),⟨Tryz.underlying133,rfl⟩,fun h=>nomatch h⟩
def OJ:aB:=⟨.aU [(0,76),(5,133),(6,91),(7,92)],8,104, .agg #[.string Wu, .slice none 0 0, .slice none 0 0, .int .i64 (0), .int .i64 (0), .map none, .map none, .map none],true⟩
theorem IF:ad Tryz.prog 134 OJ:=⟨ab (by kernel_rfl),⟨_,Tryz.underlying134,rfl⟩,fun _=>aM Tryz.underlying134 Tryz.stoodInHeld134 Tryz.eqGuardType134 (by decide)⟩
def OI:aB:=⟨.aU [(0,76),(5,133),(6,91),(7,92)],8,104, .agg #[.string Wu, .slice none 0 0, .slice none 0 0, .int .i64 (0), .int .i64 (0), .map none, .map none, .map none],true⟩
theorem IE:ad Tryz.prog 135 OI:=⟨ab (by kernel_rfl),⟨_,Tryz.underlying135,rfl⟩,fun _=>aM Tryz.underlying135 Tryz.stoodInHeld135 Tryz.eqGuardType135 (by decide)⟩
def OH:aB:=⟨.ai (.func #[3] #[119,4] false),1,8, .nilFunc,false⟩
theorem ID:ad Tryz.prog 137 OH:=⟨ab (by kernel_rfl),⟨Tryz.underlying137,rfl⟩,fun h=>nomatch h⟩
def OG:aB:=⟨.ai (.func #[47,47] #[4] false),1,8, .nilFunc,false⟩
theorem IC:ad Tryz.prog 138 OG:=⟨ab (by kernel_rfl),⟨Tryz.underlying138,rfl⟩,fun h=>nomatch h⟩
def OF:aB:=⟨.ai (.func #[119] #[] false),1,8, .nilFunc,false⟩
theorem IB:ad Tryz.prog 139 OF:=⟨ab (by kernel_rfl),⟨Tryz.underlying139,rfl⟩,fun h=>nomatch h⟩
def OE:aB:=⟨.ai (.func #[76,3,53] #[119,4] false),1,8, .nilFunc,false⟩
theorem IA:ad Tryz.prog 140 OE:=⟨ab (by kernel_rfl),⟨Tryz.underlying140,rfl⟩,fun h=>nomatch h⟩
def OD:aB:=⟨.ai (.func #[76,119,53] #[53] false),1,8, .nilFunc,false⟩
theorem Iz:ad Tryz.prog 141 OD:=⟨ab (by kernel_rfl),⟨Tryz.underlying141,rfl⟩,fun h=>nomatch h⟩
def OC:aB:=⟨.aU [(0,3),(1,9),(2,98)],5,56, .agg #[.int .i64 (0), .string Wu, .int .i64 (0), .int .i64 (0), .string Wu],true⟩
theorem Iy:ad Tryz.prog 142 OC:=⟨ab (by kernel_rfl),⟨_,Tryz.underlying142,rfl⟩,fun _=>aM Tryz.underlying142 Tryz.stoodInHeld142 Tryz.eqGuardType142 (by decide)⟩
def OB:aB:=⟨.aU [(0,3),(1,9),(2,98)],5,56, .agg #[.int .i64 (0), .string Wu, .int .i64 (0), .int .i64 (0), .string Wu],true⟩
theorem Ix:ad Tryz.prog 143 OB:=⟨ab (by kernel_rfl),⟨_,Tryz.underlying143,rfl⟩,fun _=>aM Tryz.underlying143 Tryz.stoodInHeld143 Tryz.eqGuardType143 (by decide)⟩
def OA:aB:=⟨.ai (.func #[53,9] #[53] false),1,8, .nilFunc,false⟩
theorem Iw:ad Tryz.prog 144 OA:=⟨ab (by kernel_rfl),⟨Tryz.underlying144,rfl⟩,fun h=>nomatch h⟩
def Oz:aB:=⟨.ai (.func #[3,9] #[105] false),1,8, .nilFunc,false⟩
theorem Iv:ad Tryz.prog 145 Oz:=⟨ab (by kernel_rfl),⟨Tryz.underlying145,rfl⟩,fun h=>nomatch h⟩
def Oy:aB:=⟨.ai (.func #[101] #[101] false),1,8, .nilFunc,false⟩
theorem Iu:ad Tryz.prog 146 Oy:=⟨ab (by kernel_rfl),⟨Tryz.underlying146,rfl⟩,fun h=>nomatch h⟩
def Ox:aB:=⟨.ai (.func #[53] #[] false),1,8, .nilFunc,false⟩
theorem It:ad Tryz.prog 147 Ox:=⟨ab (by kernel_rfl),⟨Tryz.underlying147,rfl⟩,fun h=>nomatch h⟩
def Ow:aB:=⟨.ai (.func #[9] #[3] false),1,8, .nilFunc,false⟩
theorem Is:ad Tryz.prog 148 Ow:=⟨ab (by kernel_rfl),⟨Tryz.underlying148,rfl⟩,fun h=>nomatch h⟩
def Ov:aB:=⟨.ai (.func #[53,9] #[3] false),1,8, .nilFunc,false⟩
theorem Ir:ad Tryz.prog 149 Ov:=⟨ab (by kernel_rfl),⟨Tryz.underlying149,rfl⟩,fun h=>nomatch h⟩
def Ou:aB:=⟨.ai (.func #[25,151] #[] false),1,8, .nilFunc,false⟩
theorem Iq:ad Tryz.prog 150 Ou:=⟨ab (by kernel_rfl),⟨Tryz.underlying150,rfl⟩,fun h=>nomatch h⟩
def Ot:aB:=⟨.ai (.func #[37] #[4] false),1,8, .nilFunc,false⟩
theorem Ip:ad Tryz.prog 151 Ot:=⟨ab (by kernel_rfl),⟨Tryz.underlying151,rfl⟩,fun h=>nomatch h⟩
def Oq:aB:=⟨.ai (.func #[53,9] #[4] false),1,8, .nilFunc,false⟩
theorem Io:ad Tryz.prog 152 Oq:=⟨ab (by kernel_rfl),⟨Tryz.underlying152,rfl⟩,fun h=>nomatch h⟩
def Oo:aB:=⟨.ai (.func #[101,101] #[4] false),1,8, .nilFunc,false⟩
theorem Im:ad Tryz.prog 153 Oo:=⟨ab (by kernel_rfl),⟨Tryz.underlying153,rfl⟩,fun h=>nomatch h⟩
def On:aB:=⟨.ai (.func #[74,155] #[4] false),1,8, .nilFunc,false⟩
theorem Il:ad Tryz.prog 154 On:=⟨ab (by kernel_rfl),⟨Tryz.underlying154,rfl⟩,fun h=>nomatch h⟩
def Om:aB:=⟨.ai (.func #[105] #[4] false),1,8, .nilFunc,false⟩
theorem Ik:ad Tryz.prog 155 Om:=⟨ab (by kernel_rfl),⟨Tryz.underlying155,rfl⟩,fun h=>nomatch h⟩
def Ol:aB:=⟨.ai (.slice 37),1,24, .slice none 0 0,false⟩
theorem Ij:ad Tryz.prog 156 Ol:=⟨ab (by kernel_rfl),⟨Tryz.underlying156,rfl⟩,fun h=>nomatch h⟩
def Oj:aB:=⟨.ai (.func #[25] #[156] false),1,8, .nilFunc,false⟩
theorem Ii:ad Tryz.prog 157 Oj:=⟨ab (by kernel_rfl),⟨Tryz.underlying157,rfl⟩,fun h=>nomatch h⟩
def Oi:aB:=⟨.ai (.func #[76] #[4] false),1,8, .nilFunc,false⟩
theorem Ih:ad Tryz.prog 158 Oi:=⟨ab (by kernel_rfl),⟨Tryz.underlying158,rfl⟩,fun h=>nomatch h⟩
def Oh:aB:=⟨.ai (.func #[9] #[143] false),1,8, .nilFunc,false⟩
theorem Ig:ad Tryz.prog 159 Oh:=⟨ab (by kernel_rfl),⟨Tryz.underlying159,rfl⟩,fun h=>nomatch h⟩
def Og:aB:=⟨.ai (.func #[76,113,3,53] #[119,4] false),1,8, .nilFunc,false⟩
theorem Ie:ad Tryz.prog 160 Og:=⟨ab (by kernel_rfl),⟨Tryz.underlying160,rfl⟩,fun h=>nomatch h⟩
def Of:aB:=⟨.ai (.func #[101,88] #[] false),1,8, .nilFunc,false⟩
theorem Ic:ad Tryz.prog 161 Of:=⟨ab (by kernel_rfl),⟨Tryz.underlying161,rfl⟩,fun h=>nomatch h⟩
def Oe:aB:=⟨.ai (.func #[105,88] #[] false),1,8, .nilFunc,false⟩
theorem Ib:ad Tryz.prog 162 Oe:=⟨ab (by kernel_rfl),⟨Tryz.underlying162,rfl⟩,fun h=>nomatch h⟩
def Od:aB:=⟨.ai (.func #[164] #[53] false),1,8, .nilFunc,false⟩
theorem Ia:ad Tryz.prog 163 Od:=⟨ab (by kernel_rfl),⟨Tryz.underlying163,rfl⟩,fun h=>nomatch h⟩
def Oc:aB:=⟨.ai (.map 9 3),1,8, .map none,false⟩
theorem H9:ad Tryz.prog 164 Oc:=⟨ab (by kernel_rfl),⟨Tryz.underlying164,rfl⟩,fun h=>nomatch h⟩
def Ob:aB:=⟨.aU [(0,76),(5,164)],6,88, .agg #[.string Wu, .slice none 0 0, .slice none 0 0, .int .i64 (0), .int .i64 (0), .map none],true⟩
theorem H8:ad Tryz.prog 165 Ob:=⟨ab (by kernel_rfl),⟨_,Tryz.underlying165,rfl⟩,fun _=>aM Tryz.underlying165 Tryz.stoodInHeld165 Tryz.eqGuardType165 (by decide)⟩
def Oa:aB:=⟨.aU [(0,76),(5,164)],6,88, .agg #[.string Wu, .slice none 0 0, .slice none 0 0, .int .i64 (0), .int .i64 (0), .map none],true⟩
theorem H7:ad Tryz.prog 166 Oa:=⟨ab (by kernel_rfl),⟨_,Tryz.underlying166,rfl⟩,fun _=>aM Tryz.underlying166 Tryz.stoodInHeld166 Tryz.eqGuardType166 (by decide)⟩
def N9:aB:=⟨.ai (.pointer 166),1,8, .pointer none,false⟩
theorem H6:ad Tryz.prog 167 N9:=⟨ab (by kernel_rfl),⟨Tryz.underlying167,rfl⟩,fun h=>nomatch h⟩
def N8:aB:=⟨.ai (.func #[76] #[167] false),1,8, .nilFunc,false⟩
theorem H5:ad Tryz.prog 168 N8:=⟨ab (by kernel_rfl),⟨Tryz.underlying168,rfl⟩,fun h=>nomatch h⟩
def N7:aB:=⟨.ai (.slice 173),1,24, .slice none 0 0,false⟩
theorem H4:ad Tryz.prog 169 N7:=⟨ab (by kernel_rfl),⟨Tryz.underlying169,rfl⟩,fun h=>nomatch h⟩
def N6:aB:=⟨.ai (.func #[] #[169] false),1,8, .nilFunc,false⟩
theorem H3:ad Tryz.prog 170 N6:=⟨ab (by kernel_rfl),⟨Tryz.underlying170,rfl⟩,fun h=>nomatch h⟩
def N5:aB:=⟨.ai (.func #[124,3] #[119,4] false),1,8, .nilFunc,false⟩
theorem H0:ad Tryz.prog 171 N5:=⟨ab (by kernel_rfl),⟨Tryz.underlying171,rfl⟩,fun h=>nomatch h⟩
def N4:aB:=⟨.aU [(0,3),(1,171)],2,16, .agg #[.int .i64 (0), .nilFunc],true⟩
theorem HZ:ad Tryz.prog 172 N4:=⟨ab (by kernel_rfl),⟨_,Tryz.underlying172,rfl⟩,fun _=>aM Tryz.underlying172 Tryz.stoodInHeld172 Tryz.eqGuardType172 (by decide)⟩
def N3:aB:=⟨.aU [(0,3),(1,171)],2,16, .agg #[.int .i64 (0), .nilFunc],true⟩
theorem HY:ad Tryz.prog 173 N3:=⟨ab (by kernel_rfl),⟨_,Tryz.underlying173,rfl⟩,fun _=>aM Tryz.underlying173 Tryz.stoodInHeld173 Tryz.eqGuardType173 (by decide)⟩
def NZ:aB:=⟨.ai (.func #[73,53] #[47] false),1,8, .nilFunc,false⟩
theorem HX:ad Tryz.prog 174 NZ:=⟨ab (by kernel_rfl),⟨Tryz.underlying174,rfl⟩,fun h=>nomatch h⟩
def NY:aB:=⟨.ai (.func #[105,3,53] #[119,4] false),1,8, .nilFunc,false⟩
theorem HW:ad Tryz.prog 175 NY:=⟨ab (by kernel_rfl),⟨Tryz.underlying175,rfl⟩,fun h=>nomatch h⟩
def NX:aB:=⟨.ai (.func #[103] #[53] false),1,8, .nilFunc,false⟩
theorem HV:ad Tryz.prog 176 NX:=⟨ab (by kernel_rfl),⟨Tryz.underlying176,rfl⟩,fun h=>nomatch h⟩
def NW:aB:=⟨.ai (.func #[53,3,3,3] #[] false),1,8, .nilFunc,false⟩
theorem HU:ad Tryz.prog 177 NW:=⟨ab (by kernel_rfl),⟨Tryz.underlying177,rfl⟩,fun h=>nomatch h⟩
def NV:aB:=⟨.ai (.func #[179] #[3] false),1,8, .nilFunc,false⟩
theorem HT:ad Tryz.prog 178 NV:=⟨ab (by kernel_rfl),⟨Tryz.underlying178,rfl⟩,fun h=>nomatch h⟩
def NU:aB:=⟨.ai (.int .u64),1,8, .int .u64 (0),false⟩
theorem HS:ad Tryz.prog 179 NU:=⟨ab (by kernel_rfl),⟨Tryz.underlying179,rfl⟩,fun h=>nomatch h⟩
def NT:aB:=⟨.ai (.func #[49,3,3] #[33] false),1,8, .nilFunc,false⟩
theorem HR:ad Tryz.prog 180 NT:=⟨ab (by kernel_rfl),⟨Tryz.underlying180,rfl⟩,fun h=>nomatch h⟩
def NS:aB:=⟨.ai (.map 9 49),1,8, .map none,false⟩
theorem HQ:ad Tryz.prog 181 NS:=⟨ab (by kernel_rfl),⟨Tryz.underlying181,rfl⟩,fun h=>nomatch h⟩
def NR:aB:=⟨.ai (.func #[25] #[181] false),1,8, .nilFunc,false⟩
theorem HP:ad Tryz.prog 182 NR:=⟨ab (by kernel_rfl),⟨Tryz.underlying182,rfl⟩,fun h=>nomatch h⟩
def NQ:aB:=⟨.ai (.func #[181,76,3] #[37] false),1,8, .nilFunc,false⟩
theorem HO:ad Tryz.prog 183 NQ:=⟨ab (by kernel_rfl),⟨Tryz.underlying183,rfl⟩,fun h=>nomatch h⟩
def NP:aB:=⟨.ai (.func #[74,164,185,186] #[] false),1,8, .nilFunc,false⟩
theorem HN:ad Tryz.prog 184 NP:=⟨ab (by kernel_rfl),⟨Tryz.underlying184,rfl⟩,fun h=>nomatch h⟩
def NO:aB:=⟨.ai (.func #[101] #[4] false),1,8, .nilFunc,false⟩
theorem HM:ad Tryz.prog 185 NO:=⟨ab (by kernel_rfl),⟨Tryz.underlying185,rfl⟩,fun h=>nomatch h⟩
def NN:aB:=⟨.ai (.func #[103] #[4] false),1,8, .nilFunc,false⟩
theorem HL:ad Tryz.prog 186 NN:=⟨ab (by kernel_rfl),⟨Tryz.underlying186,rfl⟩,fun h=>nomatch h⟩
def NL:aB:=⟨.ai (.func #[74,155] #[3] false),1,8, .nilFunc,false⟩
theorem HK:ad Tryz.prog 187 NL:=⟨ab (by kernel_rfl),⟨Tryz.underlying187,rfl⟩,fun h=>nomatch h⟩
def NK:aB:=⟨.ai (.func #[33,35] #[37] false),1,8, .nilFunc,false⟩
theorem HJ:ad Tryz.prog 188 NK:=⟨ab (by kernel_rfl),⟨Tryz.underlying188,rfl⟩,fun h=>nomatch h⟩
def NJ:aB:=⟨.ai (.func #[25,3] #[37] false),1,8, .nilFunc,false⟩
theorem HI:ad Tryz.prog 189 NJ:=⟨ab (by kernel_rfl),⟨Tryz.underlying189,rfl⟩,fun h=>nomatch h⟩
def NI:aB:=⟨.ai (.func #[73] #[] false),1,8, .nilFunc,false⟩
theorem HH:ad Tryz.prog 190 NI:=⟨ab (by kernel_rfl),⟨Tryz.underlying190,rfl⟩,fun h=>nomatch h⟩
def NH:aB:=⟨.ai (.func #[105] #[] false),1,8, .nilFunc,false⟩
theorem HG:ad Tryz.prog 191 NH:=⟨ab (by kernel_rfl),⟨Tryz.underlying191,rfl⟩,fun h=>nomatch h⟩
def NG:aB:=⟨.ai (.func #[101] #[53] false),1,8, .nilFunc,false⟩
theorem HF:ad Tryz.prog 192 NG:=⟨ab (by kernel_rfl),⟨Tryz.underlying192,rfl⟩,fun h=>nomatch h⟩
def NF:aB:=⟨.ai (.func #[101,101,53] #[4] false),1,8, .nilFunc,false⟩
theorem HE:ad Tryz.prog 193 NF:=⟨ab (by kernel_rfl),⟨Tryz.underlying193,rfl⟩,fun h=>nomatch h⟩
def ND:aB:=⟨.ai (.func #[53,3,3] #[] false),1,8, .nilFunc,false⟩
theorem HD:ad Tryz.prog 194 ND:=⟨ab (by kernel_rfl),⟨Tryz.underlying194,rfl⟩,fun h=>nomatch h⟩
def NC:aB:=⟨.ai (.int .i64),1,8, .int .i64 (0),false⟩
theorem HC:ad Tryz.prog 195 NC:=⟨ab (by kernel_rfl),⟨Tryz.underlying195,rfl⟩,fun h=>nomatch h⟩
def NB:aB:=⟨.ai (.func #[53,3,3] #[3,195] false),1,8, .nilFunc,false⟩
theorem HB:ad Tryz.prog 197 NB:=⟨ab (by kernel_rfl),⟨Tryz.underlying197,rfl⟩,fun h=>nomatch h⟩
def NA:aB:=⟨.ai (.func #[53,3,3] #[4] false),1,8, .nilFunc,false⟩
theorem HA:ad Tryz.prog 198 NA:=⟨ab (by kernel_rfl),⟨Tryz.underlying198,rfl⟩,fun h=>nomatch h⟩
def Nz:aB:=⟨.ai (.func #[9,9] #[4] false),1,8, .nilFunc,false⟩
theorem Hz:ad Tryz.prog 199 Nz:=⟨ab (by kernel_rfl),⟨Tryz.underlying199,rfl⟩,fun h=>nomatch h⟩
def Ny:aB:=⟨.ai (.func #[53,3,3,3] #[3] false),1,8, .nilFunc,false⟩
theorem Hy:ad Tryz.prog 200 Ny:=⟨ab (by kernel_rfl),⟨Tryz.underlying200,rfl⟩,fun h=>nomatch h⟩
def Nx:aB:=⟨.ai (.func #[53,3,3,3] #[3,4] false),1,8, .nilFunc,false⟩
theorem Hx:ad Tryz.prog 201 Nx:=⟨ab (by kernel_rfl),⟨Tryz.underlying201,rfl⟩,fun h=>nomatch h⟩
def Nw:aB:=⟨.ai (.func #[203] #[3] false),1,8, .nilFunc,false⟩
theorem Hw:ad Tryz.prog 202 Nw:=⟨ab (by kernel_rfl),⟨Tryz.underlying202,rfl⟩,fun h=>nomatch h⟩
def Nv:aB:=⟨.ai (.int .u32),1,4, .int .u32 (0),false⟩
theorem Hv:ad Tryz.prog 203 Nv:=⟨ab (by kernel_rfl),⟨Tryz.underlying203,rfl⟩,fun h=>nomatch h⟩
def Nu:aB:=⟨.ai (.func #[205] #[3] false),1,8, .nilFunc,false⟩
theorem Hu:ad Tryz.prog 204 Nu:=⟨ab (by kernel_rfl),⟨Tryz.underlying204,rfl⟩,fun h=>nomatch h⟩
def Nt:aB:=⟨.ai (.int .u64),1,8, .int .u64 (0),false⟩
theorem Ht:ad Tryz.prog 205 Nt:=⟨ab (by kernel_rfl),⟨Tryz.underlying205,rfl⟩,fun h=>nomatch h⟩
def Ns:aB:=⟨.ai (.func #[47,207] #[4] false),1,8, .nilFunc,false⟩
theorem Hs:ad Tryz.prog 206 Ns:=⟨ab (by kernel_rfl),⟨Tryz.underlying206,rfl⟩,fun h=>nomatch h⟩
def Nr:aB:=⟨.ai (.func #[3] #[4] false),1,8, .nilFunc,false⟩
theorem Hr:ad Tryz.prog 207 Nr:=⟨ab (by kernel_rfl),⟨Tryz.underlying207,rfl⟩,fun h=>nomatch h⟩
def Nq:aB:=⟨.ai (.func #[9] #[4] false),1,8, .nilFunc,false⟩
theorem Hq:ad Tryz.prog 208 Nq:=⟨ab (by kernel_rfl),⟨Tryz.underlying208,rfl⟩,fun h=>nomatch h⟩
def Np:aB:=⟨.ai (.func #[73] #[9,33] false),1,8, .nilFunc,false⟩
theorem Hp:ad Tryz.prog 211 Np:=⟨ab (by kernel_rfl),⟨Tryz.underlying211,rfl⟩,fun h=>nomatch h⟩
def No:aB:=⟨.ai (.func #[105] #[9,33] false),1,8, .nilFunc,false⟩
theorem Ho:ad Tryz.prog 212 No:=⟨ab (by kernel_rfl),⟨Tryz.underlying212,rfl⟩,fun h=>nomatch h⟩
def Nn:aB:=⟨.ai (.func #[] #[3] false),1,8, .nilFunc,false⟩
theorem Hn:ad Tryz.prog 213 Nn:=⟨ab (by kernel_rfl),⟨Tryz.underlying213,rfl⟩,fun h=>nomatch h⟩
def Nl:aB:=⟨.ai (.func #[215,217] #[4] false),1,8, .nilFunc,false⟩
theorem Hm:ad Tryz.prog 214 Nl:=⟨ab (by kernel_rfl),⟨Tryz.underlying214,rfl⟩,fun h=>nomatch h⟩
def Nk:aB:=⟨.ai (.slice 73),1,24, .slice none 0 0,false⟩
theorem Hl:ad Tryz.prog 215 Nk:=⟨ab (by kernel_rfl),⟨Tryz.underlying215,rfl⟩,fun h=>nomatch h⟩
def Nj:aB:=⟨.ai (.func #[76,3] #[215] false),1,8, .nilFunc,false⟩
theorem Hk:ad Tryz.prog 216 Nj:=⟨ab (by kernel_rfl),⟨Tryz.underlying216,rfl⟩,fun h=>nomatch h⟩
def Ni:aB:=⟨.ai (.func #[73] #[4] false),1,8, .nilFunc,false⟩
theorem Hj:ad Tryz.prog 217 Ni:=⟨ab (by kernel_rfl),⟨Tryz.underlying217,rfl⟩,fun h=>nomatch h⟩
def Nh:aB:=⟨.aU [(0,33),(1,207)],2,16, .agg #[.int .i64 (0), .nilFunc],true⟩
theorem Hi:ad Tryz.prog 218 Nh:=⟨ab (by kernel_rfl),⟨_,Tryz.underlying218,rfl⟩,fun _=>aM Tryz.underlying218 Tryz.stoodInHeld218 Tryz.eqGuardType218 (by decide)⟩
def Ng:aB:=⟨.ai (.func #[76,3] #[4] false),1,8, .nilFunc,false⟩
theorem Hh:ad Tryz.prog 219 Ng:=⟨ab (by kernel_rfl),⟨Tryz.underlying219,rfl⟩,fun h=>nomatch h⟩
def Nf:aB:=⟨.ai (.pointer 257),1,8, .pointer none,false⟩
theorem Hg:ad Tryz.prog 220 Nf:=⟨ab (by kernel_rfl),⟨Tryz.underlying220,rfl⟩,fun h=>nomatch h⟩
def Nd:aB:=⟨.ai (.func #[181,167] #[220] false),1,8, .nilFunc,false⟩
theorem Hf:ad Tryz.prog 221 Nd:=⟨ab (by kernel_rfl),⟨Tryz.underlying221,rfl⟩,fun h=>nomatch h⟩
def Nc:aB:=⟨.ai (.slice 218),1,24, .slice none 0 0,false⟩
theorem He:ad Tryz.prog 222 Nc:=⟨ab (by kernel_rfl),⟨Tryz.underlying222,rfl⟩,fun h=>nomatch h⟩
def Nb:aB:=⟨.ai (.func #[76,3] #[35] false),1,8, .nilFunc,false⟩
theorem Hd:ad Tryz.prog 223 Nb:=⟨ab (by kernel_rfl),⟨Tryz.underlying223,rfl⟩,fun h=>nomatch h⟩
def Na:aB:=⟨.ai (.func #[105,185,164] #[9,4] false),1,8, .nilFunc,false⟩
theorem Hc:ad Tryz.prog 225 Na:=⟨ab (by kernel_rfl),⟨Tryz.underlying225,rfl⟩,fun h=>nomatch h⟩
def M9:aB:=⟨.ai (.func #[25,76,33] #[37] false),1,8, .nilFunc,false⟩
theorem Hb:ad Tryz.prog 226 M9:=⟨ab (by kernel_rfl),⟨Tryz.underlying226,rfl⟩,fun h=>nomatch h⟩
def M8:aB:=⟨.ai (.func #[76,3] #[37] false),1,8, .nilFunc,false⟩
theorem Ha:ad Tryz.prog 227 M8:=⟨ab (by kernel_rfl),⟨Tryz.underlying227,rfl⟩,fun h=>nomatch h⟩
def M7:aB:=⟨.ai (.func #[25,76] #[37] false),1,8, .nilFunc,false⟩
theorem G9:ad Tryz.prog 228 M7:=⟨ab (by kernel_rfl),⟨Tryz.underlying228,rfl⟩,fun h=>nomatch h⟩
def M6:aB:=⟨.ai (.func #[105,53] #[9,4] false),1,8, .nilFunc,false⟩
theorem G8:ad Tryz.prog 229 M6:=⟨ab (by kernel_rfl),⟨Tryz.underlying229,rfl⟩,fun h=>nomatch h⟩
def M5:aB:=⟨.ai (.func #[101] #[] false),1,8, .nilFunc,false⟩
theorem G7:ad Tryz.prog 230 M5:=⟨ab (by kernel_rfl),⟨Tryz.underlying230,rfl⟩,fun h=>nomatch h⟩
def M4:aB:=⟨.ai (.func #[88] #[4] false),1,8, .nilFunc,false⟩
theorem G6:ad Tryz.prog 231 M4:=⟨ab (by kernel_rfl),⟨Tryz.underlying231,rfl⟩,fun h=>nomatch h⟩
def M3:aB:=⟨.arr 2 101,14,176, .agg #[.int .i64 (0), .string Wu, .int .i64 (0), .int .i64 (0), .string Wu, .int .i64 (0), .slice none 0 0, .int .i64 (0), .string Wu, .int .i64 (0), .int .i64 (0), .string Wu, .int .i64 (0), .slice none 0 0],false⟩
theorem G5:ad Tryz.prog 232 M3:=⟨ab (by kernel_rfl),Tryz.underlying232,fun h=>nomatch h⟩
def MZ:aB:=⟨.ai (.int .u64),1,8, .int .u64 (0),false⟩
theorem G4:ad Tryz.prog 233 MZ:=⟨ab (by kernel_rfl),⟨Tryz.underlying233,rfl⟩,fun h=>nomatch h⟩
def MY:aB:=⟨.ai (.func #[3] #[179] false),1,8, .nilFunc,false⟩
theorem G3:ad Tryz.prog 234 MY:=⟨ab (by kernel_rfl),⟨Tryz.underlying234,rfl⟩,fun h=>nomatch h⟩
def MX:aB:=⟨.ai (.func #[] #[205] false),1,8, .nilFunc,false⟩
theorem G2:ad Tryz.prog 235 MX:=⟨ab (by kernel_rfl),⟨Tryz.underlying235,rfl⟩,fun h=>nomatch h⟩
def MW:aB:=⟨.ai (.func #[53,3,237] #[3] false),1,8, .nilFunc,false⟩
theorem G1:ad Tryz.prog 236 MW:=⟨ab (by kernel_rfl),⟨Tryz.underlying236,rfl⟩,fun h=>nomatch h⟩
def MV:aB:=⟨.ai (.pointer 3),1,8, .pointer none,false⟩
theorem G0:ad Tryz.prog 237 MV:=⟨ab (by kernel_rfl),⟨Tryz.underlying237,rfl⟩,fun h=>nomatch h⟩
def MU:aB:=⟨.ai (.func #[53,3,3,3,237] #[3] false),1,8, .nilFunc,false⟩
theorem GZ:ad Tryz.prog 238 MU:=⟨ab (by kernel_rfl),⟨Tryz.underlying238,rfl⟩,fun h=>nomatch h⟩
def MT:aB:=⟨.ai (.func #[47,207] #[3] false),1,8, .nilFunc,false⟩
theorem GY:ad Tryz.prog 239 MT:=⟨ab (by kernel_rfl),⟨Tryz.underlying239,rfl⟩,fun h=>nomatch h⟩
def MS:aB:=⟨.ai (.func #[9,5,5] #[4] false),1,8, .nilFunc,false⟩
theorem GW:ad Tryz.prog 240 MS:=⟨ab (by kernel_rfl),⟨Tryz.underlying240,rfl⟩,fun h=>nomatch h⟩
def MR:aB:=⟨.ai (.pointer 247),1,8, .pointer none,false⟩
theorem GV:ad Tryz.prog 241 MR:=⟨ab (by kernel_rfl),⟨Tryz.underlying241,rfl⟩,fun h=>nomatch h⟩
def MQ:aB:=⟨.ai (.pointer 245),1,8, .pointer none,false⟩
theorem GU:ad Tryz.prog 242 MQ:=⟨ab (by kernel_rfl),⟨Tryz.underlying242,rfl⟩,fun h=>nomatch h⟩
def MP:aB:=⟨.ai (.slice 5),1,24, .slice none 0 0,false⟩
theorem GS:ad Tryz.prog 243 MP:=⟨ab (by kernel_rfl),⟨Tryz.underlying243,rfl⟩,fun h=>nomatch h⟩
def MO:aB:=⟨.aU [(0,242),(1,243)],2,32, .agg #[.pointer none, .slice none 0 0],true⟩
theorem GR:ad Tryz.prog 244 MO:=⟨ab (by kernel_rfl),⟨_,Tryz.underlying244,rfl⟩,fun _=>aM Tryz.underlying244 Tryz.stoodInHeld244 Tryz.eqGuardType244 (by decide)⟩
def MN:aB:=⟨.aU [(0,242),(1,243)],2,32, .agg #[.pointer none, .slice none 0 0],true⟩
theorem GQ:ad Tryz.prog 245 MN:=⟨ab (by kernel_rfl),⟨_,Tryz.underlying245,rfl⟩,fun _=>aM Tryz.underlying245 Tryz.stoodInHeld245 Tryz.eqGuardType245 (by decide)⟩
def MM:aB:=⟨.aU [(0,245),(2,4),(3,3)],4,48, .agg #[.pointer none, .slice none 0 0, .bool false, .int .i64 (0)],true⟩
theorem GP:ad Tryz.prog 246 MM:=⟨ab (by kernel_rfl),⟨_,Tryz.underlying246,rfl⟩,fun _=>aM Tryz.underlying246 Tryz.stoodInHeld246 Tryz.eqGuardType246 (by decide)⟩
def ML:aB:=⟨.aU [(0,245),(2,4),(3,3)],4,48, .agg #[.pointer none, .slice none 0 0, .bool false, .int .i64 (0)],true⟩
theorem GN:ad Tryz.prog 247 ML:=⟨ab (by kernel_rfl),⟨_,Tryz.underlying247,rfl⟩,fun _=>aM Tryz.underlying247 Tryz.stoodInHeld247 Tryz.eqGuardType247 (by decide)⟩
def MK:aB:=⟨.ai (.func #[] #[9,33] false),1,8, .nilFunc,false⟩
theorem GK:ad Tryz.prog 248 MK:=⟨ab (by kernel_rfl),⟨Tryz.underlying248,rfl⟩,fun h=>nomatch h⟩
def MJ:aB:=⟨.ai (.func #[103] #[164] false),1,8, .nilFunc,false⟩
theorem GJ:ad Tryz.prog 249 MJ:=⟨ab (by kernel_rfl),⟨Tryz.underlying249,rfl⟩,fun h=>nomatch h⟩
def MI:aB:=⟨.ai (.func #[215,217] #[3] false),1,8, .nilFunc,false⟩
theorem GI:ad Tryz.prog 250 MI:=⟨ab (by kernel_rfl),⟨Tryz.underlying250,rfl⟩,fun h=>nomatch h⟩
def MH:aB:=⟨.ai (.func #[71,252] #[4] false),1,8, .nilFunc,false⟩
theorem GH:ad Tryz.prog 251 MH:=⟨ab (by kernel_rfl),⟨Tryz.underlying251,rfl⟩,fun h=>nomatch h⟩
def MG:aB:=⟨.ai (.func #[143] #[4] false),1,8, .nilFunc,false⟩
theorem GG:ad Tryz.prog 252 MG:=⟨ab (by kernel_rfl),⟨Tryz.underlying252,rfl⟩,fun h=>nomatch h⟩
def MF:aB:=⟨.ai (.map 263 263),1,8, .map none,false⟩
theorem GF:ad Tryz.prog 253 MF:=⟨ab (by kernel_rfl),⟨Tryz.underlying253,rfl⟩,fun h=>nomatch h⟩
def ME:aB:=⟨.ai (.map 263 3),1,8, .map none,false⟩
theorem GD:ad Tryz.prog 254 ME:=⟨ab (by kernel_rfl),⟨Tryz.underlying254,rfl⟩,fun h=>nomatch h⟩
def MD:aB:=⟨.ai (.slice 265),1,24, .slice none 0 0,false⟩
theorem GC:ad Tryz.prog 255 MD:=⟨ab (by kernel_rfl),⟨Tryz.underlying255,rfl⟩,fun h=>nomatch h⟩
def MC:aB:=⟨.aU [(0,167),(1,253),(2,255),(3,254)],4,48, .agg #[.pointer none, .map none, .slice none 0 0, .map none],true⟩
theorem GB:ad Tryz.prog 256 MC:=⟨ab (by kernel_rfl),⟨_,Tryz.underlying256,rfl⟩,fun _=>aM Tryz.underlying256 Tryz.stoodInHeld256 Tryz.eqGuardType256 (by decide)⟩
def MA:aB:=⟨.aU [(0,167),(1,253),(2,255),(3,254)],4,48, .agg #[.pointer none, .map none, .slice none 0 0, .map none],true⟩
theorem GA:ad Tryz.prog 257 MA:=⟨ab (by kernel_rfl),⟨_,Tryz.underlying257,rfl⟩,fun _=>aM Tryz.underlying257 Tryz.stoodInHeld257 Tryz.eqGuardType257 (by decide)⟩
def Mz:aB:=⟨.ai (.func #[181,73,3,3] #[] false),1,8, .nilFunc,false⟩
theorem Gz:ad Tryz.prog 258 Mz:=⟨ab (by kernel_rfl),⟨Tryz.underlying258,rfl⟩,fun h=>nomatch h⟩
def My:aB:=⟨.ai (.func #[181,105,3,3] #[] false),1,8, .nilFunc,false⟩
theorem Gy:ad Tryz.prog 259 My:=⟨ab (by kernel_rfl),⟨Tryz.underlying259,rfl⟩,fun h=>nomatch h⟩
def Mx:aB:=⟨.ai (.func #[101,3,3] #[] false),1,8, .nilFunc,false⟩
theorem Gx:ad Tryz.prog 260 Mx:=⟨ab (by kernel_rfl),⟨Tryz.underlying260,rfl⟩,fun h=>nomatch h⟩
def Mw:aB:=⟨.ai (.func #[101,101,3,3] #[] false),1,8, .nilFunc,false⟩
theorem Gw:ad Tryz.prog 261 Mw:=⟨ab (by kernel_rfl),⟨Tryz.underlying261,rfl⟩,fun h=>nomatch h⟩
def Mv:aB:=⟨.aU [(0,9),(1,3)],2,24, .agg #[.string Wu, .int .i64 (0)],true⟩
theorem Gv:ad Tryz.prog 262 Mv:=⟨ab (by kernel_rfl),⟨_,Tryz.underlying262,rfl⟩,fun _=>aM Tryz.underlying262 Tryz.stoodInHeld262 Tryz.eqGuardType262 (by decide)⟩
def Mu:aB:=⟨.aU [(0,9),(1,3)],2,24, .agg #[.string Wu, .int .i64 (0)],true⟩
theorem Gu:ad Tryz.prog 263 Mu:=⟨ab (by kernel_rfl),⟨_,Tryz.underlying263,rfl⟩,fun _=>aM Tryz.underlying263 Tryz.stoodInHeld263 Tryz.eqGuardType263 (by decide)⟩
def Mt:aB:=⟨.aU [(0,3),(1,263),(3,3),(4,3)],5,48, .agg #[.int .i64 (0), .string Wu, .int .i64 (0), .int .i64 (0), .int .i64 (0)],true⟩
theorem Gt:ad Tryz.prog 264 Mt:=⟨ab (by kernel_rfl),⟨_,Tryz.underlying264,rfl⟩,fun _=>aM Tryz.underlying264 Tryz.stoodInHeld264 Tryz.eqGuardType264 (by decide)⟩
def Ms:aB:=⟨.aU [(0,3),(1,263),(3,3),(4,3)],5,48, .agg #[.int .i64 (0), .string Wu, .int .i64 (0), .int .i64 (0), .int .i64 (0)],true⟩
theorem Gs:ad Tryz.prog 265 Ms:=⟨ab (by kernel_rfl),⟨_,Tryz.underlying265,rfl⟩,fun _=>aM Tryz.underlying265 Tryz.stoodInHeld265 Tryz.eqGuardType265 (by decide)⟩
def Mr:aB:=⟨.ai (.func #[263] #[263] false),1,8, .nilFunc,false⟩
theorem Gr:ad Tryz.prog 266 Mr:=⟨ab (by kernel_rfl),⟨Tryz.underlying266,rfl⟩,fun h=>nomatch h⟩
def Mq:aB:=⟨.ai (.func #[] #[164] false),1,8, .nilFunc,false⟩
theorem Gq:ad Tryz.prog 267 Mq:=⟨ab (by kernel_rfl),⟨Tryz.underlying267,rfl⟩,fun h=>nomatch h⟩
def Mp:aB:=⟨.ai (.func #[5] #[4] false),1,8, .nilFunc,false⟩
theorem Gp:ad Tryz.prog 268 Mp:=⟨ab (by kernel_rfl),⟨Tryz.underlying268,rfl⟩,fun h=>nomatch h⟩
def Mo:aB:=⟨.ai (.func #[25,76,3,33] #[4] false),1,8, .nilFunc,false⟩
theorem Gn:ad Tryz.prog 269 Mo:=⟨ab (by kernel_rfl),⟨Tryz.underlying269,rfl⟩,fun h=>nomatch h⟩
def Mn:aB:=⟨.ai (.func #[76] #[3] false),1,8, .nilFunc,false⟩
theorem Gm:ad Tryz.prog 270 Mn:=⟨ab (by kernel_rfl),⟨Tryz.underlying270,rfl⟩,fun h=>nomatch h⟩
def Mm:aB:=⟨.ai (.pointer 276),1,8, .pointer none,false⟩
theorem Gl:ad Tryz.prog 271 Mm:=⟨ab (by kernel_rfl),⟨Tryz.underlying271,rfl⟩,fun h=>nomatch h⟩
def Ml:aB:=⟨.ai (.func #[25,76] #[271] false),1,8, .nilFunc,false⟩
theorem Gk:ad Tryz.prog 272 Ml:=⟨ab (by kernel_rfl),⟨Tryz.underlying272,rfl⟩,fun h=>nomatch h⟩
def Mk:aB:=⟨.ai (.slice 325),1,24, .slice none 0 0,false⟩
theorem Gj:ad Tryz.prog 273 Mk:=⟨ab (by kernel_rfl),⟨Tryz.underlying273,rfl⟩,fun h=>nomatch h⟩
def Mj:aB:=⟨.ai (.slice 278),1,24, .slice none 0 0,false⟩
theorem Gi:ad Tryz.prog 274 Mj:=⟨ab (by kernel_rfl),⟨Tryz.underlying274,rfl⟩,fun h=>nomatch h⟩
def Mi:aB:=⟨.aU [(0,273),(1,47),(2,274),(3,53)],4,96, .agg #[.slice none 0 0, .slice none 0 0, .slice none 0 0, .slice none 0 0],true⟩
theorem Gh:ad Tryz.prog 275 Mi:=⟨ab (by kernel_rfl),⟨_,Tryz.underlying275,rfl⟩,fun _=>aM Tryz.underlying275 Tryz.stoodInHeld275 Tryz.eqGuardType275 (by decide)⟩
def Mh:aB:=⟨.aU [(0,273),(1,47),(2,274),(3,53)],4,96, .agg #[.slice none 0 0, .slice none 0 0, .slice none 0 0, .slice none 0 0],true⟩
theorem Gg:ad Tryz.prog 276 Mh:=⟨ab (by kernel_rfl),⟨_,Tryz.underlying276,rfl⟩,fun _=>aM Tryz.underlying276 Tryz.stoodInHeld276 Tryz.eqGuardType276 (by decide)⟩
def Mg:aB:=⟨.aU [(0,3),(1,3),(2,3),(3,3)],4,32, .agg #[.int .i64 (0), .int .i64 (0), .int .i64 (0), .int .i64 (0)],true⟩
theorem Gf:ad Tryz.prog 277 Mg:=⟨ab (by kernel_rfl),⟨_,Tryz.underlying277,rfl⟩,fun _=>aM Tryz.underlying277 Tryz.stoodInHeld277 Tryz.eqGuardType277 (by decide)⟩
def Mf:aB:=⟨.aU [(0,3),(1,3),(2,3),(3,3)],4,32, .agg #[.int .i64 (0), .int .i64 (0), .int .i64 (0), .int .i64 (0)],true⟩
theorem Ge:ad Tryz.prog 278 Mf:=⟨ab (by kernel_rfl),⟨_,Tryz.underlying278,rfl⟩,fun _=>aM Tryz.underlying278 Tryz.stoodInHeld278 Tryz.eqGuardType278 (by decide)⟩
def Me:aB:=⟨.ai (.func #[3] #[3] false),1,8, .nilFunc,false⟩
theorem Gd:ad Tryz.prog 279 Me:=⟨ab (by kernel_rfl),⟨Tryz.underlying279,rfl⟩,fun h=>nomatch h⟩
def Md:aB:=⟨.ai (.pointer 233),1,8, .pointer none,false⟩
theorem Gc:ad Tryz.prog 280 Md:=⟨ab (by kernel_rfl),⟨Tryz.underlying280,rfl⟩,fun h=>nomatch h⟩
def Mc:aB:=⟨.ai (.func #[53,3,3,237] #[3,3] false),1,8, .nilFunc,false⟩
theorem Gb:ad Tryz.prog 282 Mc:=⟨ab (by kernel_rfl),⟨Tryz.underlying282,rfl⟩,fun h=>nomatch h⟩
def Mb:aB:=⟨.ai (.func #[9,284] #[4] false),1,8, .nilFunc,false⟩
theorem Ga:ad Tryz.prog 283 Mb:=⟨ab (by kernel_rfl),⟨Tryz.underlying283,rfl⟩,fun h=>nomatch h⟩
def Ma:aB:=⟨.ai (.func #[21] #[4] false),1,8, .nilFunc,false⟩
theorem F9:ad Tryz.prog 284 Ma:=⟨ab (by kernel_rfl),⟨Tryz.underlying284,rfl⟩,fun h=>nomatch h⟩
def L9:aB:=⟨.ai (.func #[4] #[] false),1,8, .nilFunc,false⟩
theorem F8:ad Tryz.prog 285 L9:=⟨ab (by kernel_rfl),⟨Tryz.underlying285,rfl⟩,fun h=>nomatch h⟩
def L8:aB:=⟨.ai (.func #[53] #[] true),1,8, .nilFunc,false⟩
theorem F7:ad Tryz.prog 286 L8:=⟨ab (by kernel_rfl),⟨Tryz.underlying286,rfl⟩,fun h=>nomatch h⟩
def L7:aB:=⟨.ai (.func #[98] #[] false),1,8, .nilFunc,false⟩
theorem F6:ad Tryz.prog 287 L7:=⟨ab (by kernel_rfl),⟨Tryz.underlying287,rfl⟩,fun h=>nomatch h⟩
def L6:aB:=⟨.ai (.func #[] #[9] false),1,8, .nilFunc,false⟩
theorem F5:ad Tryz.prog 288 L6:=⟨ab (by kernel_rfl),⟨Tryz.underlying288,rfl⟩,fun h=>nomatch h⟩
def L5:aB:=⟨.arr 7 9,7,112, .agg #[.string Wu, .string Wu, .string Wu, .string Wu, .string Wu, .string Wu, .string Wu],false⟩
theorem F4:ad Tryz.prog 289 L5:=⟨ab (by kernel_rfl),Tryz.underlying289,fun h=>nomatch h⟩
def L4:aB:=⟨.ai (.func #[101,3] #[] false),1,8, .nilFunc,false⟩
theorem F3:ad Tryz.prog 290 L4:=⟨ab (by kernel_rfl),⟨Tryz.underlying290,rfl⟩,fun h=>nomatch h⟩
def L3:aB:=⟨.ai (.func #[103] #[] false),1,8, .nilFunc,false⟩
theorem F2:ad Tryz.prog 291 L3:=⟨ab (by kernel_rfl),⟨Tryz.underlying291,rfl⟩,fun h=>nomatch h⟩
def L2:aB:=⟨.ai (.func #[71,252] #[3] false),1,8, .nilFunc,false⟩
theorem F1:ad Tryz.prog 292 L2:=⟨ab (by kernel_rfl),⟨Tryz.underlying292,rfl⟩,fun h=>nomatch h⟩
def L1:aB:=⟨.ai (.func #[9,3] #[263] false),1,8, .nilFunc,false⟩
theorem F0:ad Tryz.prog 293 L1:=⟨ab (by kernel_rfl),⟨Tryz.underlying293,rfl⟩,fun h=>nomatch h⟩
def LZ:aB:=⟨.ai (.func #[25,9] #[49,4] false),1,8, .nilFunc,false⟩
theorem FZ:ad Tryz.prog 295 LZ:=⟨ab (by kernel_rfl),⟨Tryz.underlying295,rfl⟩,fun h=>nomatch h⟩
def LY:aB:=⟨.ai (.func #[76,3] #[53] false),1,8, .nilFunc,false⟩
theorem FY:ad Tryz.prog 296 LY:=⟨ab (by kernel_rfl),⟨Tryz.underlying296,rfl⟩,fun h=>nomatch h⟩
def LX:aB:=⟨.ai (.func #[25,73,3,3] #[] false),1,8, .nilFunc,false⟩
theorem FX:ad Tryz.prog 297 LX:=⟨ab (by kernel_rfl),⟨Tryz.underlying297,rfl⟩,fun h=>nomatch h⟩
def LW:aB:=⟨.ai (.func #[25,103,3] #[] false),1,8, .nilFunc,false⟩
theorem FW:ad Tryz.prog 298 LW:=⟨ab (by kernel_rfl),⟨Tryz.underlying298,rfl⟩,fun h=>nomatch h⟩
def LV:aB:=⟨.ai (.func #[25,105,3,3] #[] false),1,8, .nilFunc,false⟩
theorem FV:ad Tryz.prog 299 LV:=⟨ab (by kernel_rfl),⟨Tryz.underlying299,rfl⟩,fun h=>nomatch h⟩
def LU:aB:=⟨.ai (.func #[9,284] #[3] false),1,8, .nilFunc,false⟩
theorem FU:ad Tryz.prog 300 LU:=⟨ab (by kernel_rfl),⟨Tryz.underlying300,rfl⟩,fun h=>nomatch h⟩
def LS:aB:=⟨.ai (.func #[9] #[3,302] false),1,8, .nilFunc,false⟩
theorem FQ:ad Tryz.prog 304 LS:=⟨ab (by kernel_rfl),⟨Tryz.underlying304,rfl⟩,fun h=>nomatch h⟩
def LR:aB:=⟨.ai (.func #[98] #[9,33] false),1,8, .nilFunc,false⟩
theorem FP:ad Tryz.prog 305 LR:=⟨ab (by kernel_rfl),⟨Tryz.underlying305,rfl⟩,fun h=>nomatch h⟩
def LQ:aB:=⟨.ai (.pointer 5),1,8, .pointer none,false⟩
theorem FO:ad Tryz.prog 306 LQ:=⟨ab (by kernel_rfl),⟨Tryz.underlying306,rfl⟩,fun h=>nomatch h⟩
def LP:aB:=⟨.arr 5 9,5,80, .agg #[.string Wu, .string Wu, .string Wu, .string Wu, .string Wu],false⟩
theorem FN:ad Tryz.prog 307 LP:=⟨ab (by kernel_rfl),Tryz.underlying307,fun h=>nomatch h⟩
def LO:aB:=⟨.ai (.func #[74] #[] false),1,8, .nilFunc,false⟩
theorem FM:ad Tryz.prog 308 LO:=⟨ab (by kernel_rfl),⟨Tryz.underlying308,rfl⟩,fun h=>nomatch h⟩
def LN:aB:=⟨.ai (.func #[105] #[215] false),1,8, .nilFunc,false⟩
theorem FL:ad Tryz.prog 309 LN:=⟨ab (by kernel_rfl),⟨Tryz.underlying309,rfl⟩,fun h=>nomatch h⟩
def LM:aB:=⟨.ai (.func #[9,3] #[3] false),1,8, .nilFunc,false⟩
theorem FK:ad Tryz.prog 310 LM:=⟨ab (by kernel_rfl),⟨Tryz.underlying310,rfl⟩,fun h=>nomatch h⟩
def LL:aB:=⟨.ai (.func #[3,3,3,3] #[] false),1,8, .nilFunc,false⟩
theorem FJ:ad Tryz.prog 311 LL:=⟨ab (by kernel_rfl),⟨Tryz.underlying311,rfl⟩,fun h=>nomatch h⟩
def LK:aB:=⟨.ai (.func #[9,284,4] #[3] false),1,8, .nilFunc,false⟩
theorem FI:ad Tryz.prog 312 LK:=⟨ab (by kernel_rfl),⟨Tryz.underlying312,rfl⟩,fun h=>nomatch h⟩
def LJ:aB:=⟨.ai (.func #[98] #[33] false),1,8, .nilFunc,false⟩
theorem FH:ad Tryz.prog 313 LJ:=⟨ab (by kernel_rfl),⟨Tryz.underlying313,rfl⟩,fun h=>nomatch h⟩
def LI:aB:=⟨.ai (.func #[98] #[9] false),1,8, .nilFunc,false⟩
theorem FG:ad Tryz.prog 314 LI:=⟨ab (by kernel_rfl),⟨Tryz.underlying314,rfl⟩,fun h=>nomatch h⟩
def LH:aB:=⟨.ai (.func #[101,4,3] #[] false),1,8, .nilFunc,false⟩
theorem FF:ad Tryz.prog 315 LH:=⟨ab (by kernel_rfl),⟨Tryz.underlying315,rfl⟩,fun h=>nomatch h⟩
def LG:aB:=⟨.ai (.func #[101] #[3] false),1,8, .nilFunc,false⟩
theorem FE:ad Tryz.prog 316 LG:=⟨ab (by kernel_rfl),⟨Tryz.underlying316,rfl⟩,fun h=>nomatch h⟩
def LF:aB:=⟨.ai (.func #[3] #[9] false),1,8, .nilFunc,false⟩
theorem FD:ad Tryz.prog 317 LF:=⟨ab (by kernel_rfl),⟨Tryz.underlying317,rfl⟩,fun h=>nomatch h⟩
def LD:aB:=⟨.ai (.func #[320] #[9,33] false),1,8, .nilFunc,false⟩
theorem FC:ad Tryz.prog 318 LD:=⟨ab (by kernel_rfl),⟨Tryz.underlying318,rfl⟩,fun h=>nomatch h⟩
def LC:aB:=⟨.aU [(0,9),(1,4)],2,24, .agg #[.string Wu, .bool false],true⟩
theorem FB:ad Tryz.prog 319 LC:=⟨ab (by kernel_rfl),⟨_,Tryz.underlying319,rfl⟩,fun _=>aM Tryz.underlying319 Tryz.stoodInHeld319 Tryz.eqGuardType319 (by decide)⟩
def LB:aB:=⟨.aU [(0,9),(1,4)],2,24, .agg #[.string Wu, .bool false],true⟩
theorem FA:ad Tryz.prog 320 LB:=⟨ab (by kernel_rfl),⟨_,Tryz.underlying320,rfl⟩,fun _=>aM Tryz.underlying320 Tryz.stoodInHeld320 Tryz.eqGuardType320 (by decide)⟩
def LA:aB:=⟨.ai (.func #[73] #[320] false),1,8, .nilFunc,false⟩
theorem Fz:ad Tryz.prog 321 LA:=⟨ab (by kernel_rfl),⟨Tryz.underlying321,rfl⟩,fun h=>nomatch h⟩
def Lz:aB:=⟨.ai (.func #[105,3] #[320] false),1,8, .nilFunc,false⟩
theorem Fy:ad Tryz.prog 322 Lz:=⟨ab (by kernel_rfl),⟨Tryz.underlying322,rfl⟩,fun h=>nomatch h⟩
def Ly:aB:=⟨.ai (.func #[74,53,53,4] #[53] false),1,8, .nilFunc,false⟩
theorem Fx:ad Tryz.prog 323 Ly:=⟨ab (by kernel_rfl),⟨Tryz.underlying323,rfl⟩,fun h=>nomatch h⟩
def Lx:aB:=⟨.aU [(0,9),(1,3)],2,24, .agg #[.string Wu, .int .i64 (0)],true⟩
theorem Fw:ad Tryz.prog 324 Lx:=⟨ab (by kernel_rfl),⟨_,Tryz.underlying324,rfl⟩,fun _=>aM Tryz.underlying324 Tryz.stoodInHeld324 Tryz.eqGuardType324 (by decide)⟩
def Lw:aB:=⟨.aU [(0,9),(1,3)],2,24, .agg #[.string Wu, .int .i64 (0)],true⟩
theorem Fv:ad Tryz.prog 325 Lw:=⟨ab (by kernel_rfl),⟨_,Tryz.underlying325,rfl⟩,fun _=>aM Tryz.underlying325 Tryz.stoodInHeld325 Tryz.eqGuardType325 (by decide)⟩
def Lu:aB:=⟨.ai (.func #[3,3] #[] false),1,8, .nilFunc,false⟩
theorem Fu:ad Tryz.prog 326 Lu:=⟨ab (by kernel_rfl),⟨Tryz.underlying326,rfl⟩,fun h=>nomatch h⟩
def Lt:aB:=⟨.ai (.unsafePointer),1,8, .pointer none,false⟩
theorem Ft:ad Tryz.prog 327 Lt:=⟨ab (by kernel_rfl),⟨Tryz.underlying327,rfl⟩,fun h=>nomatch h⟩
def Ls:aB:=⟨.ai (.func #[327] #[327] false),1,8, .nilFunc,false⟩
theorem Fs:ad Tryz.prog 328 Ls:=⟨ab (by kernel_rfl),⟨Tryz.underlying328,rfl⟩,fun h=>nomatch h⟩
def Lr:aB:=⟨.ai (.func #[9] #[9] false),1,8, .nilFunc,false⟩
theorem Fq:ad Tryz.prog 329 Lr:=⟨ab (by kernel_rfl),⟨Tryz.underlying329,rfl⟩,fun h=>nomatch h⟩
def Lq:aB:=⟨.ai (.func #[3,9,98] #[320] false),1,8, .nilFunc,false⟩
theorem Fp:ad Tryz.prog 330 Lq:=⟨ab (by kernel_rfl),⟨Tryz.underlying330,rfl⟩,fun h=>nomatch h⟩
def Lp:aB:=⟨.ai (.func #[101,3] #[320] false),1,8, .nilFunc,false⟩
theorem Fo:ad Tryz.prog 331 Lp:=⟨ab (by kernel_rfl),⟨Tryz.underlying331,rfl⟩,fun h=>nomatch h⟩
def Lo:aB:=⟨.ai (.func #[103,3] #[320] false),1,8, .nilFunc,false⟩
theorem Fm:ad Tryz.prog 332 Lo:=⟨ab (by kernel_rfl),⟨Tryz.underlying332,rfl⟩,fun h=>nomatch h⟩
def Ln:aB:=⟨.ai (.func #[103,53,53] #[4] false),1,8, .nilFunc,false⟩
theorem Fl:ad Tryz.prog 333 Ln:=⟨ab (by kernel_rfl),⟨Tryz.underlying333,rfl⟩,fun h=>nomatch h⟩
def Lm:aB:=⟨.ai (.func #[101,4,3] #[320] false),1,8, .nilFunc,false⟩
theorem Fk:ad Tryz.prog 334 Lm:=⟨ab (by kernel_rfl),⟨Tryz.underlying334,rfl⟩,fun h=>nomatch h⟩
def Ll:aB:=⟨.ai (.func #[74,3] #[320] false),1,8, .nilFunc,false⟩
theorem Fj:ad Tryz.prog 335 Ll:=⟨ab (by kernel_rfl),⟨Tryz.underlying335,rfl⟩,fun h=>nomatch h⟩
def Lk:aB:=⟨.ai (.func #[2,3] #[9] false),1,8, .nilFunc,false⟩
theorem Fi:ad Tryz.prog 336 Lk:=⟨ab (by kernel_rfl),⟨Tryz.underlying336,rfl⟩,fun h=>nomatch h⟩
def Lj:aB:=⟨.arr 24 5,24,24, .agg #[.int .u8 (0), .int .u8 (0), .int .u8 (0), .int .u8 (0), .int .u8 (0), .int .u8 (0), .int .u8 (0), .int .u8 (0), .int .u8 (0), .int .u8 (0), .int .u8 (0), .int .u8 (0), .int .u8 (0), .int .u8 (0), .int .u8 (0), .int .u8 (0), .int .u8 (0), .int .u8 (0), .int .u8 (0), .int .u8 (0), .int .u8 (0), .int .u8 (0), .int .u8 (0), .int .u8 (0)],false⟩
theorem Fh:ad Tryz.prog 337 Lj:=⟨ab (by kernel_rfl),Tryz.underlying337,fun h=>nomatch h⟩
def Li:aB:=⟨.ai (.func #[243,205] #[] false),1,8, .nilFunc,false⟩
theorem Fg:ad Tryz.prog 338 Li:=⟨ab (by kernel_rfl),⟨Tryz.underlying338,rfl⟩,fun h=>nomatch h⟩
def Lh:aB:=⟨.ai (.func #[243,205,3,4,4] #[243,9] false),1,8, .nilFunc,false⟩
theorem Ff:ad Tryz.prog 340 Lh:=⟨ab (by kernel_rfl),⟨Tryz.underlying340,rfl⟩,fun h=>nomatch h⟩
def Lg:aB:=⟨.ai (.func #[5] #[9] false),1,8, .nilFunc,false⟩
theorem Fe:ad Tryz.prog 341 Lg:=⟨ab (by kernel_rfl),⟨Tryz.underlying341,rfl⟩,fun h=>nomatch h⟩
def Lf:aB:=⟨.ai (.func #[4] #[3] false),1,8, .nilFunc,false⟩
theorem Fc:ad Tryz.prog 342 Lf:=⟨ab (by kernel_rfl),⟨Tryz.underlying342,rfl⟩,fun h=>nomatch h⟩
def Ld:aB:=⟨.arr 20 205,20,160, .agg #[.int .u64 (0), .int .u64 (0), .int .u64 (0), .int .u64 (0), .int .u64 (0), .int .u64 (0), .int .u64 (0), .int .u64 (0), .int .u64 (0), .int .u64 (0), .int .u64 (0), .int .u64 (0), .int .u64 (0), .int .u64 (0), .int .u64 (0), .int .u64 (0), .int .u64 (0), .int .u64 (0), .int .u64 (0), .int .u64 (0)],false⟩
theorem Fb:ad Tryz.prog 343 Ld:=⟨ab (by kernel_rfl),Tryz.underlying343,fun h=>nomatch h⟩
def Lc:aB:=⟨.arr 65 5,65,65, .agg #[.int .u8 (0), .int .u8 (0), .int .u8 (0), .int .u8 (0), .int .u8 (0), .int .u8 (0), .int .u8 (0), .int .u8 (0), .int .u8 (0), .int .u8 (0), .int .u8 (0), .int .u8 (0), .int .u8 (0), .int .u8 (0), .int .u8 (0), .int .u8 (0), .int .u8 (0), .int .u8 (0), .int .u8 (0), .int .u8 (0), .int .u8 (0), .int .u8 (0), .int .u8 (0), .int .u8 (0), .int .u8 (0), .int .u8 (0), .int .u8 (0), .int .u8 (0), .int .u8 (0), .int .u8 (0), .int .u8 (0), .int .u8 (0), .int .u8 (0), .int .u8 (0), .int .u8 (0), .int .u8 (0), .int .u8 (0), .int .u8 (0), .int .u8 (0), .int .u8 (0), .int .u8 (0), .int .u8 (0), .int .u8 (0), .int .u8 (0), .int .u8 (0), .int .u8 (0), .int .u8 (0), .int .u8 (0), .int .u8 (0), .int .u8 (0), .int .u8 (0), .int .u8 (0), .int .u8 (0), .int .u8 (0), .int .u8 (0), .int .u8 (0), .int .u8 (0), .int .u8 (0), .int .u8 (0), .int .u8 (0), .int .u8 (0), .int .u8 (0), .int .u8 (0), .int .u8 (0), .int .u8 (0)],false⟩
theorem E9:ad Tryz.prog 344 Lc:=⟨ab (by kernel_rfl),Tryz.underlying344,fun h=>nomatch h⟩
def Lb:aB:=⟨.arr 32 5,32,32, .agg #[.int .u8 (0), .int .u8 (0), .int .u8 (0), .int .u8 (0), .int .u8 (0), .int .u8 (0), .int .u8 (0), .int .u8 (0), .int .u8 (0), .int .u8 (0), .int .u8 (0), .int .u8 (0), .int .u8 (0), .int .u8 (0), .int .u8 (0), .int .u8 (0), .int .u8 (0), .int .u8 (0), .int .u8 (0), .int .u8 (0), .int .u8 (0), .int .u8 (0), .int .u8 (0), .int .u8 (0), .int .u8 (0), .int .u8 (0), .int .u8 (0), .int .u8 (0), .int .u8 (0), .int .u8 (0), .int .u8 (0), .int .u8 (0)],false⟩
theorem E8:ad Tryz.prog 345 Lb:=⟨ab (by kernel_rfl),Tryz.underlying345,fun h=>nomatch h⟩
def La:aB:=⟨.arr 64 5,64,64, .agg #[.int .u8 (0), .int .u8 (0), .int .u8 (0), .int .u8 (0), .int .u8 (0), .int .u8 (0), .int .u8 (0), .int .u8 (0), .int .u8 (0), .int .u8 (0), .int .u8 (0), .int .u8 (0), .int .u8 (0), .int .u8 (0), .int .u8 (0), .int .u8 (0), .int .u8 (0), .int .u8 (0), .int .u8 (0), .int .u8 (0), .int .u8 (0), .int .u8 (0), .int .u8 (0), .int .u8 (0), .int .u8 (0), .int .u8 (0), .int .u8 (0), .int .u8 (0), .int .u8 (0), .int .u8 (0), .int .u8 (0), .int .u8 (0), .int .u8 (0), .int .u8 (0), .int .u8 (0), .int .u8 (0), .int .u8 (0), .int .u8 (0), .int .u8 (0), .int .u8 (0), .int .u8 (0), .int .u8 (0), .int .u8 (0), .int .u8 (0), .int .u8 (0), .int .u8 (0), .int .u8 (0), .int .u8 (0), .int .u8 (0), .int .u8 (0), .int .u8 (0), .int .u8 (0), .int .u8 (0), .int .u8 (0), .int .u8 (0), .int .u8 (0), .int .u8 (0), .int .u8 (0), .int .u8 (0), .int .u8 (0), .int .u8 (0), .int .u8 (0), .int .u8 (0), .int .u8 (0)],false⟩
theorem E7:ad Tryz.prog 346 La:=⟨ab (by kernel_rfl),Tryz.underlying346,fun h=>nomatch h⟩
def K9:aB:=⟨.aU [(0,17),(1,17),(2,17),(3,9)],4,40, .agg #[.pointer none, .pointer none, .pointer none, .string Wu],false⟩
theorem E6:ad Tryz.prog 347 K9:=⟨ab (by kernel_rfl),⟨_,Tryz.underlying347,rfl⟩,fun h=>nomatch h⟩
def K8:aB:=⟨.aU [(0,17),(1,17),(2,17),(3,9)],4,40, .agg #[.pointer none, .pointer none, .pointer none, .string Wu],false⟩
theorem E5:ad Tryz.prog 348 K8:=⟨ab (by kernel_rfl),⟨_,Tryz.underlying348,rfl⟩,fun h=>nomatch h⟩
def K7:aB:=⟨.arr 0 16,0,0, .agg #[],false⟩
theorem E4:ad Tryz.prog 349 K7:=⟨ab (by kernel_rfl),Tryz.underlying349,fun h=>nomatch h⟩
def K6:aB:=⟨.aU [(0,349)],0,0, .agg #[],false⟩
theorem E3:ad Tryz.prog 350 K6:=⟨ab (by kernel_rfl),⟨_,Tryz.underlying350,rfl⟩,fun h=>nomatch h⟩
def K5:aB:=⟨.aU [(0,349)],0,0, .agg #[],false⟩
theorem E2:ad Tryz.prog 351 K5:=⟨ab (by kernel_rfl),⟨_,Tryz.underlying351,rfl⟩,fun h=>nomatch h⟩
def K4:aB:=⟨.ai (.int .u8),1,1, .int .u8 (0),false⟩
theorem E1:ad Tryz.prog 352 K4:=⟨ab (by kernel_rfl),⟨Tryz.underlying352,rfl⟩,fun h=>nomatch h⟩
def K3:aB:=⟨.ai (.int .u8),1,1, .int .u8 (0),false⟩
theorem E0:ad Tryz.prog 353 K3:=⟨ab (by kernel_rfl),⟨Tryz.underlying353,rfl⟩,fun h=>nomatch h⟩
def K2:aB:=⟨.ai (.func #[327,327] #[4] false),1,8, .nilFunc,false⟩
theorem EZ:ad Tryz.prog 354 K2:=⟨ab (by kernel_rfl),⟨Tryz.underlying354,rfl⟩,fun h=>nomatch h⟩
def K1:aB:=⟨.ai (.int .i32),1,4, .int .i32 (0),false⟩
theorem EY:ad Tryz.prog 355 K1:=⟨ab (by kernel_rfl),⟨Tryz.underlying355,rfl⟩,fun h=>nomatch h⟩
def K0:aB:=⟨.ai (.int .i32),1,4, .int .i32 (0),false⟩
theorem EX:ad Tryz.prog 356 K0:=⟨ab (by kernel_rfl),⟨Tryz.underlying356,rfl⟩,fun h=>nomatch h⟩
def KZ:aB:=⟨.aU [(0,12),(1,12),(2,203),(3,352),(4,5),(5,5),(6,353),(7,354),(8,306),(9,355),(10,356)],11,48, .agg #[.int .u64 (0), .int .u64 (0), .int .u32 (0), .int .u8 (0), .int .u8 (0), .int .u8 (0), .int .u8 (0), .nilFunc, .pointer none, .int .i32 (0), .int .i32 (0)],false⟩
theorem EW:ad Tryz.prog 357 KZ:=⟨ab (by kernel_rfl),⟨_,Tryz.underlying357,rfl⟩,fun h=>nomatch h⟩
def KY:aB:=⟨.aU [(0,12),(1,12),(2,203),(3,352),(4,5),(5,5),(6,353),(7,354),(8,306),(9,355),(10,356)],11,48, .agg #[.int .u64 (0), .int .u64 (0), .int .u32 (0), .int .u8 (0), .int .u8 (0), .int .u8 (0), .int .u8 (0), .nilFunc, .pointer none, .int .i32 (0), .int .i32 (0)],false⟩
theorem EV:ad Tryz.prog 358 KY:=⟨ab (by kernel_rfl),⟨_,Tryz.underlying358,rfl⟩,fun h=>nomatch h⟩
def Ct:TT:=(.node (.node (.node (.node (.node (.node (.node (.node (.node .leaf 1 ty1 .leaf) 2 ty2 .leaf) 3 ty3 (.node (.node .leaf 4 ty4 .leaf) 5 ty5 .leaf)) 6 ty6 (.node (.node (.node .leaf 7 ty7 .leaf) 8 ty8 .leaf) 9 ty9 (.node .leaf 10 Uu .leaf))) 11 Ut (.node (.node (.node (.node .leaf 12 Us .leaf) 13 Ur .leaf) 14 Uq (.node (.node .leaf 15 Uo .leaf) 16 Un .leaf)) 17 Um (.node (.node (.node .leaf 18 Ul .leaf) 19 Uk .leaf) 21 Uj (.node .leaf 22 Ui .leaf)))) 23 Uh (.node (.node (.node (.node (.node .leaf 24 Ug .leaf) 25 Uf .leaf) 26 Ue (.node (.node .leaf 27 Ud .leaf) 28 Uc .leaf)) 29 Ub (.node (.node (.node .leaf 30 Ua .leaf) 31 T9 .leaf) 32 T8 (.node .leaf 33 T7 .leaf))) 34 T6 (.node (.node (.node (.node .leaf 35 T5 .leaf) 36 T4 .leaf) 37 T3 (.node .leaf 39 T2 .leaf)) 40 T1 (.node (.node (.node .leaf 41 TZ .leaf) 42 TY .leaf) 43 TX (.node .leaf 44 TV .leaf))))) 45 TU (.node (.node (.node (.node (.node (.node .leaf 46 TR .leaf) 47 TQ .leaf) 48 TP (.node (.node .leaf 49 TO .leaf) 51 TN .leaf)) 52 TM (.node (.node (.node .leaf 53 TL .leaf) 54 TJ .leaf) 55 TI (.node .leaf 56 TH .leaf))) 57 TG (.node (.node (.node (.node .leaf 58 TF .leaf) 59 TE .leaf) 60 TD (.node (.node .leaf 61 TC .leaf) 62 TB .leaf)) 64 TA (.node (.node (.node .leaf 65 Tz .leaf) 66 Tx .leaf) 67 Tw (.node .leaf 68 Tv .leaf)))) 69 Tu (.node (.node (.node (.node (.node .leaf 70 Tt .leaf) 71 Ts .leaf) 72 Tr (.node (.node .leaf 73 Tq .leaf) 74 Tp .leaf)) 75 To (.node (.node (.node .leaf 76 Tn .leaf) 77 Tm .leaf) 78 Tl (.node .leaf 79 Tk .leaf))) 80 Ti (.node (.node (.node (.node .leaf 81 Th .leaf) 82 Tg .leaf) 83 Tf (.node .leaf 84 Te .leaf)) 86 Td (.node (.node (.node .leaf 87 Tc .leaf) 88 Tb .leaf) 89 Ta (.node .leaf 90 S9 .leaf)))))) 91 S8 (.node (.node (.node (.node (.node (.node (.node .leaf 92 S7 .leaf) 93 S6 .leaf) 94 S5 (.node (.node .leaf 95 S4 .leaf) 96 S3 .leaf)) 97 S2 (.node (.node (.node .leaf 98 S1 .leaf) 99 S0 .leaf) 100 Pk (.node .leaf 101 Pj .leaf))) 102 Ph (.node (.node (.node (.node .leaf 103 Pg .leaf) 104 Pf .leaf) 105 Pe (.node (.node .leaf 106 Pd .leaf) 107 Pc .leaf)) 108 Pb (.node (.node (.node .leaf 109 Pa .leaf) 110 O9 .leaf) 111 O8 (.node .leaf 112 O7 .leaf)))) 113 O6 (.node (.node (.node (.node (.node .leaf 114 O5 .leaf) 115 O4 .leaf) 116 O3 (.node (.node .leaf 117 O2 .leaf) 118 O1 .leaf)) 119 O0 (.node (.node (.node .leaf 120 OZ .leaf) 121 OY .leaf) 123 OX (.node .leaf 124 OW .leaf))) 125 OV (.node (.node (.node (.node .leaf 126 OU .leaf) 127 OS .leaf) 128 OQ (.node .leaf 129 OP .leaf)) 130 OO (.node (.node (.node .leaf 131 ON .leaf) 132 OL .leaf) 133 OK (.node .leaf 134 OJ .leaf))))) 135 OI (.node (.node (.node (.node (.node (.node .leaf 137 OH .leaf) 138 OG .leaf) 139 OF (.node (.node .leaf 140 OE .leaf) 141 OD .leaf)) 142 OC (.node (.node (.node .leaf 143 OB .leaf) 144 OA .leaf) 145 Oz (.node .leaf 146 Oy .leaf))) 147 Ox (.node (.node (.node (.node .leaf 148 Ow .leaf) 149 Ov .leaf) 150 Ou (.node .leaf 151 Ot .leaf)) 152 Oq (.node (.node (.node .leaf 153 Oo .leaf) 154 On .leaf) 155 Om (.node .leaf 156 Ol .leaf)))) 157 Oj (.node (.node (.node (.node (.node .leaf 158 Oi .leaf) 159 Oh .leaf) 160 Og (.node (.node .leaf 161 Of .leaf) 162 Oe .leaf)) 163 Od (.node (.node (.node .leaf 164 Oc .leaf) 165 Ob .leaf) 166 Oa (.node .leaf 167 N9 .leaf))) 168 N8 (.node (.node (.node (.node .leaf 169 N7 .leaf) 170 N6 .leaf) 171 N5 (.node .leaf 172 N4 .leaf)) 173 N3 (.node (.node (.node .leaf 174 NZ .leaf) 175 NY .leaf) 176 NX (.node .leaf 177 NW .leaf))))))) 178 NV (.node (.node (.node (.node (.node (.node (.node (.node .leaf 179 NU .leaf) 180 NT .leaf) 181 NS (.node (.node .leaf 182 NR .leaf) 183 NQ .leaf)) 184 NP (.node (.node (.node .leaf 185 NO .leaf) 186 NN .leaf) 187 NL (.node .leaf 188 NK .leaf))) 189 NJ (.node (.node (.node (.node .leaf 190 NI .leaf) 191 NH .leaf) 192 NG (.node (.node .leaf 193 NF .leaf) 194 ND .leaf)) 195 NC (.node (.node (.node .leaf 197 NB .leaf) 198 NA .leaf) 199 Nz (.node .leaf 200 Ny .leaf)))) 201 Nx (.node (.node (.node (.node (.node .leaf 202 Nw .leaf) 203 Nv .leaf) 204 Nu (.node (.node .leaf 205 Nt .leaf) 206 Ns .leaf)) 207 Nr (.node (.node (.node .leaf 208 Nq .leaf) 211 Np .leaf) 212 No (.node .leaf 213 Nn .leaf))) 214 Nl (.node (.node (.node (.node .leaf 215 Nk .leaf) 216 Nj .leaf) 217 Ni (.node .leaf 218 Nh .leaf)) 219 Ng (.node (.node (.node .leaf 220 Nf .leaf) 221 Nd .leaf) 222 Nc (.node .leaf 223 Nb .leaf))))) 225 Na (.node (.node (.node (.node (.node (.node .leaf 226 M9 .leaf) 227 M8 .leaf) 228 M7 (.node (.node .leaf 229 M6 .leaf) 230 M5 .leaf)) 231 M4 (.node (.node (.node .leaf 232 M3 .leaf) 233 MZ .leaf) 234 MY (.node .leaf 235 MX .leaf))) 236 MW (.node (.node (.node (.node .leaf 237 MV .leaf) 238 MU .leaf) 239 MT (.node (.node .leaf 240 MS .leaf) 241 MR .leaf)) 242 MQ (.node (.node (.node .leaf 243 MP .leaf) 244 MO .leaf) 245 MN (.node .leaf 246 MM .leaf)))) 247 ML (.node (.node (.node (.node (.node .leaf 248 MK .leaf) 249 MJ .leaf) 250 MI (.node (.node .leaf 251 MH .leaf) 252 MG .leaf)) 253 MF (.node (.node (.node .leaf 254 ME .leaf) 255 MD .leaf) 256 MC (.node .leaf 257 MA .leaf))) 258 Mz (.node (.node (.node (.node .leaf 259 My .leaf) 260 Mx .leaf) 261 Mw (.node .leaf 262 Mv .leaf)) 263 Mu (.node (.node (.node .leaf 264 Mt .leaf) 265 Ms .leaf) 266 Mr (.node .leaf 267 Mq .leaf)))))) 268 Mp (.node (.node (.node (.node (.node (.node (.node .leaf 269 Mo .leaf) 270 Mn .leaf) 271 Mm (.node (.node .leaf 272 Ml .leaf) 273 Mk .leaf)) 274 Mj (.node (.node (.node .leaf 275 Mi .leaf) 276 Mh .leaf) 277 Mg (.node .leaf 278 Mf .leaf))) 279 Me (.node (.node (.node (.node .leaf 280 Md .leaf) 282 Mc .leaf) 283 Mb (.node (.node .leaf 284 Ma .leaf) 285 L9 .leaf)) 286 L8 (.node (.node (.node .leaf 287 L7 .leaf) 288 L6 .leaf) 289 L5 (.node .leaf 290 L4 .leaf)))) 291 L3 (.node (.node (.node (.node (.node .leaf 292 L2 .leaf) 293 L1 .leaf) 295 LZ (.node (.node .leaf 296 LY .leaf) 297 LX .leaf)) 298 LW (.node (.node (.node .leaf 299 LV .leaf) 300 LU .leaf) 304 LS (.node .leaf 305 LR .leaf))) 306 LQ (.node (.node (.node (.node .leaf 307 LP .leaf) 308 LO .leaf) 309 LN (.node .leaf 310 LM .leaf)) 311 LL (.node (.node (.node .leaf 312 LK .leaf) 313 LJ .leaf) 314 LI (.node .leaf 315 LH .leaf))))) 316 LG (.node (.node (.node (.node (.node (.node .leaf 317 LF .leaf) 318 LD .leaf) 319 LC (.node (.node .leaf 320 LB .leaf) 321 LA .leaf)) 322 Lz (.node (.node (.node .leaf 323 Ly .leaf) 324 Lx .leaf) 325 Lw (.node .leaf 326 Lu .leaf))) 327 Lt (.node (.node (.node (.node .leaf 328 Ls .leaf) 329 Lr .leaf) 330 Lq (.node .leaf 331 Lp .leaf)) 332 Lo (.node (.node (.node .leaf 333 Ln .leaf) 334 Lm .leaf) 335 Ll (.node .leaf 336 Lk .leaf)))) 337 Lj (.node (.node (.node (.node (.node .leaf 338 Li .leaf) 340 Lh .leaf) 341 Lg (.node (.node .leaf 342 Lf .leaf) 343 Ld .leaf)) 344 Lc (.node (.node (.node .leaf 345 Lb .leaf) 346 La .leaf) 347 K9 (.node .leaf 348 K8 .leaf))) 349 K7 (.node (.node (.node (.node .leaf 350 K6 .leaf) 351 K5 .leaf) 352 K4 (.node .leaf 353 K3 .leaf)) 354 K2 (.node (.node (.node .leaf 355 K1 .leaf) 356 K0 .leaf) 357 KZ (.node .leaf 358 KY .leaf))))))))
theorem yt:Ct.PK (ad Tryz.prog):=⟨HT,⟨P1,⟨QO,⟨Ri,⟨Rt,⟨SS,⟨SW,⟨SY,⟨SZ,trivial,trivial⟩,trivial⟩,⟨SU,⟨SV,trivial,trivial⟩,trivial⟩⟩,⟨SP,⟨SQ,⟨SR,trivial,trivial⟩,trivial⟩,⟨Ru,trivial,trivial⟩⟩⟩,⟨Rn,⟨Rq,⟨Rr,⟨Rs,trivial,trivial⟩,trivial⟩,⟨Ro,⟨Rp,trivial,trivial⟩,trivial⟩⟩,⟨Rk,⟨Rl,⟨Rm,trivial,trivial⟩,trivial⟩,⟨Rj,trivial,trivial⟩⟩⟩⟩,⟨Q4,⟨Q9,⟨Rc,⟨Rf,⟨Rh,trivial,trivial⟩,trivial⟩,⟨Ra,⟨Rb,trivial,trivial⟩,trivial⟩⟩,⟨Q6,⟨Q7,⟨Q8,trivial,trivial⟩,trivial⟩,⟨Q5,trivial,trivial⟩⟩⟩,⟨QW,⟨QY,⟨QZ,⟨Q3,trivial,trivial⟩,trivial⟩,⟨QX,trivial,trivial⟩⟩,⟨QR,⟨QS,⟨QU,trivial,trivial⟩,trivial⟩,⟨QQ,trivial,trivial⟩⟩⟩⟩⟩,⟨Qm,⟨Qx,⟨QH,⟨QK,⟨QM,⟨QN,trivial,trivial⟩,trivial⟩,⟨QI,⟨QJ,trivial,trivial⟩,trivial⟩⟩,⟨Qz,⟨QC,⟨QF,trivial,trivial⟩,trivial⟩,⟨Qy,trivial,trivial⟩⟩⟩,⟨Qr,⟨Qu,⟨Qv,⟨Qw,trivial,trivial⟩,trivial⟩,⟨Qs,⟨Qt,trivial,trivial⟩,trivial⟩⟩,⟨Qo,⟨Qp,⟨Qq,trivial,trivial⟩,trivial⟩,⟨Qn,trivial,trivial⟩⟩⟩⟩,⟨Qb,⟨Qg,⟨Qj,⟨Qk,⟨Ql,trivial,trivial⟩,trivial⟩,⟨Qh,⟨Qi,trivial,trivial⟩,trivial⟩⟩,⟨Qd,⟨Qe,⟨Qf,trivial,trivial⟩,trivial⟩,⟨Qc,trivial,trivial⟩⟩⟩,⟨P6,⟨P8,⟨P9,⟨Qa,trivial,trivial⟩,trivial⟩,⟨P7,trivial,trivial⟩⟩,⟨P3,⟨P4,⟨P5,trivial,trivial⟩,trivial⟩,⟨P2,trivial,trivial⟩⟩⟩⟩⟩⟩,⟨IE,⟨I2,⟨Jd,⟨PU,⟨PY,⟨PZ,⟨P0,trivial,trivial⟩,trivial⟩,⟨PW,⟨PX,trivial,trivial⟩,trivial⟩⟩,⟨Jf,⟨PS,⟨PT,trivial,trivial⟩,trivial⟩,⟨Je,trivial,trivial⟩⟩⟩,⟨I7,⟨Ja,⟨Jb,⟨Jc,trivial,trivial⟩,trivial⟩,⟨I8,⟨I9,trivial,trivial⟩,trivial⟩⟩,⟨I4,⟨I5,⟨I6,trivial,trivial⟩,trivial⟩,⟨I3,trivial,trivial⟩⟩⟩⟩,⟨IP,⟨IW,⟨IZ,⟨I0,⟨I1,trivial,trivial⟩,trivial⟩,⟨IX,⟨IY,trivial,trivial⟩,trivial⟩⟩,⟨IS,⟨IT,⟨IU,trivial,trivial⟩,trivial⟩,⟨IQ,trivial,trivial⟩⟩⟩,⟨IJ,⟨IL,⟨IM,⟨IN,trivial,trivial⟩,trivial⟩,⟨IK,trivial,trivial⟩⟩,⟨IG,⟨IH,⟨II,trivial,trivial⟩,trivial⟩,⟨IF,trivial,trivial⟩⟩⟩⟩⟩,⟨Ii,⟨It,⟨Iy,⟨IB,⟨IC,⟨ID,trivial,trivial⟩,trivial⟩,⟨Iz,⟨IA,trivial,trivial⟩,trivial⟩⟩,⟨Iv,⟨Iw,⟨Ix,trivial,trivial⟩,trivial⟩,⟨Iu,trivial,trivial⟩⟩⟩,⟨Io,⟨Iq,⟨Ir,⟨Is,trivial,trivial⟩,trivial⟩,⟨Ip,trivial,trivial⟩⟩,⟨Ik,⟨Il,⟨Im,trivial,trivial⟩,trivial⟩,⟨Ij,trivial,trivial⟩⟩⟩⟩,⟨H5,⟨Ia,⟨Ie,⟨Ig,⟨Ih,trivial,trivial⟩,trivial⟩,⟨Ib,⟨Ic,trivial,trivial⟩,trivial⟩⟩,⟨H7,⟨H8,⟨H9,trivial,trivial⟩,trivial⟩,⟨H6,trivial,trivial⟩⟩⟩,⟨HY,⟨H0,⟨H3,⟨H4,trivial,trivial⟩,trivial⟩,⟨HZ,trivial,trivial⟩⟩,⟨HV,⟨HW,⟨HX,trivial,trivial⟩,trivial⟩,⟨HU,trivial,trivial⟩⟩⟩⟩⟩⟩⟩,⟨Gp,⟨Hc,⟨Hx,⟨HI,⟨HN,⟨HQ,⟨HR,⟨HS,trivial,trivial⟩,trivial⟩,⟨HO,⟨HP,trivial,trivial⟩,trivial⟩⟩,⟨HK,⟨HL,⟨HM,trivial,trivial⟩,trivial⟩,⟨HJ,trivial,trivial⟩⟩⟩,⟨HC,⟨HF,⟨HG,⟨HH,trivial,trivial⟩,trivial⟩,⟨HD,⟨HE,trivial,trivial⟩,trivial⟩⟩,⟨Hz,⟨HA,⟨HB,trivial,trivial⟩,trivial⟩,⟨Hy,trivial,trivial⟩⟩⟩⟩,⟨Hm,⟨Hr,⟨Hu,⟨Hv,⟨Hw,trivial,trivial⟩,trivial⟩,⟨Hs,⟨Ht,trivial,trivial⟩,trivial⟩⟩,⟨Ho,⟨Hp,⟨Hq,trivial,trivial⟩,trivial⟩,⟨Hn,trivial,trivial⟩⟩⟩,⟨Hh,⟨Hj,⟨Hk,⟨Hl,trivial,trivial⟩,trivial⟩,⟨Hi,trivial,trivial⟩⟩,⟨He,⟨Hf,⟨Hg,trivial,trivial⟩,trivial⟩,⟨Hd,trivial,trivial⟩⟩⟩⟩⟩,⟨GN,⟨G1,⟨G6,⟨G9,⟨Ha,⟨Hb,trivial,trivial⟩,trivial⟩,⟨G7,⟨G8,trivial,trivial⟩,trivial⟩⟩,⟨G3,⟨G4,⟨G5,trivial,trivial⟩,trivial⟩,⟨G2,trivial,trivial⟩⟩⟩,⟨GU,⟨GY,⟨GZ,⟨G0,trivial,trivial⟩,trivial⟩,⟨GV,⟨GW,trivial,trivial⟩,trivial⟩⟩,⟨GQ,⟨GR,⟨GS,trivial,trivial⟩,trivial⟩,⟨GP,trivial,trivial⟩⟩⟩⟩,⟨Gz,⟨GF,⟨GI,⟨GJ,⟨GK,trivial,trivial⟩,trivial⟩,⟨GG,⟨GH,trivial,trivial⟩,trivial⟩⟩,⟨GB,⟨GC,⟨GD,trivial,trivial⟩,trivial⟩,⟨GA,trivial,trivial⟩⟩⟩,⟨Gu,⟨Gw,⟨Gx,⟨Gy,trivial,trivial⟩,trivial⟩,⟨Gv,trivial,trivial⟩⟩,⟨Gr,⟨Gs,⟨Gt,trivial,trivial⟩,trivial⟩,⟨Gq,trivial,trivial⟩⟩⟩⟩⟩⟩,⟨FE,⟨F2,⟨Gd,⟨Gi,⟨Gl,⟨Gm,⟨Gn,trivial,trivial⟩,trivial⟩,⟨Gj,⟨Gk,trivial,trivial⟩,trivial⟩⟩,⟨Gf,⟨Gg,⟨Gh,trivial,trivial⟩,trivial⟩,⟨Ge,trivial,trivial⟩⟩⟩,⟨F7,⟨Ga,⟨Gb,⟨Gc,trivial,trivial⟩,trivial⟩,⟨F8,⟨F9,trivial,trivial⟩,trivial⟩⟩,⟨F4,⟨F5,⟨F6,trivial,trivial⟩,trivial⟩,⟨F3,trivial,trivial⟩⟩⟩⟩,⟨FO,⟨FW,⟨FZ,⟨F0,⟨F1,trivial,trivial⟩,trivial⟩,⟨FX,⟨FY,trivial,trivial⟩,trivial⟩⟩,⟨FQ,⟨FU,⟨FV,trivial,trivial⟩,trivial⟩,⟨FP,trivial,trivial⟩⟩⟩,⟨FJ,⟨FL,⟨FM,⟨FN,trivial,trivial⟩,trivial⟩,⟨FK,trivial,trivial⟩⟩,⟨FG,⟨FH,⟨FI,trivial,trivial⟩,trivial⟩,⟨FF,trivial,trivial⟩⟩⟩⟩⟩,⟨Fh,⟨Ft,⟨Fy,⟨FB,⟨FC,⟨FD,trivial,trivial⟩,trivial⟩,⟨Fz,⟨FA,trivial,trivial⟩,trivial⟩⟩,⟨Fv,⟨Fw,⟨Fx,trivial,trivial⟩,trivial⟩,⟨Fu,trivial,trivial⟩⟩⟩,⟨Fm,⟨Fp,⟨Fq,⟨Fs,trivial,trivial⟩,trivial⟩,⟨Fo,trivial,trivial⟩⟩,⟨Fj,⟨Fk,⟨Fl,trivial,trivial⟩,trivial⟩,⟨Fi,trivial,trivial⟩⟩⟩⟩,⟨E4,⟨E9,⟨Fe,⟨Ff,⟨Fg,trivial,trivial⟩,trivial⟩,⟨Fb,⟨Fc,trivial,trivial⟩,trivial⟩⟩,⟨E6,⟨E7,⟨E8,trivial,trivial⟩,trivial⟩,⟨E5,trivial,trivial⟩⟩⟩,⟨EZ,⟨E1,⟨E2,⟨E3,trivial,trivial⟩,trivial⟩,⟨E0,trivial,trivial⟩⟩,⟨EW,⟨EX,⟨EY,trivial,trivial⟩,trivial⟩,⟨EV,trivial,trivial⟩⟩⟩⟩⟩⟩⟩⟩
def vg:Ty:=Ct.find
theorem ae:bE Tryz.prog vg:=TT.kO yt
theorem J0:Tryz.prog.follows .mixedOrders=true:=rfl
theorem lU {Q:AQ} {nt:Nat} {k:List KI} {s:AS} {C:Prop} {nt':Nat} {st:Stop} (h:bA vg ⟨fun _=>none,0,false⟩ 400 nt k s True=some (C,nt',st)) (hC:C) (hg:fA Tryz.prog nt' Q st):GO Tryz.prog nt k Q s:=zb J0 ae 400 h hC hg
theorem gA {Q:AQ} {nt:Nat} {k:List KI} {s:AS} {C:Prop} {nt':Nat} {st:Stop} (h:bA vg ⟨fun _=>none,0,false⟩ 400 nt k s True=some (C,nt',st)) (hg:fA Tryz.prog nt' Q st)
  (hC:C:=by(repeat' (first|exact trivial|exact rfl|exact ah.refl _|exact ah.bk (by assumption)|apply Wl))<;>first|omega|exact ic (fun _=>rfl) _|(simp only[Wp];omega)|(simp;done)|(simp;omega)):GO Tryz.prog nt k Q s:=zb J0 ae 400 h hC hg
theorem gM (N:Nat) {Q:AQ} {nt:Nat} {k:List KI} {s:AS} {C:Prop} {nt':Nat} {st:Stop} (h:bA vg ⟨fun _=>none,0,false⟩ N nt k s True=some (C,nt',st)) (hg:fA Tryz.prog nt' Q st)
  (hC:C:=by(repeat' (first|exact trivial|exact rfl|exact ah.refl _|exact ah.bk (by assumption)|apply Wl))<;>first|omega|exact ic (fun _=>rfl) _|(simp only[Wp];omega)|(simp;done)|(simp;omega)):GO Tryz.prog nt k Q s:=zb J0 ae N h hC hg
end Go.Proofs.YtflegjieadkonaaGreatDoor
namespace Go.Proofs.YtflegjieadkonaaGreatDoor
open Go Go.Al
abbrev aj:=ByteArray
structure tx where
 kind:Int
 num:Int
 sym:aj
 deriving Inhabited,DecidableEq
structure Term where
 kind:Int
 var:aj
 val:tx
 deriving Inhabited,DecidableEq
inductive Expr where
 |mk (kind:Int) (var:aj) (val:tx) (op:Int) (args:List Expr)
instance:Inhabited Expr:=⟨.mk 0 Wu ⟨0,0,Wu⟩ 0 []⟩
def Expr.kind:Expr→Int| .mk k _ _ _ _=>k
def Expr.var:Expr→aj| .mk _ v _ _ _=>v
def Expr.val:Expr→tx| .mk _ _ v _ _=>v
def Expr.op:Expr→Int| .mk _ _ _ o _=>o
def Expr.args:Expr→List Expr| .mk _ _ _ _ a=>a
structure Atom where
 rel:aj
 aq:List Term
 deriving Inhabited,DecidableEq
structure Pos where
 line:Int
 Ch:Int
 deriving Inhabited,DecidableEq
inductive Lit where
 |mk (kind:Int) (atom:Atom) (op:Int) (left right:Expr) (dG:Int) (bp:aj) (jZ:Expr) (ay:List Lit) (at_:Pos)
instance:Inhabited Lit:=⟨.mk 0 default 0 default default 0 Wu default [] ⟨0,0⟩⟩
def Lit.kind:Lit→Int| .mk k _ _ _ _ _ _ _ _ _=>k
def Lit.atom:Lit→Atom| .mk _ a _ _ _ _ _ _ _ _=>a
def Lit.op:Lit→Int| .mk _ _ o _ _ _ _ _ _ _=>o
def Lit.left:Lit→Expr| .mk _ _ _ l _ _ _ _ _ _=>l
def Lit.right:Lit→Expr| .mk _ _ _ _ r _ _ _ _ _=>r
def Lit.dG:Lit→Int| .mk _ _ _ _ _ f _ _ _ _=>f
def Lit.bp:Lit→aj| .mk _ _ _ _ _ _ v _ _ _=>v
def Lit.jZ:Lit→Expr| .mk _ _ _ _ _ _ _ o _ _=>o
def Lit.ay:Lit→List Lit| .mk _ _ _ _ _ _ _ _ b _=>b
def Lit.at:Lit→Pos| .mk _ _ _ _ _ _ _ _ _ p=>p
structure fg where
 func:Int
 var:aj
 iq:Expr
 body:List Lit
 deriving Inhabited
def Lit.agg (l:Lit):fg:=⟨l.dG,l.bp,l.jZ,l.ay⟩
structure ak where
 head:Atom
 body:List Lit
 at_:Pos
 deriving Inhabited
structure Decl where
 name:aj
 types:List Int
 at_:Pos
 deriving Inhabited
structure Prog where
 ar:List Decl
 rules:List ak
 deriving Inhabited
structure Fact where
 rel:aj
 args:List tx
 deriving Inhabited
def tx.c (v:tx):List IV:=[iI v.kind,iI v.num,iS v.sym]
def Term.c (t:Term):List IV:=[iI t.kind,iS t.var,iI t.val.kind,iI t.val.num,iS t.val.sym]
def cx (s:aj):List IV:=[iS s]
def fH (n:Int):List IV:=[iI n]
abbrev strs (l:List aj):IV:=cM 1 l cx
def Atom.c (a:Atom):List IV:=[iS a.rel,cM 5 a.aq Term.c]
mutual
def Expr.cr:Expr→List IV
 | .mk k v val op args=> [iI k,iS v,iI val.kind,iI val.num,iS val.sym,iI op, .cz 7 args.length (fun j=>(Expr.wa args).getD j [])]
def Expr.wa:List Expr→List (List IV)
 | []=> []
 |e::r=>e.cr::Expr.wa r
end
def Expr.c (e:Expr):List IV:=[iI e.kind,iS e.var,iI e.val.kind,iI e.val.num,iS e.val.sym,iI e.op, .cz 7 e.args.length (fun j=>(Expr.wa e.args).getD j [])]
def Expr.c1 (e:Expr):List IV:=[iI e.kind,iS e.var,iI e.val.kind,iI e.val.num,iS e.val.sym,iI e.op,cM 7 e.args Expr.c]
theorem Expr.Er (e:Expr):e.cr=e.c:=by cases e;rfl
theorem Expr.oi: ∀(l:List Expr) (k:Nat),k<l.length→(Expr.wa l).getD k []=(l.getD k default).c
 |e::r,0,_=>by simp[Expr.wa,Expr.Er]
 |e::r,k+1,h=>by simpa[Expr.wa] using Expr.oi r k (by simpa using h)
 | [],k,h=>by simp at h
theorem Sh (e:Expr):ke (.cz 7 e.args.length (fun j=>(Expr.wa e.args).getD j [])) (cM 7 e.args Expr.c):= .cz rfl (Expr.oi e.args)
theorem Az (e:Expr):ke (cM 7 e.args Expr.c) (.cz 7 e.args.length (fun j=>(Expr.wa e.args).getD j [])):= .cz rfl (fun k hk=>(Expr.oi e.args k hk).symm)
mutual
def Lit.cr:Lit→List IV
 | .mk kind atom op left right dG bp jZ ay at_=>
  iI kind::(atom.c++(iI op::(left.c++(right.c++(iI dG::iS bp::(jZ.c++ [.cz 30 ay.length (fun j=>(Lit.wa ay).getD j []),iI at_.line,iI at_.Ch]))))))
def Lit.wa:List Lit→List (List IV)
 | []=> []
 |e::r=>e.cr::Lit.wa r
end
def Lit.cw (l:Lit) (b:IV):List IV:=
 [iI l.kind,iS l.atom.rel,cM 5 l.atom.aq Term.c,iI l.op,
  iI l.left.kind,iS l.left.var,iI l.left.val.kind,iI l.left.val.num,iS l.left.val.sym,iI l.left.op, .cz 7 l.left.args.length (fun j=>(Expr.wa l.left.args).getD j []),
  iI l.right.kind,iS l.right.var,iI l.right.val.kind,iI l.right.val.num,iS l.right.val.sym,iI l.right.op, .cz 7 l.right.args.length (fun j=>(Expr.wa l.right.args).getD j []),
  iI l.dG,iS l.bp,
  iI l.jZ.kind,iS l.jZ.var,iI l.jZ.val.kind,iI l.jZ.val.num,iS l.jZ.val.sym,iI l.jZ.op, .cz 7 l.jZ.args.length (fun j=>(Expr.wa l.jZ.args).getD j []),
  b,iI l.at.line,iI l.at.Ch]
def ti (l:List Lit):IV:= .cz 30 l.length (fun j=>(Lit.wa l).getD j [])
def Lit.c (l:Lit):List IV:=l.cw (ti l.ay)
abbrev lits (l:List Lit):IV:=cM 30 l Lit.c
def Lit.c1 (l:Lit):List IV:=l.cw (lits l.ay)
theorem Lit.Er (e:Lit):e.cr=e.c:=by cases e;rfl
theorem Lit.oi: ∀(l:List Lit) (k:Nat),k<l.length→(Lit.wa l).getD k []=(l.getD k default).c
 |e::r,0,_=>by simp[Lit.wa,Lit.Er]
 |e::r,k+1,h=>by simpa[Lit.wa] using Lit.oi r k (by simpa using h)
 | [],k,h=>by simp at h
theorem mn (l:List Lit):ke (ti l) (lits l):= .cz rfl (Lit.oi l)
theorem yY (l:List Lit):ke (lits l) (ti l):= .cz rfl (fun k hk=>(Lit.oi l k hk).symm)
def fg.cw (a:fg) (b:IV):List IV:=[iI a.func,iS a.var,iI a.iq.kind,iS a.iq.var,iI a.iq.val.kind,iI a.iq.val.num,iS a.iq.val.sym,iI a.iq.op, .cz 7 a.iq.args.length (fun j=>(Expr.wa a.iq.args).getD j []),b]
def fg.c (a:fg):List IV:=a.cw (ti a.body)
def fg.c1 (a:fg):List IV:=a.cw (lits a.body)
def ak.c (r:ak):List IV:=[iS r.head.rel,cM 5 r.head.aq Term.c,lits r.body,iI r.at_.line,iI r.at_.Ch]
def Decl.c (r:Decl):List IV:=[iS r.name,cM 1 r.types fH,iI r.at_.line,iI r.at_.Ch]
def Prog.c (p:Prog):List IV:=[cM 4 p.ar Decl.c,cM 5 p.rules ak.c]
def Fact.c (f:Fact):List IV:=[iS f.rel,cM 3 f.args tx.c]
theorem Expr.Ac (e:Expr):ah (ag e.c) (ag e.c1):= .agg ⟨.refl _, .refl _, .refl _, .refl _, .refl _, .refl _, .iv (Sh e),trivial⟩
theorem Expr.R6 (e:Expr):ah (ag e.c1) (ag e.c):= .agg ⟨.refl _, .refl _, .refl _, .refl _, .refl _, .refl _, .iv (Az e),trivial⟩
theorem Lit.AE (l:Lit) {b b':IV} (h:ke b b'):ah (ag (l.cw b)) (ag (l.cw b')):=
 .agg ⟨.refl _, .refl _, .refl _, .refl _, .refl _, .refl _, .refl _, .refl _, .refl _, .refl _, .refl _, .refl _, .refl _, .refl _, .refl _, .refl _, .refl _, .refl _, .refl _, .refl _, .refl _, .refl _, .refl _, .refl _, .refl _, .refl _, .refl _, .iv h, .refl _, .refl _,trivial⟩
theorem Lit.Ac (l:Lit):ah (ag l.c) (ag l.c1):=l.AE (mn _)
theorem fg.AE (l:fg) {b b':IV} (h:ke b b'):ah (ag (l.cw b)) (ag (l.cw b')):=
 .agg ⟨.refl _, .refl _, .refl _, .refl _, .refl _, .refl _, .refl _, .refl _, .refl _, .iv h,trivial⟩
theorem fg.Ac (l:fg):ah (ag l.c) (ag l.c1):=l.AE (mn _)
theorem fg.R6 (l:fg):ah (ag l.c1) (ag l.c):=l.AE (yY _)
mutual
def Expr.size:Expr→Nat
 | .mk _ _ _ _ args=>1+Expr.aC args
def Expr.aC:List Expr→Nat
 | []=>0
 |e::r=>e.size+Expr.aC r
end
mutual
def Lit.size:Lit→Nat
 | .mk _ a _ l r _ _ o b _=>2+a.aq.length+l.size+r.size+o.size+Lit.aC b
def Lit.aC:List Lit→Nat
 | []=>0
 |e::r=>e.size+Lit.aC r
end
theorem Expr.size_eq (e:Expr):e.size=1+Expr.aC e.args:=by cases e;rfl
theorem Lit.size_eq (l:Lit):l.size=2+l.atom.aq.length+l.left.size+l.right.size+l.jZ.size+Lit.aC l.ay:=by cases l;rfl
theorem Expr.bN: ∀(l:List Expr) (k:Nat),k<l.length→(l.getD k default).size≤Expr.aC l
 |e::r,0,_=>by simp[Expr.aC]
 |e::r,k+1,h=>by
  have:=Expr.bN r k (by simpa using h)
  simp only[XO,Expr.aC];omega
 | [],k,h=>by simp at h
theorem Lit.bN: ∀(l:List Lit) (k:Nat),k<l.length→(l.getD k default).size≤Lit.aC l
 |e::r,0,_=>by simp[Lit.aC]
 |e::r,k+1,h=>by
  have:=Lit.bN r k (by simpa using h)
  simp only[XO,Lit.aC];omega
 | [],k,h=>by simp at h
theorem Expr.size_pos (e:Expr):1≤e.size:=by rw[e.size_eq];omega
theorem Lit.size_pos (e:Lit):2≤e.size:=by rw[e.size_eq];omega
theorem Expr.aL: ∀(l:List Expr),l.length≤Expr.aC l
 | []=>Wz _
 |e::r=>by have:=e.size_pos;have:=Expr.aL r;simp only[W2,Expr.aC];omega
theorem Lit.aL: ∀(l:List Lit),l.length≤Lit.aC l
 | []=>Wz _
 |e::r=>by have:=e.size_pos;have:=Lit.aL r;simp only[W2,Lit.aC];omega
def ak.size (r:ak):Nat:=r.head.aq.length+Lit.aC r.body
end Go.Proofs.YtflegjieadkonaaGreatDoor
namespace Go.Proofs.YtflegjieadkonaaGreatDoor
open Go Go.Al
set_option maxRecDepth 10000
def c2 (l:List aj) (s:aj):Bool:=l.any fun x=>decide (x=s)
def du (s:aj) (a:List aj×Bool) (x:aj):List aj×Bool:=
 if(a.2||decide (x=s))=false∧(!(Op.bytesLess x.toList s.toList||decide (x=s)))=true then(a.1++ [s]++ [x],true) else(a.1++ [x],a.2||decide (x=s))
def fb (l:List aj) (s:aj):List aj:=
 let r:=l.foldl (du s) ([],false)
 if r.2 then r.1 else r.1++ [s]
end Go.Proofs.YtflegjieadkonaaGreatDoor
namespace Go.Proofs.YtflegjieadkonaaGreatDoor
open Go Go.Al
set_option maxRecDepth 10000
def fT (l m:List aj):List aj:=m.foldl fb l
def yu (a:List aj) (t:Term):List aj:=if t.kind=1 then fb a t.var else a
def kR (a:Atom):List aj:=a.aq.foldl yu []
mutual
def hQ:Expr→List aj
 | .mk k v _ _ args=>if k=1 then fb [] v else if k=4 then uY [] args else[]
def uY (a:List aj):List Expr→List aj
 | []=>a
 |e::r=>uY (fT a (hQ e)) r
end
theorem Expr.k9: ∀(l:List Expr) (i:Nat),Expr.aC (l.take i)≤Expr.aC l
 | [],i=>by simp
 |e::r,0=>by simp[Expr.aC]
 |e::r,i+1=>by have:=Expr.k9 r i;simp only[XE,Expr.aC];omega
theorem Lit.k9: ∀(l:List Lit) (i:Nat),Lit.aC (l.take i)≤Lit.aC l
 | [],i=>by simp
 |e::r,0=>by simp[Lit.aC]
 |e::r,i+1=>by have:=Lit.k9 r i;simp only[XE,Lit.aC];omega
theorem Expr.dd: ∀(l:List Expr) (i:Nat),i<l.length→Expr.aC (l.take i)+(l.getD i default).size≤Expr.aC l
 |e::r,0,_=>by simp[Expr.aC]
 |e::r,i+1,h=>by have:=Expr.dd r i (by simpa using h);simp only[XE,XO,Expr.aC];omega
 | [],i,h=>by simp at h
theorem Lit.dd: ∀(l:List Lit) (i:Nat),i<l.length→Lit.aC (l.take i)+(l.getD i default).size≤Lit.aC l
 |e::r,0,_=>by simp[Lit.aC]
 |e::r,i+1,h=>by have:=Lit.dd r i (by simpa using h);simp only[XE,XO,Lit.aC];omega
 | [],i,h=>by simp at h
def pQ (l:Lit):List aj:=if l.kind=1∨l.kind=2 then kR l.atom else if l.kind=3 then fT (hQ l.left) (hQ l.right) else[]
abbrev plF (a:List aj) (l:Lit):List aj:=fT a (pQ l)
def BK (a:fg):List aj:=a.body.foldl plF (if a.func=1 then[] else hQ a.iq)
def fg.size (a:fg):Nat:=a.iq.size+Lit.aC a.body
end Go.Proofs.YtflegjieadkonaaGreatDoor
namespace Go.Proofs.YtflegjieadkonaaGreatDoor
open Go Go.Al
set_option maxRecDepth 10000
def s4 (n:Int):IV:= .v (.int .i64 n)
def Vr (p:PV):Int:=match p with
 | .iv (.v (.int _ n))=>n
 |_=>0
abbrev NM:=List ((KC.str).K×Int)
abbrev cj (m:NM):AO:= .map .str s4 0 (.int .i64 0) Vr m
abbrev ov (m:NM):IV:= .dK .str s4 0 (.int .i64 0) m
theorem eR: ∀M,IR M (s4 0) (.int .i64 0):=fun _=> .v _
def bump (m:NM) (s:aj):NM:=bS .str m s (bG .str m s 0+1)
def aJ (l:List aj):NM:=l.foldl bump []
theorem cT (l:List aj) (s:aj):aJ (l++ [s])=bump (aJ l) s:=by simp[aJ]
section
variable {V:Type}
theorem fZ {m:List ((KC.str).K×V)} {s t:aj} {v z:V}:bG .str (bS .str m s v) t z=if s=t then v else bG .str m t z:=by
 induction m with
 |nil=>simp only[bS,bG]
 |cons x r ih=>
  obtain⟨a,b⟩:=x;simp only[bS];by_cases h:a=s
  ·rw[if_pos h];simp only[bG]
   by_cases h2:s=t
   ·simp[h2]
   ·have: ¬a=t:=fun e=>h2 (h▸e)
    rw[if_neg h2,if_neg h2,if_neg this]
  ·rw[if_neg h];simp only[bG,ih]
   by_cases h2:a=t
   ·have: ¬s=t:=fun e=>h (h2.trans e.symm)
    simp[h2,this]
   ·simp[h2]
theorem xK {m:List ((KC.str).K×V)} {t:aj}:eO .str m t=true↔t∈m.map WT:=by
 induction m with
 |nil=>simp[eO]
 |cons x r ih=>
  obtain⟨a,b⟩:=x;simp only[eO,WI,WG];by_cases h:a=t
  ·simp[h]
  ·have: ¬t=a:=fun e=>h e.symm
   simp[h,this,ih]
theorem oU {m:List ((KC.str).K×V)} {s:aj} {v:V} (h:s∈m.map WT):(bS .str m s v).map WT=m.map WT:=by
 induction m with
 |nil=>simp at h
 |cons x r ih=>
  obtain⟨a,b⟩:=x;simp only[bS];by_cases h2:a=s
  ·rw[if_pos h2];simp[h2]
  ·have: ¬s=a:=fun e=>h2 e.symm
   rw[if_neg h2,WI,ih (by simpa[this] using h)];rfl
theorem dh {m:List ((KC.str).K×V)} {s:aj} {v:V} (h:s∉m.map WT):(bS .str m s v).map WT=m.map WT++ [s]:=by
 induction m with
 |nil=>simp[bS]
 |cons x r ih=>
  obtain⟨a,b⟩:=x;simp only[WI,WG,not_or] at h;have: ¬a=s:=fun e=>h.1 e.symm;simp only[bS,if_neg this,WI,ih h.2];rfl
theorem yX {m:List ((KC.str).K×V)} {t:aj} {z:V} (h:t∉m.map WT):bG .str m t z=z:=by
 induction m with
 |nil=>rfl
 |cons x r ih=>
  obtain⟨a,b⟩:=x;simp only[WI,WG,not_or] at h;have: ¬a=t:=fun e=>h.1 e.symm;simp only[bG,if_neg this];exact ih h.2
end
theorem iW {α:Type} {p:List α→Prop} (h0:p []) (h1: ∀l a,p l→p (l++ [a])) (l:List α):p l:=by
 have key: ∀r:List α,p r.reverse:=by
  intro r
  induction r with
  |nil=>exact h0
  |cons a r ih=>rw[List.reverse_cons];exact h1 _ _ ih
 simpa using key l.reverse
def oj (l:List aj) (t:aj):Nat:=(l.filter fun x=>decide (x=t)).length
theorem yc (l m:List aj) (t:aj):oj (l++m) t=oj l t+oj m t:=by simp[oj]
theorem fD (l:List aj) (t:aj):oj l t≤l.length:=XB _ _
theorem s8 {l:List aj} {t:aj}:0<oj l t↔t∈l:=by
 rw[oj,List.length_pos_iff_exists_mem];constructor
 ·rintro⟨x,hx⟩
  obtain⟨h1,h2⟩:=WW.1 hx;exact(of_decide_eq_true h2)▸h1
 ·exact fun h=>⟨t,WW.2 ⟨h,by simp⟩⟩
theorem qq {l:List aj} {t:aj}:oj l t=0↔t∉l:=by
 rw[←s8];omega
theorem bs (l:List aj) (t:aj):bG .str (aJ l) t 0=(oj l t:Int):=by
 induction l using iW with
 |h0=>rfl
 |h1 l s ih=>
  rw[cT,bump,fZ,yc];by_cases h:s=t
  ·subst h;rw[ih];simp[oj]
  ·rw[if_neg h,ih];simp[h,oj]
theorem dz (l:List aj):((aJ l).map WT).Nodup∧ ∀t:aj,t∈(aJ l).map WT↔t∈l:=by
 induction l using iW with
 |h0=>simp[aJ]
 |h1 l s ih=>
  rw[cT,bump];obtain⟨h1,h2⟩:=ih;by_cases h:s∈(aJ l).map WT
  ·rw[oU h]
   refine⟨h1,fun t=>?_⟩;rw[h2,WD,Wy];exact⟨.inl,fun h3=>h3.elim id fun e=>e▸(h2 s).1 h⟩
  ·rw[dh h]
   refine⟨?_,fun t=>by rw[WD,h2,WD]⟩;rw[XR];refine⟨h1,Xu.2 ⟨Y1,Xk⟩,fun a ha b hb e=>?_⟩;rw[Wy] at hb;exact h ((e.trans hb)▸ha)
def cE (a:Atom):List aj:=a.aq.flatMap fun t=>if t.kind=1 then[t.var] else[]
theorem bI {α β:Type} [Inhabited α] {l:List α} {f:α→List β} {i:Nat} (h:i<l.length):(l.take (i+1)).flatMap f=(l.take i).flatMap f++f (l.getD i default):=by
 rw[aW h,Ys];simp
theorem rX: ∀l:List Term,(l.flatMap fun t=>if t.kind=1 then[t.var] else[]).length≤l.length
 | []=>by simp
 |t::r=>by
  have:=rX r;have h2:(if t.kind=1 then[t.var] else[]).length≤1:=by split<;>simp
  rw[XA,Wn,W2];omega
theorem ib (a:Atom):(cE a).length≤a.aq.length:=rX a.aq
theorem d88 (occ:List aj) (a:Atom) (hb:occ.length+a.aq.length≤1000000000000):cf Tryz.prog 135 [.mp 0,ag a.c] [cj (aJ occ)] (.bP []) [(0,some (cj (aJ (occ++cE a))))] 1:=by
 refine aH ae Tryz.func135 rfl (by decide) Tryz.ntmps135 rfl (by simp) ?_;refine gA rfl ?_
 refine aK 0 a.aq.length (WC _) (fun i=>⟨[(0, .mp 0),(3, .ptr 1 0),(7, .iv (cM 5 a.aq Term.c)),(8,pI a.aq.length),(9,pI i)],[(0,some (cj (aJ (occ++(a.aq.take i).flatMap fun t=>if t.kind=1 then[t.var] else[]))))],2⟩) (fun _=>True) [] trivial
  (wk rfl rfl rfl ⟨.refl _,rfl, .refl _,rfl, .refl _,rfl, .refl _,rfl, .refl _,rfl,trivial⟩ (hM rfl (by simp) rfl trivial) rfl) fun i hi _=>?_
 have hl:=rX (a.aq.take i);simp only[Xb] at hl;refine gA rfl ?_;refine Wl (fun h1=>?_) (fun h1=>?_)
 ·have h1:i<a.aq.length:=by simpa using h1
  have hs:=bI (f:=fun t:Term=>if t.kind=1 then[t.var] else[]) h1;have hlk:=bs (occ++(a.aq.take i).flatMap fun t=>if t.kind=1 then[t.var] else[]) (a.aq.getD i default).var;have hct:=fD (occ++(a.aq.take i).flatMap fun t=>if t.kind=1 then[t.var] else[]) (a.aq.getD i default).var;rw[Wn] at hct;refine gA rfl ?_;refine Wl (fun h2=>?_) (fun h2=>?_)
  ·have h2:(a.aq.getD i default).kind=1:=by simpa using h2
   rw[if_pos h2] at hs;refine gA rfl ?_;exact⟨h1,trivial,[],wk rfl rfl rfl ⟨.refl _,rfl, .refl _,rfl, .refl _,rfl, .refl _,rfl, .refl _,rfl,trivial⟩ (hM rfl (by rw[hs,←Wv,cT];rfl) rfl trivial) rfl⟩
  ·have h2: ¬(a.aq.getD i default).kind=1:=by simpa using h2
   rw[if_neg h2,Xo] at hs;refine gA rfl ?_;exact⟨h1,trivial,[],wk rfl rfl rfl ⟨.refl _,rfl, .refl _,rfl, .refl _,rfl, .refl _,rfl, .refl _,rfl,trivial⟩ (hM rfl (by rw[hs]) rfl trivial) rfl⟩
 ·have h1:a.aq.length≤i:=by simpa using h1
  have e0:a.aq.take i=a.aq:=WB h1;refine gA rfl (az [] (by first|exact .inr rfl|exact .inl rfl) rfl (wk rfl rfl rfl ⟨.refl _,rfl,trivial⟩ (hM rfl (by rw[e0];rfl) rfl trivial) rfl))
end Go.Proofs.YtflegjieadkonaaGreatDoor
namespace Go.Proofs.YtflegjieadkonaaGreatDoor
open Go Go.Al
set_option maxRecDepth 10000
mutual
def b6:Expr→List aj
 | .mk k v _ _ args=>if k=1 then[v] else if k=4 then jt args else[]
def jt:List Expr→List aj
 | []=> []
 |e::r=>b6 e++jt r
end
theorem mD: ∀l:List Expr,jt l=l.flatMap b6
 | []=>rfl
 |e::r=>by simp only[jt,XA,mD r]
theorem zk (e:Expr):b6 e=if e.kind=1 then[e.var] else if e.kind=4 then e.args.flatMap b6 else[]:=by
 cases e with
 |mk k v val op args=>simp only[b6,Expr.kind,Expr.var,Expr.args,mD];rfl
mutual
theorem fP: ∀e:Expr,(b6 e).length≤e.size
 | .mk k v _ _ args=>by
  have:=lE args;simp only[b6,Expr.size];split
  ·simp
  ·split
   ·omega
   ·simp
theorem lE: ∀l:List Expr,(jt l).length≤Expr.aC l
 | []=>by simp[jt]
 |e::r=>by
  have h1:=fP e;have h2:=lE r;simp only[jt,Expr.aC,Wn];omega
end
theorem d135: ∀(n:Nat) (e:Expr) (occ:List aj),e.size≤n→occ.length+e.size≤1000000000000→cf Tryz.prog 178 [.mp 0,ag e.c] [cj (aJ occ)] (.bP []) [(0,some (cj (aJ (occ++b6 e))))] 1
 |0,e,_,h,_=>by have:=e.size_pos;omega
 |n+1,e,occ,h,hb=>by
  refine cf.le (args:=[.mp 0,ag e.c1]) ?_ ⟨.refl _,e.Ac,trivial⟩;have he:=zk e;have hsz:=e.size_eq;have hlk:=bs occ e.var;have hct:=fD occ e.var;refine aH ae Tryz.func178 rfl (by decide) Tryz.ntmps178 rfl (by simp) ?_;refine gA rfl ?_;refine Wl (fun h1=>?_) (fun h1=>?_)
  ·have h1:e.kind=1:=by simpa using h1
   rw[if_pos h1] at he;refine gA rfl (az [] (by first|exact .inr rfl|exact .inl rfl) rfl (wk rfl rfl rfl ⟨.refl _,rfl,trivial⟩ (hM rfl (by rw[he,cT];rfl) rfl trivial) rfl))
  have h1: ¬e.kind=1:=by simpa using h1
  rw[if_neg h1] at he;refine gA rfl ?_;refine Wl (fun h2=>?_) (fun h2=>?_)
  ·have h2:e.kind=4:=by simpa using h2
   rw[if_pos h2] at he;refine gA rfl ?_
   refine aK 0 e.args.length (WC _) (fun i=>⟨[(0, .mp 0),(3, .ptr 1 0),(18, .iv (cM 7 e.args Expr.c)),(19,pI e.args.length),(20,pI i)],[(0,some (cj (aJ (occ++(e.args.take i).flatMap b6))))],2⟩) (fun _=>True) [] trivial
    (wk rfl rfl rfl ⟨.refl _,rfl, .refl _,rfl, .refl _,rfl, .refl _,rfl, .refl _,rfl,trivial⟩ (hM rfl (by simp) rfl trivial) rfl) fun i hi _=>?_
   have hal:=Expr.aL e.args;refine gA rfl ?_;refine Wl (fun h3=>?_) (fun h3=>?_)
   ·have h3:i<e.args.length:=by simpa using h3
    have hs:=bI (f:=b6) h3;have hn:=Expr.dd e.args i h3;have hv:=lE (e.args.take i);rw[mD] at hv;refine gA rfl (aN [0] (d135 n (e.args.getD i default) _ (by omega) (by rw[Wn];omega)) rfl rfl rfl rfl rfl rfl rfl rfl ?_);refine gA rfl ?_;exact⟨h3,trivial,[],wk rfl rfl rfl ⟨.refl _,rfl, .refl _,rfl, .refl _,rfl, .refl _,rfl, .refl _,rfl,trivial⟩ (hM rfl (by rw[hs,Wv]) rfl trivial) rfl⟩
   ·have h3:e.args.length≤i:=by simpa using h3
    have e0:e.args.take i=e.args:=WB h3;refine gA rfl (az [] (by first|exact .inr rfl|exact .inl rfl) rfl (wk rfl rfl rfl ⟨.refl _,rfl,trivial⟩ (hM rfl (by rw[he,e0]) rfl trivial) rfl))
  ·have h2: ¬e.kind=4:=by simpa using h2
   rw[if_neg h2] at he;refine gA rfl (az [] (by first|exact .inr rfl|exact .inl rfl) rfl (wk rfl rfl rfl ⟨.refl _,rfl,trivial⟩ (hM rfl (by rw[he,Xo]) rfl trivial) rfl))
theorem Eo (e:Expr) (occ:List aj) (hb:occ.length+e.size≤1000000000000):cf Tryz.prog 178 [.mp 0,ag e.c] [cj (aJ occ)] (.bP []) [(0,some (cj (aJ (occ++b6 e))))] 1:=d135 e.size e occ (Wz _) hb
def cF (l:Lit):List aj:=if l.kind=1∨l.kind=2 then cE l.atom else if l.kind=3 then b6 l.left++b6 l.right else[]
theorem lz (l:Lit):(cF l).length+2≤l.size:=by
 have h1:=ib l.atom;have h2:=fP l.left;have h3:=fP l.right;rw[l.size_eq];unfold cF;split
 ·omega
 ·split
  ·rw[Wn];omega
  ·simp;omega
theorem d89 (l:Lit) (occ:List aj) (hb:occ.length+l.size≤1000000000000):cf Tryz.prog 136 [.mp 0,ag l.c] [cj (aJ occ)] (.bP []) [(0,some (cj (aJ (occ++cF l))))] 1:=by
 have hsz:=l.size_eq;have h2:=fP l.left;refine aH ae Tryz.func136 rfl (by decide) Tryz.ntmps136 rfl (by simp) ?_;refine gA rfl ?_;refine Wl (fun k1=>?_) (fun k1=>?_)
 ·have k1:l.kind=1:=of_decide_eq_true k1
  have he:cF l=cE l.atom:=if_pos (.inl k1);refine gA rfl (aN [0] (d88 occ l.atom (by omega)) rfl rfl rfl rfl rfl rfl rfl rfl ?_);refine gA rfl (az [] (by first|exact .inr rfl|exact .inl rfl) rfl (wk rfl rfl rfl ⟨.refl _,rfl,trivial⟩ (hM rfl (by rw[he]) rfl trivial) rfl))
 have k1: ¬l.kind=1:=of_decide_eq_false k1;refine gA rfl ?_;refine Wl (fun k2=>?_) (fun k2=>?_)
 ·have k2:l.kind=2:=of_decide_eq_true k2
  have he:cF l=cE l.atom:=if_pos (.inr k2);refine gA rfl (aN [0] (d88 occ l.atom (by omega)) rfl rfl rfl rfl rfl rfl rfl rfl ?_);refine gA rfl (az [] (by first|exact .inr rfl|exact .inl rfl) rfl (wk rfl rfl rfl ⟨.refl _,rfl,trivial⟩ (hM rfl (by rw[he]) rfl trivial) rfl))
 have k2: ¬l.kind=2:=of_decide_eq_false k2;have he0:cF l=if l.kind=3 then b6 l.left++b6 l.right else[]:=if_neg (by simp[k1,k2]);refine gA rfl ?_;refine Wl (fun k3=>?_) (fun k3=>?_)
 ·have k3:l.kind=3:=of_decide_eq_true k3
  rw[if_pos k3] at he0;refine gA rfl (aN [0] (Eo l.left occ (by omega)) rfl rfl rfl rfl rfl rfl rfl rfl ?_);refine gA rfl (aN [0] (Eo l.right _ (by rw[Wn];omega)) rfl rfl rfl rfl rfl rfl rfl rfl ?_);refine gA rfl (az [] (by first|exact .inr rfl|exact .inl rfl) rfl (wk rfl rfl rfl ⟨.refl _,rfl,trivial⟩ (hM rfl (by rw[he0,Wv]) rfl trivial) rfl))
 ·have k3: ¬l.kind=3:=of_decide_eq_false k3
  rw[if_neg k3] at he0;refine gA rfl (az [] (by first|exact .inr rfl|exact .inl rfl) rfl (wk rfl rfl rfl ⟨.refl _,rfl,trivial⟩ (hM rfl (by rw[he0,Xo]) rfl trivial) rfl))
def a8 (a:fg):List aj:=(if a.func=1 then[] else b6 a.iq)++a.body.flatMap cF
theorem jU: ∀l:List Lit,(l.flatMap cF).length≤Lit.aC l
 | []=>by simp
 |e::r=>by
  have h1:=lz e;have h2:=jU r;rw[XA,Wn];simp only[Lit.aC];omega
theorem PC (e:Expr) (hb:e.size≤1000000000000):cf Tryz.prog 178 [.mp 0,ag e.c] [.eE] (.bP []) [(0,some (cj (aJ (b6 e))))] 1:=
 (Eo e [] (by simpa using hb)).Pv ⟨⟨id,fun M N U w j hj=>⟨#[],0,hj,⟨rfl,by simp[aJ],by simp[aJ],by simp,by simp⟩,eR M⟩⟩,trivial⟩
theorem VI (a:Atom) (hb:a.aq.length≤1000000000000):cf Tryz.prog 135 [.mp 0,ag a.c] [.eE] (.bP []) [(0,some (cj (aJ (cE a))))] 1:=
 (d88 [] a (by simpa using hb)).Pv ⟨⟨id,fun M N U w j hj=>⟨#[],0,hj,⟨rfl,by simp[aJ],by simp[aJ],by simp,by simp⟩,eR M⟩⟩,trivial⟩
theorem d127 (a:fg) (hb:a.size≤1000000000000):cf Tryz.prog 196 [ag a.c] [] (.mp 0) [(0,some (cj (aJ (a8 a))))] 1:=by
 refine cf.le (args:=[ag a.c1]) ?_ ⟨a.Ac,trivial⟩;unfold fg.size at hb;have hev:=fP a.iq;have hal:=Lit.aL a.body;refine aH ae Tryz.func196 rfl (by decide) Tryz.ntmps196 rfl (by simp) ?_;refine gA rfl ?_;refine Wl (fun h1=>?_) (fun h1=>?_)
 ·have h1: ¬a.func=1:=by simpa using h1
  have hin:a8 a=b6 a.iq++a.body.flatMap cF:=by unfold a8;rw[if_neg h1]
  refine gA rfl (aN [1] (PC a.iq (by omega)) rfl rfl rfl rfl rfl rfl rfl rfl ?_);refine gA rfl ?_
  refine aK 0 a.body.length (WC _) (fun i=>⟨[(3, .mp 1),(15, .iv (lits a.body)),(16,pI a.body.length),(17,pI i)],[(1,some (cj (aJ (b6 a.iq++(a.body.take i).flatMap cF))))],2⟩) (fun _=>True) [] trivial
   (wk rfl rfl rfl ⟨.refl _,rfl, .refl _,rfl, .refl _,rfl, .refl _,rfl,trivial⟩ (hM rfl (by simp) rfl trivial) rfl) fun i hi _=>?_
  refine gA rfl ?_;refine Wl (fun h3=>?_) (fun h3=>?_)
  ·have h3:i<a.body.length:=by simpa using h3
   have hs:=bI (f:=cF) h3;have hn:=Lit.dd a.body i h3;have hv:=jU (a.body.take i);refine gA rfl (aN [1] (d89 (a.body.getD i default) _ (by rw[Wn];omega)) rfl rfl rfl rfl rfl rfl rfl rfl ?_);refine gA rfl ?_;exact⟨h3,trivial,[],wk rfl rfl rfl ⟨.refl _,rfl, .refl _,rfl, .refl _,rfl, .refl _,rfl,trivial⟩ (hM rfl (by rw[hs,Wv]) rfl trivial) rfl⟩
  ·have h3:a.body.length≤i:=by simpa using h3
   have e0:a.body.take i=a.body:=WB h3;refine gA rfl (az [1] (by first|exact .inr rfl|exact .inl rfl) rfl (wk rfl rfl rfl ⟨.refl _,rfl,trivial⟩ (hM rfl (by rw[e0,hin]) rfl trivial) rfl))
 ·have h1:a.func=1:=by simpa using h1
  have hin:a8 a=a.body.flatMap cF:=by unfold a8;rw[if_pos h1];rfl
  refine gA rfl ?_
  refine aK 0 a.body.length (WC _) (fun i=>⟨[(3, .mp 1),(15, .iv (lits a.body)),(16,pI a.body.length),(17,pI i)],[(1,some (cj (aJ ((a.body.take i).flatMap cF))))],2⟩) (fun _=>True) [] trivial
   (wk rfl rfl rfl ⟨.refl _,rfl, .refl _,rfl, .refl _,rfl, .refl _,rfl,trivial⟩ (DO rfl eR rfl trivial) rfl) fun i hi _=>?_
  refine gA rfl ?_;refine Wl (fun h3=>?_) (fun h3=>?_)
  ·have h3:i<a.body.length:=by simpa using h3
   have hs:=bI (f:=cF) h3;have hn:=Lit.dd a.body i h3;have hv:=jU (a.body.take i);refine gA rfl (aN [1] (d89 (a.body.getD i default) _ (by omega)) rfl rfl rfl rfl rfl rfl rfl rfl ?_);refine gA rfl ?_;exact⟨h3,trivial,[],wk rfl rfl rfl ⟨.refl _,rfl, .refl _,rfl, .refl _,rfl, .refl _,rfl,trivial⟩ (hM rfl (by rw[hs]) rfl trivial) rfl⟩
  ·have h3:a.body.length≤i:=by simpa using h3
   have e0:a.body.take i=a.body:=WB h3;refine gA rfl (az [1] (by first|exact .inr rfl|exact .inl rfl) rfl (wk rfl rfl rfl ⟨.refl _,rfl,trivial⟩ (hM rfl (by rw[e0,hin]) rfl trivial) rfl))
end Go.Proofs.YtflegjieadkonaaGreatDoor
namespace Go.Proofs.YtflegjieadkonaaGreatDoor
open Go Go.Al
set_option maxRecDepth 10000
def ins:List aj→aj→List aj
 | [],s=> [s]
 |x::r,s=>if x=s then x::r else if Op.bytesLess x.toList s.toList=true then x::ins r s else s::x::r
theorem jq (s:aj): ∀(l a:List aj),l.foldl (du s) (a,true)=(a++l,true)
 | [],a=>by simp
 |x::r,a=>by
  have:du s (a,true) x=(a++ [x],true):=by simp[du]
  rw[Xf,this,jq s r];simp
theorem uW (s:aj): ∀(l a:List aj),(if(l.foldl (du s) (a,false)).2 then(l.foldl (du s) (a,false)).1 else(l.foldl (du s) (a,false)).1++ [s])=a++ins l s
 | [],a=>by simp[ins]
 |x::r,a=>by
  by_cases h1:x=s
  ·have:du s (a,false) x=(a++ [x],true):=by simp[du,h1]
   rw[Xf,this,jq];simp[ins,h1]
  ·cases h2:Op.bytesLess x.toList s.toList with
   |true=>
    have:du s (a,false) x=(a++ [x],false):=by simp[du,h1,h2]
    rw[Xf,this,uW s r];simp[ins,h1,h2]
   |false=>
    have:du s (a,false) x=(a++ [s]++ [x],true):=by simp[du,h1,h2]
    rw[Xf,this,jq];simp[ins,h1,h2]
theorem tV (l:List aj) (s:aj):fb l s=ins l s:=by
 have:=uW s l [];simpa[fb] using this
theorem vK {x:aj}: ∀{l:List aj} {s:aj},x∈ins l s↔x∈l∨x=s
 | [],s=>by simp[ins]
 |y::r,s=>by
  simp only[ins];split
  ·rename_i h;subst h;simp;exact fun h=> .inl h
  ·split
   ·simp[vK (l:=r),or_assoc]
   ·simp;constructor
    ·rintro(h|h|h)
     ·exact .inr h
     ·exact .inl (.inl h)
     ·exact .inl (.inr h)
    ·rintro((h|h)|h)
     ·exact .inr (.inl h)
     ·exact .inr (.inr h)
     ·exact .inl h
theorem c6 {x s:aj} {l:List aj}:x∈fb l s↔x∈l∨x=s:=by rw[tV];exact vK
theorem qI {x:aj}: ∀{m l:List aj},x∈fT l m↔x∈l∨x∈m
 | [],l=>by simp[fT]
 |y::r,l=>by
  have h:=qI (x:=x) (m:=r) (l:=fb l y);simp only[fT,Xf] at h ⊢;rw[h,c6,WG,or_assoc]
theorem bt {l:List aj} {s:aj}:c2 l s=true↔s∈l:=by
 simp[c2]
theorem eh {l:List aj} {s:aj}:c2 l s=false↔s∉l:=by
 rw[←Bool.not_eq_true,bt]
def KK (l m:List aj):Bool:=m.all fun x=>c2 l x
def Vy (a:List aj) (l:Lit):List aj:=if l.kind=4 then fb (fT a (pQ l)) l.bp else fT a (pQ l)
def outer (r:ak):List aj:=r.body.foldl Vy (kR r.head)
def ir (l:Lit):List aj:=cF l++if l.kind=4 then[l.bp] else[]
def aI (r:ak):List aj:=cE r.head++r.body.flatMap ir
theorem yZ (l:Lit):(ir l).length+1≤l.size:=by
 have:=lz l;unfold ir;rw[Wn];split<;>simp<;>omega
theorem mj: ∀l:List Lit,(l.flatMap ir).length≤Lit.aC l
 | []=>by simp
 |e::r=>by
  have h1:=yZ e;have h2:=mj r;rw[XA,Wn];simp only[Lit.aC];omega
theorem vC (r:ak):(aI r).length≤r.size:=by
 have h1:=mj r.body;have h2:=ib r.head;unfold aI ak.size;rw[Wn];omega
def PF (r:ak):List IV:=[iS r.head.rel,cM 5 r.head.aq Term.c,lits r.body,iI r.at_.line,iI r.at_.Ch,ov (aJ (aI r))]
abbrev b7 (r:ak):IV:= .jI (PF r)
theorem c48 (r:ak) (hb:r.size≤1000000000000):Pure Tryz.prog 113 [ag r.c] (.iv (b7 r)):=by
 unfold ak.size at hb;have hao:=ib r.head;have hal:=Lit.aL r.body;refine ax ae Tryz.func113 rfl (by decide) Tryz.ntmps113 rfl (by simp) rfl ?_;refine gA rfl (aX ae [1] (VI r.head (by omega)) rfl rfl rfl rfl rfl rfl rfl rfl rfl rfl rfl rfl (by(repeat' (first|exact trivial|exact rfl|exact ah.refl _|exact ah.bk (by assumption)|apply Wl))<;>first|omega|(simp only[Wp];omega)|(simp;done)|(simp;omega)) rfl (by(repeat' (first|exact trivial|exact rfl|exact ah.refl _|exact ah.bk (by assumption)|apply Wl))<;>first|omega|(simp only[Wp];omega)|(simp;done)|(simp;omega)) ?_);refine gA rfl ?_
 refine aK 0 r.body.length (WC _) (fun i=>⟨[(3, .ptr 2 0),(18, .iv (lits r.body)),(19,pI r.body.length),(20,pI i)],
   [(1,some (cj (aJ (cE r.head++(r.body.take i).flatMap ir)))),(2,some (.cells [pS r.head.rel, .iv (cM 5 r.head.aq Term.c), .iv (lits r.body),pI r.at_.line,pI r.at_.Ch, .mp 1]))],3⟩) (fun _=>True) [] trivial
  (wk rfl rfl rfl ⟨.refl _,rfl, .refl _,rfl, .refl _,rfl, .refl _,rfl,trivial⟩ (hM rfl (by simp) rfl ⟨⟨_,rfl, .of_eq rfl⟩,Wj rfl,rfl,trivial⟩) rfl) fun i hi _=>?_
 refine gA rfl ?_;refine Wl (fun h3=>?_) (fun h3=>?_)
 ·have h3:i<r.body.length:=by simpa using h3
  have hs:=bI (f:=ir) h3;have hn:=Lit.dd r.body i h3;have hv:=mj (r.body.take i);have hlo:=lz (r.body.getD i default);refine gA rfl (aX ae [1] (d89 (r.body.getD i default) _ (by rw[Wn];omega)) rfl rfl rfl rfl rfl rfl rfl rfl rfl rfl rfl rfl (by(repeat' (first|exact trivial|exact rfl|exact ah.refl _|exact ah.bk (by assumption)|apply Wl))<;>first|omega|(simp only[Wp];omega)|(simp;done)|(simp;omega)) rfl (by(repeat' (first|exact trivial|exact rfl|exact ah.refl _|exact ah.bk (by assumption)|apply Wl))<;>first|omega|(simp only[Wp];omega)|(simp;done)|(simp;omega)) ?_);refine gA rfl ?_;refine Wl (fun h4=>?_) (fun h4=>?_)
  ·have h4:(r.body.getD i default).kind=4:=of_decide_eq_true h4
   have hlo2:ir (r.body.getD i default)=cF (r.body.getD i default)++ [(r.body.getD i default).bp]:=by unfold ir;rw[if_pos h4]
   rw[hlo2] at hs;have hlk:=bs (cE r.head++(r.body.take i).flatMap ir++cF (r.body.getD i default)) (r.body.getD i default).bp;have hct:=fD (cE r.head++(r.body.take i).flatMap ir++cF (r.body.getD i default)) (r.body.getD i default).bp;rw[Wn,Wn] at hct;refine gA rfl ?_;exact⟨h3,trivial,[],wk rfl rfl rfl ⟨.refl _,rfl, .refl _,rfl, .refl _,rfl, .refl _,rfl,trivial⟩ (hM rfl (by rw[hs,←Wv,←Wv,cT];rfl) rfl ⟨⟨_,rfl, .of_eq rfl⟩,Wj rfl,rfl,trivial⟩) rfl⟩
  ·have h4: ¬(r.body.getD i default).kind=4:=of_decide_eq_false h4
   have hlo2:ir (r.body.getD i default)=cF (r.body.getD i default):=by unfold ir;rw[if_neg h4,Xo]
   rw[hlo2] at hs;refine gA rfl ?_;exact⟨h3,trivial,[],wk rfl rfl rfl ⟨.refl _,rfl, .refl _,rfl, .refl _,rfl, .refl _,rfl,trivial⟩ (hM rfl (by rw[hs,←Wv]) rfl ⟨⟨_,rfl, .of_eq rfl⟩,Wj rfl,rfl,trivial⟩) rfl⟩
 ·have h3:r.body.length≤i:=by simpa using h3
  have e0:r.body.take i=r.body:=WB h3;refine lU rfl trivial (gP (.inr rfl) rfl (.map 1 rfl (.cells 2 _ rfl (show _=List.map PV.iv (PF r) by rw[e0];rfl) (.done (.of_eq rfl)))))
def aY (occ:List aj) (e:Expr):Bool:=(b6 e).all fun x=>c2 occ x
theorem rC {l:List aj} {j:Nat} {x:(KC.str).K×Int} (h:(aJ l)[j]? =some x):x.1∈l:=
 ((dz l).2 x.1).1 (W4.2 ⟨x,WY h,rfl⟩)
theorem all_keys {l:List aj} {vs:List Nat} (h: ∀j,j<(aJ l).length→j∈vs) {p:aj→Prop} (hp: ∀j∈vs,∀x,(aJ l)[j]? =some x→p x.1): ∀t∈l,p t:=by
 intro t ht;obtain⟨x,hx,rfl⟩:=W4.1 (((dz l).2 t).2 ht);obtain⟨j,hj⟩:=W6 hx;exact hp j (h j (Wr.1 hj).1) x hj
theorem d125 (occ:List aj) (e:Expr) (hb:e.size≤1000000000000):cf Tryz.prog 227 [.mp 0,ag e.c] [cj (aJ occ)] (pB (aY occ e)) [(0,some (cj (aJ occ)))] 1:=by
 refine aH ae Tryz.func227 rfl (by decide) Tryz.ntmps227 rfl (by simp) ?_;refine gA rfl (aN [2] (PC e hb) rfl rfl rfl rfl rfl rfl rfl rfl ?_);refine gA rfl ?_
 refine eP (aJ (b6 e)) (fun vs=>⟨[(0, .mp 0),(12, .ptr 3 0)],[(0,some (cj (aJ occ))),(3,some (.bq .str s4 (aJ (b6 e)) vs none))],4⟩) (fun vs=> ∀j∈vs,∀x,(aJ (b6 e))[j]? =some x→x.1∈occ) [] (by simp)
  (wk rfl rfl rfl ⟨.refl _,rfl, .refl _,rfl,trivial⟩ (hM rfl rfl rfl (hI rfl rfl (.inl rfl) rfl trivial)) rfl) fun vs hJ=>?_
 refine lU rfl trivial (db rfl rfl rfl rfl rfl (by decide) (fun hall=>?_) fun j x hx hj=>?_)
 ·refine gA rfl (az [] (by first|exact .inr rfl|exact .inl rfl) rfl (wk rfl rfl rfl ⟨.of_eq (by rw[show aY occ e=true from WX.2 fun t ht=>bt.2 (all_keys hall hJ t ht)];rfl),rfl,trivial⟩ (hM rfl rfl rfl trivial) rfl))
 ·have hlk:=bs occ x.1
  refine gA rfl ?_;refine Wl (fun h1=>?_) (fun h1=>?_)
  ·have h1:bG .str (aJ occ) x.1 0=0:=of_decide_eq_true h1
   have h2:x.1∉occ:=qq.1 (by rw[hlk] at h1;omega);refine gA rfl (az [] (by first|exact .inr rfl|exact .inl rfl) rfl (wk rfl rfl rfl ⟨.of_eq (by rw[show aY occ e=false from YB.2 ⟨x.1,rC hx,by rw[eh.2 h2];simp⟩];rfl),rfl,trivial⟩ (hM rfl rfl rfl trivial) rfl))
  ·have h1: ¬bG .str (aJ occ) x.1 0=0:=of_decide_eq_false h1
   have h2:x.1∈occ:=s8.1 (by rw[hlk] at h1;omega);refine gA rfl ?_
   exact⟨j,x,hx,hj,fun i hi y hy=>by
    rcases WG.1 hi with rfl|hi
    ·rw[hx] at hy;cases hy;exact h2
    ·exact hJ i hi y hy,[],wk rfl rfl rfl ⟨.refl _,rfl, .refl _,rfl,trivial⟩ (hM rfl rfl rfl (hI rfl rfl (.inr rfl) rfl trivial)) rfl⟩
def au (r:ak) (lit:Int):Lit:=r.body.getD lit.toNat default
theorem Lit.jG (l:Lit):l.agg.size+2≤l.size:=by
 rw[l.size_eq];unfold fg.size Lit.agg;dsimp only;omega
def UB (l:Lit) (known:List aj):aj×Bool:=
 if¬l.kind=3∨ ¬l.op=1 then(Wu,false)
 else if l.left.kind=1∧KK known (hQ l.left)=false∧KK known (hQ l.right)=true then(l.left.var,true)
 else if l.right.kind=1∧KK known (hQ l.right)=false∧KK known (hQ l.left)=true then(l.right.var,true)
 else(Wu,false)
theorem nO {a b:aj×Bool} (h:a=b):PV.bP [pS a.1,pB a.2]= .bP [pS b.1,pB b.2]:=by rw[h]
def Vg (a:fg) (known outer:List aj):Bool:=!c2 known a.var&&(BK a).all fun x=>!(c2 outer x&&(!c2 known x&&!decide (x=a.var)))
def jX (l:Lit) (known:List aj):aj×Bool:=
 if¬l.kind=3∨ ¬l.op=1 then(Wu,false)
 else if l.left.kind=1∧c2 known l.left.var=false∧(l.right.kind=2∨l.right.kind=1∧c2 known l.right.var=true) then(l.left.var,true)
 else if l.right.kind=1∧(if l.left.kind=1 then c2 known l.left.var else decide (l.left.kind=2))=true then(l.right.var,!c2 known l.right.var)
 else(Wu,false)
def bB (body:List Lit):List aj:=body.flatMap fun l=> [l.left.var,l.right.var,l.bp]
def cq (c k:List aj):Nat:=(c.filter fun x=>!c2 k x).length
theorem iO: ∀body:List Lit,(bB body).length=3*body.length
 | []=>rfl
 |l::r=>by have:=iO r;simp only[bB,XA,Wn,W2,X4] at this ⊢;omega
theorem oR (c k:List aj):cq c k≤c.length:=XB _ _
theorem oQ {v:aj} {k:List aj}: ∀{c:List aj},v∈c→v∉k→cq c (fb k v)<cq c k:=by
 have mono: ∀c:List aj,cq c (fb k v)≤cq c k:=by
  intro c
  induction c with
  |nil=>exact Wz _
  |cons x r ih=>
   simp only[cq] at ih ⊢;simp only[Yk];by_cases h1:x∈k
   ·have:c2 (fb k v) x=true:=bt.2 (c6.2 (.inl h1))
    rw[this,bt.2 h1];exact ih
   ·simp only[eh.2 h1,YW,if_true,W2]
    split<;>(try simp only[W2])<;>omega
 intro c hc hk
 induction c with
 |nil=>cases hc
 |cons x r ih=>
  have hm:=mono r;simp only[cq] at ih hm ⊢;simp only[Yk];by_cases hx:x=v
  ·subst hx
   have:c2 (fb k x) x=true:=bt.2 (c6.2 (.inr rfl));simp[this,eh.2 hk];omega
  ·have hr:v∈r:=by
    rcases WG.1 hc with h|h
    ·exact absurd h.symm hx
    ·exact h
   have ih:=ih hr;by_cases h1:x∈k
   ·have:c2 (fb k v) x=true:=bt.2 (c6.2 (.inl h1))
    simp[this,bt.2 h1];exact ih
   ·have:c2 (fb k v) x=false:=eh.2 fun h=>by rcases c6.1 h with h|h;exact h1 h;exact hx h
    simp[this,eh.2 h1];omega
def oB (own:Bool) (outer:List aj) (k:List aj) (l:Lit):aj×Bool:=if own=true∧l.kind=4 then(l.bp,Vg l.agg k outer) else UB l k
def Bt (k:List aj) (l:Lit):List aj:=if l.kind=1 then fT k (kR l.atom) else k
theorem u3 {body:List Lit} {l:Lit} (h:l∈body) {v:aj} (hv:v∈ [l.left.var,l.right.var,l.bp]):v∈bB body:=X9.2 ⟨l,h,hv⟩
def fu (may:Expr→Bool) (occ:List aj) (l:Lit):aj×Bool:=
 if¬l.kind=3∨ ¬l.op=1 then(Wu,false)
 else if l.left.kind=1∧c2 occ l.left.var=false∧may l.right=true then(l.left.var,true)
 else if l.right.kind=1∧c2 occ l.right.var=false∧may l.left=true then(l.right.var,true)
 else(Wu,false)
theorem bV {occ:List aj} {s:aj}:c2 occ s=!decide (bG .str (aJ occ) s 0=0):=by
 rw[bs];by_cases h:s∈occ
 ·have:=s8.2 h
  rw[bt.2 h];simp;omega
 ·rw[eh.2 h,qq.2 h];rfl
def b3 (occ:List aj) (e:Expr):Bool:=decide (e.kind=2)||(decide (e.kind=1)&&c2 occ e.var)
theorem lL {a b:Bool} (h:a=b):pB a=pB b:=by rw[h]
theorem d76 (occ:List aj) (e:Expr) (hb:e.size≤1000000000000):cf Tryz.prog 127 [ag e.c, .ptr 1 0] [cj (aJ occ), .cells [.mp 0]] (pB (b3 occ e)) [(0,some (cj (aJ occ))),(1,some (.cells [.mp 0]))] 2:=by
 have hlk:=bs occ e.var;have hi:=bV (occ:=occ) (s:=e.var);refine aH ae Tryz.func127 rfl (by decide) Tryz.ntmps127 rfl (by simp) ?_
 repeat' (first
  |(refine gA rfl (Wl (fun _=>?_) (fun _=>?_)))
  |fail)
 all_goals first
  |(refine gA rfl (az [] (.inr rfl) rfl (wk rfl rfl rfl ⟨.of_eq (lL (a:=true) ?_),rfl,trivial⟩ (hM rfl rfl rfl ⟨⟨_,rfl, .of_eq rfl⟩,Wj rfl,rfl,trivial⟩) rfl));simp_all [b3];done)
  |(refine gA rfl (az [] (.inr rfl) rfl (wk rfl rfl rfl ⟨.of_eq (lL (a:=false) ?_),rfl,trivial⟩ (hM rfl rfl rfl ⟨⟨_,rfl, .of_eq rfl⟩,Wj rfl,rfl,trivial⟩) rfl));simp_all [b3];done)
  |(refine gA rfl (az [] (.inr rfl) rfl (wk rfl rfl rfl ⟨.of_eq (lL (a:=decide (bG .str (aJ occ) e.var 0>0)) ?_),rfl,trivial⟩ (hM rfl rfl rfl ⟨⟨_,rfl, .of_eq rfl⟩,Wj rfl,rfl,trivial⟩) rfl));rw[b3,hi,hlk];simp_all;by_cases hz:oj occ e.var=0<;>simp[hz]<;>omega)
theorem c77 (a:fg):Pure Tryz.prog 128 [ag a.c] (pB false):=by
 refine ax ae Tryz.func128 rfl (by decide) Tryz.ntmps128 rfl (by simp) rfl ?_;refine gA rfl (aw (by first|exact .inr rfl|exact .inl rfl) rfl (.of_eq ?_));rfl
theorem VY (a:fg):Pure Tryz.prog 229 [ag a.c] (pB false):=by
 refine ax ae Tryz.func229 rfl (by decide) Tryz.ntmps229 rfl (by simp) rfl ?_;refine gA rfl (aw (by first|exact .inr rfl|exact .inl rfl) rfl (.of_eq ?_));rfl
def me (out occ:List aj) (a:fg):Bool:=(a8 a).all fun x=>decide (x=a.var)||(!c2 out x||c2 occ x)
theorem d126 (r:ak) (occ:List aj) (a:fg) (hb:a.size≤1000000000000):cf Tryz.prog 228 [ag a.c, .ptr 1 0, .ptr 2 0] [cj (aJ occ), .cells [.iv (b7 r)], .cells [.mp 0]] (pB (me (aI r) occ a)) [(0,some (cj (aJ occ))),(1,some (.cells [.iv (b7 r)])),(2,some (.cells [.mp 0]))] 3:=by
 refine aH ae Tryz.func228 rfl (by decide) Tryz.ntmps228 rfl (by simp) ?_;refine gA rfl (aN [] (d127 a hb) rfl rfl rfl rfl rfl rfl rfl rfl ?_);refine gA rfl ?_
 refine eP (aJ (a8 a)) (fun vs=>⟨[(1, .ptr 1 0),(2, .ptr 2 0),(3, .ptr 3 0),(8, .ptr 5 0)],[(0,some (cj (aJ occ))),(1,some (.cells [.iv (b7 r)])),(2,some (.cells [.mp 0])),(3,some (aE a.c)),(5,some (.bq .str s4 (aJ (a8 a)) vs none))],6⟩) (fun vs=> ∀j∈vs,∀x,(aJ (a8 a))[j]? =some x→(decide (x.1=a.var)||(!c2 (aI r) x.1||c2 occ x.1))=true) [] (by simp)
  (wk rfl rfl rfl ⟨.refl _,rfl, .refl _,rfl, .refl _,rfl, .refl _,rfl,trivial⟩ (hM rfl rfl rfl ⟨⟨_,rfl, .of_eq rfl⟩,Wj rfl,rfl,⟨_,rfl, .of_eq rfl⟩,Wj rfl,rfl,hC rfl rfl rfl (hI rfl rfl (.inl rfl) rfl trivial)⟩) rfl) fun vs hJ=>?_
 refine lU rfl trivial (db rfl rfl rfl rfl rfl (by decide) (fun hall=>?_) fun j x hx hj=>?_)
 ·refine gA rfl (az [] (by first|exact .inr rfl|exact .inl rfl) rfl (wk rfl rfl rfl ⟨.of_eq (lL (a:=true) (WX.2 fun t ht=>all_keys (p:=fun t=>(decide (t=a.var)||(!c2 (aI r) t||c2 occ t))=true) hall hJ t ht).symm),rfl,trivial⟩ (hM rfl rfl rfl ⟨⟨_,rfl, .of_eq rfl⟩,Wj rfl,rfl,⟨_,rfl, .of_eq rfl⟩,Wj rfl,rfl,trivial⟩) rfl))
 ·have more:(decide (x.1=a.var)||(!c2 (aI r) x.1||c2 occ x.1))=true→ ∀i∈j::vs,∀x,(aJ (a8 a))[i]? =some x→(decide (x.1=a.var)||(!c2 (aI r) x.1||c2 occ x.1))=true:=fun h i hi y hy=>by
   rcases WG.1 hi with rfl|hi
   ·rw[hx] at hy;cases hy;exact h
   ·exact hJ i hi y hy
  have h5:=bV (occ:=aI r) (s:=x.1);have h6:=bV (occ:=occ) (s:=x.1);have h7:=bs (aI r) x.1;have h8:=bs occ x.1;refine gA rfl ?_;refine Wl (fun g1=>?_) (fun g1=>?_)
  ·have g1:decide (x.1=a.var)=false:=by simpa using g1
   refine gA rfl ?_;refine Wl (fun g2=>?_) (fun g2=>?_)
   ·have g2:c2 (aI r) x.1=true:=by
     have:=of_decide_eq_true g2;rw[h5];simp;omega
    refine gA rfl ?_;refine Wl (fun g3=>?_) (fun g3=>?_)
    ·have g3:c2 occ x.1=false:=by rw[h6,g3];rfl
     refine gA rfl (az [] (by first|exact .inr rfl|exact .inl rfl) rfl (wk rfl rfl rfl ⟨.of_eq (lL (a:=false) (YB.2 ⟨x.1,rC hx,by rw[g1,g2,g3];simp⟩).symm),rfl,trivial⟩ (hM rfl rfl rfl ⟨⟨_,rfl, .of_eq rfl⟩,Wj rfl,rfl,⟨_,rfl, .of_eq rfl⟩,Wj rfl,rfl,trivial⟩) rfl))
    ·have g3:c2 occ x.1=true:=by rw[h6,g3];rfl
     refine gA rfl ?_;exact⟨j,x,hx,hj,more (by rw[g3];simp),[],wk rfl rfl rfl ⟨.refl _,rfl, .refl _,rfl, .refl _,rfl, .refl _,rfl,trivial⟩ (hM rfl rfl rfl ⟨⟨_,rfl, .of_eq rfl⟩,Wj rfl,rfl,⟨_,rfl, .of_eq rfl⟩,Wj rfl,rfl,hC rfl rfl rfl (hI rfl rfl (.inr rfl) rfl trivial)⟩) rfl⟩
   ·have g2:c2 (aI r) x.1=false:=by
     have:=of_decide_eq_false g2;rw[h5];simp;omega
    refine gA rfl ?_;exact⟨j,x,hx,hj,more (by rw[g2];simp),[],wk rfl rfl rfl ⟨.refl _,rfl, .refl _,rfl, .refl _,rfl, .refl _,rfl,trivial⟩ (hM rfl rfl rfl ⟨⟨_,rfl, .of_eq rfl⟩,Wj rfl,rfl,⟨_,rfl, .of_eq rfl⟩,Wj rfl,rfl,hC rfl rfl rfl (hI rfl rfl (.inr rfl) rfl trivial)⟩) rfl⟩
  ·have g1:decide (x.1=a.var)=true:=by simpa using g1
   refine gA rfl ?_;exact⟨j,x,hx,hj,more (by rw[g1];simp),[],wk rfl rfl rfl ⟨.refl _,rfl, .refl _,rfl, .refl _,rfl, .refl _,rfl,trivial⟩ (hM rfl rfl rfl ⟨⟨_,rfl, .of_eq rfl⟩,Wj rfl,rfl,⟨_,rfl, .of_eq rfl⟩,Wj rfl,rfl,hC rfl rfl rfl (hI rfl rfl (.inr rfl) rfl trivial)⟩) rfl⟩
def lq (may:Expr→Bool) (more:fg→Bool) (occ:List aj) (l:Lit):Option aj:=
 if(fu may occ l).2=true then some (fu may occ l).1 else if l.kind=4∧c2 occ l.bp=false∧more l.agg=true then some l.bp else none
def bK (may:Expr→Bool) (more:fg→Bool) (occ:List aj):List Lit→Option aj
 | []=>none
 |l::r=>match lq may more occ l with
  |some v=>some v
  |none=>bK may more occ r
def cP (may:List aj→Expr→Bool) (more:List aj→fg→Bool) (body:List Lit):Nat→List aj→List aj
 |0,occ=>occ
 |n+1,occ=>match bK (may occ) (more occ) occ body with
  |some v=>cP may more body n (occ++ [v])
  |none=>occ
def bh (l:Lit):List aj:=if l.kind=1 then cE l.atom else[]
def bL (may:List aj→Expr→Bool) (more:List aj→fg→Bool) (body:List Lit) (occ:List aj):List aj:=cP may more body (3*body.length+1) (occ++body.flatMap bh)
theorem dS {may:List aj→Expr→Bool} {more:List aj→fg→Bool} {body:List Lit} {n:Nat} {occ:List aj} {v:aj} (h:bK (may occ) (more occ) occ body=some v):cP may more body (n+1) occ=cP may more body n (occ++ [v]):=by
 simp only[cP,h]
theorem dT {may:List aj→Expr→Bool} {more:List aj→fg→Bool} {body:List Lit} {n:Nat} {occ:List aj} (h:bK (may occ) (more occ) occ body=none):cP may more body (n+1) occ=occ:=by
 simp only[cP,h]
theorem j9 {may:Expr→Bool} {more:fg→Bool} {occ:List aj}: ∀{l m:List Lit},bK may more occ l=none→bK may more occ (l++m)=bK may more occ m
 | [],_,_=>rfl
 |x::r,m,h=>by
  simp only[bK] at h;split at h
  ·cases h
  ·rename_i h1
   simp only[XF,bK,h1];exact j9 h
theorem dc {may:Expr→Bool} {more:fg→Bool} {occ:List aj} {l:List Lit} {i:Nat} (h:bK may more occ (l.take i)=none) (hi:i<l.length) (hx:lq may more occ (l.getD i default)=none):bK may more occ (l.take (i+1))=none:=by
 rw[aW hi,j9 h];simp only[bK,hx]
theorem oe {may:Expr→Bool} {more:fg→Bool} {occ:List aj} {l:List Lit} {i:Nat} {v:aj} (h:bK may more occ (l.take i)=none) (hi:i<l.length) (hx:lq may more occ (l.getD i default)=some v):bK may more occ l=some v:=by
 have e:l=l.take i++(l.getD i default::l.drop (i+1)):=by
  rw[Ws,Wt hi,XM,List.getElem_cons_drop,X6]
 rw[e,j9 h];simp only[bK,hx]
theorem sB {may:Expr→Bool} {more:fg→Bool} {occ:List aj} {l:Lit} {v:aj} (h:lq may more occ l=some v):v∈ [l.left.var,l.right.var,l.bp]∧v∉occ:=by
 unfold lq at h;split at h
 ·rename_i h1
  simp only[Wo] at h;subst h;unfold fu at h1 ⊢;split at h1
  ·cases h1
  ·rename_i h0
   rw[if_neg h0];split at h1
   ·rename_i h2;rw[if_pos h2];exact⟨by simp,eh.1 h2.2.1⟩
   ·rename_i h2
    rw[if_neg h2];split at h1
    ·rename_i h3;rw[if_pos h3];exact⟨by simp,eh.1 h3.2.1⟩
    ·cases h1
 ·split at h
  ·rename_i h2
   simp only[Wo] at h;subst h;exact⟨by simp,eh.1 h2.2.1⟩
  ·cases h
theorem jr {may:Expr→Bool} {more:fg→Bool} {occ:List aj} {v:aj}: ∀{l:List Lit},bK may more occ l=some v→v∈bB l∧v∉occ
 | [],h=>by cases h
 |x::r,h=>by
  simp only[bK] at h;split at h
  ·rename_i w hw
   simp only[Wo] at h;subst h;obtain⟨h1,h2⟩:=sB hw;exact⟨u3 WM h1,h2⟩
  ·obtain⟨h1,h2⟩:=jr h
   refine⟨?_,h2⟩;simp only[bB,XA,WD] at h1 ⊢;exact .inr h1
theorem eL: ∀l:List Lit,(l.flatMap bh).length≤Lit.aC l
 | []=>by simp
 |e::r=>by
  have h2:=eL r
  have h3:(bh e).length≤e.size:=by
   have:=ib e.atom;have:=e.size_eq;unfold bh;split
   ·omega
   ·simp
  rw[XA,Wn];simp only[Lit.aC];omega
theorem Va (occ:List aj) (l:Lit) (hb:l.size≤100000000000):cf Tryz.prog 172 [ag l.c, .cH (.func 227) [.mp 0] [], .mp 0] [cj (aJ occ)] (.bP [pS (fu (aY occ) occ l).1,pB (fu (aY occ) occ l).2]) [(0,some (cj (aJ occ)))] 1:=by
 have hsz:=l.size_eq;have hl1:=bs occ l.left.var;have hl2:=bs occ l.right.var;refine aH ae Tryz.func172 rfl (by decide) Tryz.ntmps172 rfl (by simp) ?_;refine gA rfl ?_;refine Wl (fun h1=>?_) (fun h1=>?_);rotate_left
 ·have h1: ¬l.kind=3:=by simpa using h1
  refine gA rfl (az [] (by first|exact .inr rfl|exact .inl rfl) rfl (wk rfl rfl rfl ⟨.of_eq (nO (a:=(Wu,false)) (by rw[fu,if_pos (.inl h1)])),rfl,trivial⟩ (hM rfl rfl rfl trivial) rfl))
 have h1:l.kind=3:=by simpa using h1
 refine gA rfl ?_;refine Wl (fun h2=>?_) (fun h2=>?_)
 ·have h2: ¬l.op=1:=by simpa using h2
  refine gA rfl (az [] (by first|exact .inr rfl|exact .inl rfl) rfl (wk rfl rfl rfl ⟨.of_eq (nO (a:=(Wu,false)) (by rw[fu,if_pos (.inr h2)])),rfl,trivial⟩ (hM rfl rfl rfl trivial) rfl))
 have h2:l.op=1:=by simpa using h2
 have e1:fu (aY occ) occ l=if l.left.kind=1∧c2 occ l.left.var=false∧(aY occ) l.right=true then(l.left.var,true) else if l.right.kind=1∧c2 occ l.right.var=false∧(aY occ) l.left=true then(l.right.var,true) else(Wu,false):=by
  rw[fu,if_neg (by simp[h1,h2])]
 repeat' (first
  |(refine gA rfl (Wl (fun _=>?_) (fun _=>?_)))
  |(refine gA rfl (aN [0] (d125 occ l.left (by omega)) rfl rfl rfl rfl rfl rfl rfl rfl ?_))
  |(refine gA rfl (aN [0] (d125 occ l.right (by omega)) rfl rfl rfl rfl rfl rfl rfl rfl ?_))
  |fail)
 all_goals first
  |(refine gA rfl (az [] (.inr rfl) rfl (wk rfl rfl rfl ⟨.of_eq (nO (a:=(Wu,false)) ?_),rfl,trivial⟩ (hM rfl rfl rfl trivial) rfl));rw[e1];simp only[bV] at*;simp_all;done)
  |(refine gA rfl (az [] (.inr rfl) rfl (wk rfl rfl rfl ⟨.of_eq (nO (a:=(l.left.var,true)) ?_),rfl,trivial⟩ (hM rfl rfl rfl trivial) rfl));rw[e1];simp only[bV] at*;simp_all;done)
  |(refine gA rfl (az [] (.inr rfl) rfl (wk rfl rfl rfl ⟨.of_eq (nO (a:=(l.right.var,true)) ?_),rfl,trivial⟩ (hM rfl rfl rfl trivial) rfl));rw[e1];simp only[bV] at*;simp_all;done)
  |(exfalso;simp_all;done)
theorem VL (occ:List aj) (body:List Lit) (hb:occ.length+8*Lit.aC body≤100000000000):cf Tryz.prog 126 [.iv (lits body), .mp 0, .cH (.func 227) [.mp 0] [], .cH (.func 229) [] []] [cj (aJ occ)] (.bP []) [(0,some (cj (aJ (bL (fun occ=>aY occ) (fun occ=>fun _=>false) body occ))))] 1:=by
 have hal:=Lit.aL body;have hpl:=eL body;have hcl:=iO body;have hml:=oR (bB body) (occ++body.flatMap bh);refine aH ae Tryz.func126 rfl (by decide) Tryz.ntmps126 rfl (by simp) ?_;refine gA rfl ?_
 refine aK 0 body.length (WC _) (fun i=>⟨[(0, .iv (lits body)),(1, .mp 0),(2, .cH (.func 227) [.mp 0] []),(3, .cH (.func 229) [] []),(14, .iv (lits body)),(15,pI body.length),(16,pI i)],[(0,some (cj (aJ (occ++(body.take i).flatMap bh))))],1⟩) (fun _=>True) [] trivial
  (wk rfl rfl rfl ⟨.refl _,rfl, .refl _,rfl, .refl _,rfl, .refl _,rfl, .refl _,rfl, .refl _,rfl, .refl _,rfl,trivial⟩ (hM rfl (by simp) rfl trivial) rfl) fun i hi _=>?_
 refine gA rfl ?_;refine Wl (fun h1=>?_) (fun h1=>?_)
 ·have h1:i<body.length:=by simpa using h1
  have hs:=bI (f:=bh) h1;have hn:=Lit.dd body i h1;have hv:=eL (body.take i);have hsz:=(body.getD i default).size_eq;refine gA rfl ?_;refine Wl (fun h2=>?_) (fun h2=>?_)
  ·have h2:(body.getD i default).kind=1:=by simpa using h2
   rw[show bh (body.getD i default)=_ from if_pos h2] at hs;refine gA rfl (aN [0] (d88 (occ++(body.take i).flatMap bh) (body.getD i default).atom (by rw[Wn];omega)) rfl rfl rfl rfl rfl rfl rfl rfl ?_);refine gA rfl ?_;exact⟨h1,trivial,[],wk rfl rfl rfl ⟨.refl _,rfl, .refl _,rfl, .refl _,rfl, .refl _,rfl, .refl _,rfl, .refl _,rfl, .refl _,rfl,trivial⟩ (hM rfl (by rw[hs,Wv]) rfl trivial) rfl⟩
  ·have h2: ¬(body.getD i default).kind=1:=by simpa using h2
   rw[show bh (body.getD i default)=_ from if_neg h2,Xo] at hs;refine gA rfl ?_;exact⟨h1,trivial,[],wk rfl rfl rfl ⟨.refl _,rfl, .refl _,rfl, .refl _,rfl, .refl _,rfl, .refl _,rfl, .refl _,rfl, .refl _,rfl,trivial⟩ (hM rfl (by rw[hs]) rfl trivial) rfl⟩
 have h1:body.length≤i:=by simpa using h1
 have e0:body.take i=body:=WB h1;rw[e0];refine gA rfl ?_
 refine mu (σ:={x:List aj×Nat//bL (fun occ=>aY occ) (fun occ=>fun _=>false) body occ=cP (fun occ=>aY occ) (fun occ=>fun _=>false) body (x.2+1) x.1∧cq (bB body) x.1≤x.2∧x.1.length+cq (bB body) x.1≤(occ++body.flatMap bh).length+cq (bB body) (occ++body.flatMap bh)})
  (fun x=>⟨[(0, .iv (lits body)),(1, .mp 0),(2, .cH (.func 227) [.mp 0] []),(3, .cH (.func 229) [] [])],[(0,some (cj (aJ x.1.1)))],1⟩) (fun x=>cq (bB body) x.1.1)
  ⟨(occ++body.flatMap bh,3*body.length),rfl,by dsimp only;omega,Wz _⟩ [] (wk rfl rfl rfl ⟨.refl _,rfl, .refl _,rfl, .refl _,rfl, .refl _,rfl,trivial⟩ (hM rfl rfl rfl trivial) rfl) ?_
 rintro⟨⟨ok,f⟩,hx1,hx2,hx3⟩
 dsimp only at hx1 hx2 hx3 ⊢;rw[Wn] at hx3;refine gA rfl ?_
 refine aK 0 body.length (WC _) (fun i=>⟨[(0, .iv (lits body)),(1, .mp 0),(2, .cH (.func 227) [.mp 0] []),(3, .cH (.func 229) [] []),(28, .iv (lits body)),(29,pI body.length),(30,pI i)],[(0,some (cj (aJ ok)))],1⟩) (fun i=>bK ((fun occ=>aY occ) ok) ((fun occ=>fun _=>false) ok) ok (body.take i)=none) [] rfl
  (wk rfl rfl rfl ⟨.refl _,rfl, .refl _,rfl, .refl _,rfl, .refl _,rfl, .refl _,rfl, .refl _,rfl, .refl _,rfl,trivial⟩ (hM rfl rfl rfl trivial) rfl) fun i hi hJ=>?_
 refine gA rfl ?_;refine Wl (fun h3=>?_) (fun h3=>?_)
 ·have h3:i<body.length:=by simpa using h3
  have hsl:=Lit.bN body i h3;have hag:=(body.getD i default).jG
  have found: ∀v,lq ((fun occ=>aY occ) ok) ((fun occ=>fun _=>false) ok) ok (body.getD i default)=some v→bL (fun occ=>aY occ) (fun occ=>fun _=>false) body occ=cP (fun occ=>aY occ) (fun occ=>fun _=>false) body (f-1+1) (ok++ [v])∧cq (bB body) (ok++ [v])≤f-1∧
    (ok++ [v]).length+cq (bB body) (ok++ [v])≤(occ++body.flatMap bh).length+cq (bB body) (occ++body.flatMap bh)∧cq (bB body) (ok++ [v])<cq (bB body) ok:=by
   intro v hv;have hf:=oe hJ h3 hv;obtain⟨g1,g2⟩:=jr hf;have hlt:=oQ g1 g2
   have hlt2:cq (bB body) (ok++ [v])=cq (bB body) (fb ok v):=by
    unfold cq;congr 2
    funext x
    congr 1;rw[Xn,bt,bt,c6,WD,Wy]
   have hf1:f-1+1=f:=by omega
   refine⟨?_,by omega,?_,by omega⟩
   ·rw[hx1,dS hf,hf1]
   ·rw[Wn,Wn,Xp];omega
  have hlk1:=bs ok (fu (aY ok) ok (body.getD i default)).1;have hct1:=fD ok (fu (aY ok) ok (body.getD i default)).1;have hlk2:=bs ok (body.getD i default).bp;have hct2:=fD ok (body.getD i default).bp;refine gA rfl (aN [0] (Va ok (body.getD i default) (by omega)) rfl rfl rfl rfl rfl rfl rfl rfl ?_);refine gA rfl ?_;refine Wl (fun h4=>?_) (fun h4=>?_)
  ·obtain⟨g1,g2,g3,g4⟩:=found _ (if_pos h4)
   refine gA rfl ?_;exact⟨⟨(_,f-1),g1,g2,g3⟩,[],g4,wk rfl rfl rfl ⟨.refl _,rfl, .refl _,rfl, .refl _,rfl, .refl _,rfl,trivial⟩ (hM rfl (by dsimp only;rw[cT];rfl) rfl trivial) rfl⟩
  ·refine gA rfl ?_
   refine Wl (fun h5=>?_) (fun h5=>?_)
   ·have h5:(body.getD i default).kind=4:=by simpa using h5
    refine gA rfl ?_;refine Wl (fun h6=>?_) (fun h6=>?_)
    ·have h6:c2 ok (body.getD i default).bp=false:=by rw[bV];simpa using h6
     refine gA rfl (an (VY (body.getD i default).agg) rfl rfl rfl rfl rfl rfl ?_);refine gA rfl ?_;refine Wl (fun h7=>?_) (fun h7=>?_)
     ·obtain⟨g1,g2,g3,g4⟩:=found _ ((if_neg (by rw[h4];simp)).trans (if_pos ⟨h5,h6,h7⟩))
      refine gA rfl ?_;exact⟨⟨(_,f-1),g1,g2,g3⟩,[],g4,wk rfl rfl rfl ⟨.refl _,rfl, .refl _,rfl, .refl _,rfl, .refl _,rfl,trivial⟩ (hM rfl (by dsimp only;rw[cT];rfl) rfl trivial) rfl⟩
     ·refine gA rfl ?_
      exact⟨h3,dc hJ h3 ((if_neg (by rw[h4];simp)).trans (if_neg (fun h=>nomatch (h.2.2.symm.trans h7)))),[],wk rfl rfl rfl ⟨.refl _,rfl, .refl _,rfl, .refl _,rfl, .refl _,rfl, .refl _,rfl, .refl _,rfl, .refl _,rfl,trivial⟩ (hM rfl rfl rfl trivial) rfl⟩
    ·have h6:c2 ok (body.getD i default).bp=true:=by rw[bV];simpa using h6
     refine gA rfl ?_;exact⟨h3,dc hJ h3 ((if_neg (by rw[h4];simp)).trans (if_neg (by rw[h6];simp))),[],wk rfl rfl rfl ⟨.refl _,rfl, .refl _,rfl, .refl _,rfl, .refl _,rfl, .refl _,rfl, .refl _,rfl, .refl _,rfl,trivial⟩ (hM rfl rfl rfl trivial) rfl⟩
   ·have h5: ¬(body.getD i default).kind=4:=by simpa using h5
    refine gA rfl ?_;exact⟨h3,dc hJ h3 ((if_neg (by rw[h4];simp)).trans (if_neg (fun h=>h5 h.1))),[],wk rfl rfl rfl ⟨.refl _,rfl, .refl _,rfl, .refl _,rfl, .refl _,rfl, .refl _,rfl, .refl _,rfl, .refl _,rfl,trivial⟩ (hM rfl rfl rfl trivial) rfl⟩
 ·have h3:body.length≤i:=by simpa using h3
  rw[WB h3] at hJ;have hcl2:bL (fun occ=>aY occ) (fun occ=>fun _=>false) body occ=ok:=by rw[hx1,dT hJ]
  refine gA rfl (az [] (by first|exact .inr rfl|exact .inl rfl) rfl (wk rfl rfl rfl ⟨.refl _,rfl,trivial⟩ (hM rfl (by rw[hcl2]) rfl trivial) rfl))
theorem U9 (occ:List aj) (l:Lit) (hb:l.size≤100000000000):cf Tryz.prog 172 [ag l.c, .cH (.func 127) [] [.ptr 1 0], .mp 0] [cj (aJ occ), .cells [.mp 0]] (.bP [pS (fu (b3 occ) occ l).1,pB (fu (b3 occ) occ l).2]) [(0,some (cj (aJ occ))),(1,some (.cells [.mp 0]))] 2:=by
 have hsz:=l.size_eq;have hl1:=bs occ l.left.var;have hl2:=bs occ l.right.var;refine aH ae Tryz.func172 rfl (by decide) Tryz.ntmps172 rfl (by simp) ?_;refine gA rfl ?_;refine Wl (fun h1=>?_) (fun h1=>?_);rotate_left
 ·have h1: ¬l.kind=3:=by simpa using h1
  refine gA rfl (az [] (by first|exact .inr rfl|exact .inl rfl) rfl (wk rfl rfl rfl ⟨.of_eq (nO (a:=(Wu,false)) (by rw[fu,if_pos (.inl h1)])),rfl,trivial⟩ (hM rfl rfl rfl ⟨⟨_,rfl, .of_eq rfl⟩,Wj rfl,rfl,trivial⟩) rfl))
 have h1:l.kind=3:=by simpa using h1
 refine gA rfl ?_;refine Wl (fun h2=>?_) (fun h2=>?_)
 ·have h2: ¬l.op=1:=by simpa using h2
  refine gA rfl (az [] (by first|exact .inr rfl|exact .inl rfl) rfl (wk rfl rfl rfl ⟨.of_eq (nO (a:=(Wu,false)) (by rw[fu,if_pos (.inr h2)])),rfl,trivial⟩ (hM rfl rfl rfl ⟨⟨_,rfl, .of_eq rfl⟩,Wj rfl,rfl,trivial⟩) rfl))
 have h2:l.op=1:=by simpa using h2
 have e1:fu (b3 occ) occ l=if l.left.kind=1∧c2 occ l.left.var=false∧(b3 occ) l.right=true then(l.left.var,true) else if l.right.kind=1∧c2 occ l.right.var=false∧(b3 occ) l.left=true then(l.right.var,true) else(Wu,false):=by
  rw[fu,if_neg (by simp[h1,h2])]
 repeat' (first
  |(refine gA rfl (Wl (fun _=>?_) (fun _=>?_)))
  |(refine gA rfl (aN [0,1] (d76 occ l.left (by omega)) rfl rfl rfl rfl rfl rfl rfl rfl ?_))
  |(refine gA rfl (aN [0,1] (d76 occ l.right (by omega)) rfl rfl rfl rfl rfl rfl rfl rfl ?_))
  |fail)
 all_goals first
  |(refine gA rfl (az [] (.inr rfl) rfl (wk rfl rfl rfl ⟨.of_eq (nO (a:=(Wu,false)) ?_),rfl,trivial⟩ (hM rfl rfl rfl ⟨⟨_,rfl, .of_eq rfl⟩,Wj rfl,rfl,trivial⟩) rfl));rw[e1];simp only[bV] at*;simp_all;done)
  |(refine gA rfl (az [] (.inr rfl) rfl (wk rfl rfl rfl ⟨.of_eq (nO (a:=(l.left.var,true)) ?_),rfl,trivial⟩ (hM rfl rfl rfl ⟨⟨_,rfl, .of_eq rfl⟩,Wj rfl,rfl,trivial⟩) rfl));rw[e1];simp only[bV] at*;simp_all;done)
  |(refine gA rfl (az [] (.inr rfl) rfl (wk rfl rfl rfl ⟨.of_eq (nO (a:=(l.right.var,true)) ?_),rfl,trivial⟩ (hM rfl rfl rfl ⟨⟨_,rfl, .of_eq rfl⟩,Wj rfl,rfl,trivial⟩) rfl));rw[e1];simp only[bV] at*;simp_all;done)
  |(exfalso;simp_all;done)
theorem VK (occ:List aj) (body:List Lit) (hb:occ.length+8*Lit.aC body≤100000000000):cf Tryz.prog 126 [.iv (lits body), .mp 0, .cH (.func 127) [] [.ptr 1 0], .cH (.func 128) [] []] [cj (aJ occ), .cells [.mp 0]] (.bP []) [(0,some (cj (aJ (bL (fun occ=>b3 occ) (fun occ=>fun _=>false) body occ)))),(1,some (.cells [.mp 0]))] 2:=by
 have hal:=Lit.aL body;have hpl:=eL body;have hcl:=iO body;have hml:=oR (bB body) (occ++body.flatMap bh);refine aH ae Tryz.func126 rfl (by decide) Tryz.ntmps126 rfl (by simp) ?_;refine gA rfl ?_
 refine aK 0 body.length (WC _) (fun i=>⟨[(0, .iv (lits body)),(1, .mp 0),(2, .cH (.func 127) [] [.ptr 1 0]),(3, .cH (.func 128) [] []),(14, .iv (lits body)),(15,pI body.length),(16,pI i)],[(0,some (cj (aJ (occ++(body.take i).flatMap bh)))),(1,some (.cells [.mp 0]))],2⟩) (fun _=>True) [] trivial
  (wk rfl rfl rfl ⟨.refl _,rfl, .refl _,rfl, .refl _,rfl, .refl _,rfl, .refl _,rfl, .refl _,rfl, .refl _,rfl,trivial⟩ (hM rfl (by simp) rfl ⟨⟨_,rfl, .of_eq rfl⟩,Wj rfl,rfl,trivial⟩) rfl) fun i hi _=>?_
 refine gA rfl ?_;refine Wl (fun h1=>?_) (fun h1=>?_)
 ·have h1:i<body.length:=by simpa using h1
  have hs:=bI (f:=bh) h1;have hn:=Lit.dd body i h1;have hv:=eL (body.take i);have hsz:=(body.getD i default).size_eq;refine gA rfl ?_;refine Wl (fun h2=>?_) (fun h2=>?_)
  ·have h2:(body.getD i default).kind=1:=by simpa using h2
   rw[show bh (body.getD i default)=_ from if_pos h2] at hs;refine gA rfl (aN [0] (d88 (occ++(body.take i).flatMap bh) (body.getD i default).atom (by rw[Wn];omega)) rfl rfl rfl rfl rfl rfl rfl rfl ?_);refine gA rfl ?_;exact⟨h1,trivial,[],wk rfl rfl rfl ⟨.refl _,rfl, .refl _,rfl, .refl _,rfl, .refl _,rfl, .refl _,rfl, .refl _,rfl, .refl _,rfl,trivial⟩ (hM rfl (by rw[hs,Wv]) rfl ⟨⟨_,rfl, .of_eq rfl⟩,Wj rfl,rfl,trivial⟩) rfl⟩
  ·have h2: ¬(body.getD i default).kind=1:=by simpa using h2
   rw[show bh (body.getD i default)=_ from if_neg h2,Xo] at hs;refine gA rfl ?_;exact⟨h1,trivial,[],wk rfl rfl rfl ⟨.refl _,rfl, .refl _,rfl, .refl _,rfl, .refl _,rfl, .refl _,rfl, .refl _,rfl, .refl _,rfl,trivial⟩ (hM rfl (by rw[hs]) rfl ⟨⟨_,rfl, .of_eq rfl⟩,Wj rfl,rfl,trivial⟩) rfl⟩
 have h1:body.length≤i:=by simpa using h1
 have e0:body.take i=body:=WB h1;rw[e0];refine gA rfl ?_
 refine mu (σ:={x:List aj×Nat//bL (fun occ=>b3 occ) (fun occ=>fun _=>false) body occ=cP (fun occ=>b3 occ) (fun occ=>fun _=>false) body (x.2+1) x.1∧cq (bB body) x.1≤x.2∧x.1.length+cq (bB body) x.1≤(occ++body.flatMap bh).length+cq (bB body) (occ++body.flatMap bh)})
  (fun x=>⟨[(0, .iv (lits body)),(1, .mp 0),(2, .cH (.func 127) [] [.ptr 1 0]),(3, .cH (.func 128) [] [])],[(0,some (cj (aJ x.1.1))),(1,some (.cells [.mp 0]))],2⟩) (fun x=>cq (bB body) x.1.1)
  ⟨(occ++body.flatMap bh,3*body.length),rfl,by dsimp only;omega,Wz _⟩ [] (wk rfl rfl rfl ⟨.refl _,rfl, .refl _,rfl, .refl _,rfl, .refl _,rfl,trivial⟩ (hM rfl rfl rfl ⟨⟨_,rfl, .of_eq rfl⟩,Wj rfl,rfl,trivial⟩) rfl) ?_
 rintro⟨⟨ok,f⟩,hx1,hx2,hx3⟩
 dsimp only at hx1 hx2 hx3 ⊢;rw[Wn] at hx3;refine gA rfl ?_
 refine aK 0 body.length (WC _) (fun i=>⟨[(0, .iv (lits body)),(1, .mp 0),(2, .cH (.func 127) [] [.ptr 1 0]),(3, .cH (.func 128) [] []),(28, .iv (lits body)),(29,pI body.length),(30,pI i)],[(0,some (cj (aJ ok))),(1,some (.cells [.mp 0]))],2⟩) (fun i=>bK ((fun occ=>b3 occ) ok) ((fun occ=>fun _=>false) ok) ok (body.take i)=none) [] rfl
  (wk rfl rfl rfl ⟨.refl _,rfl, .refl _,rfl, .refl _,rfl, .refl _,rfl, .refl _,rfl, .refl _,rfl, .refl _,rfl,trivial⟩ (hM rfl rfl rfl ⟨⟨_,rfl, .of_eq rfl⟩,Wj rfl,rfl,trivial⟩) rfl) fun i hi hJ=>?_
 refine gA rfl ?_;refine Wl (fun h3=>?_) (fun h3=>?_)
 ·have h3:i<body.length:=by simpa using h3
  have hsl:=Lit.bN body i h3;have hag:=(body.getD i default).jG
  have found: ∀v,lq ((fun occ=>b3 occ) ok) ((fun occ=>fun _=>false) ok) ok (body.getD i default)=some v→bL (fun occ=>b3 occ) (fun occ=>fun _=>false) body occ=cP (fun occ=>b3 occ) (fun occ=>fun _=>false) body (f-1+1) (ok++ [v])∧cq (bB body) (ok++ [v])≤f-1∧
    (ok++ [v]).length+cq (bB body) (ok++ [v])≤(occ++body.flatMap bh).length+cq (bB body) (occ++body.flatMap bh)∧cq (bB body) (ok++ [v])<cq (bB body) ok:=by
   intro v hv;have hf:=oe hJ h3 hv;obtain⟨g1,g2⟩:=jr hf;have hlt:=oQ g1 g2
   have hlt2:cq (bB body) (ok++ [v])=cq (bB body) (fb ok v):=by
    unfold cq;congr 2
    funext x
    congr 1;rw[Xn,bt,bt,c6,WD,Wy]
   have hf1:f-1+1=f:=by omega
   refine⟨?_,by omega,?_,by omega⟩
   ·rw[hx1,dS hf,hf1]
   ·rw[Wn,Wn,Xp];omega
  have hlk1:=bs ok (fu (b3 ok) ok (body.getD i default)).1;have hct1:=fD ok (fu (b3 ok) ok (body.getD i default)).1;have hlk2:=bs ok (body.getD i default).bp;have hct2:=fD ok (body.getD i default).bp;refine gA rfl (aN [0,1] (U9 ok (body.getD i default) (by omega)) rfl rfl rfl rfl rfl rfl rfl rfl ?_);refine gA rfl ?_;refine Wl (fun h4=>?_) (fun h4=>?_)
  ·obtain⟨g1,g2,g3,g4⟩:=found _ (if_pos h4)
   refine gA rfl ?_;exact⟨⟨(_,f-1),g1,g2,g3⟩,[],g4,wk rfl rfl rfl ⟨.refl _,rfl, .refl _,rfl, .refl _,rfl, .refl _,rfl,trivial⟩ (hM rfl (by dsimp only;rw[cT];rfl) rfl ⟨⟨_,rfl, .of_eq rfl⟩,Wj rfl,rfl,trivial⟩) rfl⟩
  ·refine gA rfl ?_
   refine Wl (fun h5=>?_) (fun h5=>?_)
   ·have h5:(body.getD i default).kind=4:=by simpa using h5
    refine gA rfl ?_;refine Wl (fun h6=>?_) (fun h6=>?_)
    ·have h6:c2 ok (body.getD i default).bp=false:=by rw[bV];simpa using h6
     refine gA rfl (an (c77 (body.getD i default).agg) rfl rfl rfl rfl rfl rfl ?_);refine gA rfl ?_;refine Wl (fun h7=>?_) (fun h7=>?_)
     ·obtain⟨g1,g2,g3,g4⟩:=found _ ((if_neg (by rw[h4];simp)).trans (if_pos ⟨h5,h6,h7⟩))
      refine gA rfl ?_;exact⟨⟨(_,f-1),g1,g2,g3⟩,[],g4,wk rfl rfl rfl ⟨.refl _,rfl, .refl _,rfl, .refl _,rfl, .refl _,rfl,trivial⟩ (hM rfl (by dsimp only;rw[cT];rfl) rfl ⟨⟨_,rfl, .of_eq rfl⟩,Wj rfl,rfl,trivial⟩) rfl⟩
     ·refine gA rfl ?_
      exact⟨h3,dc hJ h3 ((if_neg (by rw[h4];simp)).trans (if_neg (fun h=>nomatch (h.2.2.symm.trans h7)))),[],wk rfl rfl rfl ⟨.refl _,rfl, .refl _,rfl, .refl _,rfl, .refl _,rfl, .refl _,rfl, .refl _,rfl, .refl _,rfl,trivial⟩ (hM rfl rfl rfl ⟨⟨_,rfl, .of_eq rfl⟩,Wj rfl,rfl,trivial⟩) rfl⟩
    ·have h6:c2 ok (body.getD i default).bp=true:=by rw[bV];simpa using h6
     refine gA rfl ?_;exact⟨h3,dc hJ h3 ((if_neg (by rw[h4];simp)).trans (if_neg (by rw[h6];simp))),[],wk rfl rfl rfl ⟨.refl _,rfl, .refl _,rfl, .refl _,rfl, .refl _,rfl, .refl _,rfl, .refl _,rfl, .refl _,rfl,trivial⟩ (hM rfl rfl rfl ⟨⟨_,rfl, .of_eq rfl⟩,Wj rfl,rfl,trivial⟩) rfl⟩
   ·have h5: ¬(body.getD i default).kind=4:=by simpa using h5
    refine gA rfl ?_;exact⟨h3,dc hJ h3 ((if_neg (by rw[h4];simp)).trans (if_neg (fun h=>h5 h.1))),[],wk rfl rfl rfl ⟨.refl _,rfl, .refl _,rfl, .refl _,rfl, .refl _,rfl, .refl _,rfl, .refl _,rfl, .refl _,rfl,trivial⟩ (hM rfl rfl rfl ⟨⟨_,rfl, .of_eq rfl⟩,Wj rfl,rfl,trivial⟩) rfl⟩
 ·have h3:body.length≤i:=by simpa using h3
  rw[WB h3] at hJ;have hcl2:bL (fun occ=>b3 occ) (fun occ=>fun _=>false) body occ=ok:=by rw[hx1,dT hJ]
  refine gA rfl (az [] (by first|exact .inr rfl|exact .inl rfl) rfl (wk rfl rfl rfl ⟨.refl _,rfl,trivial⟩ (hM rfl (by rw[hcl2]) rfl ⟨⟨_,rfl, .of_eq rfl⟩,Wj rfl,rfl,trivial⟩) rfl))
theorem U8 (r:ak) (occ:List aj) (l:Lit) (hb:l.size≤100000000000):cf Tryz.prog 172 [ag l.c, .cH (.func 227) [.mp 0] [], .mp 0] [cj (aJ occ), .cells [.iv (b7 r)], .cells [.mp 0]] (.bP [pS (fu (aY occ) occ l).1,pB (fu (aY occ) occ l).2]) [(0,some (cj (aJ occ))),(1,some (.cells [.iv (b7 r)])),(2,some (.cells [.mp 0]))] 3:=by
 have hsz:=l.size_eq;have hl1:=bs occ l.left.var;have hl2:=bs occ l.right.var;refine aH ae Tryz.func172 rfl (by decide) Tryz.ntmps172 rfl (by simp) ?_;refine gA rfl ?_;refine Wl (fun h1=>?_) (fun h1=>?_);rotate_left
 ·have h1: ¬l.kind=3:=by simpa using h1
  refine gA rfl (az [] (by first|exact .inr rfl|exact .inl rfl) rfl (wk rfl rfl rfl ⟨.of_eq (nO (a:=(Wu,false)) (by rw[fu,if_pos (.inl h1)])),rfl,trivial⟩ (hM rfl rfl rfl ⟨⟨_,rfl, .of_eq rfl⟩,Wj rfl,rfl,⟨_,rfl, .of_eq rfl⟩,Wj rfl,rfl,trivial⟩) rfl))
 have h1:l.kind=3:=by simpa using h1
 refine gA rfl ?_;refine Wl (fun h2=>?_) (fun h2=>?_)
 ·have h2: ¬l.op=1:=by simpa using h2
  refine gA rfl (az [] (by first|exact .inr rfl|exact .inl rfl) rfl (wk rfl rfl rfl ⟨.of_eq (nO (a:=(Wu,false)) (by rw[fu,if_pos (.inr h2)])),rfl,trivial⟩ (hM rfl rfl rfl ⟨⟨_,rfl, .of_eq rfl⟩,Wj rfl,rfl,⟨_,rfl, .of_eq rfl⟩,Wj rfl,rfl,trivial⟩) rfl))
 have h2:l.op=1:=by simpa using h2
 have e1:fu (aY occ) occ l=if l.left.kind=1∧c2 occ l.left.var=false∧(aY occ) l.right=true then(l.left.var,true) else if l.right.kind=1∧c2 occ l.right.var=false∧(aY occ) l.left=true then(l.right.var,true) else(Wu,false):=by
  rw[fu,if_neg (by simp[h1,h2])]
 repeat' (first
  |(refine gA rfl (Wl (fun _=>?_) (fun _=>?_)))
  |(refine gA rfl (aN [0] (d125 occ l.left (by omega)) rfl rfl rfl rfl rfl rfl rfl rfl ?_))
  |(refine gA rfl (aN [0] (d125 occ l.right (by omega)) rfl rfl rfl rfl rfl rfl rfl rfl ?_))
  |fail)
 all_goals first
  |(refine gA rfl (az [] (.inr rfl) rfl (wk rfl rfl rfl ⟨.of_eq (nO (a:=(Wu,false)) ?_),rfl,trivial⟩ (hM rfl rfl rfl ⟨⟨_,rfl, .of_eq rfl⟩,Wj rfl,rfl,⟨_,rfl, .of_eq rfl⟩,Wj rfl,rfl,trivial⟩) rfl));rw[e1];simp only[bV] at*;simp_all;done)
  |(refine gA rfl (az [] (.inr rfl) rfl (wk rfl rfl rfl ⟨.of_eq (nO (a:=(l.left.var,true)) ?_),rfl,trivial⟩ (hM rfl rfl rfl ⟨⟨_,rfl, .of_eq rfl⟩,Wj rfl,rfl,⟨_,rfl, .of_eq rfl⟩,Wj rfl,rfl,trivial⟩) rfl));rw[e1];simp only[bV] at*;simp_all;done)
  |(refine gA rfl (az [] (.inr rfl) rfl (wk rfl rfl rfl ⟨.of_eq (nO (a:=(l.right.var,true)) ?_),rfl,trivial⟩ (hM rfl rfl rfl ⟨⟨_,rfl, .of_eq rfl⟩,Wj rfl,rfl,⟨_,rfl, .of_eq rfl⟩,Wj rfl,rfl,trivial⟩) rfl));rw[e1];simp only[bV] at*;simp_all;done)
  |(exfalso;simp_all;done)
theorem VJ (r:ak) (occ:List aj) (body:List Lit) (hb:occ.length+8*Lit.aC body≤100000000000):cf Tryz.prog 126 [.iv (lits body), .mp 0, .cH (.func 227) [.mp 0] [], .cH (.func 228) [] [.ptr 1 0, .ptr 2 0]] [cj (aJ occ), .cells [.iv (b7 r)], .cells [.mp 0]] (.bP []) [(0,some (cj (aJ (bL (fun occ=>aY occ) (fun occ=>me (aI r) occ) body occ)))),(1,some (.cells [.iv (b7 r)])),(2,some (.cells [.mp 0]))] 3:=by
 have hal:=Lit.aL body;have hpl:=eL body;have hcl:=iO body;have hml:=oR (bB body) (occ++body.flatMap bh);refine aH ae Tryz.func126 rfl (by decide) Tryz.ntmps126 rfl (by simp) ?_;refine gA rfl ?_
 refine aK 0 body.length (WC _) (fun i=>⟨[(0, .iv (lits body)),(1, .mp 0),(2, .cH (.func 227) [.mp 0] []),(3, .cH (.func 228) [] [.ptr 1 0, .ptr 2 0]),(14, .iv (lits body)),(15,pI body.length),(16,pI i)],[(0,some (cj (aJ (occ++(body.take i).flatMap bh)))),(1,some (.cells [.iv (b7 r)])),(2,some (.cells [.mp 0]))],3⟩) (fun _=>True) [] trivial
  (wk rfl rfl rfl ⟨.refl _,rfl, .refl _,rfl, .refl _,rfl, .refl _,rfl, .refl _,rfl, .refl _,rfl, .refl _,rfl,trivial⟩ (hM rfl (by simp) rfl ⟨⟨_,rfl, .of_eq rfl⟩,Wj rfl,rfl,⟨_,rfl, .of_eq rfl⟩,Wj rfl,rfl,trivial⟩) rfl) fun i hi _=>?_
 refine gA rfl ?_;refine Wl (fun h1=>?_) (fun h1=>?_)
 ·have h1:i<body.length:=by simpa using h1
  have hs:=bI (f:=bh) h1;have hn:=Lit.dd body i h1;have hv:=eL (body.take i);have hsz:=(body.getD i default).size_eq;refine gA rfl ?_;refine Wl (fun h2=>?_) (fun h2=>?_)
  ·have h2:(body.getD i default).kind=1:=by simpa using h2
   rw[show bh (body.getD i default)=_ from if_pos h2] at hs;refine gA rfl (aN [0] (d88 (occ++(body.take i).flatMap bh) (body.getD i default).atom (by rw[Wn];omega)) rfl rfl rfl rfl rfl rfl rfl rfl ?_);refine gA rfl ?_;exact⟨h1,trivial,[],wk rfl rfl rfl ⟨.refl _,rfl, .refl _,rfl, .refl _,rfl, .refl _,rfl, .refl _,rfl, .refl _,rfl, .refl _,rfl,trivial⟩ (hM rfl (by rw[hs,Wv]) rfl ⟨⟨_,rfl, .of_eq rfl⟩,Wj rfl,rfl,⟨_,rfl, .of_eq rfl⟩,Wj rfl,rfl,trivial⟩) rfl⟩
  ·have h2: ¬(body.getD i default).kind=1:=by simpa using h2
   rw[show bh (body.getD i default)=_ from if_neg h2,Xo] at hs;refine gA rfl ?_;exact⟨h1,trivial,[],wk rfl rfl rfl ⟨.refl _,rfl, .refl _,rfl, .refl _,rfl, .refl _,rfl, .refl _,rfl, .refl _,rfl, .refl _,rfl,trivial⟩ (hM rfl (by rw[hs]) rfl ⟨⟨_,rfl, .of_eq rfl⟩,Wj rfl,rfl,⟨_,rfl, .of_eq rfl⟩,Wj rfl,rfl,trivial⟩) rfl⟩
 have h1:body.length≤i:=by simpa using h1
 have e0:body.take i=body:=WB h1;rw[e0];refine gA rfl ?_
 refine mu (σ:={x:List aj×Nat//bL (fun occ=>aY occ) (fun occ=>me (aI r) occ) body occ=cP (fun occ=>aY occ) (fun occ=>me (aI r) occ) body (x.2+1) x.1∧cq (bB body) x.1≤x.2∧x.1.length+cq (bB body) x.1≤(occ++body.flatMap bh).length+cq (bB body) (occ++body.flatMap bh)})
  (fun x=>⟨[(0, .iv (lits body)),(1, .mp 0),(2, .cH (.func 227) [.mp 0] []),(3, .cH (.func 228) [] [.ptr 1 0, .ptr 2 0])],[(0,some (cj (aJ x.1.1))),(1,some (.cells [.iv (b7 r)])),(2,some (.cells [.mp 0]))],3⟩) (fun x=>cq (bB body) x.1.1)
  ⟨(occ++body.flatMap bh,3*body.length),rfl,by dsimp only;omega,Wz _⟩ [] (wk rfl rfl rfl ⟨.refl _,rfl, .refl _,rfl, .refl _,rfl, .refl _,rfl,trivial⟩ (hM rfl rfl rfl ⟨⟨_,rfl, .of_eq rfl⟩,Wj rfl,rfl,⟨_,rfl, .of_eq rfl⟩,Wj rfl,rfl,trivial⟩) rfl) ?_
 rintro⟨⟨ok,f⟩,hx1,hx2,hx3⟩
 dsimp only at hx1 hx2 hx3 ⊢;rw[Wn] at hx3;refine gA rfl ?_
 refine aK 0 body.length (WC _) (fun i=>⟨[(0, .iv (lits body)),(1, .mp 0),(2, .cH (.func 227) [.mp 0] []),(3, .cH (.func 228) [] [.ptr 1 0, .ptr 2 0]),(28, .iv (lits body)),(29,pI body.length),(30,pI i)],[(0,some (cj (aJ ok))),(1,some (.cells [.iv (b7 r)])),(2,some (.cells [.mp 0]))],3⟩) (fun i=>bK ((fun occ=>aY occ) ok) ((fun occ=>me (aI r) occ) ok) ok (body.take i)=none) [] rfl
  (wk rfl rfl rfl ⟨.refl _,rfl, .refl _,rfl, .refl _,rfl, .refl _,rfl, .refl _,rfl, .refl _,rfl, .refl _,rfl,trivial⟩ (hM rfl rfl rfl ⟨⟨_,rfl, .of_eq rfl⟩,Wj rfl,rfl,⟨_,rfl, .of_eq rfl⟩,Wj rfl,rfl,trivial⟩) rfl) fun i hi hJ=>?_
 refine gA rfl ?_;refine Wl (fun h3=>?_) (fun h3=>?_)
 ·have h3:i<body.length:=by simpa using h3
  have hsl:=Lit.bN body i h3;have hag:=(body.getD i default).jG
  have found: ∀v,lq ((fun occ=>aY occ) ok) ((fun occ=>me (aI r) occ) ok) ok (body.getD i default)=some v→bL (fun occ=>aY occ) (fun occ=>me (aI r) occ) body occ=cP (fun occ=>aY occ) (fun occ=>me (aI r) occ) body (f-1+1) (ok++ [v])∧cq (bB body) (ok++ [v])≤f-1∧
    (ok++ [v]).length+cq (bB body) (ok++ [v])≤(occ++body.flatMap bh).length+cq (bB body) (occ++body.flatMap bh)∧cq (bB body) (ok++ [v])<cq (bB body) ok:=by
   intro v hv;have hf:=oe hJ h3 hv;obtain⟨g1,g2⟩:=jr hf;have hlt:=oQ g1 g2
   have hlt2:cq (bB body) (ok++ [v])=cq (bB body) (fb ok v):=by
    unfold cq;congr 2
    funext x
    congr 1;rw[Xn,bt,bt,c6,WD,Wy]
   have hf1:f-1+1=f:=by omega
   refine⟨?_,by omega,?_,by omega⟩
   ·rw[hx1,dS hf,hf1]
   ·rw[Wn,Wn,Xp];omega
  have hlk1:=bs ok (fu (aY ok) ok (body.getD i default)).1;have hct1:=fD ok (fu (aY ok) ok (body.getD i default)).1;have hlk2:=bs ok (body.getD i default).bp;have hct2:=fD ok (body.getD i default).bp;refine gA rfl (aN [0,1,2] (U8 r ok (body.getD i default) (by omega)) rfl rfl rfl rfl rfl rfl rfl rfl ?_);refine gA rfl ?_;refine Wl (fun h4=>?_) (fun h4=>?_)
  ·obtain⟨g1,g2,g3,g4⟩:=found _ (if_pos h4)
   refine gA rfl ?_;exact⟨⟨(_,f-1),g1,g2,g3⟩,[],g4,wk rfl rfl rfl ⟨.refl _,rfl, .refl _,rfl, .refl _,rfl, .refl _,rfl,trivial⟩ (hM rfl (by dsimp only;rw[cT];rfl) rfl ⟨⟨_,rfl, .of_eq rfl⟩,Wj rfl,rfl,⟨_,rfl, .of_eq rfl⟩,Wj rfl,rfl,trivial⟩) rfl⟩
  ·refine gA rfl ?_
   refine Wl (fun h5=>?_) (fun h5=>?_)
   ·have h5:(body.getD i default).kind=4:=by simpa using h5
    refine gA rfl ?_;refine Wl (fun h6=>?_) (fun h6=>?_)
    ·have h6:c2 ok (body.getD i default).bp=false:=by rw[bV];simpa using h6
     refine gA rfl (aN [0,1,2] (d126 r ok (body.getD i default).agg (by omega)) rfl rfl rfl rfl rfl rfl rfl rfl ?_);refine gA rfl ?_;refine Wl (fun h7=>?_) (fun h7=>?_)
     ·obtain⟨g1,g2,g3,g4⟩:=found _ ((if_neg (by rw[h4];simp)).trans (if_pos ⟨h5,h6,h7⟩))
      refine gA rfl ?_;exact⟨⟨(_,f-1),g1,g2,g3⟩,[],g4,wk rfl rfl rfl ⟨.refl _,rfl, .refl _,rfl, .refl _,rfl, .refl _,rfl,trivial⟩ (hM rfl (by dsimp only;rw[cT];rfl) rfl ⟨⟨_,rfl, .of_eq rfl⟩,Wj rfl,rfl,⟨_,rfl, .of_eq rfl⟩,Wj rfl,rfl,trivial⟩) rfl⟩
     ·refine gA rfl ?_
      exact⟨h3,dc hJ h3 ((if_neg (by rw[h4];simp)).trans (if_neg (fun h=>nomatch (h.2.2.symm.trans h7)))),[],wk rfl rfl rfl ⟨.refl _,rfl, .refl _,rfl, .refl _,rfl, .refl _,rfl, .refl _,rfl, .refl _,rfl, .refl _,rfl,trivial⟩ (hM rfl rfl rfl ⟨⟨_,rfl, .of_eq rfl⟩,Wj rfl,rfl,⟨_,rfl, .of_eq rfl⟩,Wj rfl,rfl,trivial⟩) rfl⟩
    ·have h6:c2 ok (body.getD i default).bp=true:=by rw[bV];simpa using h6
     refine gA rfl ?_;exact⟨h3,dc hJ h3 ((if_neg (by rw[h4];simp)).trans (if_neg (by rw[h6];simp))),[],wk rfl rfl rfl ⟨.refl _,rfl, .refl _,rfl, .refl _,rfl, .refl _,rfl, .refl _,rfl, .refl _,rfl, .refl _,rfl,trivial⟩ (hM rfl rfl rfl ⟨⟨_,rfl, .of_eq rfl⟩,Wj rfl,rfl,⟨_,rfl, .of_eq rfl⟩,Wj rfl,rfl,trivial⟩) rfl⟩
   ·have h5: ¬(body.getD i default).kind=4:=by simpa using h5
    refine gA rfl ?_;exact⟨h3,dc hJ h3 ((if_neg (by rw[h4];simp)).trans (if_neg (fun h=>h5 h.1))),[],wk rfl rfl rfl ⟨.refl _,rfl, .refl _,rfl, .refl _,rfl, .refl _,rfl, .refl _,rfl, .refl _,rfl, .refl _,rfl,trivial⟩ (hM rfl rfl rfl ⟨⟨_,rfl, .of_eq rfl⟩,Wj rfl,rfl,⟨_,rfl, .of_eq rfl⟩,Wj rfl,rfl,trivial⟩) rfl⟩
 ·have h3:body.length≤i:=by simpa using h3
  rw[WB h3] at hJ;have hcl2:bL (fun occ=>aY occ) (fun occ=>me (aI r) occ) body occ=ok:=by rw[hx1,dT hJ]
  refine gA rfl (az [] (by first|exact .inr rfl|exact .inl rfl) rfl (wk rfl rfl rfl ⟨.refl _,rfl,trivial⟩ (hM rfl (by rw[hcl2]) rfl ⟨⟨_,rfl, .of_eq rfl⟩,Wj rfl,rfl,⟨_,rfl, .of_eq rfl⟩,Wj rfl,rfl,trivial⟩) rfl))
theorem rA:eU .eE (cj (aJ [])):=⟨id,fun M N U w j hj=>⟨#[],0,hj,⟨rfl,by simp[aJ],by simp[aJ],by simp,by simp⟩,eR M⟩⟩
def bH (r:ak):List aj:=bL (fun occ=>aY occ) (fun occ=>me (aI r) occ) r.body []
theorem U5 (r:ak) (hb:8*Lit.aC r.body≤100000000000):cf Tryz.prog 126 [.iv (lits r.body), .mp 0, .cH (.func 227) [.mp 0] [], .cH (.func 228) [] [.ptr 1 0, .ptr 2 0]] [.eE, .cells [.iv (b7 r)], .cells [.mp 0]] (.bP []) [(0,some (cj (aJ (bH r)))),(1,some (.cells [.iv (b7 r)])),(2,some (.cells [.mp 0]))] 3:=
 cf.Pv (VJ r [] r.body (by simp;omega)) ⟨rA, .refl _, .refl _,trivial⟩
theorem d73 (r:ak) (hb:8*r.size≤100000000000):cf Tryz.prog 202 [.iv (b7 r)] [] (.mp 0) [(0,some (cj (aJ (bH r))))] 1:=by
 unfold ak.size at hb;refine aH ae Tryz.func202 rfl (by decide) Tryz.ntmps202 rfl (by simp) ?_;refine gA rfl (aX ae [1,0,2] (U5 r (by omega)) rfl rfl rfl rfl rfl rfl rfl rfl rfl rfl rfl rfl (by(repeat' (first|exact trivial|exact rfl|exact ah.refl _|exact ah.bk (by assumption)|apply Wl))<;>first|omega|(simp only[Wp];omega)|(simp;done)|(simp;omega)) rfl (by(repeat' (first|exact trivial|exact rfl|exact ah.refl _|exact ah.bk (by assumption)|apply Wl))<;>first|omega|(simp only[Wp];omega)|(simp;done)|(simp;omega)) ?_);refine gA rfl (az [1] (by first|exact .inr rfl|exact .inl rfl) rfl (wk rfl rfl rfl ⟨.refl _,rfl,trivial⟩ (hM rfl rfl rfl trivial) rfl))
def Sz (p:List aj→Prop) (q:PV) (h:AH) (n:Nat):Prop:= ∃ok,p ok∧q= .mp 0∧h=[(0,some (cj (aJ ok)))]∧n=1
def DK (r:ak) (a:fg) (occ:List aj):Prop:=occ.Nodup∧ ∀x,x∈occ↔x∈a8 a∧x∈aI r
theorem uA {l m:List aj} (h:l.Nodup) (hs: ∀x∈l,x∈m):l.length≤m.length:=Xm h hs
theorem jH (a:fg):(a8 a).length≤a.size:=by
 have h1:=jU a.body;have h2:=fP a.iq;unfold a8 fg.size;rw[Wn];split
 ·rw[X4];omega
 ·omega
theorem PD (a:fg) (hb:a.size≤100000000000):cf Tryz.prog 196 [ag a.c1] [] (.mp 0) [(0,some (cj (aJ (a8 a))))] 1:=cf.le (d127 a (by omega)) ⟨a.R6,trivial⟩
theorem d161 (r:ak) (a:fg) (hb:16*a.size≤100000000000):Al.Fn Tryz.prog 203 [.iv (b7 r),ag a.c] [] (Sz fun ok=> ∃occ,DK r a occ∧ok=bL (fun occ=>aY occ) (fun _=>fun _=>false) a.body occ):=by
 have hal:=jH a;have hbs:Lit.aC a.body≤a.size:=by unfold fg.size;omega
 refine Al.Fn.le (args:=[.iv (b7 r),ag a.c1]) ?_ ⟨.refl _,a.Ac,trivial⟩;refine sZ ae Tryz.func203 rfl (by decide) Tryz.ntmps203 rfl (by simp) ?_;refine gA rfl (aN [] (PD a (by omega)) rfl rfl rfl rfl rfl rfl rfl rfl ?_);refine gA rfl ?_
 let pick:List Nat→List aj:=fun vs=>(vs.reverse.filterMap fun j=>((aJ (a8 a))[j]?).bind fun x=>if c2 (aI r) x.1 then some x.1 else none)
 refine eP (aJ (a8 a)) (fun vs=>⟨[(0, .iv (b7 r)),(3, .ptr 0 0),(5, .mp 1),(10, .ptr 3 0)],[(0,some (aE a.c1)),(1,some (cj (aJ (pick vs)))),(3,some (.bq .str s4 (aJ (a8 a)) vs none))],4⟩)
  (fun vs=>(pick vs).Nodup∧ ∀x,x∈pick vs↔x∈aI r∧ ∃j∈vs,∃y,(aJ (a8 a))[j]? =some y∧y.1=x) [] ⟨Xk,by simp[pick]⟩
  (wk rfl rfl rfl ⟨.refl _,rfl, .refl _,rfl, .refl _,rfl, .refl _,rfl,trivial⟩ (hC rfl rfl rfl (DO rfl eR rfl (hI rfl rfl (.inl rfl) rfl trivial))) rfl) fun vs hJ=>?_
 obtain⟨hJ1,hJ2⟩:=hJ
 have hpl:(pick vs).length≤(a8 a).length:=uA hJ1 fun x hx=>by
  obtain⟨_,j,_,y,h2,rfl⟩:=(hJ2 x).1 hx;exact rC h2
 refine lU rfl trivial (db rfl rfl rfl rfl rfl (by decide) (fun hall=>?_) fun j x hx hj=>?_)
 ·have hio:DK r a (pick vs):=⟨hJ1,fun x=>by
   rw[hJ2];constructor
   ·rintro⟨h1,j,h2,y,h3,rfl⟩
    exact⟨rC h3,h1⟩
   ·rintro⟨h1,h2⟩
    refine⟨h2,?_⟩;obtain⟨y,hy,rfl⟩:=W4.1 (((dz (a8 a)).2 x).2 h1);obtain⟨j,hj⟩:=W6 hy
    exact⟨j,hall j (Wr.1 hj).1,y,hj,rfl⟩⟩
  refine gA rfl (aN [1] (VL (pick vs) a.body (by omega)) rfl rfl rfl rfl rfl rfl rfl rfl ?_);refine lU rfl trivial (Av [1] (.inr rfl) rfl ⟨_,⟨pick vs,hio,rfl⟩,rfl,rfl,rfl⟩ (wk rfl rfl rfl ⟨.refl _,rfl,trivial⟩ (hM rfl rfl rfl trivial) rfl))
 ·have h5:=bV (occ:=aI r) (s:=x.1)
  have h7:=bs (aI r) x.1;have h8:=bs (pick vs) x.1;have h9:=fD (pick vs) x.1
  have fresh:x.1∉pick vs:=fun h=>by
   obtain⟨_,i,hi,y,h2,h3⟩:=(hJ2 x.1).1 h;have hnd:=(dz (a8 a)).1
   have:i=j:=by
    have hi1:=(Wr.1 h2)
    have hj1:=(Wr.1 hx)
    obtain⟨hi1,hi2⟩:=hi1;obtain⟨hj1,hj2⟩:=hj1;refine(YJ (i:=i) (j:=j) (h₀:=by rw[W3];exact hi1) (h₁:=by rw[W3];exact hj1) hnd).1 ?_;rw[Y2,Y2,hi2,hj2,h3]
   exact hj (this▸hi)
  have hpk:pick (j::vs)=pick vs++if c2 (aI r) x.1 then[x.1] else[]:=by
   simp only[pick,List.reverse_cons,Zo,Zw,List.filterMap_nil,hx,Option.bind_some];congr 1;cases c2 (aI r) x.1<;>rfl
  have step:(pick (j::vs)).Nodup∧ ∀z,z∈pick (j::vs)↔z∈aI r∧ ∃i∈j::vs,∃y,(aJ (a8 a))[i]? =some y∧y.1=z:=by
   rw[hpk];constructor
   ·split
    ·rw[XR]
     refine⟨hJ1,Xu.2 ⟨Y1,Xk⟩,fun p hp q hq e=>?_⟩;rw[Wy] at hq;exact fresh ((e.trans hq)▸hp)
    ·rw[Xo];exact hJ1
   ·intro z
    rw[WD,hJ2];constructor
    ·rintro(⟨h1,i,h2,h3⟩|h1)
     ·exact⟨h1,i,WE _ h2,h3⟩
     ·split at h1
      ·rename_i h2
       rw[Wy] at h1;exact⟨h1▸bt.1 h2,j,WM,x,hx,h1.symm⟩
      ·cases h1
    ·rintro⟨h1,i,h2,y,h3,h4⟩
     rcases WG.1 h2 with rfl|h2
     ·rw[hx] at h3;cases h3
      exact .inr (by rw[if_pos (bt.2 (h4▸h1))];simp[h4])
     ·exact .inl ⟨h1,i,h2,y,h3,h4⟩
  refine gA rfl ?_;refine Wl (fun g1=>?_) (fun g1=>?_)
  ·have g1:c2 (aI r) x.1=true:=by
    have:=of_decide_eq_true g1;rw[h5];simp;omega
   rw[g1,if_pos rfl] at hpk;refine gA rfl ?_;exact⟨j,x,hx,hj,step,[],wk rfl rfl rfl ⟨.refl _,rfl, .refl _,rfl, .refl _,rfl, .refl _,rfl,trivial⟩ (hC rfl rfl rfl (hM rfl (by rw[hpk,cT];rfl) rfl (hI rfl rfl (.inr rfl) rfl trivial))) rfl⟩
  ·have g1:c2 (aI r) x.1=false:=by
    have:=of_decide_eq_false g1;rw[h5];simp;omega
   rw[g1,if_neg (by simp),Xo] at hpk;refine gA rfl ?_;exact⟨j,x,hx,hj,step,[],wk rfl rfl rfl ⟨.refl _,rfl, .refl _,rfl, .refl _,rfl, .refl _,rfl,trivial⟩ (hC rfl rfl rfl (hM rfl (by rw[hpk]) rfl (hI rfl rfl (.inr rfl) rfl trivial))) rfl⟩
end Go.Proofs.YtflegjieadkonaaGreatDoor
namespace Go.Proofs.YtflegjieadkonaaGreatDoor
open Go Go.Al
def lP (s:aj):List UInt8:=s.data.toList
def R0 (l:List UInt8):aj:=⟨l.toArray⟩
theorem rz (s:aj):R0 (lP s)=s:=by simp[lP,R0]
theorem Jk (l:List UInt8):lP (R0 l)=l:=by simp[lP,R0]
def c5 (l:List (List UInt8)):List (List UInt8):=l.mergeSort fun x y=>decide (x≤y)
def c9 (l:List aj):List aj:=(c5 (l.map lP)).map R0
def dH:Prop:=
 (∀(aG off cap:Nat) (ss:List (List UInt8)) (w:World),Go.Sort.Holds encStr w aG off ss.toArray→aG<w.heap.size→ss.length<4611686018427387904→
  Calls Tryz.prog 91 #[.slice (some ⟨aG,off,none⟩) ss.length cap] w fun e w'=>
   e= .returned (.tuple #[])∧ ∃n os,w'=Go.Sort.grow (Go.Sort.putRow encStr (Go.Sort.ahead w n) aG off (ss.mergeSort fun x y=>decide (x≤y)).toArray) os)∧
 (∀(p:Option Addr) (cap:Nat) (w:World),Calls Tryz.prog 91 #[.slice p 0 cap] w fun e w'=>e= .returned (.tuple #[])∧w'=w)
theorem iH (l:List aj):(c9 l).length=l.length:=by simp[c9,c5]
theorem mV:c9 []=[]:=by simp[c9,c5]
theorem pE (l:List aj):(c9 l).map lP=c5 (l.map lP):=by
 unfold c9;rw[List.map_map];have:lP ∘ R0=id:=by funext x;exact Jk x
 rw[this,List.map_id]
theorem w7 {l:List aj} {k:Nat} {e:List PV} (h:(l.map fun x=>(cx x).map PV.iv)[k]? =some e): ∃s,l[k]? =some s∧e=[pS s]:=by
 rw[Ww,Wx] at h;obtain⟨s,h1,rfl⟩:=h;exact⟨s,h1,rfl⟩
theorem Ez (hS:dH) (l:List aj) (hl:l.length≤1000000000000):cf Tryz.prog 91 [.sl 0 0 l.length 1] [aD 1 l cx] (.bP []) [(0,some (aD 1 (c9 l) cx))] 1:=by
 refine⟨bM Tryz.func91 rfl (by decide),fun M N w vs hr hlen hv=>?_⟩
 obtain⟨v,rfl⟩: ∃v,vs=[v]:=by
  cases vs with
  |nil=>cases hlen
  |cons v r=>cases r with
   |nil=>exact⟨v,rfl⟩
   |cons a b=>simp at hlen
 have hv0:=hv 0 _ rfl;simp only[List.getD_cons_zero] at hv0;have hob:=hr.obj 0 _ rfl
 cases l with
 |nil=>
  have hvs:v= .slice none 0 0:=by
   generalize hq:PV.sl 0 0 ([]:List aj).length 1=q at hv0
   cases hv0 with
   |sl i off len sz cap h h0 h1 hc he=>cases hq;simp at h0
   |lQ i sz h=>rfl
   |_=>cases hq
  subst hvs;refine(hS.2 none 0 w).mono ?_
  rintro e w' ⟨rfl,rfl⟩
  refine⟨_,M,N, .bP [],_,1,rfl,⟨rfl,rfl,rfl⟩,?_,?_, .bP [] #[] rfl (by simp)⟩
  ·rw[mV];exact .refl _ _ _ _ _
  ·rw[mV];exact hr
 |cons s0 r=>
  generalize hL:s0::r=L at*
  have hpos:0<L.length:=by rw[←hL];simp
  obtain⟨cap,hvs⟩: ∃cap,v= .slice (some ⟨N.aG 0,0,none⟩) L.length cap:=by
   generalize hn:L.length=n at hv0 hpos;generalize hq:PV.sl 0 0 n 1=q at hv0
   cases hv0 with
   |sl i off len sz cap h h0 h1 hc he=>cases hq;exact⟨cap,by simp⟩
   |lQ i sz h=>cases hq;omega
   |_=>cases hq
  subst hvs;rcases hob with h0|⟨_,c,T,h1,h2,h3,h4,h5⟩
  ·rw[←hL] at h0;cases h0
  rw[W3] at h3;have hre:(aD 1 L cx).real=true:=by rw[←hL];rfl
  have hval: ∀j s,L[j]? =some s→c.getD j undef= .string s:=fun j s hj=>by
   have:=h5 j [pS s] 0 (pS s) (by rw[Ww,hj];rfl) rfl;rw[Zd,Yv] at this;generalize c.getD j undef=y at this ⊢
   cases this with
   |iv _ _ h=>cases h;rfl
  have hlt:=hr.lt (i:=0) rfl hre;have hlm:(L.map lP).length=L.length:=by simp
  have hH:Go.Sort.Holds encStr w (N.aG 0) 0 (L.map lP).toArray:=by
   intro j hj;have hj':j<L.length:=by simpa using hj
   have hjc:j<c.size:=by omega
   have:=hval j L[j] (Wt hj');rw[Wm,Xa hjc,XM] at this;constructor
   ·simp only[World.cell?,h1,WQ,Option.isSome_none,Yl,if_false]
    rw[Xa hjc,this,getElem!_pos _ j hj];simp[encStr,lP]
   ·simp[World.frozen?,h1]
  have hcall:=hS.1 (N.aG 0) 0 cap (L.map lP) w hH hlt (by omega);rw[hlm] at hcall;refine hcall.mono ?_
  rintro e w' ⟨rfl,n,os,rfl⟩
  let w1:=Go.Sort.putRow encStr (Go.Sort.ahead w n) (N.aG 0) 0 ((L.map lP).mergeSort fun x y=>decide (x≤y)).toArray
  have hsl:(c5 (L.map lP)).length=L.length:=by simp[c5]
  have hw1:Ext M N (· <1) (dC 0 [aD 1 L cx]) w M N (· <1) ((0,some (aD 1 (c9 L) cx))::dC 0 [aD 1 L cx]) w1∧Rel M N (· <1) ((0,some (aD 1 (c9 L) cx))::dC 0 [aD 1 L cx]) w1:=by
   refine hr.write (i:=0) (o0:=aD 1 L cx) rfl hre w1 (aD 1 (c9 L) cx) rfl rfl rfl ?_ ?_ ?_
   ·show(Go.Sort.putRow _ _ _ _ _).heap.size=_
    rw[Go.Sort.size_putRow];rfl
   ·intro b hb
    show((w.heap.modify (N.aG 0) _))[b]? =_;rw[W8,if_neg (fun e=>hb e.symm)]
   ·refine .inr ⟨Nat.one_pos,Go.Sort.putCells encStr 0 (c5 (L.map lP)).toArray c,T,?_,?_,?_,?_,?_⟩
    ·show((w.heap.modify (N.aG 0) _))[N.aG 0]? =_
     rw[W8,if_pos rfl,h1];rfl
    ·simp[Go.Sort.putCells,h2]
    ·rw[W3,iH];simp[Go.Sort.putCells];omega
    ·intro k e he
     obtain⟨s,_,rfl⟩:=w7 he;rfl
    ·intro k e j p he hp
     obtain⟨s,hs,rfl⟩:=w7 he
     have hj:j=0:=by
      rcases j with _|j
      ·rfl
      ·simp at hp
     subst hj;cases hp
     have hk:k<L.length:=by
      have:=(Wr.1 hs).1;rwa[iH] at this
     have hs2:(c5 (L.map lP))[k]? =some (lP s):=by
      rw[←pE,Ww,hs];rfl
     have hkc:k<c.size:=by omega
     have hval2:(Go.Sort.putCells encStr 0 (c5 (L.map lP)).toArray c).getD (k*1+0) undef= .string s:=by
      rw[Zd,Yv,Wm];simp only[Go.Sort.putCells,Array.getElem?_mapIdx];rw[Xa hkc,Xy,XM,if_pos ⟨WC _,by simp[hsl];omega⟩,Zj];rw[getElem!_pos _ k (by simp[hsl];omega)]
      have h9:(c5 (L.map lP)).toArray[k]'(by simp[hsl];omega)=lP s:=by
       rw[List.getElem_toArray];exact(Wr.1 hs2).2
      rw[h9];simp[encStr,lP]
     rw[hval2];exact .iv _ _ (.v _)
  have hw2:Rel M N (· <1) ((0,some (aD 1 (c9 L) cx))::dC 0 [aD 1 L cx]) (Go.Sort.grow w1 os):=hw1.2.more fun b hb=>by
   show(w1.heap++os)[b]? =_;rw[Xq hb]
  have hsz:w1.heap.size=w.heap.size:=by
   show(Go.Sort.putRow _ _ _ _ _).heap.size=_;rw[Go.Sort.size_putRow];rfl
  have hget: ∀i o,AH.get [(0,some (aD 1 (c9 L) cx))] i=some o→AH.get ((0,some (aD 1 (c9 L) cx))::dC 0 [aD 1 L cx]) i=some o:=by
   intro i o h;rw[AH.aA] at h ⊢;split at h
   ·rename_i h6;rw[if_pos h6];exact h
   ·simp[AH.get] at h
  refine⟨_,M,N, .bP [],_,1,rfl,⟨rfl,rfl,rfl⟩,⟨hw1.1.os,hw1.1.tape,hw1.1.output,?_,?_, .refl _,fun b c h1 h2=>(nomatch (h1.symm.trans h2)), .refl _ _,fun _ h=>h,fun i o hi=>hw1.1.fQ i o (hget i o hi)⟩,?_, .bP [] #[] rfl (by simp)⟩
  ·show w.heap.size≤(Go.Sort.grow w1 os).heap.size
   rw[Go.Sort.size_grow,hsz];omega
  ·intro b hb hn
   have h7:=hw1.1.gd b hb hn;show(w1.heap++os)[b]? =_;rw[Xq (by omega)];exact h7
  ·exact⟨hw2.cZ,fun i o hi=>hw2.used i o (hget i o hi),fun i o hi=>hw2.dA i o (hget i o hi),fun i o hi=>hw2.obj i o (hget i o hi),fun i j o p hi hj=>hw2.inj i j o p (hget i o hi) (hget j p hj)⟩
end Go.Proofs.YtflegjieadkonaaGreatDoor
namespace Go.Proofs.YtflegjieadkonaaGreatDoor
open Go Go.Al
set_option maxRecDepth 10000
theorem eG (l:List (List UInt8)):(c5 l).Perm l:=List.mergeSort_perm _ _
theorem gx (l:List (List UInt8)):(c5 l).Pairwise (fun x y=>decide (x≤y)=true):=
 List.pairwise_mergeSort (le:=fun x y=>decide (x≤y)) (fun a b c h1 h2=>by simp only[decide_eq_true_eq] at*;exact List.le_trans h1 h2)
  (fun a b=>by
   rcases List.le_total a b with h|h
   ·simp[h]
   ·simp[h]) l
theorem Bb {a b:List (List UInt8)} (h:a.Perm b) (ha:a.Pairwise (fun x y=>decide (x≤y)=true)) (hb:b.Pairwise (fun x y=>decide (x≤y)=true)):a=b:=
 List.Perm.eq_of_pairwise (fun x y _ _ h1 h2=>Zg (of_decide_eq_true h1) (of_decide_eq_true h2)) ha hb h
theorem nS {a b:List aj} (h:a.Perm b):c9 a=c9 b:=by
 unfold c9;rw[Bb (((eG _).trans (h.map lP)).trans (eG _).symm) (gx _) (gx _)]
theorem c7 {x:aj} {l:List aj}:x∈c9 l↔x∈l:=by
 unfold c9;rw[W4];constructor
 ·rintro⟨b,hb,rfl⟩
  obtain⟨s,hs,rfl⟩:=W4.1 ((eG _).mem_iff.1 hb);rwa[rz]
 ·intro h
  exact⟨lP x,(eG _).mem_iff.2 (W4.2 ⟨x,h,rfl⟩),rz x⟩
def fG (m:NM) (vs:List Nat):List aj:=vs.reverse.filterMap fun j=>(m[j]?).map (·.1)
theorem jV (m:NM) (vs:List Nat) (j:Nat) (x:(KC.str).K×Int) (h:m[j]? =some x):fG m (j::vs)=fG m vs++ [x.1]:=by
 simp[fG,Zo,h]
theorem sK (m:NM) (vs:List Nat):(fG m vs).length≤vs.length:=by
 unfold fG;have:=List.length_filterMap_le (fun j=>(m[j]?).map (·.1)) vs.reverse;rwa[List.length_reverse] at this
theorem vR (m:NM):(WL m.length).filterMap (fun j=>(m[j]?).map (·.1))=m.map (·.1):=by
 apply Yo;intro k
 have h:(WL m.length).filterMap (fun j=>(m[j]?).map (·.1))=(WL m.length).map (fun j=>(m.getD j (Wu,0)).1):=by
  rw[show(fun j=>(m.getD j (Wu,0)).1)=fun j=>(m.getD j (Wu,0)).1 from rfl]
  have key: ∀l:List Nat,(∀j∈l,j<m.length)→l.filterMap (fun j=>(m[j]?).map (·.1))=l.map (fun j=>(m.getD j (Wu,0)).1):=by
   intro l
   induction l with
   |nil=>simp
   |cons j r ih=>
    intro h;have hj:=h j WM;rw[Zw,Wt hj,ih fun k hk=>h k (WE _ hk)];simp[hj]
  exact key _ fun j hj=>WZ.1 hj
 rw[h];by_cases hk:k<m.length
 ·simp[hk]
 ·simp[hk]
theorem jh (m:NM) (vs:List Nat) (hn:vs.Nodup) (hb: ∀j∈vs,j<m.length) (hall: ∀j,j<m.length→j∈vs):(fG m vs).Perm (m.map (·.1)):=by
 rw[←vR];unfold fG;apply List.Perm.filterMap;refine(List.reverse_perm _).trans ?_;rw[List.perm_ext_iff_of_nodup hn List.nodup_range];intro j;rw[WZ];exact⟨hb j,hall j⟩
def ew (m:NM):List aj:=c9 (m.map (·.1))
theorem sA {vs:List Nat} {n:Nat} (h:vs.Nodup) (hb: ∀j∈vs,j<n):vs.length≤n:=by
 have:=Xm h (l₂:=WL n) fun j hj=>WZ.2 (hb j hj);rwa[Yp] at this
theorem r7 (σ:Nat→Nat) (l:List aj):(l.map fun x=>(cx x).map PV.iv).map (dJ σ)=l.map fun x=>(cx x).map PV.iv:=by
 simp only[List.map_map,cx,WI,Xd];rfl
theorem c51 (hS:dH) (m:NM) (hm:m.length≤100000000):Pure Tryz.prog 112 [.iv (ov m)] (.iv (strs (ew m))):=by
 refine ax ae Tryz.func112 rfl (by decide) Tryz.ntmps112 rfl (by simp) rfl ?_;refine gA rfl ?_;refine jW 3 1 rfl ?_
 refine eP m (fun vs=>⟨[(3, .sl 2 0 (fG m vs).length 1),(6, .ptr 0 0)],[(0,some (.bq .str s4 m vs none)),(2,some (aD 1 (fG m vs) cx))],3⟩) (fun vs=>vs.Nodup∧ ∀j∈vs,j<m.length) [1] ⟨Xk,by simp⟩
  (wk rfl rfl rfl ⟨.refl _,rfl, .refl _,rfl,trivial⟩ (hI rfl rfl (.inl rfl) rfl (hR rfl rfl rfl trivial)) rfl) fun vs hJ=>?_
 obtain⟨hJ1,hJ2⟩:=hJ;have hvl:=sA hJ1 hJ2;have hkl:=sK m vs;refine lU rfl trivial (db rfl rfl rfl rfl rfl (by decide) (fun hall=>?_) fun j x hx hj=>?_)
 ·refine lU rfl trivial (aN [2] (Ez hS (fG m vs) (by omega)) rfl rfl rfl rfl rfl (congrArg (fun o=> [some o]) (cm _).symm) rfl rfl ?_)
  refine lU rfl trivial (gj (.inr rfl) rfl rfl ((r7 _ _).trans (by rw[ew,nS (jh m vs hJ1 hJ2 hall)])) ?_);rw[ew,iH,←(jh m vs hJ1 hJ2 hall).length_eq]
 ·have hk:=jV m vs j x hx
  refine gA rfl ?_;exact⟨j,x,hx,hj,⟨Xu.2 ⟨hj,hJ1⟩,fun i hi=>(WG.1 hi).elim (fun h=>h▸(Wr.1 hx).1) (hJ2 i)⟩,[4],wk rfl rfl rfl ⟨.row (by rw[hk,Wn];rfl),rfl, .refl _,rfl,trivial⟩ (hI rfl rfl (.inr rfl) rfl (hR rfl (by rw[hk,Wq];rfl) rfl trivial)) rfl⟩
theorem JR {P:Program} {k:FuncId} {kc:KC} {V:Type} {e:V→IV} {z:V} {zv:Value} {dv:PV→V} {m:List (kc.K×V)} {y:IV} (h:Al.Pure P k [.iv (.dK kc e z zv m)] (.iv y)):cf P k [.mp 0] [.map kc e z zv dv m] (.iv y) [] 1:=by
 refine⟨h.1,fun M N w vs hr hl hv=>?_⟩;obtain⟨M1,h1,h2,h3,h4⟩:=o9 (n:=1) hr (i:=0) rfl;have hr2:Rel M1 N (· <0) (dC 0 []) w:=⟨h2.cZ,fun i o hi=>(nomatch hi),fun i o hi=>(nomatch hi),fun i o hi=>(nomatch hi),fun i j o p hi=>(nomatch hi)⟩
 refine(h.2 M1 N w vs hr2 hl fun j p hj=>?_).mono ?_
 ·cases j with
  |zero=>
   cases hj;have:=h4 _ _ (hv 0 _ rfl);generalize vs.getD 0 undef=x at this ⊢
   cases this with
   |iv _ _ h=>exact .iv _ _ h
  |succ j=>cases hj
 ·rintro _ w' ⟨x,M',N',r,h',n',rfl,⟨rfl,rfl,rfl⟩,hx,hrr,hvr⟩
  refine⟨x,M',N, .iv y,[],1,rfl,⟨rfl,rfl,rfl⟩,?_,⟨hrr.cZ,fun i o hi=>(nomatch hi),fun i o hi=>(nomatch hi),fun i o hi=>(nomatch hi),fun i j o p hi=>(nomatch hi)⟩,?_⟩
  ·refine⟨hx.os,hx.tape,hx.output,hx.size,fun b hb hn=>hx.gd b hb fun i o hi=>(nomatch hi),h1.ow.trans hx.ow,fun b c g1 g2=>?_, .refl _ _,fun _ h=>h,fun i o hi=>(nomatch hi)⟩
   cases g3:M1 b with
   |some c'=>exact h1.gn b c' g1 g3
   |none=>
    rcases hx.gn b c g3 g2 with g4|⟨i,o,g4,_⟩
    ·exact .inl g4
    ·exact nomatch g4
  ·cases hvr with
   |iv _ _ h=>exact .iv _ _ h
theorem VQ (hS:dH) (m:NM) (hm:m.length≤100000000):cf Tryz.prog 112 [.mp 0] [cj m] (.iv (strs (ew m))) [] 1:=JR (c51 hS m hm)
theorem qS: ∀{m:NM} (_:(m.map (·.1)).Nodup) (k:aj),lT .str m k=m.filter fun x=>!decide (x.1=k)
 | [],_,k=>rfl
 |(a,b)::r,h,k=>by
  rw[WI,Xu] at h;by_cases hk:a=k
  ·subst hk
   have:r.filter (fun x=>!decide (x.1=a))=r:=Zx.2 fun x hx=>by
    have:x.1≠a:=fun e=>h.1 (e▸W4.2 ⟨x,hx,rfl⟩);simp[this]
   simp[lT,this]
  ·have ih:=qS h.2 k
   simp[lT,hk,ih]
theorem tK {m:NM} {p:(KC.str).K×Int→Bool} (h:(m.map (·.1)).Nodup):((m.filter p).map (·.1)).Nodup:=h.sublist ((Y6).map _)
theorem mF: ∀(ks:List aj) {m:NM} (_:(m.map (·.1)).Nodup),ks.foldl (fun m k=>lT .str m k) m=m.filter fun x=>!c2 ks x.1
 | [],m,h=>(Zx.2 fun _ _=>rfl).symm
 |k::r,m,h=>by
  rw[Xf,qS h,mF r (tK h),List.filter_filter];congr 1
  funext x
  by_cases hk:x.1=k
  ·simp[c2,hk]
  ·have: ¬k=x.1:=fun e=>hk e.symm
   simp[c2,hk,this]
def kG (r:ak) (a:fg):NM:=(aJ (a8 a)).filter fun x=>!c2 (aI r) x.1
theorem kC (l:List aj):(aJ l).length≤l.length:=by
 have h:=dz l;have:=uA h.1 fun x hx=>(h.2 x).1 hx;rwa[W3] at this
theorem d79 (r:ak) (a:fg) (hb:a.size≤100000000000):cf Tryz.prog 191 [.iv (b7 r),ag a.c] [] (.mp 0) [(0,some (cj (kG r a)))] 1:=by
 refine cf.le (args:=[.iv (b7 r),ag a.c1]) ?_ ⟨.refl _,a.Ac,trivial⟩;have hal:=jH a;have hkd:=(dz (a8 a)).1;refine aH ae Tryz.func191 rfl (by decide) Tryz.ntmps191 rfl (by simp) ?_;refine gA rfl (aN [] (PD a (by omega)) rfl rfl rfl rfl rfl rfl rfl rfl ?_);refine gA rfl ?_
 refine eP (aJ (aI r)) (fun vs=>⟨[(5, .mp 1),(13, .ptr 2 0)],[(1,some (cj ((fG (aJ (aI r)) vs).foldl (fun m k=>lT .str m k) (aJ (a8 a))))),(2,some (.bq .str s4 (aJ (aI r)) vs none))],3⟩)
  (fun vs=>vs.Nodup∧ ∀j∈vs,j<(aJ (aI r)).length) [] ⟨Xk,by simp⟩
  (wk rfl rfl rfl ⟨.refl _,rfl, .refl _,rfl,trivial⟩ (hM rfl rfl rfl (hI rfl rfl (.inl rfl) rfl trivial)) rfl) fun vs hJ=>?_
 obtain⟨hJ1,hJ2⟩:=hJ;refine lU rfl trivial (db rfl rfl rfl rfl rfl (by decide) (fun hall=>?_) fun j x hx hj=>?_)
 ·have hlm:(fG (aJ (aI r)) vs).foldl (fun m k=>lT .str m k) (aJ (a8 a))=kG r a:=by
   rw[mF _ hkd];unfold kG;congr 1
   funext x
   congr 1;rw[Xn,bt,bt,(jh _ vs hJ1 hJ2 hall).mem_iff];exact(dz (aI r)).2 x.1
  rw[hlm];refine gA rfl (az [1] (by first|exact .inr rfl|exact .inl rfl) rfl (wk rfl rfl rfl ⟨.refl _,rfl,trivial⟩ (hM rfl rfl rfl trivial) rfl))
 ·have hk:=jV (aJ (aI r)) vs j x hx
  refine gA rfl ?_;exact⟨j,x,hx,hj,⟨Xu.2 ⟨hj,hJ1⟩,fun i hi=>(WG.1 hi).elim (fun h=>h▸(Wr.1 hx).1) (hJ2 i)⟩,[],wk rfl rfl rfl ⟨.refl _,rfl, .refl _,rfl,trivial⟩ (hM rfl (by rw[hk,Ye];rfl) rfl (hI rfl rfl (.inr rfl) rfl trivial)) rfl⟩
theorem qT {may:List aj→Expr→Bool} {more:List aj→fg→Bool} {body:List Lit}: ∀(n:Nat) (occ:List aj),(cP may more body n occ).length≤occ.length+n
 |0,occ=>Wz _
 |n+1,occ=>by
  cases h:bK (may occ) (more occ) occ body with
  |none=>rw[dT h];omega
  |some v=>
   rw[dS h];have:=qT (may:=may) (more:=more) (body:=body) n (occ++ [v]);rw[Wn,Xp] at this;omega
theorem qW {may:List aj→Expr→Bool} {more:List aj→fg→Bool} {body:List Lit} (occ:List aj):(bL may more body occ).length≤occ.length+4*Lit.aC body+1:=by
 have h1:=qT (may:=may) (more:=more) (body:=body) (3*body.length+1) (occ++body.flatMap bh);have h2:=eL body;have h3:=Lit.aL body;rw[Wn] at h1;unfold bL;omega
theorem y4 (r:ak):(bH r).length≤4*Lit.aC r.body+1:=by
 have:=qW (may:=fun occ=>aY occ) (more:=fun occ=>me (aI r) occ) (body:=r.body) [];rw[X4] at this;unfold bH;omega
def nB (r:ak):List aj:=bL (fun occ=>b3 occ) (fun _=>fun _=>false) r.body []
theorem Bu (r:ak):(nB r).length≤4*Lit.aC r.body+1:=by
 have:=qW (may:=fun occ=>b3 occ) (more:=fun _=>fun _=>false) (body:=r.body) [];rw[X4] at this;unfold nB;omega
theorem U6 (r:ak) (hb:8*Lit.aC r.body≤100000000000):cf Tryz.prog 126 [.iv (lits r.body), .mp 0, .cH (.func 127) [] [.ptr 1 0], .cH (.func 128) [] []] [.eE, .cells [.mp 0]] (.bP []) [(0,some (cj (aJ (nB r)))),(1,some (.cells [.mp 0]))] 2:=
 cf.Pv (VK [] r.body (by simp;omega)) ⟨rA, .refl _,trivial⟩
theorem c33 (hS:dH) (r:ak) (hb:r.size≤10000000):Pure Tryz.prog 98 [ag r.c] (.iv (strs (ew (aJ (nB r))))):=by
 have h1:=kC (nB r);have h2:=Bu r;have h3:Lit.aC r.body≤r.size:=YO _ _;refine ax ae Tryz.func98 rfl (by decide) Tryz.ntmps98 rfl (by simp) rfl ?_;refine gA rfl ?_;refine gA rfl (aN [1,2] (U6 r (by omega)) rfl rfl rfl rfl rfl rfl rfl rfl ?_);refine gA rfl (aN [1] (VQ hS (aJ (nB r)) (by omega)) rfl rfl rfl rfl rfl rfl rfl rfl ?_);refine gA rfl (aw (by first|exact .inr rfl|exact .inl rfl) rfl (.of_eq ?_));rfl
def vN (r:ak) (lit:Int):List aj:=if lit<0∨(r.body.length:Int)≤lit∨ ¬(au r lit).kind=4 then[] else ew (kG r (au r lit).agg)
theorem ql {P:Program} {k:FuncId} {args:List PV} {os:List AO} {r:PV} {h:AH} {n0:Nat} (hc:kW P k) {n:Nat} (hn: ∃sz el,PV.iv (.cz sz n el)∈args) (hh:n≤maxLen→cf P k args os r h n0):cf P k args os r h n0:=D8 hc hn hh
def oW {α:Type} (p:α→Bool) (l:List α):Int:=match l.findIdx? p with
 |some i=>i
 |none=> -1
theorem fN {α:Type} {p:α→Bool} {l:List α} (h:l.any p=false):oW p l= -1:=by
 have:l.findIdx? p=none:=by
  rw[Y9];intro x hx;have:=Xg.1 h x hx;simpa using this
 rw[oW,this]
theorem hD {α:Type} [Inhabited α] {p:α→Bool} {l:List α} {i:Nat} (h:(l.take i).any p=false) (hi:i<l.length) (hp:p (l.getD i default)=true):oW p l=i:=by
 have:l.findIdx? p=some i:=by
  rw[YS];have hg:l.getD i default=l[i]:=by simp[hi]
  refine⟨hi,hg▸hp,fun j hj=>?_⟩;have:=Xg.1 h l[j] (List.mem_iff_getElem?.2 ⟨j,by rw[W7,if_pos hj,Wt (by omega)]⟩);simpa using this
 rw[oW,this]
theorem hP {α:Type} (p:α→Bool) (l:List α):decide (oW p l≥0)=l.any p:=by
 unfold oW
 cases h:l.findIdx? p with
 |none=>
  have:=Y9.1 h;have:l.any p=false:=Xg.2 fun x hx=>by simp[this x hx]
  rw[this];rfl
 |some i=>
  obtain⟨h1,h2,_⟩:=YS.1 h;rw[Xr.2 ⟨_,Xj h1,h2⟩];simp
theorem Dj {a b:Int} (h:a=b):pI a=pI b:=by rw[h]
theorem V4 (x:Int):Pure Tryz.prog 155 [pI x] (pB (!decide (x=1)&&!decide (x=2))):=by
 refine ax ae Tryz.func155 rfl (by decide) Tryz.ntmps155 rfl (by simp) rfl ?_
 repeat' (first
  |(refine gA rfl (Wl (fun _=>?_) (fun _=>?_)))
  |(refine gA rfl (aw (by first|exact .inr rfl|exact .inl rfl) rfl (.of_eq ?_))))
 all_goals(refine(lL ?_:pB _=pB _);simp_all)
theorem V3 (t:Term):Pure Tryz.prog 194 [ag t.c] (pB (decide (t.kind=3))):=by
 refine ax ae Tryz.func194 rfl (by decide) Tryz.ntmps194 rfl (by simp) rfl ?_;refine gA rfl (aw (by first|exact .inr rfl|exact .inl rfl) rfl (.of_eq ?_));rfl
theorem V2 (t:Lit):Pure Tryz.prog 195 [ag t.c] (pB (decide (t.kind=4))):=by
 refine ax ae Tryz.func195 rfl (by decide) Tryz.ntmps195 rfl (by simp) rfl ?_;refine gA rfl (aw (by first|exact .inr rfl|exact .inl rfl) rfl (.of_eq ?_));rfl
def gv (v:tx):Int:=if v.kind=1 then(if v.sym=Wu∧ -2147483647≤v.num∧v.num≤2147483647 then 0 else 20) else if v.kind=2 then(if v.num=0∧v.sym.size≤64 then 0 else 20) else 20
theorem V5 (v:tx):Pure Tryz.prog 261 [ag v.c] (pI (gv v)):=by
 refine ax ae Tryz.func261 rfl (by decide) Tryz.ntmps261 rfl (by simp) rfl ?_
 repeat' (first
  |(refine gA rfl (Wl (fun _=>?_) (fun _=>?_)))
  |(refine gA rfl (aw (by first|exact .inr rfl|exact .inl rfl) rfl (.of_eq ?_))))
 all_goals(refine(Dj ?_:pI _=pI _);have hE:(⟨#[]⟩:ByteArray)=Wu:=rfl;simp_all [gv];try omega)
def Decl.z:Decl:=⟨Wu,[],⟨0,0⟩⟩
def AD (d:Decl):IV:= .agg d.c
def Ek:Value:= .agg #[.string Wu, .slice none 0 0, .int .i64 0, .int .i64 0]
def intOf:List IV→Int
 | [.v (.int .i64 n)]=>n
 |_=>0
def VF:PV→Decl
 | .agg [.iv (.v (.string s)), .iv (.cz _ n el), .iv (.v (.int _ a)), .iv (.v (.int _ b))]=>⟨s,(WL n).map fun k=>intOf (el k),⟨a,b⟩⟩
 |_=>Decl.z
abbrev DM:=List ((KC.str).K×Decl)
abbrev PA (m:DM):AO:= .map .str AD Decl.z Ek VF m
abbrev U3 (m:DM):IV:= .dK .str AD Decl.z Ek m
theorem Pz (d:Decl):VF (ag d.c)=d:=by
 show(⟨d.name,(WL d.types.length).map fun k=>intOf (fH (d.types.getD k default)),⟨d.at_.line,d.at_.Ch⟩⟩:Decl)=d
 have:(WL d.types.length).map (fun k=>intOf (fH (d.types.getD k default)))=d.types:=by
  apply Yo;intro k;by_cases hk:k<d.types.length
  ·simp[hk,intOf,fH]
  ·simp[hk]
 rw[this]
theorem Ej: ∀M,IR M (AD Decl.z) Ek:=fun M=>by
 refine .agg _ _ rfl fun j p hj=>?_
 match j,hj with
 |0,hj=>cases hj;exact .v _
 |1,hj=>cases hj;exact .gp _ _ _ _
 |2,hj=>cases hj;exact .v _
 |3,hj=>cases hj;exact .v _
 |j+4,hj=>simp[Decl.c] at hj
theorem agI (l:List IV):ah (ag l) (.iv (.agg l)):=by
 intro M N U x h;generalize hq:ag l=q at h
 cases h with
 |agg cs ys hl hr=>
  cases hq;refine .iv _ _ (.agg _ _ (by simpa using hl) fun j p hj=>?_);have:=hr j (.iv p) (by rw[Ww,hj];rfl);generalize ys.getD j undef=y at this ⊢
  cases this with
  |iv _ _ h=>exact h
 |_=>cases hq
theorem El (d:Decl):ah (ag d.c) (.iv (AD (VF (ag d.c)))):=by rw[Pz];exact agI _
def iB (m:DM) (d:Decl):DM:=if eO .str m d.name=true then m else bS .str m d.name d
def uk (p:Prog):DM:=p.ar.foldl iB []
abbrev cC (p:Prog):IV:=U3 (uk p)
theorem sd {V:Type}: ∀(m:List ((KC.str).K×V)) (k:aj) (v:V),(bS .str m k v).length≤m.length+1
 | [],_,_=>by simp[bS]
 |(a,b)::r,k,v=>by
  have:=sd r k v;simp only[bS];split
  ·simp
  ·simp only[W2];omega
theorem d50 (p:Prog) (hb:p.ar.length≤1000000000000):cf Tryz.prog 124 [ag p.c] [] (.mp 0) [(0,some (PA (uk p)))] 1:=by
 refine aH ae Tryz.func124 rfl (by decide) Tryz.ntmps124 rfl (by simp) ?_;refine gA rfl ?_
 refine aK 0 p.ar.length (WC _) (fun i=>⟨[(3, .mp 1),(13, .iv (cM 4 p.ar Decl.c)),(14,pI p.ar.length),(15,pI i)],[(1,some (PA ((p.ar.take i).foldl iB [])))],2⟩) (fun _=>True) [] trivial
  (wk rfl rfl rfl ⟨.refl _,rfl, .refl _,rfl, .refl _,rfl, .refl _,rfl,trivial⟩ (DO rfl Ej rfl trivial) rfl) fun i hi _=>?_
 refine gA rfl ?_;refine Wl (fun h1=>?_) (fun h1=>?_)
 ·have h1:i<p.ar.length:=by simpa using h1
  have hs:=iL (g:=iB) (b:=[]) h1;refine gA rfl ?_;refine Wl (fun h2=>?_) (fun h2=>?_)
  ·have h2:eO .str ((p.ar.take i).foldl iB []) (p.ar.getD i default).name=false:=by simpa using h2
   rw[iB,if_neg (by rw[h2];simp)] at hs;refine lU rfl ?_ ?_
   ·repeat' (first|exact trivial|exact rfl|exact El _|exact ah.refl _|apply Wl)
    all_goals omega
   exact⟨h1,trivial,[],wk rfl rfl rfl ⟨.refl _,rfl, .refl _,rfl, .refl _,rfl, .refl _,rfl,trivial⟩ (hM rfl (by rw[hs,←Pz (p.ar.getD i default)];rfl) rfl trivial) rfl⟩
  ·have h2:eO .str ((p.ar.take i).foldl iB []) (p.ar.getD i default).name=true:=by simpa using h2
   rw[iB,if_pos h2] at hs;refine gA rfl ?_;exact⟨h1,trivial,[],wk rfl rfl rfl ⟨.refl _,rfl, .refl _,rfl, .refl _,rfl, .refl _,rfl,trivial⟩ (hM rfl (by rw[hs]) rfl trivial) rfl⟩
 ·have h1:p.ar.length≤i:=by simpa using h1
  rw[WB h1];refine gA rfl (az [1] (by first|exact .inr rfl|exact .inl rfl) rfl (wk rfl rfl rfl ⟨.refl _,rfl,trivial⟩ (hM rfl rfl rfl trivial) rfl))
def pt (p:Prog) (a:Atom):Bool:=!eO .str (uk p) a.rel
def ju (p:Prog) (s:aj):Decl:=bG .str (uk p) s Decl.z
def rm (p:Prog) (a:Atom):Bool:=!decide ((a.aq.length:Int)=((ju p a.rel).types.length:Int))
theorem d113 (p:Prog) (a:Atom):cf Tryz.prog 163 [ag a.c, .ptr 0 0] [.cells [.iv (cC p)]] (pB (pt p a)) [(0,some (.cells [.iv (cC p)]))] 1:=by
 refine aH ae Tryz.func163 rfl (by decide) Tryz.ntmps163 rfl (by simp) ?_;refine gA rfl (az [] (by first|exact .inr rfl|exact .inl rfl) rfl (wk rfl rfl rfl ⟨.of_eq rfl,rfl,trivial⟩ ⟨⟨_,rfl, .of_eq rfl⟩,Wj rfl,rfl,trivial⟩ rfl))
theorem d115 (p:Prog) (a:Atom):cf Tryz.prog 165 [ag a.c, .ptr 0 0] [.cells [.iv (cC p)]] (pB (rm p a)) [(0,some (.cells [.iv (cC p)]))] 1:=by
 refine aH ae Tryz.func165 rfl (by decide) Tryz.ntmps165 rfl (by simp) ?_;refine gA rfl (az [] (by first|exact .inr rfl|exact .inl rfl) rfl (wk rfl rfl rfl ⟨.of_eq rfl,rfl,trivial⟩ ⟨⟨_,rfl, .of_eq rfl⟩,Wj rfl,rfl,trivial⟩ rfl))
theorem i187 (l:List Int):cf Tryz.prog 186 [.iv (cM 1 l fH), .cH (.func 155) [] []] [] (pI (oW (fun x=>!decide (x=1)&&!decide (x=2)) l)) [] 0:=by
 refine ql (bM Tryz.func186 rfl (by decide)) ⟨_,_,WM⟩ fun hlen=>?_;simp only[maxLen] at hlen;refine aH ae Tryz.func186 rfl (by decide) Tryz.ntmps186 rfl (by simp) ?_;refine gA rfl ?_
 refine aK 0 l.length (WC _) (fun i=>⟨[(0, .iv (cM 1 l fH)),(1, .cH (.func 155) [] []),(7,pI l.length),(8,pI i)],[],0⟩) (fun i=>(l.take i).any (fun x=>!decide (x=1)&&!decide (x=2))=false) [] (by simp)
  (wk rfl rfl rfl ⟨.refl _,rfl, .refl _,rfl, .refl _,rfl, .refl _,rfl,trivial⟩ trivial rfl) fun i hi hJ=>?_
 refine gA rfl ?_;refine Wl (fun h1=>?_) (fun h1=>?_)
 ·have h1:i<l.length:=by simpa using h1
  refine gA rfl (an (V4 (l.getD i default)) rfl rfl rfl rfl rfl rfl ?_);refine gA rfl ?_;refine Wl (fun h2=>?_) (fun h2=>?_)
  ·have h2:(fun x=>!decide (x=1)&&!decide (x=2)) (l.getD i default)=true:=h2
   rw[hD hJ h1 h2];refine gA rfl (az [] (by first|exact .inr rfl|exact .inl rfl) rfl (wk rfl rfl rfl ⟨.refl _,rfl,trivial⟩ trivial rfl))
  ·have h2:(fun x=>!decide (x=1)&&!decide (x=2)) (l.getD i default)=false:=h2
   refine gA rfl ?_;exact⟨h1,(cN hJ h1).2 h2,[],wk rfl rfl rfl ⟨.refl _,rfl, .refl _,rfl, .refl _,rfl, .refl _,rfl,trivial⟩ trivial rfl⟩
 ·have h1:l.length≤i:=by simpa using h1
  rw[fN (any_none hJ h1)];refine gA rfl (az [] (by first|exact .inr rfl|exact .inl rfl) rfl (wk rfl rfl rfl ⟨.refl _,rfl,trivial⟩ trivial rfl))
theorem d153 (l:List Int):cf Tryz.prog 154 [.iv (cM 1 l fH), .cH (.func 155) [] []] [] (pB (l.any (fun x=>!decide (x=1)&&!decide (x=2)))) [] 0:=by
 refine aH ae Tryz.func154 rfl (by decide) Tryz.ntmps154 rfl (by simp) ?_;refine gA rfl (aN [] (i187 l) rfl rfl rfl rfl rfl rfl rfl rfl ?_);refine gA rfl (az [] (by first|exact .inr rfl|exact .inl rfl) rfl (wk rfl rfl rfl ⟨.of_eq (lL (hP _ l)),rfl,trivial⟩ trivial rfl))
theorem i191 (l:List Term):cf Tryz.prog 224 [.iv (cM 5 l Term.c), .cH (.func 194) [] []] [] (pI (oW (fun x:Term=>decide (x.kind=3)) l)) [] 0:=by
 refine ql (bM Tryz.func224 rfl (by decide)) ⟨_,_,WM⟩ fun hlen=>?_;simp only[maxLen] at hlen;refine aH ae Tryz.func224 rfl (by decide) Tryz.ntmps224 rfl (by simp) ?_;refine gA rfl ?_
 refine aK 0 l.length (WC _) (fun i=>⟨[(0, .iv (cM 5 l Term.c)),(1, .cH (.func 194) [] []),(7,pI l.length),(8,pI i)],[],0⟩) (fun i=>(l.take i).any (fun x:Term=>decide (x.kind=3))=false) [] (by simp)
  (wk rfl rfl rfl ⟨.refl _,rfl, .refl _,rfl, .refl _,rfl, .refl _,rfl,trivial⟩ trivial rfl) fun i hi hJ=>?_
 refine gA rfl ?_;refine Wl (fun h1=>?_) (fun h1=>?_)
 ·have h1:i<l.length:=by simpa using h1
  refine gA rfl (an (V3 (l.getD i default)) rfl rfl rfl rfl rfl rfl ?_);refine gA rfl ?_;refine Wl (fun h2=>?_) (fun h2=>?_)
  ·have h2:(fun x:Term=>decide (x.kind=3)) (l.getD i default)=true:=h2
   rw[hD hJ h1 h2];refine gA rfl (az [] (by first|exact .inr rfl|exact .inl rfl) rfl (wk rfl rfl rfl ⟨.refl _,rfl,trivial⟩ trivial rfl))
  ·have h2:(fun x:Term=>decide (x.kind=3)) (l.getD i default)=false:=h2
   refine gA rfl ?_;exact⟨h1,(cN hJ h1).2 h2,[],wk rfl rfl rfl ⟨.refl _,rfl, .refl _,rfl, .refl _,rfl, .refl _,rfl,trivial⟩ trivial rfl⟩
 ·have h1:l.length≤i:=by simpa using h1
  rw[fN (any_none hJ h1)];refine gA rfl (az [] (by first|exact .inr rfl|exact .inl rfl) rfl (wk rfl rfl rfl ⟨.refl _,rfl,trivial⟩ trivial rfl))
theorem d157 (l:List Term):cf Tryz.prog 193 [.iv (cM 5 l Term.c), .cH (.func 194) [] []] [] (pB (l.any (fun x:Term=>decide (x.kind=3)))) [] 0:=by
 refine aH ae Tryz.func193 rfl (by decide) Tryz.ntmps193 rfl (by simp) ?_;refine gA rfl (aN [] (i191 l) rfl rfl rfl rfl rfl rfl rfl rfl ?_);refine gA rfl (az [] (by first|exact .inr rfl|exact .inl rfl) rfl (wk rfl rfl rfl ⟨.of_eq (lL (hP _ l)),rfl,trivial⟩ trivial rfl))
theorem i192 (l:List Lit):cf Tryz.prog 130 [.iv (cM 30 l Lit.c), .cH (.func 195) [] []] [] (pI (oW (fun x:Lit=>decide (x.kind=4)) l)) [] 0:=by
 refine ql (bM Tryz.func130 rfl (by decide)) ⟨_,_,WM⟩ fun hlen=>?_;simp only[maxLen] at hlen;refine aH ae Tryz.func130 rfl (by decide) Tryz.ntmps130 rfl (by simp) ?_;refine gA rfl ?_
 refine aK 0 l.length (WC _) (fun i=>⟨[(0, .iv (cM 30 l Lit.c)),(1, .cH (.func 195) [] []),(7,pI l.length),(8,pI i)],[],0⟩) (fun i=>(l.take i).any (fun x:Lit=>decide (x.kind=4))=false) [] (by simp)
  (wk rfl rfl rfl ⟨.refl _,rfl, .refl _,rfl, .refl _,rfl, .refl _,rfl,trivial⟩ trivial rfl) fun i hi hJ=>?_
 refine gA rfl ?_;refine Wl (fun h1=>?_) (fun h1=>?_)
 ·have h1:i<l.length:=by simpa using h1
  refine gA rfl (an (V2 (l.getD i default)) rfl rfl rfl rfl rfl rfl ?_);refine gA rfl ?_;refine Wl (fun h2=>?_) (fun h2=>?_)
  ·have h2:(fun x:Lit=>decide (x.kind=4)) (l.getD i default)=true:=h2
   rw[hD hJ h1 h2];refine gA rfl (az [] (by first|exact .inr rfl|exact .inl rfl) rfl (wk rfl rfl rfl ⟨.refl _,rfl,trivial⟩ trivial rfl))
  ·have h2:(fun x:Lit=>decide (x.kind=4)) (l.getD i default)=false:=h2
   refine gA rfl ?_;exact⟨h1,(cN hJ h1).2 h2,[],wk rfl rfl rfl ⟨.refl _,rfl, .refl _,rfl, .refl _,rfl, .refl _,rfl,trivial⟩ trivial rfl⟩
 ·have h1:l.length≤i:=by simpa using h1
  rw[fN (any_none hJ h1)];refine gA rfl (az [] (by first|exact .inr rfl|exact .inl rfl) rfl (wk rfl rfl rfl ⟨.refl _,rfl,trivial⟩ trivial rfl))
theorem d159 (l:List Lit):cf Tryz.prog 101 [.iv (cM 30 l Lit.c), .cH (.func 195) [] []] [] (pB (l.any (fun x:Lit=>decide (x.kind=4)))) [] 0:=by
 refine aH ae Tryz.func101 rfl (by decide) Tryz.ntmps101 rfl (by simp) ?_;refine gA rfl (aN [] (i192 l) rfl rfl rfl rfl rfl rfl rfl rfl ?_);refine gA rfl (az [] (by first|exact .inr rfl|exact .inl rfl) rfl (wk rfl rfl rfl ⟨.of_eq (lL (hP _ l)),rfl,trivial⟩ trivial rfl))
theorem UT (p:Prog) (l:List Atom):cf Tryz.prog 192 [.iv (cM 2 l Atom.c), .cH (.func 163) [] [.ptr 0 0]] [.cells [.iv (cC p)]] (pI (oW (fun x:Atom=>pt p x) l)) [(0,some (.cells [.iv (cC p)]))] 1:=by
 refine ql (bM Tryz.func192 rfl (by decide)) ⟨_,_,WM⟩ fun hlen=>?_;simp only[maxLen] at hlen;refine aH ae Tryz.func192 rfl (by decide) Tryz.ntmps192 rfl (by simp) ?_;refine gA rfl ?_
 refine aK 0 l.length (WC _) (fun i=>⟨[(0, .iv (cM 2 l Atom.c)),(1, .cH (.func 163) [] [.ptr 0 0]),(7,pI l.length),(8,pI i)],[(0,some (.cells [.iv (cC p)]))],1⟩) (fun i=>(l.take i).any (fun x:Atom=>pt p x)=false) [] (by simp)
  (wk rfl rfl rfl ⟨.refl _,rfl, .refl _,rfl, .refl _,rfl, .refl _,rfl,trivial⟩ ⟨⟨_,rfl, .of_eq rfl⟩,Wj rfl,rfl,trivial⟩ rfl) fun i hi hJ=>?_
 refine gA rfl ?_;refine Wl (fun h1=>?_) (fun h1=>?_)
 ·have h1:i<l.length:=by simpa using h1
  refine gA rfl (aN [0] (d113 p (l.getD i default)) rfl rfl rfl rfl rfl rfl rfl rfl ?_);refine gA rfl ?_;refine Wl (fun h2=>?_) (fun h2=>?_)
  ·have h2:(fun x:Atom=>pt p x) (l.getD i default)=true:=h2
   rw[hD hJ h1 h2];refine gA rfl (az [] (by first|exact .inr rfl|exact .inl rfl) rfl (wk rfl rfl rfl ⟨.refl _,rfl,trivial⟩ ⟨⟨_,rfl, .of_eq rfl⟩,Wj rfl,rfl,trivial⟩ rfl))
  ·have h2:(fun x:Atom=>pt p x) (l.getD i default)=false:=h2
   refine gA rfl ?_;exact⟨h1,(cN hJ h1).2 h2,[],wk rfl rfl rfl ⟨.refl _,rfl, .refl _,rfl, .refl _,rfl, .refl _,rfl,trivial⟩ ⟨⟨_,rfl, .of_eq rfl⟩,Wj rfl,rfl,trivial⟩ rfl⟩
 ·have h1:l.length≤i:=by simpa using h1
  rw[fN (any_none hJ h1)];refine gA rfl (az [] (by first|exact .inr rfl|exact .inl rfl) rfl (wk rfl rfl rfl ⟨.refl _,rfl,trivial⟩ ⟨⟨_,rfl, .of_eq rfl⟩,Wj rfl,rfl,trivial⟩ rfl))
theorem Vc (p:Prog) (l:List Atom):cf Tryz.prog 161 [.iv (cM 2 l Atom.c), .cH (.func 163) [] [.ptr 0 0]] [.cells [.iv (cC p)]] (pB (l.any (fun x:Atom=>pt p x))) [(0,some (.cells [.iv (cC p)]))] 1:=by
 refine aH ae Tryz.func161 rfl (by decide) Tryz.ntmps161 rfl (by simp) ?_;refine gA rfl (aN [0] (UT p l) rfl rfl rfl rfl rfl rfl rfl rfl ?_);refine gA rfl (az [] (by first|exact .inr rfl|exact .inl rfl) rfl (wk rfl rfl rfl ⟨.of_eq (lL (hP _ l)),rfl,trivial⟩ ⟨⟨_,rfl, .of_eq rfl⟩,Wj rfl,rfl,trivial⟩ rfl))
theorem US (p:Prog) (l:List Atom):cf Tryz.prog 192 [.iv (cM 2 l Atom.c), .cH (.func 165) [] [.ptr 0 0]] [.cells [.iv (cC p)]] (pI (oW (fun x:Atom=>rm p x) l)) [(0,some (.cells [.iv (cC p)]))] 1:=by
 refine ql (bM Tryz.func192 rfl (by decide)) ⟨_,_,WM⟩ fun hlen=>?_;simp only[maxLen] at hlen;refine aH ae Tryz.func192 rfl (by decide) Tryz.ntmps192 rfl (by simp) ?_;refine gA rfl ?_
 refine aK 0 l.length (WC _) (fun i=>⟨[(0, .iv (cM 2 l Atom.c)),(1, .cH (.func 165) [] [.ptr 0 0]),(7,pI l.length),(8,pI i)],[(0,some (.cells [.iv (cC p)]))],1⟩) (fun i=>(l.take i).any (fun x:Atom=>rm p x)=false) [] (by simp)
  (wk rfl rfl rfl ⟨.refl _,rfl, .refl _,rfl, .refl _,rfl, .refl _,rfl,trivial⟩ ⟨⟨_,rfl, .of_eq rfl⟩,Wj rfl,rfl,trivial⟩ rfl) fun i hi hJ=>?_
 refine gA rfl ?_;refine Wl (fun h1=>?_) (fun h1=>?_)
 ·have h1:i<l.length:=by simpa using h1
  refine gA rfl (aN [0] (d115 p (l.getD i default)) rfl rfl rfl rfl rfl rfl rfl rfl ?_);refine gA rfl ?_;refine Wl (fun h2=>?_) (fun h2=>?_)
  ·have h2:(fun x:Atom=>rm p x) (l.getD i default)=true:=h2
   rw[hD hJ h1 h2];refine gA rfl (az [] (by first|exact .inr rfl|exact .inl rfl) rfl (wk rfl rfl rfl ⟨.refl _,rfl,trivial⟩ ⟨⟨_,rfl, .of_eq rfl⟩,Wj rfl,rfl,trivial⟩ rfl))
  ·have h2:(fun x:Atom=>rm p x) (l.getD i default)=false:=h2
   refine gA rfl ?_;exact⟨h1,(cN hJ h1).2 h2,[],wk rfl rfl rfl ⟨.refl _,rfl, .refl _,rfl, .refl _,rfl, .refl _,rfl,trivial⟩ ⟨⟨_,rfl, .of_eq rfl⟩,Wj rfl,rfl,trivial⟩ rfl⟩
 ·have h1:l.length≤i:=by simpa using h1
  rw[fN (any_none hJ h1)];refine gA rfl (az [] (by first|exact .inr rfl|exact .inl rfl) rfl (wk rfl rfl rfl ⟨.refl _,rfl,trivial⟩ ⟨⟨_,rfl, .of_eq rfl⟩,Wj rfl,rfl,trivial⟩ rfl))
theorem Vb (p:Prog) (l:List Atom):cf Tryz.prog 161 [.iv (cM 2 l Atom.c), .cH (.func 165) [] [.ptr 0 0]] [.cells [.iv (cC p)]] (pB (l.any (fun x:Atom=>rm p x))) [(0,some (.cells [.iv (cC p)]))] 1:=by
 refine aH ae Tryz.func161 rfl (by decide) Tryz.ntmps161 rfl (by simp) ?_;refine gA rfl (aN [0] (US p l) rfl rfl rfl rfl rfl rfl rfl rfl ?_);refine gA rfl (az [] (by first|exact .inr rfl|exact .inl rfl) rfl (wk rfl rfl rfl ⟨.of_eq (lL (hP _ l)),rfl,trivial⟩ ⟨⟨_,rfl, .of_eq rfl⟩,Wj rfl,rfl,trivial⟩ rfl))
def cy (l:Lit):List Atom:=if l.kind=1∨l.kind=2 then[l.atom] else[]
theorem n4: ∀l:List Lit,(l.flatMap cy).length≤l.length
 | []=>by simp
 |x::r=>by
  have h1:=n4 r;have h2:(cy x).length≤1:=by unfold cy;split<;>simp
  simp only[XA,Wn,W2];omega
def vO (r:ak) (lit:Int):List Lit:=if(au r lit).kind=4 then(au r lit).ay else[au r lit]
def ep (r:ak) (lit:Int):List Atom:=if lit<0 then[r.head] else(vO r lit).flatMap cy
theorem J7 (r:ak) (lit:Int) (h:0≤lit):ke (.cz 30 ((lit+1).toNat-lit.toNat) (fun j=>(r.body.getD (lit.toNat+j) default).c)) (lits [au r lit]):=by
 have e:(lit+1).toNat-lit.toNat=1:=by omega
 rw[e]
 exact .cz rfl (fun j hj=>by
  have:j=0:=by omega
  subst this;rfl)
theorem Ve (r:ak) (lit:Int) (h1:lit<r.body.length) (hb:r.size≤1000000000000):Pure Tryz.prog 162 [ag r.c,pI lit] (.iv (cM 2 (ep r lit) Atom.c)):=by
 have hbl:=Lit.aL r.body;have h0:Lit.aC r.body≤r.size:=YO _ _;refine ax ae Tryz.func162 rfl (by decide) Tryz.ntmps162 rfl (by simp) rfl ?_;refine gA rfl ?_;refine Wl (fun h2=>?_) (fun h2=>?_)
 ·have h2:lit<0:=by simpa using h2
  refine gA rfl (gj (by first|exact .inr rfl|exact .inl rfl) rfl rfl (by rw[ep,if_pos h2];rfl) (by rw[ep,if_pos h2];rfl))
 have h2: ¬lit<0:=by simpa using h2
 have hk:lit.toNat<r.body.length:=by omega
 have hsz:=Lit.bN r.body lit.toNat hk;have hse:=(au r lit).size_eq;have hsl:=Lit.aL (au r lit).ay;have hle:(au r lit).size≤Lit.aC r.body:=hsz;refine gA rfl ?_;refine Wl (fun h3=>?_) (fun h3=>?_)
 ·have h3:(au r lit).kind=4:=by simpa[au] using h3
  have hat:ep r lit=(au r lit).ay.flatMap cy:=by rw[ep,if_neg h2,vO,if_pos h3]
  refine gA rfl ?_;refine jW 6 2 rfl ?_
  refine aK 0 ((au r lit).ay).length (WC _) (fun i=>⟨[(6, .sl 2 0 ((((au r lit).ay).take i).flatMap cy).length 2),(30, .iv (lits ((au r lit).ay))),(31,pI ((au r lit).ay).length),(32,pI i)],[(2,some (aD 2 ((((au r lit).ay).take i).flatMap cy) Atom.c))],3⟩) (fun _=>True) [1] trivial
   (wk rfl rfl rfl ⟨.refl _,rfl, .iv (mn _),rfl, .refl _,rfl, .refl _,rfl,trivial⟩ (hR rfl rfl rfl trivial) rfl) fun i hi _=>?_
  have hpl:=n4 (((au r lit).ay).take i);have htl:(((au r lit).ay).take i).length≤((au r lit).ay).length:=by rw[Xb];exact ZD _ _
  have hLb:((au r lit).ay).length≤1000000000000:=by first|omega|(rw[Xp];omega)
  refine gA rfl ?_;refine Wl (fun h4=>?_) (fun h4=>?_)
  ·have h4:i<((au r lit).ay).length:=Xe.1 (of_decide_eq_true h4)
   have hs:=bI (f:=cy) h4;have hyes:((((au r lit).ay).getD i default).kind=1∨(((au r lit).ay).getD i default).kind=2)→(((au r lit).ay).take (i+1)).flatMap cy=(((au r lit).ay).take i).flatMap cy++ [(((au r lit).ay).getD i default).atom]:=fun h=>by rw[hs,cy,if_pos h]
   have hno: ¬((((au r lit).ay).getD i default).kind=1∨(((au r lit).ay).getD i default).kind=2)→(((au r lit).ay).take (i+1)).flatMap cy=(((au r lit).ay).take i).flatMap cy:=fun h=>by rw[hs,cy,if_neg h,Xo]
   refine gA rfl ?_;refine Wl (fun h5=>?_) (fun h5=>?_)
   ·have h5: ¬(((au r lit).ay).getD i default).kind=1:=by simpa using h5
    refine gA rfl ?_;refine Wl (fun h6=>?_) (fun h6=>?_)
    ·have h6:(((au r lit).ay).getD i default).kind=2:=by simpa using h6
     have hs:=hyes (.inr h6);refine gA rfl ?_;exact⟨h4,trivial,[5],wk rfl rfl rfl ⟨.row (by rw[hs,Wn];rfl),rfl, .refl _,rfl, .refl _,rfl, .refl _,rfl,trivial⟩ (hR rfl (by rw[hs,Wq];rfl) rfl trivial) rfl⟩
    ·have h6: ¬(((au r lit).ay).getD i default).kind=2:=by simpa using h6
     have hs:=hno (fun h=>h.elim h5 h6);refine gA rfl ?_;exact⟨h4,trivial,[2],wk rfl rfl rfl ⟨.row (by rw[hs]),rfl, .refl _,rfl, .refl _,rfl, .refl _,rfl,trivial⟩ (hR rfl (by rw[hs]) rfl trivial) rfl⟩
   ·have h5:(((au r lit).ay).getD i default).kind=1:=by simpa using h5
    have hs:=hyes (.inl h5);refine gA rfl ?_;exact⟨h4,trivial,[5],wk rfl rfl rfl ⟨.row (by rw[hs,Wn];rfl),rfl, .refl _,rfl, .refl _,rfl, .refl _,rfl,trivial⟩ (hR rfl (by rw[hs,Wq];rfl) rfl trivial) rfl⟩
  ·have h4:((au r lit).ay).length≤i:=Xc fun hh=>absurd (Xe.2 hh) (of_decide_eq_false h4)
   rw[WB h4] at*
   refine gA rfl (gj (by first|exact .inr rfl|exact .inl rfl) rfl rfl (by rw[hat]) (by rw[hat]))
 ·have h3: ¬(au r lit).kind=4:=by simpa[au] using h3
  have hat:ep r lit=[au r lit].flatMap cy:=by rw[ep,if_neg h2,vO,if_neg h3]
  refine gA rfl ?_;refine jW 6 2 rfl ?_
  refine aK 0 ([au r lit]).length (WC _) (fun i=>⟨[(6, .sl 2 0 ((([au r lit]).take i).flatMap cy).length 2),(30, .iv (lits ([au r lit]))),(31,pI ([au r lit]).length),(32,pI i)],[(2,some (aD 2 ((([au r lit]).take i).flatMap cy) Atom.c))],3⟩) (fun _=>True) [1] trivial
   (wk rfl rfl rfl ⟨.refl _,rfl, .iv (J7 r lit (by omega)),rfl, .of_eq (Dj (by simp only[Xp];omega)),rfl, .refl _,rfl,trivial⟩ (hR rfl rfl rfl trivial) rfl) fun i hi _=>?_
  have hpl:=n4 (([au r lit]).take i);have htl:(([au r lit]).take i).length≤([au r lit]).length:=by rw[Xb];exact ZD _ _
  have hLb:([au r lit]).length≤1000000000000:=by first|omega|(rw[Xp];omega)
  refine gA rfl ?_;refine Wl (fun h4=>?_) (fun h4=>?_)
  ·have h4:i<([au r lit]).length:=Xe.1 (of_decide_eq_true h4)
   have hs:=bI (f:=cy) h4;have hyes:((([au r lit]).getD i default).kind=1∨(([au r lit]).getD i default).kind=2)→(([au r lit]).take (i+1)).flatMap cy=(([au r lit]).take i).flatMap cy++ [(([au r lit]).getD i default).atom]:=fun h=>by rw[hs,cy,if_pos h]
   have hno: ¬((([au r lit]).getD i default).kind=1∨(([au r lit]).getD i default).kind=2)→(([au r lit]).take (i+1)).flatMap cy=(([au r lit]).take i).flatMap cy:=fun h=>by rw[hs,cy,if_neg h,Xo]
   refine gA rfl ?_;refine Wl (fun h5=>?_) (fun h5=>?_)
   ·have h5: ¬(([au r lit]).getD i default).kind=1:=by simpa using h5
    refine gA rfl ?_;refine Wl (fun h6=>?_) (fun h6=>?_)
    ·have h6:(([au r lit]).getD i default).kind=2:=by simpa using h6
     have hs:=hyes (.inr h6);refine gA rfl ?_;exact⟨h4,trivial,[5],wk rfl rfl rfl ⟨.row (by rw[hs,Wn];rfl),rfl, .refl _,rfl, .refl _,rfl, .refl _,rfl,trivial⟩ (hR rfl (by rw[hs,Wq];rfl) rfl trivial) rfl⟩
    ·have h6: ¬(([au r lit]).getD i default).kind=2:=by simpa using h6
     have hs:=hno (fun h=>h.elim h5 h6);refine gA rfl ?_;exact⟨h4,trivial,[2],wk rfl rfl rfl ⟨.row (by rw[hs]),rfl, .refl _,rfl, .refl _,rfl, .refl _,rfl,trivial⟩ (hR rfl (by rw[hs]) rfl trivial) rfl⟩
   ·have h5:(([au r lit]).getD i default).kind=1:=by simpa using h5
    have hs:=hyes (.inl h5);refine gA rfl ?_;exact⟨h4,trivial,[5],wk rfl rfl rfl ⟨.row (by rw[hs,Wn];rfl),rfl, .refl _,rfl, .refl _,rfl, .refl _,rfl,trivial⟩ (hR rfl (by rw[hs,Wq];rfl) rfl trivial) rfl⟩
  ·have h4:([au r lit]).length≤i:=Xc fun hh=>absurd (Xe.2 hh) (of_decide_eq_false h4)
   rw[WB h4] at*
   refine gA rfl (gj (by first|exact .inr rfl|exact .inl rfl) rfl rfl (by rw[hat]) (by rw[hat]))
theorem d110 (p:Prog) (r:ak) (lit:Int) (h1:lit<r.body.length) (hb:r.size≤1000000000000):cf Tryz.prog 160 [pI lit, .ptr 0 0, .ptr 1 0] [aE r.c, .cells [.iv (cC p)]] (pB ((ep r lit).any fun x=>pt p x)) [(0,some (aE r.c)),(1,some (.cells [.iv (cC p)]))] 2:=by
 refine aH ae Tryz.func160 rfl (by decide) Tryz.ntmps160 rfl (by simp) ?_;refine gA rfl (an (Ve r lit h1 hb) rfl rfl rfl rfl rfl rfl ?_);refine gA rfl (aN [1] (Vc p (ep r lit)) rfl rfl rfl rfl rfl rfl rfl rfl ?_);refine gA rfl (az [] (by first|exact .inr rfl|exact .inl rfl) rfl (wk rfl rfl rfl ⟨.refl _,rfl,trivial⟩ (hC rfl rfl rfl ⟨⟨_,rfl, .of_eq rfl⟩,Wj rfl,rfl,trivial⟩) rfl))
theorem d114 (p:Prog) (r:ak) (lit:Int) (h1:lit<r.body.length) (hb:r.size≤1000000000000):cf Tryz.prog 164 [pI lit, .ptr 0 0, .ptr 1 0] [aE r.c, .cells [.iv (cC p)]] (pB ((ep r lit).any fun x=>rm p x)) [(0,some (aE r.c)),(1,some (.cells [.iv (cC p)]))] 2:=by
 refine aH ae Tryz.func164 rfl (by decide) Tryz.ntmps164 rfl (by simp) ?_;refine gA rfl (an (Ve r lit h1 hb) rfl rfl rfl rfl rfl rfl ?_);refine gA rfl (aN [1] (Vb p (ep r lit)) rfl rfl rfl rfl rfl rfl rfl rfl ?_);refine gA rfl (az [] (by first|exact .inr rfl|exact .inl rfl) rfl (wk rfl rfl rfl ⟨.refl _,rfl,trivial⟩ (hC rfl rfl rfl ⟨⟨_,rfl, .of_eq rfl⟩,Wj rfl,rfl,trivial⟩) rfl))
def lf (r:ak) (lit:Int):Bool:=if lit<0 then r.head.aq.any fun x=>decide (x.kind=3) else if(au r lit).kind=4 then((au r lit).ay.any fun x=>decide (x.kind=4))||c2 (a8 (au r lit).agg) (au r lit).bp else false
theorem V8 (r:ak) (lit:Int) (h1:lit<r.body.length) (hb:r.size≤100000000):Pure Tryz.prog 167 [ag r.c,pI lit] (pB (lf r lit)):=by
 have hbl:=Lit.aL r.body;have h0:Lit.aC r.body≤r.size:=YO _ _;refine ax ae Tryz.func167 rfl (by decide) Tryz.ntmps167 rfl (by simp) rfl ?_;refine gA rfl ?_;refine Wl (fun h2=>?_) (fun h2=>?_)
 ·have h2:lit<0:=by simpa using h2
  refine gA rfl (aN [] (d157 r.head.aq) rfl rfl rfl rfl rfl rfl rfl rfl ?_);refine gA rfl (aw (by first|exact .inr rfl|exact .inl rfl) rfl (.of_eq ?_));rw[lf,if_pos h2];rfl
 have h2: ¬lit<0:=by simpa using h2
 have hk:lit.toNat<r.body.length:=by omega
 have hsz:=Lit.bN r.body lit.toNat hk;have hag:=(au r lit).jG;have hle:(au r lit).size≤Lit.aC r.body:=hsz;have hal:=jH (au r lit).agg;refine gA rfl ?_;refine Wl (fun h3=>?_) (fun h3=>?_)
 ·have h3: ¬(au r lit).kind=4:=by simpa[au] using h3
  refine gA rfl (aw (by first|exact .inr rfl|exact .inl rfl) rfl (.of_eq ?_));rw[lf,if_neg h2,if_neg h3]
 have h3:(au r lit).kind=4:=by simpa[au] using h3
 refine gA rfl (aN [] (cf.le (aa:=[.iv (ti (au r lit).ay), .cH (.func 195) [] []]) (d159 (au r lit).ay) ⟨.iv (mn _), .refl _,trivial⟩) rfl rfl rfl rfl rfl rfl rfl rfl ?_);refine gA rfl ?_;refine Wl (fun h4=>?_) (fun h4=>?_);rotate_left
 ·have h4:((au r lit).ay.any fun x=>decide (x.kind=4))=false:=h4
  have hlk:=bs (a8 (au r lit).agg) (au r lit).bp;have hct:=bV (occ:=a8 (au r lit).agg) (s:=(au r lit).bp);refine gA rfl (aX ae [] (d127 (au r lit).agg (by omega)) rfl rfl rfl rfl rfl rfl rfl rfl rfl rfl rfl rfl (by(repeat' (first|exact trivial|exact rfl|exact ah.refl _|exact ah.bk (by assumption)|apply Wl))<;>first|omega|(simp only[Wp];omega)|(simp;done)|(simp;omega)) rfl (by(repeat' (first|exact trivial|exact rfl|exact ah.refl _|exact ah.bk (by assumption)|apply Wl))<;>first|omega|(simp only[Wp];omega)|(simp;done)|(simp;omega)) ?_);refine gA rfl (aw (by first|exact .inr rfl|exact .inl rfl) rfl (.of_eq ?_));refine(lL ?_:pB (decide (bG .str (aJ (a8 (au r lit).agg)) (au r lit).bp 0>0))=_);rw[lf,if_neg h2,if_pos h3,h4,hct,hlk,Yb];by_cases hz:oj (a8 (au r lit).agg) (au r lit).bp=0<;>simp[hz];omega
 ·have h4:((au r lit).ay.any fun x=>decide (x.kind=4))=true:=h4
  refine gA rfl (aw (by first|exact .inr rfl|exact .inl rfl) rfl (.of_eq ?_));rw[lf,if_neg h2,if_pos h3,h4];rfl
theorem d116 (r:ak) (lit:Int) (h1:lit<r.body.length) (hb:r.size≤100000000):cf Tryz.prog 166 [pI lit, .ptr 0 0] [aE r.c] (pB (lf r lit)) [(0,some (aE r.c))] 1:=by
 refine aH ae Tryz.func166 rfl (by decide) Tryz.ntmps166 rfl (by simp) ?_;refine gA rfl (an (V8 r lit h1 hb) rfl rfl rfl rfl rfl rfl ?_);refine gA rfl (az [] (by first|exact .inr rfl|exact .inl rfl) rfl (wk rfl rfl rfl ⟨.refl _,rfl,trivial⟩ (hC rfl rfl rfl trivial) rfl))
def pR (r:ak) (lit:Int):Pos:=if lit<0 then r.at_ else(au r lit).at
theorem EA (r:ak) (lit:Int) (h1:lit<r.body.length):Pure Tryz.prog 171 [ag r.c,pI lit] (ag [iI (pR r lit).line,iI (pR r lit).Ch]):=by
 refine ax ae Tryz.func171 rfl (by decide) Tryz.ntmps171 rfl (by simp) rfl ?_;refine gA rfl ?_;refine Wl (fun h2=>?_) (fun h2=>?_)
 ·have h2:lit<0:=by simpa using h2
  refine gA rfl (aw (by first|exact .inr rfl|exact .inl rfl) rfl (.of_eq ?_));rw[pR,if_pos h2];rfl
 have h2: ¬lit<0:=by simpa using h2
 refine gA rfl (aw (by first|exact .inr rfl|exact .inl rfl) rfl (.of_eq ?_));rw[pR,if_neg h2];rfl
def lx (r:ak) (l:Lit):Nat:=if l.kind=4 then(kG r l.agg).length else 0
def CP (r:ak):Nat:=r.body.foldl (fun n l=>n+lx r l) (aJ (aI r)).length
theorem uF (r:ak) (l:Lit):lx r l≤l.size:=by
 unfold lx;split
 ·have h1:(kG r l.agg).length≤(aJ (a8 l.agg)).length:=XB _ _
  have h2:=kC (a8 l.agg);have h3:=jH l.agg;have h4:=l.jG;omega
 ·omega
theorem wP (r:ak): ∀(l:List Lit) (n:Nat),l.foldl (fun n l=>n+lx r l) n≤n+Lit.aC l
 | [],n=>by simp
 |x::t,n=>by
  have h1:=wP r t (n+lx r x);have h2:=uF r x;simp only[Xf,Lit.aC];omega
theorem V9 (r:ak) (hb:r.size≤100000000):Pure Tryz.prog 159 [.iv (b7 r)] (pI (CP r)):=by
 have hbl:=Lit.aL r.body;have h0:Lit.aC r.body≤r.size:=YO _ _;have ho:=vC r;have ho2:=kC (aI r);refine ax ae Tryz.func159 rfl (by decide) Tryz.ntmps159 rfl (by simp) rfl ?_;refine gA rfl ?_
 refine aK 0 r.body.length (WC _) (fun i=>⟨[(0, .iv (b7 r)),(3,pI (((r.body.take i).foldl (fun n l=>n+lx r l) (aJ (aI r)).length:Nat))),(15, .iv (lits r.body)),(16,pI r.body.length),(17,pI i)],[],0⟩) (fun _=>True) [] trivial
  (wk rfl rfl rfl ⟨.refl _,rfl, .refl _,rfl, .refl _,rfl, .refl _,rfl, .refl _,rfl,trivial⟩ trivial rfl) fun i hi _=>?_
 have hs1:=wP r (r.body.take i) (aJ (aI r)).length;have hs2:=Lit.k9 r.body i;refine gA rfl ?_;refine Wl (fun h1=>?_) (fun h1=>?_)
 ·have h1:i<r.body.length:=by simpa using h1
  have hs:=iL (g:=fun n l=>n+lx r l) (b:=(aJ (aI r)).length) h1;have hsz:=Lit.bN r.body i h1;have hag:=(r.body.getD i default).jG;have hll:=uF r (r.body.getD i default);refine gA rfl ?_;refine Wl (fun h2=>?_) (fun h2=>?_)
  ·have h2:(r.body.getD i default).kind=4:=by simpa using h2
   rw[lx,if_pos h2] at hs hll;refine gA rfl (aN [] (d79 r (r.body.getD i default).agg (by omega)) rfl rfl rfl rfl rfl rfl rfl rfl ?_);refine gA rfl ?_;exact⟨h1,trivial,[],wk rfl rfl rfl ⟨.refl _,rfl, .of_eq (Dj (by rw[hs];rfl)),rfl, .refl _,rfl, .refl _,rfl, .refl _,rfl,trivial⟩ trivial rfl⟩
  ·have h2: ¬(r.body.getD i default).kind=4:=by simpa using h2
   rw[lx,if_neg h2] at hs;refine gA rfl ?_;exact⟨h1,trivial,[],wk rfl rfl rfl ⟨.refl _,rfl, .of_eq (Dj (by rw[hs];rfl)),rfl, .refl _,rfl, .refl _,rfl, .refl _,rfl,trivial⟩ trivial rfl⟩
 ·have h1:r.body.length≤i:=by simpa using h1
  refine gA rfl (aw (by first|exact .inr rfl|exact .inl rfl) rfl (.of_eq ?_));rw[WB h1];rfl
end Go.Proofs.YtflegjieadkonaaGreatDoor
namespace Go.Proofs.YtflegjieadkonaaGreatDoor
open Go Go.Al
set_option maxRecDepth 10000
section
variable {may:List aj→Expr→Bool} {more:List aj→fg→Bool} {body:List Lit}
theorem qU: ∀(n:Nat) (occ:List aj),cq (bB body) occ<n→bK (may (cP may more body n occ)) (more (cP may more body n occ)) (cP may more body n occ) body=none
 |0,occ,h=>by omega
 |n+1,occ,h=>by
  cases hv:bK (may occ) (more occ) occ body with
  |none=>rw[dT hv];exact hv
  |some v=>
   rw[dS hv];refine qU n _ ?_;obtain⟨g1,g2⟩:=jr hv;have hlt:=oQ g1 g2
   have hlt2:cq (bB body) (occ++ [v])=cq (bB body) (fb occ v):=by
    unfold cq;congr 2
    funext x
    congr 1;rw[Xn,bt,bt,c6,WD,Wy]
   omega
theorem qX (occ:List aj):bK (may (bL may more body occ)) (more (bL may more body occ)) (bL may more body occ) body=none:=by
 refine qU _ _ ?_;have h1:=oR (bB body) (occ++body.flatMap bh);have h2:=iO body;omega
theorem mK: ∀(n:Nat) (occ:List aj),∀x∈occ,x∈cP may more body n occ
 |0,occ,x,h=>h
 |n+1,occ,x,h=>by
  cases hv:bK (may occ) (more occ) occ body with
  |none=>rw[dT hv];exact h
  |some v=>rw[dS hv];exact mK n _ x (W0 _ h)
theorem mA {m1:Expr→Bool} {m2:fg→Bool} {occ:List aj}: ∀{l:List Lit},bK m1 m2 occ l=none→ ∀x∈l,lq m1 m2 occ x=none
 | [],_,x,hx=>by cases hx
 |y::r,h,x,hx=>by
  simp only[bK] at h;split at h
  ·cases h
  ·rename_i h1
   rcases WG.1 hx with rfl|hx
   ·exact h1
   ·exact mA h x hx
theorem qO {m1:Expr→Bool} {m2:fg→Bool} {occ:List aj} {v:aj}: ∀{l:List Lit},bK m1 m2 occ l=some v→ ∃x∈l,lq m1 m2 occ x=some v
 | [],h=>by cases h
 |y::r,h=>by
  simp only[bK] at h;split at h
  ·rename_i w hw;exact⟨y,WM,hw.trans h⟩
  ·obtain⟨x,hx,h2⟩:=qO h;exact⟨x,WE _ hx,h2⟩
variable (hmay: ∀a b:List aj,(∀x∈a,x∈b)→ ∀e,may a e=true→may b e=true) (hmore: ∀a b:List aj,(∀x∈a,x∈b)→ ∀e,more a e=true→more b e=true)
include hmay hmore
theorem z8 {occ C:List aj} (hsub: ∀x∈occ,x∈C) {l:Lit} {v:aj} (h:lq (may occ) (more occ) occ l=some v) (hC:lq (may C) (more C) C l=none):v∈C:=by
 have hl: ∀y,y∉C→c2 C y=false:=fun y hy=>eh.2 hy;have hnew:=(sB h).2;refine XJ fun hv=>?_;unfold lq at h hC;by_cases hc:(fu (may occ) occ l).2=true
 ·rw[if_pos hc] at h
  simp only[Wo] at h
  have hcC:(fu (may C) C l).2=true:=by
   unfold fu at hc h ⊢;split at hc
   ·cases hc
   ·rename_i h0
    rw[if_neg h0] at h ⊢;split at hc
    ·rename_i h1
     rw[if_pos h1] at h;have e1:l.left.var=v:=h;rw[if_pos ⟨h1.1,by rw[e1];exact hl v hv,hmay occ C hsub _ h1.2.2⟩]
    ·rename_i h1
     rw[if_neg h1] at h;split at hc
     ·rename_i h2
      rw[if_pos h2] at h;have e1:l.right.var=v:=h;split
      ·rfl
      ·rw[if_pos ⟨h2.1,by rw[e1];exact hl v hv,hmay occ C hsub _ h2.2.2⟩]
     ·cases hc
  rw[if_pos hcC] at hC;cases hC
 ·rw[if_neg hc] at h
  split at h
  ·rename_i h2
   simp only[Wo] at h;split at hC
   ·cases hC
   ·rw[if_pos ⟨h2.1,by rw[h];exact hl v hv,hmore occ C hsub _ h2.2.2⟩] at hC
    cases hC
  ·cases h
theorem mJ {C:List aj} (hC:bK (may C) (more C) C body=none): ∀(n:Nat) (occ:List aj),(∀x∈occ,x∈C)→ ∀x∈cP may more body n occ,x∈C
 |0,occ,h,x,hx=>h x hx
 |n+1,occ,h,x,hx=>by
  cases hv:bK (may occ) (more occ) occ body with
  |none=>rw[dT hv] at hx;exact h x hx
  |some v=>
   rw[dS hv] at hx;refine mJ hC n _ (fun y hy=>?_) x hx;rcases WD.1 hy with hy|hy
   ·exact h y hy
   ·rw[Wy] at hy
    subst hy;obtain⟨l,hl,hl2⟩:=qO hv;exact z8 hmay hmore h hl2 (mA hC l hl)
theorem qV {occ1 occ2:List aj} (h: ∀x∈occ1,x∈occ2): ∀x∈bL may more body occ1,x∈bL may more body occ2:=by
 refine mJ hmay hmore (qX occ2) _ _ fun x hx=>?_;refine mK _ _ x ?_;rcases WD.1 hx with hx|hx
 ·exact W0 _ (h x hx)
 ·exact XV _ hx
end
theorem pj (a b:List aj) (h: ∀x∈a,x∈b) (e:Expr) (hc:aY a e=true):aY b e=true:=by
 unfold aY at*
 rw[WX] at*
 exact fun x hx=>bt.2 (h x (bt.1 (hc x hx)))
theorem xn (a b:List aj) (h: ∀x∈a,x∈b) (e:Expr) (hc:b3 a e=true):b3 b e=true:=by
 unfold b3 at*
 cases hk:decide (e.kind=2) with
 |true=>simp
 |false=>
  rw[hk,Yb,WN] at hc;rw[Yb,WN];exact⟨hc.1,bt.2 (h _ (bt.1 hc.2))⟩
def y8 (r:ak) (a:fg):List aj:=((aJ (a8 a)).map (·.1)).filter fun x=>c2 (aI r) x
def yR (r:ak) (a:fg):List aj:=bL (fun occ=>aY occ) (fun _=>fun _=>false) a.body (y8 r a)
theorem JU {r:ak} {a:fg} {occ:List aj} (h:DK r a occ) (s:aj):c2 (bL (fun occ=>aY occ) (fun _=>fun _=>false) a.body occ) s=c2 (yR r a) s:=by
 have hm: ∀x,x∈y8 r a↔x∈occ:=fun x=>by
  unfold y8;rw[WW,(dz (a8 a)).2 x,bt,h.2 x]
 rw[Xn,bt,bt];exact⟨qV (more:=fun _=>fun _=>false) pj (fun _ _ _ _ h=>h) (fun x hx=>(hm x).2 hx) s,qV (more:=fun _=>fun _=>false) pj (fun _ _ _ _ h=>h) (fun x hx=>(hm x).1 hx) s⟩
def sG (r:ak) (m:NM):Bool:=m.any fun x=>!c2 (bH r) x.1
theorem mf {r:ak} {m:NM} (h: ∀j,j<m.length→ ∀x,m[j]? =some x→c2 (bH r) x.1=true):sG r m=false:=by
 refine Xg.2 fun x hx=>?_;obtain⟨j,hj⟩:=W6 hx;rw[h j (Wr.1 hj).1 x hj];simp
theorem n6 {r:ak} {m:NM} {j:Nat} {x:(KC.str).K×Int} (h:m[j]? =some x) (hx:c2 (bH r) x.1=false):sG r m=true:=
 Xr.2 ⟨x,WY h,by rw[hx];rfl⟩
def kH (r:ak) (a:fg):NM:=(aJ (a8 a)).filter fun x=>!c2 ((kG r a).map (·.1)) x.1
def j6 (r:ak) (lit:Int):Bool:=
 if lit<0 then sG r (aJ (cE r.head))
 else if(au r lit).kind=4 then(kG r (au r lit).agg).any (fun x=>!c2 (yR r (au r lit).agg) x.1)||sG r (bump (kH r (au r lit).agg) (au r lit).bp)
 else sG r (aJ (cF (au r lit)))
theorem VH (a:Atom) (hb:a.aq.length≤100000000000):cf Tryz.prog 135 [.mp 0,ag a.c] [.eE] (.bP []) [(0,some (cj (aJ (cE a))))] 1:=
 cf.Pv (d88 [] a (by simp;omega)) ⟨rA,trivial⟩
theorem VG (l:Lit) (hb:l.size≤100000000000):cf Tryz.prog 136 [.mp 0,ag l.c] [.eE] (.bP []) [(0,some (cj (aJ (cF l))))] 1:=
 cf.Pv (d89 l [] (by simp;omega)) ⟨rA,trivial⟩
theorem uG (f:aj→Bool) (s:aj): ∀(m:NM),bG .str (m.filter fun x=>f x.1) s 0=if f s=true then bG .str m s 0 else 0
 | []=>by simp[bG]
 |(a,b)::r=>by
  have ih:=uG f s r
  cases hf:f a with
  |true=>
   rw[List.filter_cons_of_pos (by exact hf)];simp only[bG];split
   ·rename_i h;subst h;rw[if_pos hf]
   ·exact ih
  |false=>
   rw[List.filter_cons_of_neg (by simp[hf]),ih];simp only[bG];split
   ·rename_i h
    split
    ·rename_i h2;subst h2;rw[hf] at h;cases h
    ·rfl
   ·rfl
theorem J4 (r:ak) (a:fg) (s:aj):0≤bG .str (kH r a) s 0∧bG .str (kH r a) s 0≤oj (a8 a) s:=by
 have h1:=bs (a8 a) s;have h2:=uG (fun x=>!c2 ((kG r a).map (·.1)) x) s (aJ (a8 a));unfold kH;rw[h2,h1];split<;>omega
set_option maxHeartbeats 2000000 in
theorem V6 (r:ak) (lit:Int) (hl:lit<r.body.length) (hb:r.size≤10000000):Pure Tryz.prog 170 [.iv (b7 r),pI lit] (pB (j6 r lit)):=by
 have hbl:=Lit.aL r.body;have h0:Lit.aC r.body≤r.size:=YO _ _;have h0':r.head.aq.length≤r.size:=Nat.le_add_right _ _;have hlo:=y4 r;refine ax ae Tryz.func170 rfl (by decide) Tryz.ntmps170 rfl (by simp) rfl ?_;refine gA rfl (aN [] (d73 r (by omega)) rfl rfl rfl rfl rfl rfl rfl rfl ?_);refine gA rfl ?_;refine Wl (fun h2=>?_) (fun h2=>?_)
 ·have h2:lit<0:=by simpa using h2
  refine gA rfl (aN [1] (VH r.head (by omega)) rfl rfl rfl rfl rfl rfl rfl rfl ?_);refine gA rfl ?_;have hml:(aJ (cE r.head)).length≤1000000000000:=by have:=kC (cE r.head);have:=ib r.head;omega
  refine eP (aJ (cE r.head)) (fun vs=>⟨[(5, .mp 0),(76, .ptr 2 0)],[(0,some (cj (aJ (bH r)))),(2,some (.bq .str s4 (aJ (cE r.head)) vs none))],3⟩) (fun vs=> ∀j∈vs,∀x,(aJ (cE r.head))[j]? =some x→c2 (bH r) x.1=true) [] (by simp)
   (wk rfl rfl rfl ⟨.refl _,rfl, .refl _,rfl,trivial⟩ (hM rfl rfl rfl (hI rfl rfl (.inl rfl) rfl trivial)) rfl) fun vs hJ=>?_
  refine lU rfl trivial (db rfl rfl rfl rfl rfl (by decide) (fun hall=>?_) fun j x hx hj=>?_)
  ·refine gA rfl (aw (by first|exact .inr rfl|exact .inl rfl) rfl (.of_eq ?_))
   refine(lL ?_:pB false=_);rw[j6,if_pos h2,mf fun j hj x hx=>hJ j (hall j hj) x hx]
  ·have hlk:=bs (bH r) x.1
   have hct:=bV (occ:=bH r) (s:=x.1);refine gA rfl ?_;refine Wl (fun g1=>?_) (fun g1=>?_)
   ·have g1:c2 (bH r) x.1=false:=by
     have:=of_decide_eq_true g1;rw[hct];simp;omega
    refine gA rfl (aw (by first|exact .inr rfl|exact .inl rfl) rfl (.of_eq ?_));refine(lL ?_:pB true=_);rw[j6,if_pos h2,n6 hx g1]
   ·have g1:c2 (bH r) x.1=true:=by
     have:=of_decide_eq_false g1;rw[hct];simp;omega
    refine gA rfl ?_
    exact⟨j,x,hx,hj,fun i hi y hy=>by
     rcases WG.1 hi with rfl|hi
     ·rw[hx] at hy;cases hy;exact g1
     ·exact hJ i hi y hy,[],wk rfl rfl rfl ⟨.refl _,rfl, .refl _,rfl,trivial⟩ (hM rfl rfl rfl (hI rfl rfl (.inr rfl) rfl trivial)) rfl⟩
 have h2: ¬lit<0:=by simpa using h2
 have hk:lit.toNat<r.body.length:=by omega
 have hsz:=Lit.bN r.body lit.toNat hk;have hag:=(au r lit).jG;have hle:(au r lit).size≤Lit.aC r.body:=hsz;have hal:=jH (au r lit).agg;have hlol:=lz (au r lit);refine gA rfl ?_;refine Wl (fun h3=>?_) (fun h3=>?_);rotate_left
 ·have h3: ¬(au r lit).kind=4:=by simpa[au] using h3
  refine gA rfl (aN [1] (VG (au r lit) (by omega)) rfl rfl rfl rfl rfl rfl rfl rfl ?_);refine gA rfl ?_;have hml:(aJ (cF (au r lit))).length≤1000000000000:=by have:=kC (cF (au r lit));omega
  refine eP (aJ (cF (au r lit))) (fun vs=>⟨[(5, .mp 0),(76, .ptr 3 0)],[(0,some (cj (aJ (bH r)))),(3,some (.bq .str s4 (aJ (cF (au r lit))) vs none))],4⟩) (fun vs=> ∀j∈vs,∀x,(aJ (cF (au r lit)))[j]? =some x→c2 (bH r) x.1=true) [] (by simp)
   (wk rfl rfl rfl ⟨.refl _,rfl, .refl _,rfl,trivial⟩ (hM rfl rfl rfl (hI rfl rfl (.inl rfl) rfl trivial)) rfl) fun vs hJ=>?_
  refine lU rfl trivial (db rfl rfl rfl rfl rfl (by decide) (fun hall=>?_) fun j x hx hj=>?_)
  ·refine gA rfl (aw (by first|exact .inr rfl|exact .inl rfl) rfl (.of_eq ?_))
   refine(lL ?_:pB false=_);rw[j6,if_neg h2,if_neg h3,mf fun j hj x hx=>hJ j (hall j hj) x hx]
  ·have hlk:=bs (bH r) x.1
   have hct:=bV (occ:=bH r) (s:=x.1);refine gA rfl ?_;refine Wl (fun g1=>?_) (fun g1=>?_)
   ·have g1:c2 (bH r) x.1=false:=by
     have:=of_decide_eq_true g1;rw[hct];simp;omega
    refine gA rfl (aw (by first|exact .inr rfl|exact .inl rfl) rfl (.of_eq ?_));refine(lL ?_:pB true=_);rw[j6,if_neg h2,if_neg h3,n6 hx g1]
   ·have g1:c2 (bH r) x.1=true:=by
     have:=of_decide_eq_false g1;rw[hct];simp;omega
    refine gA rfl ?_
    exact⟨j,x,hx,hj,fun i hi y hy=>by
     rcases WG.1 hi with rfl|hi
     ·rw[hx] at hy;cases hy;exact g1
     ·exact hJ i hi y hy,[],wk rfl rfl rfl ⟨.refl _,rfl, .refl _,rfl,trivial⟩ (hM rfl rfl rfl (hI rfl rfl (.inr rfl) rfl trivial)) rfl⟩
 have h3:(au r lit).kind=4:=by simpa[au] using h3
 refine gA rfl (xP [] (d161 r (au r lit).agg (by omega)) rfl rfl rfl rfl rfl rfl rfl fun q h' n' hR=>?_);obtain⟨ok,⟨occ,hio,hok⟩,rfl,rfl,rfl⟩:=hR;have hoki: ∀s,c2 ok s=c2 (yR r (au r lit).agg) s:=fun s=>by rw[hok];exact JU hio s
 refine⟨_,rfl,?_⟩;have hom:=kC (a8 (au r lit).agg);have hlm:(kG r (au r lit).agg).length≤(aJ (a8 (au r lit).agg)).length:=XB _ _;have hkm:(kH r (au r lit).agg).length≤(aJ (a8 (au r lit).agg)).length:=XB _ _;have hkd:=(dz (a8 (au r lit).agg)).1;refine gA rfl (aN [] (d79 r (au r lit).agg (by omega)) rfl rfl rfl rfl rfl rfl rfl rfl ?_);refine gA rfl ?_
 refine eP (kG r (au r lit).agg) (fun vs=>⟨[(0, .iv (b7 r)),(5, .mp 0),(7, .ptr 2 0),(8, .mp 3),(43, .ptr 5 0)],[(0,some (cj (aJ (bH r)))),(2,some (aE (au r lit).c)),(3,some (cj (aJ ok))),(5,some (.bq .str s4 (kG r (au r lit).agg) vs none))],6⟩) (fun vs=> ∀j∈vs,∀x,(kG r (au r lit).agg)[j]? =some x→c2 (yR r (au r lit).agg) x.1=true) [] (by simp)
  (wk rfl rfl rfl ⟨.refl _,rfl, .refl _,rfl, .refl _,rfl, .refl _,rfl, .refl _,rfl,trivial⟩ (hM rfl rfl rfl (hC rfl rfl rfl (hM rfl rfl rfl (hI rfl rfl (.inl rfl) rfl trivial)))) rfl) fun vs hJ=>?_
 refine lU rfl trivial (db rfl rfl rfl rfl rfl (by decide) (fun hall=>?_) fun j x hx hj=>?_);rotate_left
 ·have hlk:=bs ok x.1
  have hct:=bV (occ:=ok) (s:=x.1);have hok2:=hoki x.1;refine gA rfl ?_;refine Wl (fun g1=>?_) (fun g1=>?_)
  ·have g1:c2 (yR r (au r lit).agg) x.1=false:=by
    have:=of_decide_eq_true g1;rw[←hok2,hct];simp;omega
   refine gA rfl (aw (by first|exact .inr rfl|exact .inl rfl) rfl (.of_eq ?_));refine(lL ?_:pB true=_);rw[j6,if_neg h2,if_pos h3,Xr.2 ⟨x,WY hx,by rw[g1];rfl⟩,Y7]
  ·have g1:c2 (yR r (au r lit).agg) x.1=true:=by
    have:=of_decide_eq_false g1;rw[←hok2,hct];simp;omega
   refine gA rfl ?_
   exact⟨j,x,hx,hj,fun i hi y hy=>by
    rcases WG.1 hi with rfl|hi
    ·rw[hx] at hy;cases hy;exact g1
    ·exact hJ i hi y hy,[],wk rfl rfl rfl ⟨.refl _,rfl, .refl _,rfl, .refl _,rfl, .refl _,rfl, .refl _,rfl,trivial⟩ (hM rfl rfl rfl (hC rfl rfl rfl (hM rfl rfl rfl (hI rfl rfl (.inr rfl) rfl trivial)))) rfl⟩
 have hA:(kG r (au r lit).agg).any (fun x=>!c2 (yR r (au r lit).agg) x.1)=false:=Xg.2 fun x hx=>by
  obtain⟨j,hj⟩:=W6 hx;rw[hJ j (hall j (Wr.1 hj).1) x hj];simp
 refine gA rfl (aN [] (d127 (au r lit).agg (by omega)) rfl rfl rfl rfl rfl rfl rfl rfl ?_);refine gA rfl (aN [] (d79 r (au r lit).agg (by omega)) rfl rfl rfl rfl rfl rfl rfl rfl ?_);refine gA rfl ?_
 refine eP (kG r (au r lit).agg) (fun vs=>⟨[(5, .mp 0),(6, .mp 6),(7, .ptr 2 0),(59, .ptr 8 0)],[(0,some (cj (aJ (bH r)))),(2,some (aE (au r lit).c)),(6,some (cj ((fG (kG r (au r lit).agg) vs).foldl (fun m k=>lT .str m k) (aJ (a8 (au r lit).agg))))),(8,some (.bq .str s4 (kG r (au r lit).agg) vs none))],9⟩) (fun vs=>vs.Nodup∧ ∀j∈vs,j<(kG r (au r lit).agg).length) [] ⟨Xk,by simp⟩
  (wk rfl rfl rfl ⟨.refl _,rfl, .refl _,rfl, .refl _,rfl, .refl _,rfl,trivial⟩ (hM rfl rfl rfl (hC rfl rfl rfl (hM rfl rfl rfl (hI rfl rfl (.inl rfl) rfl trivial)))) rfl) fun vs2 hJ2=>?_
 obtain⟨hJ3,hJ4⟩:=hJ2;refine lU rfl trivial (db rfl rfl rfl rfl rfl (by decide) (fun hall2=>?_) fun j x hx hj=>?_);rotate_left
 ·have hk:=jV (kG r (au r lit).agg) vs2 j x hx
  refine gA rfl ?_;exact⟨j,x,hx,hj,⟨Xu.2 ⟨hj,hJ3⟩,fun i hi=>(WG.1 hi).elim (fun h=>h▸(Wr.1 hx).1) (hJ4 i)⟩,[],wk rfl rfl rfl ⟨.refl _,rfl, .refl _,rfl, .refl _,rfl, .refl _,rfl,trivial⟩ (hM rfl rfl rfl (hC rfl rfl rfl (hM rfl (by rw[hk,Ye];rfl) rfl (hI rfl rfl (.inr rfl) rfl trivial)))) rfl⟩
 have hkp:(fG (kG r (au r lit).agg) vs2).foldl (fun m k=>lT .str m k) (aJ (a8 (au r lit).agg))=kH r (au r lit).agg:=by
  rw[mF _ hkd];unfold kH;congr 1
  funext x
  congr 1;rw[Xn,bt,bt,(jh _ vs2 hJ3 hJ4 hall2).mem_iff]
 rw[hkp];have hlkk:=J4 r (au r lit).agg (au r lit).bp;have hctt:=fD (a8 (au r lit).agg) (au r lit).bp;refine gA rfl ?_;have hml:(bump (kH r (au r lit).agg) (au r lit).bp).length≤1000000000000:=by have:=sd (kH r (au r lit).agg) (au r lit).bp (bG .str (kH r (au r lit).agg) (au r lit).bp 0+1);unfold bump;omega
 refine eP (bump (kH r (au r lit).agg) (au r lit).bp) (fun vs=>⟨[(5, .mp 0),(76, .ptr 9 0)],[(0,some (cj (aJ (bH r)))),(9,some (.bq .str s4 (bump (kH r (au r lit).agg) (au r lit).bp) vs none))],10⟩) (fun vs=> ∀j∈vs,∀x,(bump (kH r (au r lit).agg) (au r lit).bp)[j]? =some x→c2 (bH r) x.1=true) [] (by simp)
  (wk rfl rfl rfl ⟨.refl _,rfl, .refl _,rfl,trivial⟩ (hM rfl rfl rfl (hI rfl rfl (.inl rfl) rfl trivial)) rfl) fun vs hJ=>?_
 refine lU rfl trivial (db rfl rfl rfl rfl rfl (by decide) (fun hall=>?_) fun j x hx hj=>?_)
 ·refine gA rfl (aw (by first|exact .inr rfl|exact .inl rfl) rfl (.of_eq ?_))
  refine(lL ?_:pB false=_);rw[j6,if_neg h2,if_pos h3,hA,Yb,mf fun j hj x hx=>hJ j (hall j hj) x hx]
 ·have hlk:=bs (bH r) x.1
  have hct:=bV (occ:=bH r) (s:=x.1);refine gA rfl ?_;refine Wl (fun g1=>?_) (fun g1=>?_)
  ·have g1:c2 (bH r) x.1=false:=by
    have:=of_decide_eq_true g1;rw[hct];simp;omega
   refine gA rfl (aw (by first|exact .inr rfl|exact .inl rfl) rfl (.of_eq ?_));refine(lL ?_:pB true=_);rw[j6,if_neg h2,if_pos h3,hA,Yb,n6 hx g1]
  ·have g1:c2 (bH r) x.1=true:=by
    have:=of_decide_eq_false g1;rw[hct];simp;omega
   refine gA rfl ?_
   exact⟨j,x,hx,hj,fun i hi y hy=>by
    rcases WG.1 hi with rfl|hi
    ·rw[hx] at hy;cases hy;exact g1
    ·exact hJ i hi y hy,[],wk rfl rfl rfl ⟨.refl _,rfl, .refl _,rfl,trivial⟩ (hM rfl rfl rfl (hI rfl rfl (.inr rfl) rfl trivial)) rfl⟩
end Go.Proofs.YtflegjieadkonaaGreatDoor
namespace Go.Proofs.YtflegjieadkonaaGreatDoor
open Go Go.Al
set_option maxRecDepth 10000
def EN (a b:aj):Prop:=lP a<lP b
theorem PG (a b:aj):Op.bytesLess a.toList b.toList=true↔EN a b:=by
 rw[ByteArray.toList_eq,ByteArray.toList_eq,bytesLess_eq,decide_eq_true_eq];rfl
theorem vj {a b:aj} (h:lP a=lP b):a=b:=by rw[←rz a,←rz b,h]
theorem uE {a b c:aj} (h:EN a b) (k:EN b c):EN a c:=List.lt_trans h k
theorem lu (a:aj): ¬EN a a:=List.lt_irrefl _
theorem J3 {a b:aj} (h: ¬a=b) (k: ¬EN a b):EN b a:=by
 refine XJ fun hc=>h (vj (Zg ?_ ?_))
 ·exact ZF.1 hc
 ·exact ZF.1 k
abbrev tD (l:List aj):Prop:=l.Pairwise EN
theorem sL: ∀{l:List aj} (_:tD l) (s:aj),tD (ins l s)
 | [],_,s=>List.pairwise_singleton _ _
 |x::r,h,s=>by
  obtain⟨h1,h2⟩:=XK.1 h;simp only[ins];split
  ·exact h
  ·rename_i hne
   split
   ·rename_i hlt
    have hlt:=(PG x s).1 hlt;refine XK.2 ⟨fun y hy=>?_,sL h2 s⟩;rcases vK.1 hy with hy|rfl
    ·exact h1 y hy
    ·exact hlt
   ·rename_i hlt
    have hlt:EN s x:=J3 hne fun h=>hlt ((PG x s).2 h);refine XK.2 ⟨fun y hy=>?_,h⟩;rcases WG.1 hy with rfl|hy
    ·exact hlt
    ·exact uE hlt (h1 y hy)
theorem ox {l:List aj} (h:tD l) (s:aj):tD (fb l s):=by rw[tV];exact sL h s
theorem lV: ∀{m l:List aj} (_:tD l),tD (fT l m)
 | [],_,h=>h
 |x::r,_,h=>lV (m:=r) (ox h x)
theorem kZ: ∀{a b:List aj},tD a→tD b→(∀x,x∈a↔x∈b)→a=b
 | [],[],_,_,_=>rfl
 | [],y::s,_,_,h=>by have:=(h y).2 WM;cases this
 |x::r,[],_,_,h=>by have:=(h x).1 WM;cases this
 |x::r,y::s,ha,hb,h=>by
  obtain⟨a1,a2⟩:=XK.1 ha;obtain⟨b1,b2⟩:=XK.1 hb
  have hxy:x=y:=by
   rcases WG.1 ((h x).1 WM) with h1|h1
   ·exact h1
   ·rcases WG.1 ((h y).2 WM) with h2|h2
    ·exact h2.symm
    ·exact absurd (uE (b1 x h1) (a1 y h2)) (lu _)
  subst hxy;rw[kZ a2 b2 fun z=>?_];constructor
  ·intro hz
   rcases WG.1 ((h z).1 (WE _ hz)) with rfl|h3
   ·exact absurd (a1 z hz) (lu _)
   ·exact h3
  ·intro hz
   rcases WG.1 ((h z).2 (WE _ hz)) with rfl|h3
   ·exact absurd (b1 z hz) (lu _)
   ·exact h3
theorem eY {l:List aj} (h:l.Nodup):tD (c9 l):=by
 have h1:=gx (l.map lP);rw[←pE] at h1
 have hn:(c9 l).Nodup:=by
  have hp:((c9 l).map lP).Perm (l.map lP):=by rw[pE];exact eG _
  have hln:(l.map lP).Nodup:=List.Pairwise.map lP (fun a b hab e=>hab (vj e)) h;have:=hp.nodup_iff.2 hln;exact List.Pairwise.of_map lP (fun a b hab e=>hab (by rw[e])) this
 have h2:(c9 l).Pairwise fun a b=>lP a≤lP b:=(List.pairwise_map.1 h1).imp fun{a b} hab=>of_decide_eq_true hab;refine(List.Pairwise.and h2 hn).imp fun{a b} hab=>?_;obtain⟨h3,h4⟩:=hab;exact XJ fun hc=>h4 (vj (Zg h3 (ZF.1 hc)))
theorem Ji {m:NM} {l:List aj} (hm:(m.map (·.1)).Nodup) (hl:tD l) (h: ∀x,x∈m.map (·.1)↔x∈l):ew m=l:=by
 refine kZ (eY hm) hl fun x=>?_;rw[ew,c7];exact h x
theorem Cy {occ l:List aj} (hl:tD l) (h: ∀x,x∈occ↔x∈l):ew (aJ occ)=l:=
 Ji (dz occ).1 hl fun x=>((dz occ).2 x).trans (h x)
theorem nD {x:aj}: ∀{l:List Term} {a:List aj},x∈l.foldl yu a↔x∈a∨x∈l.flatMap fun t=>if t.kind=1 then[t.var] else[]
 | [],a=>by simp
 |t::r,a=>by
  rw[Xf,nD,XA,WD];unfold yu;split
  ·rw[c6,Wy,or_assoc]
  ·simp
theorem vM {x:aj} {a:Atom}:x∈kR a↔x∈cE a:=by
 unfold kR cE;rw[nD];simp
def Uz (a:List aj×Bool) (l:Lit):List aj×Bool:=if(jX l a.1).2=true then(fb a.1 (jX l a.1).1,true) else a
def pK (body:List Lit) (k:List aj):List aj×Bool:=body.foldl Uz (k,false)
def sj (body:List Lit):Nat→List aj→List aj
 |0,k=>k
 |n+1,k=>if(pK body k).2=true then sj body n (pK body k).1 else(pK body k).1
theorem xm {body:List Lit} {n:Nat} {k:List aj}:sj body (n+1) k=if(pK body k).2=true then sj body n (pK body k).1 else(pK body k).1:=rfl
def j5 (r:ak):List aj:=sj r.body (3*r.body.length+1) (r.body.foldl Bt [])
end Go.Proofs.YtflegjieadkonaaGreatDoor
