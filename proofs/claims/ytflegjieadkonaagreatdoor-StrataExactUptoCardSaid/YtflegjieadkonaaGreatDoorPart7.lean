/-
  What the proofs of the claims need: part 7 of 7.
-/
import Derived.Test.YtflegjieadkonaaGreatDoorPart6
set_option maxRecDepth 100000
open Bool renaming true→lc
open Array renaming getD_eq_getD_getElem?→Yf
open Option renaming some→jp
open Option.some renaming injEq→Yh
open List renaming getElem?_eq_some_iff→Yj
open Array renaming range→abv
open Array renaming getElem?_map→aaD
open Option renaming map_some→Zg
open Option renaming getD_some→ZG
open Array renaming getElem?_eq_getElem→Zb
open Nat renaming mul_le_mul_right→YS
open Nat renaming add_mul→Zz
open Array renaming getElem?_append_left→Zr
open List renaming getD_eq_getElem?_getD→Ye
open List renaming getElem?_append_right→YF
open List renaming getElem?_take→Zi
open Array renaming getElem?_toList→Zn
open And renaming intro→YW
open Int renaming toNat_natCast→YK
open Nat renaming le_of_ble_eq_true→Yd
open List renaming length_map→YH
open List renaming length_append→Yg
open List renaming map_append→Yk
open List renaming append_assoc→Yu
open Inhabited renaming default→io
open List renaming range_succ_eq_map→aaE
namespace Go.Proofs.YtflegjieadkonaaGreatDoor
open Go Go.Al Go.Proofs.Tryz Go.ChangeShapes Go.WideShapes Go.RowKit
theorem kC:prog.closure 3=[3,11,47,88,15,17,50,56,97,96,123,154,186,155,156,187,214,242,259,215,124,125,157,188,216,217,243,260,272,218,219,244,261,262,273,285,297,302,303,153,307,308,304,305,309,310,311,312,274,189,220,158,190,221,245,222,246,247,264,263,265,223,248,113,135,136,178,159,191,196,160,162,163,161,192,164,165,166,167,193,224,194,101,130,195,168,197,225,198,200,226,199,201,169,170,202,227,228,126,172,203,229,171,90,53,92,52,91,122,152,121,143,149,185,144,180,145,181,182,146,183,184,213,147,148,150,151,51,57,98,127,128,112,99,129,60,102,14,13,20,18,12,48,49,89,16,27,61,103,131,173,204,230,206,231,205,132,133,174,207,232,249,267,275,286,287,298,299,288,276,289,290,300,301,306,266,233,250,268,277,278,279,280,292,291,293,281,282,294,295,234,251,235,236,118,141,111,120,119,77,212,237,87,252,269,283,296,284,253,208,175,209,238,176,210,239,254,255,240,256,257,258,270,271,241,211,54,93,55,94,95,63,66,62,104,134,177,19,58,59,100,21,23,22,25,65,24,64,26,28]:=by kernel_rfl
theorem uG:joinedFacts prog 3 f3 (Rows.OpenSpec.upto Rows.strataExactSpec).bare Rows.strataExactUptoRow=lc:=by
 have d:prog.inPlace 3=Rows.strataExactUptoRow.inPlace:=by unfold Program.inPlace;rw[kC];kernel_rfl
 have b:prog.unfollowed 3=lc:=by unfold Program.unfollowed;rw[kC];kernel_rfl
 have j:prog.varsNamed 3=Rows.strataExactUptoRow.named:=by unfold Program.varsNamed;rw[kC];kernel_rfl
 have u:prog.recurses 3=lc:=by unfold Program.recurses;rw[b];rfl
 unfold joinedFacts;rw[d,b,j,u];show(_:Bool)=lc
 kernel_rfl
end Go.Proofs.YtflegjieadkonaaGreatDoor
