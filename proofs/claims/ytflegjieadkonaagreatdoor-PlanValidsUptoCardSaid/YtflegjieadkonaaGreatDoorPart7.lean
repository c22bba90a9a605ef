/-
  What the proofs of the claims need: part 7 of 7.
-/
import Derived.Test.YtflegjieadkonaaGreatDoorPart6
set_option maxRecDepth 100000
open Bool renaming true→kw
open Array renaming getD_eq_getD_getElem?→Y7
open Option renaming some→io
open Option.some renaming injEq→Y9
open List renaming getElem?_eq_some_iff→Zb
open Array renaming range→ab0
open Array renaming getElem?_map→abw
open Option renaming map_some→Z8
open Option renaming getD_some→aaw
open Array renaming getElem?_eq_getElem→Z4
open Nat renaming mul_le_mul_right→ZF
open Nat renaming add_mul→aal
open Array renaming getElem?_append_left→aac
open List renaming getD_eq_getElem?_getD→Y6
open List renaming getElem?_append_right→Zv
open List renaming getElem?_take→Z6
open Array renaming getElem?_toList→aah
open And renaming intro→ZU
open Int renaming toNat_natCast→Zx
open Nat renaming le_of_ble_eq_true→Y5
open List renaming length_map→ZE
open List renaming length_append→Y8
open List renaming map_append→Ze
open List renaming append_assoc→Zj
open List renaming range_succ_eq_map→abz
namespace Go.Proofs.YtflegjieadkonaaGreatDoor
open Go Go.Al Go.Proofs.Tryz Go.ChangeShapes Go.WideShapes Go.RowKit
theorem lz:prog.closure 9=[9,34,68,105,36,71,17,50,56,97,96,123,154,186,155,156,187,214,242,259,215,124,125,157,188,216,217,243,260,272,218,219,244,261,262,273,285,297,302,303,153,307,308,304,305,309,310,311,312,274,189,220,158,190,221,245,222,246,247,264,263,265,223,248,113,135,136,178,159,191,196,160,162,163,161,192,164,165,166,167,193,224,194,101,130,195,168,197,225,198,200,226,199,201,169,170,202,227,228,126,172,203,229,171,90,53,92,52,91,122,152,121,143,149,185,144,180,145,181,182,146,183,184,213,147,148,150,151,51,57,98,127,128,112,99,129,60,102,72,80,107,108,73,109,81,114,137,138,179,139,140,83,41,40,78,79,43,82,12,48,49,89,42,19,58,59,100,37,74,44,69,27,61,103,131,173,204,230,206,231,205,132,133,174,207,232,249,267,275,286,287,298,299,288,276,289,290,300,301,306,266,233,250,268,277,278,279,280,292,291,293,281,282,294,295,234,251,235,236,118,141,111,120,119,77,212,237,87,252,269,283,296,284,253,208,175,209,238,176,210,239,254,255,240,256,257,258,270,271,241,211,54,93,55,94,95,63,66,62,104,134,177,75,110,76,84,115,116,117,142,85]:=by kernel_rfl
theorem vP:joinedFacts prog 9 f9 (Rows.OpenSpec.upto Rows.planValidsSpec).bare Rows.planValidsUptoRow=kw:=by
 have d:prog.inPlace 9=Rows.planValidsUptoRow.inPlace:=by unfold Program.inPlace;rw[lz];kernel_rfl
 have b:prog.unfollowed 9=kw:=by unfold Program.unfollowed;rw[lz];kernel_rfl
 have j:prog.varsNamed 9=Rows.planValidsUptoRow.named:=by unfold Program.varsNamed;rw[lz];kernel_rfl
 have u:prog.recurses 9=kw:=by unfold Program.recurses;rw[b];rfl
 unfold joinedFacts;rw[d,b,j,u];show(_:Bool)=kw
 kernel_rfl
end Go.Proofs.YtflegjieadkonaaGreatDoor
