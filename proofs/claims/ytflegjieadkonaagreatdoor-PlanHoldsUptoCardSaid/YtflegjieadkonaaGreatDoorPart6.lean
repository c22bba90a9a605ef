/-
  What the proofs of the claims need: part 6 of 6.
-/
import Derived.Test.YtflegjieadkonaaGreatDoorPart5
set_option maxRecDepth 100000
open Bool renaming true→kw
open Array renaming getD_eq_getD_getElem?→Qt
open Option renaming some→io
open Option.some renaming injEq→Qu
open Array renaming range→Tz
open Array renaming getElem?_map→S3
open Option renaming map_some→RZ
open Option renaming getD_some→R2
open Array renaming getElem?_eq_getElem→Rs
open List renaming getElem?_eq_some_iff→Qw
open Nat renaming mul_le_mul_right→Rb
open Nat renaming add_mul→RJ
open Array renaming getElem?_append_left→RB
open List renaming getD_eq_getElem?_getD→Qx
open List renaming getElem?_append_right→QX
open List renaming getElem?_take→Rt
open Array renaming getElem?_toList→RI
open And renaming intro→Rm
open Nat renaming le_of_ble_eq_true→Qs
open List renaming length_map→Rv
open List renaming length_append→Qv
open List renaming map_append→QO
open List renaming append_assoc→QU
open List renaming getElem?_eq_getElem→Qy
namespace Go.Proofs.YtflegjieadkonaaGreatDoor
open Go Go.Al Go.Proofs.Tryz Go.ChangeShapes Go.WideShapes Go.RowKit
theorem jy:prog.closure 10=[10,34,68,105,36,71,17,50,56,97,96,123,154,186,155,156,187,214,242,259,215,124,125,157,188,216,217,243,260,272,218,219,244,261,262,273,285,297,302,303,153,307,308,304,305,309,310,311,312,274,189,220,158,190,221,245,222,246,247,264,263,265,223,248,113,135,136,178,159,191,196,160,162,163,161,192,164,165,166,167,193,224,194,101,130,195,168,197,225,198,200,226,199,201,169,170,202,227,228,126,172,203,229,171,90,53,92,52,91,122,152,121,143,149,185,144,180,145,181,182,146,183,184,213,147,148,150,151,51,57,98,127,128,112,99,129,60,102,72,80,107,108,73,109,81,114,137,138,179,139,140,83,41,40,78,79,43,82,45,86,87,77,111,119,141,120,46]:=by kernel_rfl
theorem sA:joinedFacts prog 10 f10 (Rows.OpenSpec.upto Rows.planHoldsSpec).bare Rows.planHoldsUptoRow=kw:=by
 have d:prog.inPlace 10=Rows.planHoldsUptoRow.inPlace:=by unfold Program.inPlace;rw[jy];kernel_rfl
 have b:prog.unfollowed 10=kw:=by unfold Program.unfollowed;rw[jy];kernel_rfl
 have j:prog.varsNamed 10=Rows.planHoldsUptoRow.named:=by unfold Program.varsNamed;rw[jy];kernel_rfl
 have u:prog.recurses 10=kw:=by unfold Program.recurses;rw[b];rfl
 unfold joinedFacts;rw[d,b,j,u];show(_:Bool)=kw
 kernel_rfl
end Go.Proofs.YtflegjieadkonaaGreatDoor
