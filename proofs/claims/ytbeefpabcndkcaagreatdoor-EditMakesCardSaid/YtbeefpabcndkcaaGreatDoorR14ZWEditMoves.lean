/- Pure models of functions of the program, and that its code does what they say: palimplaw14 EditMoves. Written by a program. -/
import Derived.Test.YtbeefpabcndkcaaGreatDoorR14Z10
import Derived.Test.YtbeefpabcndkcaaGreatDoorR14Z15
import Derived.Test.YtbeefpabcndkcaaGreatDoorR14Z17
import Derived.Test.YtbeefpabcndkcaaGreatDoorR14Z6
import Derived.Test.YtbeefpabcndkcaaGreatDoorR14Z9
import Derived.Test.YtbeefpabcndkcaaGreatDoorR14ZB
set_option maxRecDepth 20000
set_option maxHeartbeats 4000000
namespace Go.Proofs
open Go Go.Fhl
set_option linter.unusedVariables false
set_option linter.unusedSimpArgs false
noncomputable def M_law14_EditMoves_l1 (x5 : ((List G_api_Node) × G_palimpmade_Picks)) (x7 : (Str × G_palimpmade_Picks)) (x8 : (Str × G_palimpmade_Picks)) (x9 : (Int × Int)) (x10 : ((List G_api_Node) × Int)) (x15 : (Int × Int)) (x16 : (Int × Int)) : Nat → Int → Option Bool
  | 0, _ => none
  | n1 + 1, v17 =>
  cond (decide (v17 < (x5.1.length : Int))) (Option.bind (gd ((v17 != x9.1) == true) (getI x10.1 v17)) fun (x19 : G_api_Node) => Option.bind (gd ((v17 != x9.1) == true) (getI x5.1 v17)) fun (x20 : G_api_Node) => cond ((v17 != x9.1) && (!decide (x19 = x20))) (some false) ((M_law14_EditMoves_l1 x5 x7 x8 x9 x10 x15 x16 n1) (w64 (v17 + 1)))) (Option.bind (M_edit_Move x10.1 x8.1 x7.1) fun (x22 : ((List G_api_Node) × Int)) => Option.bind (gd (((((x15.2 == 0) && (x15.1 == x9.1)) && (x16.2 == 2)) && (x22.2 == 0)) == true) (M_ref11_Same x22.1 x5.1)) fun (x23 : Bool) => some (((((x15.2 == 0) && (x15.1 == x9.1)) && (x16.2 == 2)) && (x22.2 == 0)) && x23))
noncomputable def M_law14_EditMoves (t0 : (List UInt8)) (t1 : (List UInt8)) : Option Bool :=
  Option.bind (M_law14_begun) fun (x1 : Bool) => cond (!x1) (some false) (cond ((decide ((t0.length : Int) > 60)) || (decide ((t1.length : Int) > 2))) (some true) (Option.bind (M_made_Made t0) fun (x4 : G_palimpmade_Picks) => Option.bind (M_made_Picks_Set x4 25) fun (x5 : ((List G_api_Node) × G_palimpmade_Picks)) => Option.bind (M_made_Made t1) fun (x6 : G_palimpmade_Picks) => Option.bind (M_made_Picks_Path x6 ) fun (x7 : (Str × G_palimpmade_Picks)) => Option.bind (M_made_Picks_Path x7.2 ) fun (x8 : (Str × G_palimpmade_Picks)) => Option.bind (M_ref11_Find x5.1 x7.1) fun (x9 : (Int × Int)) => Option.bind (M_edit_Move x5.1 x7.1 x8.1) fun (x10 : ((List G_api_Node) × Int)) => cond ((x10.2 != 0) || (x7.1 == x8.1)) (Option.bind (M_ref11_Same x10.1 x5.1) fun (x12 : Bool) => some x12) (Option.bind (M_ref11_May x10.1) fun (x13 : Bool) => cond (!x13) (some false) (Option.bind (M_ref11_Find x10.1 x8.1) fun (x15 : (Int × Int)) => Option.bind (M_ref11_Find x10.1 x7.1) fun (x16 : (Int × Int)) => M_law14_EditMoves_l1 x5 x7 x8 x9 x10 x15 x16 fuel 0))))
end Go.Proofs
