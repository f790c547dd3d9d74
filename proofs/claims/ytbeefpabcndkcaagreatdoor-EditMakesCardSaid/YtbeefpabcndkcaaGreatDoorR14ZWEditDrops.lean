/- Pure models of functions of the program, and that its code does what they say: palimplaw14 EditDrops. Written by a program. -/
import Derived.Test.YtbeefpabcndkcaaGreatDoorR14Z10
import Derived.Test.YtbeefpabcndkcaaGreatDoorR14Z15
import Derived.Test.YtbeefpabcndkcaaGreatDoorR14Z17
import Derived.Test.YtbeefpabcndkcaaGreatDoorR14Z7
import Derived.Test.YtbeefpabcndkcaaGreatDoorR14Z8
import Derived.Test.YtbeefpabcndkcaaGreatDoorR14Z9
import Derived.Test.YtbeefpabcndkcaaGreatDoorR14ZB
set_option maxRecDepth 20000
set_option maxHeartbeats 4000000
namespace Go.Proofs
open Go Go.Fhl
set_option linter.unusedVariables false
set_option linter.unusedSimpArgs false
noncomputable def M_law14_EditDrops_l1 (x5 : ((List G_api_Node) × G_palimpmade_Picks)) (x8 : (Int × Int)) (x9 : ((List G_api_Node) × Int)) (x13 : (Int × Int)) : Nat → Int → Option Bool
  | 0, _ => none
  | n1 + 1, v16 =>
  cond (decide (v16 < (x5.1.length : Int))) (Option.bind (gd ((v16 != x8.1) == true) (getI x9.1 v16)) fun (x18 : G_api_Node) => Option.bind (gd ((v16 != x8.1) == true) (getI x5.1 v16)) fun (x19 : G_api_Node) => Option.bind (gd (((v16 != x8.1) == true) && ((!decide (x18 = x19)) == false)) (getI x5.1 v16)) fun (x20 : G_api_Node) => Option.bind (gd ((((v16 != x8.1) == true) && ((!decide (x18 = x19)) == false)) && (((x20.Kind != 0) && (decide (v16 > 0))) == true)) (getI x5.1 v16)) fun (x21 : G_api_Node) => cond ((v16 != x8.1) && ((!decide (x18 = x19)) || (((x20.Kind != 0) && (decide (v16 > 0))) && (x21.Up == x8.1)))) (some false) ((M_law14_EditDrops_l1 x5 x8 x9 x13 n1) (w64 (v16 + 1)))) (Option.bind (gd ((((x8.2 == 0) && (decide (x8.1 > 0))) && (x13.2 == 2)) == true) (getI x9.1 x8.1)) fun (x23 : G_api_Node) => some ((((x8.2 == 0) && (decide (x8.1 > 0))) && (x13.2 == 2)) && (decide (x23 = (G_api_Node.mk 0 0 [] [] 0)))))
noncomputable def M_law14_EditDrops (t0 : (List UInt8)) (t1 : UInt8) : Option Bool :=
  Option.bind (M_law14_begun) fun (x1 : Bool) => cond (!x1) (some false) (cond (decide ((t0.length : Int) > 60)) (some true) (Option.bind (M_made_Made t0) fun (x4 : G_palimpmade_Picks) => Option.bind (M_made_Picks_Set x4 25) fun (x5 : ((List G_api_Node) × G_palimpmade_Picks)) => Option.bind (M_made_Made ([t1] : List UInt8)) fun (x6 : G_palimpmade_Picks) => Option.bind (M_made_Picks_Path x6 ) fun (x7 : (Str × G_palimpmade_Picks)) => Option.bind (M_ref11_Find x5.1 x7.1) fun (x8 : (Int × Int)) => Option.bind (M_edit_Drop x5.1 x7.1) fun (x9 : ((List G_api_Node) × Int)) => cond (x9.2 != 0) (Option.bind (M_ref11_Same x9.1 x5.1) fun (x11 : Bool) => Option.bind (gd (((((x11 == true) && (((x8.2 != 0) && (x9.2 == x8.2)) == false)) && ((x8.2 == 0) == true)) && (((x8.1 == 0) && (x9.2 == 4)) == false)) && (((decide (x8.1 > 0)) && (x9.2 == 6)) == true)) (M_ref11_Kids x5.1 x8.1)) fun (x12 : (List Int)) => some (x11 && (((x8.2 != 0) && (x9.2 == x8.2)) || ((x8.2 == 0) && (((x8.1 == 0) && (x9.2 == 4)) || (((decide (x8.1 > 0)) && (x9.2 == 6)) && (decide ((x12.length : Int) > 0)))))))) (Option.bind (M_ref11_Find x9.1 x7.1) fun (x13 : (Int × Int)) => Option.bind (gd (((x9.1.length : Int) != (x5.1.length : Int)) == false) (M_ref11_May x9.1)) fun (x14 : Bool) => cond (((x9.1.length : Int) != (x5.1.length : Int)) || (!x14)) (some false) (M_law14_EditDrops_l1 x5 x8 x9 x13 fuel 0))))
end Go.Proofs
