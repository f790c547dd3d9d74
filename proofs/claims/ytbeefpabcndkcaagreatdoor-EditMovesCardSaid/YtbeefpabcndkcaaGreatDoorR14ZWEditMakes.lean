/- Pure models of functions of the program, and that its code does what they say: palimplaw14 EditMakes. Written by a program. -/
import Derived.Test.YtbeefpabcndkcaaGreatDoorR14Z10
import Derived.Test.YtbeefpabcndkcaaGreatDoorR14Z12
import Derived.Test.YtbeefpabcndkcaaGreatDoorR14Z15
import Derived.Test.YtbeefpabcndkcaaGreatDoorR14Z17
import Derived.Test.YtbeefpabcndkcaaGreatDoorR14Z5
import Derived.Test.YtbeefpabcndkcaaGreatDoorR14Z7
import Derived.Test.YtbeefpabcndkcaaGreatDoorR14Z9
import Derived.Test.YtbeefpabcndkcaaGreatDoorR14ZB
set_option maxRecDepth 20000
set_option maxHeartbeats 4000000
namespace Go.Proofs
open Go Go.Fhl
set_option linter.unusedVariables false
set_option linter.unusedSimpArgs false
noncomputable def M_law14_EditMakes_l1 (t2 : UInt8) (x5 : ((List G_api_Node) × G_palimpmade_Picks)) (x7 : (Str × G_palimpmade_Picks)) (x8 : (Int × Bool)) (x10 : ((List G_api_Node) × Int)) (x13 : (Int × Int)) (x14 : (Int × Int)) : Nat → Int → Option Bool
  | 0, _ => none
  | n1 + 1, v17 =>
  cond (decide (v17 < (x5.1.length : Int))) (Option.bind (gd ((v17 != x13.1) == true) (getI x10.1 v17)) fun (x19 : G_api_Node) => Option.bind (gd ((v17 != x13.1) == true) (getI x5.1 v17)) fun (x20 : G_api_Node) => cond ((v17 != x13.1) && (!decide (x19 = x20))) (some false) ((M_law14_EditMakes_l1 t2 x5 x7 x8 x10 x13 x14 n1) (w64 (v17 + 1)))) (Option.bind (M_edit_Drop x10.1 x7.1) fun (x22 : ((List G_api_Node) × Int)) => Option.bind (M_edit_Make x10.1 x7.1 1) fun (x23 : ((List G_api_Node) × Int)) => Option.bind (gd ((((x8.2 && (x13.1 == x8.1)) && (x13.2 == 0)) && (x14.2 == 2)) == true) (getI x10.1 x13.1)) fun (x24 : G_api_Node) => Option.bind (gd ((((x8.2 && (x13.1 == x8.1)) && (x13.2 == 0)) && (x14.2 == 2)) == true) (rem8 t2 2)) fun (x25 : UInt8) => Option.bind (gd (((((x8.2 && (x13.1 == x8.1)) && (x13.2 == 0)) && (x14.2 == 2)) && (x24.Kind == (w64 (1 + (x25.toNat : Int))))) == true) (getI x10.1 x13.1)) fun (x26 : G_api_Node) => Option.bind (gd (((((((x8.2 && (x13.1 == x8.1)) && (x13.2 == 0)) && (x14.2 == 2)) && (x24.Kind == (w64 (1 + (x25.toNat : Int))))) && (x26.Body == [])) && (x22.2 == 0)) == true) (M_ref11_Same x22.1 x5.1)) fun (x27 : Bool) => some ((((((((x8.2 && (x13.1 == x8.1)) && (x13.2 == 0)) && (x14.2 == 2)) && (x24.Kind == (w64 (1 + (x25.toNat : Int))))) && (x26.Body == [])) && (x22.2 == 0)) && x27) && (x23.2 == 3)))
noncomputable def M_law14_EditMakes (t0 : (List UInt8)) (t1 : UInt8) (t2 : UInt8) : Option Bool :=
  Option.bind (M_law14_begun) fun (x1 : Bool) => cond (!x1) (some false) (cond (decide ((t0.length : Int) > 60)) (some true) (Option.bind (M_made_Made t0) fun (x4 : G_palimpmade_Picks) => Option.bind (M_made_Picks_Set x4 25) fun (x5 : ((List G_api_Node) × G_palimpmade_Picks)) => Option.bind (M_made_Made ([t1] : List UInt8)) fun (x6 : G_palimpmade_Picks) => Option.bind (M_made_Picks_Path x6 ) fun (x7 : (Str × G_palimpmade_Picks)) => Option.bind (M_ref11_Free x5.1) fun (x8 : (Int × Bool)) => Option.bind (rem8 t2 2) fun (x9 : UInt8) => Option.bind (M_edit_Make x5.1 x7.1 (w64 (1 + (x9.toNat : Int)))) fun (x10 : ((List G_api_Node) × Int)) => cond (x10.2 != 0) (Option.bind (M_ref11_Same x10.1 x5.1) fun (x12 : Bool) => some (x12 && ((x10.2 != 8) || (!x8.2)))) (Option.bind (M_ref11_Find x10.1 x7.1) fun (x13 : (Int × Int)) => Option.bind (M_ref11_Find x5.1 x7.1) fun (x14 : (Int × Int)) => Option.bind (gd (((x10.1.length : Int) != (x5.1.length : Int)) == false) (M_ref11_May x10.1)) fun (x15 : Bool) => cond (((((x10.1.length : Int) != (x5.1.length : Int)) || (!x15)) || (decide (x13.1 < 1))) || (decide (x13.1 ≥ (x5.1.length : Int)))) (some false) (M_law14_EditMakes_l1 t2 x5 x7 x8 x10 x13 x14 fuel 0))))
end Go.Proofs
