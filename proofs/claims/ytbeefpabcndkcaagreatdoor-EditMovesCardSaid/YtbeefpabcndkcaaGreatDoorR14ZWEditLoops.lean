/- Pure models of functions of the program, and that its code does what they say: palimplaw14 EditLoops. Written by a program. -/
import Derived.Test.YtbeefpabcndkcaaGreatDoorR14Z10
import Derived.Test.YtbeefpabcndkcaaGreatDoorR14Z13
import Derived.Test.YtbeefpabcndkcaaGreatDoorR14Z15
import Derived.Test.YtbeefpabcndkcaaGreatDoorR14Z17
import Derived.Test.YtbeefpabcndkcaaGreatDoorR14Z6
import Derived.Test.YtbeefpabcndkcaaGreatDoorR14Z7
import Derived.Test.YtbeefpabcndkcaaGreatDoorR14Z9
import Derived.Test.YtbeefpabcndkcaaGreatDoorR14ZB
set_option maxRecDepth 20000
set_option maxHeartbeats 4000000
namespace Go.Proofs
open Go Go.Fhl
set_option linter.unusedVariables false
set_option linter.unusedSimpArgs false
noncomputable def M_law14_EditLoops_l1 (x5 : ((List G_api_Node) × G_palimpmade_Picks)) (x6 : UInt8) (x7 : UInt8) (x13 : Str) (x18 : ((List G_api_Node) × Int)) : Nat → Int → Option Bool
  | 0, _ => none
  | n1 + 1, v27 =>
  cond (decide (v27 < (x5.1.length : Int))) (Option.bind (M_ref11_Within x5.1 v27 (x6.toNat : Int)) fun (x29 : Bool) => Option.bind (M_ref11_Within x18.1 v27 (x6.toNat : Int)) fun (x30 : Bool) => cond (x29 != x30) (some false) ((M_law14_EditLoops_l1 x5 x6 x7 x13 x18 n1) (w64 (v27 + 1)))) (Option.bind (M_ref11_Within x5.1 (x7.toNat : Int) (x6.toNat : Int)) fun (x32 : Bool) => Option.bind (gd ((!x32) == true) (M_ref11_May x18.1)) fun (x33 : Bool) => Option.bind (gd (((!x32) && x33) == true) (getI x18.1 (x6.toNat : Int))) fun (x34 : G_api_Node) => Option.bind (gd ((((!x32) && x33) && (x34.Up == (x7.toNat : Int))) == true) (getI x18.1 (x6.toNat : Int))) fun (x35 : G_api_Node) => some ((((!x32) && x33) && (x34.Up == (x7.toNat : Int))) && (x35.Name == x13)))
noncomputable def M_law14_EditLoops_k1 (x5 : ((List G_api_Node) × G_palimpmade_Picks)) (x6 : UInt8) (x7 : UInt8) (x8 : (Str × Bool)) (x13 : Str) (y14 : Str) : Option Bool :=
  Option.bind (addS y14 x13) fun (x17 : Str) => Option.bind (M_edit_Move x5.1 x8.1 x17) fun (x18 : ((List G_api_Node) × Int)) => Option.bind (addS y14 x13) fun (x19 : Str) => Option.bind (M_ref11_Parts x19) fun (x20 : ((List Str) × Bool)) => cond (!x20.2) (Option.bind (M_ref11_Same x18.1 x5.1) fun (x22 : Bool) => some (x22 && (x18.2 == 1))) (Option.bind (M_ref11_Kid x5.1 (x7.toNat : Int) x13) fun (x23 : (Int × Bool)) => cond (x23.2 || (x18.2 != 0)) (Option.bind (M_ref11_Same x18.1 x5.1) fun (x25 : Bool) => Option.bind (gd (((x25 == true) && (x23.2 == false)) && ((x18.2 == 7) == true)) (M_ref11_Within x5.1 (x7.toNat : Int) (x6.toNat : Int))) fun (x26 : Bool) => some (x25 && (x23.2 || ((x18.2 == 7) && x26)))) (M_law14_EditLoops_l1 x5 x6 x7 x13 x18 fuel 0))
noncomputable def M_law14_EditLoops (t0 : (List UInt8)) (t1 : UInt8) (t2 : UInt8) (t3 : UInt8) : Option Bool :=
  Option.bind (M_law14_begun) fun (x1 : Bool) => cond (!x1) (some false) (cond (decide ((t0.length : Int) > 60)) (some true) (Option.bind (M_made_Made t0) fun (x4 : G_palimpmade_Picks) => Option.bind (M_made_Picks_Set x4 25) fun (x5 : ((List G_api_Node) × G_palimpmade_Picks)) => Option.bind (rem8 t1 8) fun (x6 : UInt8) => Option.bind (rem8 t2 8) fun (x7 : UInt8) => Option.bind (M_ref11_Way x5.1 (x6.toNat : Int)) fun (x8 : (Str × Bool)) => Option.bind (M_ref11_Way x5.1 (x7.toNat : Int)) fun (x9 : (Str × Bool)) => Option.bind (gd ((((!x8.2) || (!x9.2)) || ((x6.toNat : Int) == 0)) == false) (getI x5.1 (x7.toNat : Int))) fun (x10 : G_api_Node) => cond ((((!x8.2) || (!x9.2)) || ((x6.toNat : Int) == 0)) || (x10.Kind != 2)) (some true) (Option.bind (rem8 t3 4) fun (x12 : UInt8) => Option.bind (getI ([([120, 49] : Str), ([120, 50] : Str), ([97] : Str), ([98] : Str)] : List Str) (x12.toNat : Int)) fun (x13 : Str) => cond (x9.1 != []) (Option.bind (addS x9.1 ([47] : Str)) fun (x16 : Str) => M_law14_EditLoops_k1 x5 x6 x7 x8 x13 x16) (M_law14_EditLoops_k1 x5 x6 x7 x8 x13 x9.1))))
end Go.Proofs
