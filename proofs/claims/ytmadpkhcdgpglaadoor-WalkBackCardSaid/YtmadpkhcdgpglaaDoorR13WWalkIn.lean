/- Pure models of functions of the program, and that its code does what they say: palimplaw13 WalkIn. Written by a program. -/
import Derived.Test.YtmadpkhcdgpglaaDoorR1313
import Derived.Test.YtmadpkhcdgpglaaDoorR138
import Derived.Test.YtmadpkhcdgpglaaDoorR13B
set_option maxRecDepth 20000
set_option maxHeartbeats 4000000
namespace Go.Proofs
open Go Go.Fhl
set_option linter.unusedVariables false
set_option linter.unusedSimpArgs false
noncomputable def M_law13_WalkIn_l3 (c_1 : (Int → Option Bool)) (c_2 : (Int → Option Bool)) (x5 : ((List G_api_Node) × G_palimpmade_Picks)) (v6 : Int) (v13 : Int) (x15 : Bool) : Nat → Int → Option Bool
  | 0, _ => none
  | n3 + 1, v21 =>
  cond (x15 && (decide (v21 < (x5.1.length : Int)))) (Option.bind (M_walk_Within x5.1 v13 v21) fun (x23 : Bool) => Option.bind (M_walk_Within x5.1 v6 v21) fun (x24 : Bool) => Option.bind (gd (((x23 && (!x24)) == false) && ((x24 && (!x23)) == true)) (M_walk_Within x5.1 v21 v13)) fun (x25 : Bool) => cond ((x23 && (!x24)) || ((x24 && (!x23)) && (!x25))) (some false) ((M_law13_WalkIn_l3 c_1 c_2 x5 v6 v13 x15 n3) (w64 (v21 + 1)))) (c_2 (w64 (v13 + 1)))
noncomputable def M_law13_WalkIn_l2 (c_1 : (Int → Option Bool)) (x5 : ((List G_api_Node) × G_palimpmade_Picks)) (v6 : Int) : Nat → Int → Option Bool
  | 0, _ => none
  | n2 + 1, v13 =>
  cond (decide (v13 < (x5.1.length : Int))) (Option.bind (M_walk_Within x5.1 v6 v13) fun (x15 : Bool) => Option.bind (gd ((x15 && (v6 != v13)) == true) (M_walk_Within x5.1 v13 v6)) fun (x16 : Bool) => Option.bind (gd (((x15 && (v6 != v13)) == true) && (x16 == false)) (getI x5.1 v13)) fun (x17 : G_api_Node) => Option.bind (gd (((x15 && (v6 != v13)) == true) && ((x16 || (x17.Kind != 2)) == false)) (getI x5.1 v6)) fun (x18 : G_api_Node) => Option.bind (gd (((x15 && (v6 != v13)) == true) && ((x16 || (x17.Kind != 2)) == false)) (M_walk_Within x5.1 x18.Up v13)) fun (x19 : Bool) => cond ((x15 && (v6 != v13)) && ((x16 || (x17.Kind != 2)) || (!x19))) (some false) (M_law13_WalkIn_l3 c_1 (M_law13_WalkIn_l2 c_1 x5 v6 n2) x5 v6 v13 x15 fuel 0)) (c_1 (w64 (v6 + 1)))
noncomputable def M_law13_WalkIn_l1 (x5 : ((List G_api_Node) × G_palimpmade_Picks)) : Nat → Int → Option Bool
  | 0, _ => none
  | n1 + 1, v6 =>
  cond (decide (v6 < (x5.1.length : Int))) (Option.bind (M_walk_Within x5.1 v6 v6) fun (x8 : Bool) => Option.bind (getI x5.1 v6) fun (x9 : G_api_Node) => Option.bind (gd ((x8 != (x9.Kind != 0)) == false) (M_walk_Within x5.1 v6 0)) fun (x10 : Bool) => Option.bind (gd ((x8 != (x9.Kind != 0)) == false) (getI x5.1 v6)) fun (x11 : G_api_Node) => cond ((x8 != (x9.Kind != 0)) || (x10 != (x11.Kind != 0))) (some false) (M_law13_WalkIn_l2 (M_law13_WalkIn_l1 x5 n1) x5 v6 fuel 0)) (some true)
noncomputable def M_law13_WalkIn (t0 : (List UInt8)) : Option Bool :=
  Option.bind (M_law13_begun) fun (x1 : Bool) => cond (!x1) (some false) (cond (decide ((t0.length : Int) > 60)) (some true) (Option.bind (M_made_Made t0) fun (x4 : G_palimpmade_Picks) => Option.bind (M_made_Picks_Set x4 25) fun (x5 : ((List G_api_Node) × G_palimpmade_Picks)) => M_law13_WalkIn_l1 x5 fuel 0))
end Go.Proofs
