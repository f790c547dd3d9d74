/- Pure models of functions of the program, and that its code does what they say: palimplaw13 WalkBack. Written by a program. -/
import Derived.Test.YtmadpkhcdgpglaaDoorR1313
import Derived.Test.YtmadpkhcdgpglaaDoorR136
import Derived.Test.YtmadpkhcdgpglaaDoorR137
import Derived.Test.YtmadpkhcdgpglaaDoorR138
import Derived.Test.YtmadpkhcdgpglaaDoorR13B
set_option maxRecDepth 20000
set_option maxHeartbeats 4000000
namespace Go.Proofs
open Go Go.Fhl
set_option linter.unusedVariables false
set_option linter.unusedSimpArgs false
noncomputable def M_law13_WalkBack_k1 (c_1 : (Int → Option Bool)) (x5 : ((List G_api_Node) × G_palimpmade_Picks)) (v6 : Int) : Option Bool :=
  c_1 (w64 (v6 + 1))
noncomputable def M_law13_WalkBack_l2 (c_1 : (Int → Option Bool)) (x5 : ((List G_api_Node) × G_palimpmade_Picks)) (v6 : Int) (x8 : (Str × Bool)) : Nat → Int → Option Bool
  | 0, _ => none
  | n2 + 1, v14 =>
  cond (decide (v14 < (x5.1.length : Int))) (Option.bind (M_walk_Way x5.1 v14) fun (x16 : (Str × Bool)) => Option.bind (gd (((x16.2 == true) && (((v6 == 0) || (x16.1 == x8.1)) == false)) && ((decide ((x16.1.length : Int) > (x8.1.length : Int))) == true)) (slL x16.1 0 (w64 ((x8.1.length : Int) + 1)))) fun (x17 : Str) => Option.bind (gd (((x16.2 == true) && (((v6 == 0) || (x16.1 == x8.1)) == false)) && ((decide ((x16.1.length : Int) > (x8.1.length : Int))) == true)) (addS x8.1 ([47] : Str))) fun (x18 : Str) => Option.bind (M_walk_Within x5.1 v14 v6) fun (x19 : Bool) => cond (x19 != (x16.2 && (((v6 == 0) || (x16.1 == x8.1)) || ((decide ((x16.1.length : Int) > (x8.1.length : Int))) && (x17 == x18))))) (some false) ((M_law13_WalkBack_l2 c_1 x5 v6 x8 n2) (w64 (v14 + 1)))) (M_law13_WalkBack_k1 c_1 x5 v6)
noncomputable def M_law13_WalkBack_l1 (x5 : ((List G_api_Node) × G_palimpmade_Picks)) : Nat → Int → Option Bool
  | 0, _ => none
  | n1 + 1, v6 =>
  cond (decide (v6 < (x5.1.length : Int))) (Option.bind (M_walk_Way x5.1 v6) fun (x8 : (Str × Bool)) => Option.bind (getI x5.1 v6) fun (x9 : G_api_Node) => cond (x8.2 != (x9.Kind != 0)) (some false) (cond (!x8.2) (M_law13_WalkBack_k1 (M_law13_WalkBack_l1 x5 n1) x5 v6) (Option.bind (M_walk_Find x5.1 x8.1) fun (x12 : (Int × Int)) => cond ((x12.1 != v6) || (x12.2 != 0)) (some false) (M_law13_WalkBack_l2 (M_law13_WalkBack_l1 x5 n1) x5 v6 x8 fuel 0)))) (some true)
noncomputable def M_law13_WalkBack (t0 : (List UInt8)) : Option Bool :=
  Option.bind (M_law13_begun) fun (x1 : Bool) => cond (!x1) (some false) (cond (decide ((t0.length : Int) > 60)) (some true) (Option.bind (M_made_Made t0) fun (x4 : G_palimpmade_Picks) => Option.bind (M_made_Picks_Set x4 25) fun (x5 : ((List G_api_Node) × G_palimpmade_Picks)) => M_law13_WalkBack_l1 x5 fuel 0))
end Go.Proofs
