/- Pure models of functions of the program, and that its code does what they say: palimplaw13 WalkLost. Written by a program. -/
import Derived.Test.YtmadpkhcdgpglaaDoorR1313
import Derived.Test.YtmadpkhcdgpglaaDoorR136
import Derived.Test.YtmadpkhcdgpglaaDoorR138
import Derived.Test.YtmadpkhcdgpglaaDoorR139
import Derived.Test.YtmadpkhcdgpglaaDoorR13B
set_option maxRecDepth 20000
set_option maxHeartbeats 4000000
namespace Go.Proofs
open Go Go.Fhl
set_option linter.unusedVariables false
set_option linter.unusedSimpArgs false
noncomputable def M_law13_WalkLost (t0 : (List UInt8)) (t1 : UInt8) : Option Bool :=
  Option.bind (M_law13_begun) fun (x1 : Bool) => cond (!x1) (some false) (cond (decide ((t0.length : Int) > 60)) (some true) (Option.bind (M_made_Made t0) fun (x4 : G_palimpmade_Picks) => Option.bind (M_made_Picks_Set x4 25) fun (x5 : ((List G_api_Node) × G_palimpmade_Picks)) => Option.bind (appL 56 ([] : List G_api_Node) x5.1) fun (x6 : List G_api_Node) => Option.bind (remI (t1.toNat : Int) 7) fun (x7 : Int) => Option.bind (getI x6 (w64 (1 + x7))) fun (x8 : G_api_Node) => cond (x8.Kind == 0) (some true) (Option.bind (getI x6 (w64 (1 + x7))) fun (x10 : G_api_Node) => Option.bind (setI x6 (w64 (1 + x7)) (G_api_Node.mk 3 0 [] [] 0)) fun (x11 : List G_api_Node) => Option.bind (quo8 t1 8) fun (x12 : UInt8) => Option.bind (M_made_Made ([x12] : List UInt8)) fun (x13 : G_palimpmade_Picks) => Option.bind (M_made_Picks_Path x13 ) fun (x14 : (Str × G_palimpmade_Picks)) => Option.bind (M_walk_Find x5.1 x14.1) fun (x15 : (Int × Int)) => Option.bind (M_walk_Find x11 x14.1) fun (x16 : (Int × Int)) => cond (x16.2 == 0) (Option.bind (gd (((((x15.2 == 0) && (x15.1 == x16.1)) && (decide (x16.1 ≥ 0))) && (decide (x16.1 < (x11.length : Int)))) == true) (getI x11 x16.1)) fun (x18 : G_api_Node) => Option.bind (gd (((((x15.2 == 0) && (x15.1 == x16.1)) && (decide (x16.1 ≥ 0))) && (decide (x16.1 < (x11.length : Int)))) == true) (getI x5.1 x16.1)) fun (x19 : G_api_Node) => some (((((x15.2 == 0) && (x15.1 == x16.1)) && (decide (x16.1 ≥ 0))) && (decide (x16.1 < (x11.length : Int)))) && (decide (x18 = x19)))) (some (((x16.2 == x15.2) && ((x16.2 == 1) || (x16.2 == 5))) || (x16.2 == 12))))))
end Go.Proofs
