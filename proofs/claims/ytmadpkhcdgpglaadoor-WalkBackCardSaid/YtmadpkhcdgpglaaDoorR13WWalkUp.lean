/- Pure models of functions of the program, and that its code does what they say: palimplaw13 WalkUp. Written by a program. -/
import Derived.Test.YtmadpkhcdgpglaaDoorR131
import Derived.Test.YtmadpkhcdgpglaaDoorR1313
import Derived.Test.YtmadpkhcdgpglaaDoorR136
import Derived.Test.YtmadpkhcdgpglaaDoorR138
import Derived.Test.YtmadpkhcdgpglaaDoorR139
import Derived.Test.YtmadpkhcdgpglaaDoorR13B
set_option maxRecDepth 20000
set_option maxHeartbeats 4000000
namespace Go.Proofs
open Go Go.Fhl
set_option linter.unusedVariables false
set_option linter.unusedSimpArgs false
noncomputable def M_law13_WalkUp_k1 (x5 : ((List G_api_Node) × G_palimpmade_Picks)) (y6 : Str) : Option Bool :=
  Option.bind (M_walk_Find x5.1 y6) fun (x10 : (Int × Int)) => Option.bind (M_walk_Place x5.1 y6) fun (x11 : (Int × Str × Int)) => cond (y6 == []) (some (((x10.1 == 0) && (x10.2 == 0)) && (x11.2.2 == 1))) (cond (x11.2.2 != 0) (some ((x10.2 == x11.2.2) && (x10.1 == 0))) (Option.bind (M_ref11_Kid x5.1 x11.1 x11.2.1) fun (x14 : (Int × Bool)) => Option.bind (gd (((decide (x11.1 < 0)) || (decide (x11.1 ≥ (x5.1.length : Int)))) == false) (getI x5.1 x11.1)) fun (x15 : G_api_Node) => cond (((decide (x11.1 < 0)) || (decide (x11.1 ≥ (x5.1.length : Int)))) || (x15.Kind != 2)) (some false) (some (((x14.2 && (x10.2 == 0)) && (x10.1 == x14.1)) || (((!x14.2) && (x10.2 == 2)) && (x10.1 == 0))))))
noncomputable def M_law13_WalkUp (t0 : (List UInt8)) (t1 : Str) (t2 : UInt8) : Option Bool :=
  Option.bind (M_law13_begun) fun (x1 : Bool) => cond (!x1) (some false) (cond ((decide ((t0.length : Int) > 60)) || (decide ((t1.length : Int) > 80))) (some true) (Option.bind (M_made_Made t0) fun (x4 : G_palimpmade_Picks) => Option.bind (M_made_Picks_Set x4 25) fun (x5 : ((List G_api_Node) × G_palimpmade_Picks)) => cond (decide (t2 > 0)) (Option.bind (M_made_Made ([t2] : List UInt8)) fun (x8 : G_palimpmade_Picks) => Option.bind (M_made_Picks_Path x8 ) fun (x9 : (Str × G_palimpmade_Picks)) => M_law13_WalkUp_k1 x5 x9.1) (M_law13_WalkUp_k1 x5 t1)))
end Go.Proofs
