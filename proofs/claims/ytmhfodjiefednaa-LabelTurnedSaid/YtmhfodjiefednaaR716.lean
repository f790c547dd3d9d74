/- Pure models of functions of the program, and that its code does what they say: palimpref1 TakeConfig, palimpref1 Found, palimpref1 TakePtrs. Written by a program. -/
import Derived.Test.YtmhfodjiefednaaR712
import Derived.Test.YtmhfodjiefednaaR715
import Derived.Test.YtmhfodjiefednaaR75
import Derived.Test.YtmhfodjiefednaaR77
import Derived.Test.YtmhfodjiefednaaR7B
set_option maxRecDepth 20000
set_option maxHeartbeats 4000000
namespace Go.Proofs
open Go Go.Fhl
set_option linter.unusedVariables false
set_option linter.unusedSimpArgs false
noncomputable def M_ref1_TakeConfig (t0 : Str) : Option (Int × Int × Bool) :=
  Option.bind (M_ref1_Take ([49, 52, 50] : Str) t0) fun (x1 : ((List Int) × Str × Bool)) => Option.bind (gd ((!x1.2.2) == false) (getI x1.1 1)) fun (x2 : Int) => Option.bind (gd ((!x1.2.2) == false) (getI x1.1 2)) fun (x3 : Int) => Option.bind (gd ((!x1.2.2) == false) (M_ref1_Config x2 x3)) fun (x4 : Str) => cond ((!x1.2.2) || (x4 != t0)) (some (0, 0, false)) (Option.bind (getI x1.1 1) fun (x6 : Int) => Option.bind (getI x1.1 2) fun (x7 : Int) => some (x6, x7, true))
noncomputable def M_ref1_Found_l1 (t0 : G_api_Dev) : Nat → Int → Option (Int × Int × Bool)
  | 0, _ => none
  | n1 + 1, v3 =>
  cond (decide (v3 < 4)) (Option.bind (M_ref1_At (w64 ((t0.Last.length : Int) - 28)) v3) fun (x5 : Int) => Option.bind (M_ref1_Read t0 x5) fun (x6 : (Str × Bool)) => Option.bind (M_ref1_TakeConfig x6.1) fun (x7 : (Int × Int × Bool)) => cond (x7.2.2 && (x7.2.1 == (w64 ((t0.Last.length : Int) - 28)))) (some (x7.1, (w64 ((t0.Last.length : Int) - 28)), true)) ((M_ref1_Found_l1 t0 n1) (w64 (v3 + 1)))) (some (0, 0, false))
noncomputable def M_ref1_Found (t0 : G_api_Dev) : Option (Int × Int × Bool) :=
  Option.bind (gd (t0.Down == false) (M_ref1_mayData (w64 ((t0.Last.length : Int) - 28)))) fun (x1 : Bool) => cond (t0.Down || (!x1)) (some (0, 0, false)) (M_ref1_Found_l1 t0 fuel 0)
noncomputable def M_ref1_TakePtrs_l1 (t1 : Int) : Nat → Str → Int → List G_api_Ptr → Option ((List G_api_Ptr) × Str × Bool)
  | 0, _, _, _ => none
  | n1 + 1, v1, v2, v3 =>
  cond (decide (v2 < t1)) (Option.bind (M_ref1_Take ([50, 52, 52, 52, 52, 52] : Str) v1) fun (x5 : ((List Int) × Str × Bool)) => cond (!x5.2.2) (some ([], [], false)) (Option.bind (getI x5.1 0) fun (x7 : Int) => Option.bind (getI x5.1 1) fun (x8 : Int) => Option.bind (getI x5.1 2) fun (x9 : Int) => Option.bind (getI x5.1 3) fun (x10 : Int) => Option.bind (getI x5.1 4) fun (x11 : Int) => Option.bind (getI x5.1 5) fun (x12 : Int) => Option.bind (M_ref1_MayPtr (G_api_Ptr.mk x7 x8 (A4.mk (UInt32.ofInt x9) (UInt32.ofInt x10) (UInt32.ofInt x11) (UInt32.ofInt x12)))) fun (x13 : Bool) => cond (!x13) (some ([], [], false)) (Option.bind (appL 32 v3 ([(G_api_Ptr.mk x7 x8 (A4.mk (UInt32.ofInt x9) (UInt32.ofInt x10) (UInt32.ofInt x11) (UInt32.ofInt x12)))] : List G_api_Ptr)) fun (x15 : List G_api_Ptr) => (M_ref1_TakePtrs_l1 t1 n1) x5.2.1 (w64 (v2 + 1)) x15))) (some (v3, v1, true))
noncomputable def M_ref1_TakePtrs (t0 : Str) (t1 : Int) : Option ((List G_api_Ptr) × Str × Bool) :=
  M_ref1_TakePtrs_l1 t1 fuel t0 0 ([] : List G_api_Ptr)
end Go.Proofs
