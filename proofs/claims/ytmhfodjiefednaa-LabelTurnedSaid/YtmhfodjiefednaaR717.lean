/- Pure models of functions of the program, and that its code does what they say: palimpref1 TakeUber, palimpref1 Roots. Written by a program. -/
import Derived.Test.YtmhfodjiefednaaR712
import Derived.Test.YtmhfodjiefednaaR713
import Derived.Test.YtmhfodjiefednaaR715
import Derived.Test.YtmhfodjiefednaaR716
import Derived.Test.YtmhfodjiefednaaR7B
set_option maxRecDepth 20000
set_option maxHeartbeats 4000000
namespace Go.Proofs
open Go Go.Fhl
set_option linter.unusedVariables false
set_option linter.unusedSimpArgs false
noncomputable def M_ref1_TakeUber (t0 : Str) : Option (G_api_Uber × Bool) :=
  Option.bind (M_ref1_Take ([49, 52, 52, 49] : Str) t0) fun (x1 : ((List Int) × Str × Bool)) => cond (!x1.2.2) (some ((G_api_Uber.mk 0 0 0 (G_api_Ptr.mk 0 0 (A4.mk 0 0 0 0))), false)) (Option.bind (M_ref1_TakePtrs x1.2.1 1) fun (x3 : ((List G_api_Ptr) × Str × Bool)) => cond (!x3.2.2) (some ((G_api_Uber.mk 0 0 0 (G_api_Ptr.mk 0 0 (A4.mk 0 0 0 0))), false)) (Option.bind (getI x1.1 1) fun (x5 : Int) => Option.bind (getI x1.1 2) fun (x6 : Int) => Option.bind (getI x1.1 3) fun (x7 : Int) => Option.bind (getI x3.1 0) fun (x8 : G_api_Ptr) => Option.bind (M_ref1_PutUber (G_api_Uber.mk x5 x6 x7 x8)) fun (x9 : Str) => cond (x9 != t0) (some ((G_api_Uber.mk 0 0 0 (G_api_Ptr.mk 0 0 (A4.mk 0 0 0 0))), false)) (some ((G_api_Uber.mk x5 x6 x7 x8), true))))
noncomputable def M_ref1_Roots_k1 (c_1 : (Int → Option (List G_api_Uber))) (c_2 : (Int → Option (List G_api_Uber))) (t0 : G_api_Dev) (x1 : (Int × Int × Bool)) (v2 : Int) (v4 : Int) : Option (List G_api_Uber) :=
  c_2 (w64 (v4 + 1))
noncomputable def M_ref1_Roots_l2 (c_1 : (Int → Option (List G_api_Uber))) (t0 : G_api_Dev) (x1 : (Int × Int × Bool)) (v2 : Int) : Nat → Int → Option (List G_api_Uber)
  | 0, _ => none
  | n2 + 1, v4 =>
  cond (decide (v4 < 6)) (Option.bind (M_ref1_At x1.2.1 v2) fun (x6 : Int) => Option.bind (M_ref1_Read t0 (w64 ((w64 (x6 + 1)) + v4))) fun (x7 : (Str × Bool)) => Option.bind (M_ref1_TakeUber x7.1) fun (x8 : (G_api_Uber × Bool)) => cond (((!x8.2) || (x8.1.Guid != x1.1)) || (x8.1.Seat != v4)) (M_ref1_Roots_k1 c_1 (M_ref1_Roots_l2 c_1 t0 x1 v2 n2) t0 x1 v2 v4) (none)) (c_1 (w64 (v2 + 1)))
noncomputable def M_ref1_Roots_l1 (t0 : G_api_Dev) (x1 : (Int × Int × Bool)) : Nat → Int → Option (List G_api_Uber)
  | 0, _ => none
  | n1 + 1, v2 =>
  cond ((decide (v2 < 4)) && x1.2.2) (M_ref1_Roots_l2 (M_ref1_Roots_l1 t0 x1 n1) t0 x1 v2 fuel 0) (some [])
noncomputable def M_ref1_Roots (t0 : G_api_Dev) : Option (List G_api_Uber) :=
  Option.bind (M_ref1_Found t0) fun (x1 : (Int × Int × Bool)) => M_ref1_Roots_l1 t0 x1 fuel 0
end Go.Proofs
