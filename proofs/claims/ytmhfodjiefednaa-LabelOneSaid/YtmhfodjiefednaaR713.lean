/- Pure models of functions of the program, and that its code does what they say: palimpref1 PutUber, palimpref1 Phase, palimpref1 SamePuts, palimpref1 lasting. Written by a program. -/
import Derived.Test.YtmhfodjiefednaaR712
import Derived.Test.YtmhfodjiefednaaR75
import Derived.Test.YtmhfodjiefednaaR76
import Derived.Test.YtmhfodjiefednaaR77
import Derived.Test.YtmhfodjiefednaaR7B
set_option maxRecDepth 20000
set_option maxHeartbeats 4000000
namespace Go.Proofs
open Go Go.Fhl
set_option linter.unusedVariables false
set_option linter.unusedSimpArgs false
noncomputable def M_ref1_PutUber (t0 : G_api_Uber) : Option Str :=
  Option.bind (M_ref1_MayUber t0) fun (x1 : Bool) => cond (!x1) (some []) (Option.bind (M_ref1_Put ([49, 52, 52, 49] : Str) ([171, t0.Txg, t0.Guid, t0.Seat] : List Int)) fun (x3 : Str) => Option.bind (M_ref1_PutPtrs ([t0.Root] : List G_api_Ptr)) fun (x4 : Str) => Option.bind (addS x3 x4) fun (x5 : Str) => Option.bind (M_ref1_sealed x5) fun (x6 : Str) => some x6)
noncomputable def M_ref1_Phase (t0 : Int) (t1 : G_api_Uber) (t2 : Int) : Option (List G_api_Put) :=
  Option.bind (M_ref1_mayData t0) fun (x1 : Bool) => Option.bind (gd ((!x1) == false) (M_ref1_MayUber t1)) fun (x2 : Bool) => cond ((((!x1) || (!x2)) || (decide (t2 < 0))) || (decide (t2 > 1))) (some []) (Option.bind (M_ref1_Slot t0 t2 t1.Seat) fun (x4 : Int) => Option.bind (M_ref1_PutUber t1) fun (x5 : Str) => Option.bind (M_ref1_Slot t0 (w64 (t2 + 2)) t1.Seat) fun (x6 : Int) => Option.bind (M_ref1_PutUber t1) fun (x7 : Str) => some ([(G_api_Put.mk x4 x5), (G_api_Put.mk x6 x7)] : List G_api_Put))
noncomputable def M_ref1_SamePuts_l1 (t0 : (List G_api_Put)) (t1 : (List G_api_Put)) : Nat → Int → Option Bool
  | 0, _ => none
  | n1 + 1, v2 =>
  cond (decide (v2 < (t0.length : Int))) (Option.bind (getI t0 v2) fun (x4 : G_api_Put) => Option.bind (getI t1 v2) fun (x5 : G_api_Put) => cond (!decide (x4 = x5)) (some false) ((M_ref1_SamePuts_l1 t0 t1 n1) (w64 (v2 + 1)))) (some true)
noncomputable def M_ref1_SamePuts (t0 : (List G_api_Put)) (t1 : (List G_api_Put)) : Option Bool :=
  cond ((t0.length : Int) != (t1.length : Int)) (some false) (M_ref1_SamePuts_l1 t0 t1 fuel 0)
noncomputable def M_ref1_lasting_k1 (c_1 : (Int → List Str → Option (List Str))) (t0 : G_api_Dev) (t1 : (List Int)) (v2 : Int) (y5 : List Str) : Option (List Str) :=
  c_1 (w64 (v2 + 1)) y5
noncomputable def M_ref1_lasting_k3 (c_1 : (Int → List Str → Option (List Str))) (t0 : G_api_Dev) (t1 : (List Int)) (v2 : Int) (x6 : G_api_Put) (y9 : Int) (y12 : List Str) : Option (List Str) :=
  cond ((andI y9 2) == 2) (Option.bind (getI y12 x6.At) fun (x21 : Str) => Option.bind (slL x21 0 128) fun (x22 : Str) => Option.bind (slL x6.B 128 (x6.B.length : Int)) fun (x23 : Str) => Option.bind (addS x22 x23) fun (x24 : Str) => Option.bind (getI y12 x6.At) fun (x25 : Str) => Option.bind (setI y12 x6.At x24) fun (x26 : List Str) => M_ref1_lasting_k1 c_1 t0 t1 v2 x26) (M_ref1_lasting_k1 c_1 t0 t1 v2 y12)
noncomputable def M_ref1_lasting_k2 (c_1 : (Int → List Str → Option (List Str))) (t0 : G_api_Dev) (t1 : (List Int)) (v2 : Int) (v3 : List Str) (x6 : G_api_Put) (y9 : Int) : Option (List Str) :=
  cond ((andI y9 1) == 1) (Option.bind (slL x6.B 0 128) fun (x14 : Str) => Option.bind (getI v3 x6.At) fun (x15 : Str) => Option.bind (slL x15 128 (x15.length : Int)) fun (x16 : Str) => Option.bind (addS x14 x16) fun (x17 : Str) => Option.bind (getI v3 x6.At) fun (x18 : Str) => Option.bind (setI v3 x6.At x17) fun (x19 : List Str) => M_ref1_lasting_k3 c_1 t0 t1 v2 x6 y9 x19) (M_ref1_lasting_k3 c_1 t0 t1 v2 x6 y9 v3)
noncomputable def M_ref1_lasting_l1 (t0 : G_api_Dev) (t1 : (List Int)) : Nat → Int → List Str → Option (List Str)
  | 0, _, _ => none
  | n1 + 1, v2, v3 =>
  cond (decide (v2 < (t0.Wait.length : Int))) (Option.bind (getI t0.Wait v2) fun (x6 : G_api_Put) => Option.bind (gd ((((decide (x6.At < 0)) || (decide (x6.At ≥ ((v3.length : Nat) : Int)))) || ((x6.B.length : Int) != 256)) == false) (getI v3 x6.At)) fun (x7 : Str) => cond ((((decide (x6.At < 0)) || (decide (x6.At ≥ ((v3.length : Nat) : Int)))) || ((x6.B.length : Int) != 256)) || ((x7.length : Int) != 256)) (M_ref1_lasting_k1 (M_ref1_lasting_l1 t0 t1 n1) t0 t1 v2 v3) (cond (decide (v2 < (t1.length : Int))) (Option.bind (getI t1 v2) fun (x11 : Int) => M_ref1_lasting_k2 (M_ref1_lasting_l1 t0 t1 n1) t0 t1 v2 v3 x6 (andI x11 3)) (M_ref1_lasting_k2 (M_ref1_lasting_l1 t0 t1 n1) t0 t1 v2 v3 x6 0))) (some v3)
noncomputable def M_ref1_lasting (t0 : G_api_Dev) (t1 : (List Int)) : Option (List Str) :=
  Option.bind (appL 16 ([] : List Str) t0.Last) fun (x1 : List Str) => M_ref1_lasting_l1 t0 t1 fuel 0 x1
end Go.Proofs
