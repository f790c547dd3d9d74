/- Pure models of functions of the program, and that its code does what they say: palimpref1 Read, palimpref1 Take. Written by a program. -/
import Derived.Test.YtmhfodjiefednaaR7B
set_option maxRecDepth 20000
set_option maxHeartbeats 4000000
namespace Go.Proofs
open Go Go.Fhl
set_option linter.unusedVariables false
set_option linter.unusedSimpArgs false
noncomputable def M_ref1_Read_k1 (c_1 : (Str → Int → Option (Str × Bool))) (t0 : G_api_Dev) (t1 : Int) (v4 : Int) (y6 : Str) : Option (Str × Bool) :=
  c_1 y6 (w64 (v4 + 1))
noncomputable def M_ref1_Read_l1 (t0 : G_api_Dev) (t1 : Int) : Nat → Str → Int → Option (Str × Bool)
  | 0, _, _ => none
  | n1 + 1, v3, v4 =>
  cond (decide (v4 < (t0.Wait.length : Int))) (Option.bind (getI t0.Wait v4) fun (x7 : G_api_Put) => cond (x7.At == t1) (Option.bind (getI t0.Wait v4) fun (x9 : G_api_Put) => M_ref1_Read_k1 (M_ref1_Read_l1 t0 t1 n1) t0 t1 v4 x9.B) (M_ref1_Read_k1 (M_ref1_Read_l1 t0 t1 n1) t0 t1 v4 v3)) (some (v3, true))
noncomputable def M_ref1_Read (t0 : G_api_Dev) (t1 : Int) : Option (Str × Bool) :=
  cond ((t0.Down || (decide (t1 < 0))) || (decide (t1 ≥ (t0.Last.length : Int)))) (some ([], false)) (Option.bind (getI t0.Last t1) fun (x2 : Str) => M_ref1_Read_l1 t0 t1 fuel x2 0)
noncomputable def M_ref1_Take_l2 (c_1 : (Str → Int → List Int → Option ((List Int) × Str × Bool))) (t0 : Str) (v1 : Str) (v2 : Int) (v3 : List Int) (x5 : UInt8) : Nat → Int → Int → Option ((List Int) × Str × Bool)
  | 0, _, _ => none
  | n2 + 1, v7, v8 =>
  cond (decide (v8 < (w64 ((x5.toNat : Int) - 48)))) (Option.bind (getI v1 v8) fun (x10 : UInt8) => (M_ref1_Take_l2 c_1 t0 v1 v2 v3 x5 n2) (w64 ((w64 (v7 * 256)) + (x10.toNat : Int))) (w64 (v8 + 1))) (Option.bind (appL 8 v3 ([v7] : List Int)) fun (x11 : List Int) => Option.bind (slL v1 (w64 ((x5.toNat : Int) - 48)) (v1.length : Int)) fun (x12 : Str) => c_1 x12 (w64 (v2 + 1)) x11)
noncomputable def M_ref1_Take_l1 (t0 : Str) : Nat → Str → Int → List Int → Option ((List Int) × Str × Bool)
  | 0, _, _, _ => none
  | n1 + 1, v1, v2, v3 =>
  cond (decide (v2 < (t0.length : Int))) (Option.bind (getI t0 v2) fun (x5 : UInt8) => cond (((decide ((w64 ((x5.toNat : Int) - 48)) < 1)) || (decide ((w64 ((x5.toNat : Int) - 48)) > 4))) || (decide ((v1.length : Int) < (w64 ((x5.toNat : Int) - 48))))) (some ([], [], false)) (M_ref1_Take_l2 (M_ref1_Take_l1 t0 n1) t0 v1 v2 v3 x5 fuel 0 0)) (some (v3, v1, true))
noncomputable def M_ref1_Take (t0 : Str) (t1 : Str) : Option ((List Int) × Str × Bool) :=
  M_ref1_Take_l1 t0 fuel t1 0 ([] : List Int)
end Go.Proofs
