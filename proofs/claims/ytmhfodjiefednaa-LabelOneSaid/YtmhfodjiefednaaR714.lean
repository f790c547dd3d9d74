/- Pure models of functions of the program, and that its code does what they say: palimpref1 Flush, palimpref1 Turn. Written by a program. -/
import Derived.Test.YtmhfodjiefednaaR713
import Derived.Test.YtmhfodjiefednaaR7B
set_option maxRecDepth 20000
set_option maxHeartbeats 4000000
namespace Go.Proofs
open Go Go.Fhl
set_option linter.unusedVariables false
set_option linter.unusedSimpArgs false
noncomputable def M_ref1_Flush_l1 (t0 : G_api_Dev) : Nat → Int → List Int → Option (G_api_Dev × Bool)
  | 0, _, _ => none
  | n1 + 1, v4, v5 =>
  cond (decide (v4 < ((v5.length : Nat) : Int))) (Option.bind (getI v5 v4) fun (x7 : Int) => Option.bind (setI v5 v4 3) fun (x8 : List Int) => (M_ref1_Flush_l1 t0 n1) (w64 (v4 + 1)) x8) (Option.bind (M_ref1_lasting t0 v5) fun (x9 : (List Str)) => some ((G_api_Dev.mk x9 [] t0.Lies t0.Arm t0.Down), true))
noncomputable def M_ref1_Flush (t0 : G_api_Dev) : Option (G_api_Dev × Bool) :=
  cond t0.Down (some (t0, false)) (cond (decide (t0.Lies > 0)) (some ((G_api_Dev.mk t0.Last t0.Wait (w64 (t0.Lies - 1)) t0.Arm t0.Down), true)) (Option.bind (makeL 8 (t0.Wait.length : Int) 0) fun (x3 : List Int) => M_ref1_Flush_l1 t0 fuel 0 x3))
noncomputable def M_ref1_Turn (t0 : G_api_Dev) (t1 : Int) (t2 : Int) (t3 : Int) : Option G_api_Dev :=
  Option.bind (gd ((((decide (t1 < 0)) || (decide (t1 ≥ (t0.Last.length : Int)))) || (decide (t2 < 0))) == false) (getI t0.Last t1)) fun (x1 : Str) => cond ((((decide (t1 < 0)) || (decide (t1 ≥ (t0.Last.length : Int)))) || (decide (t2 < 0))) || (decide (t2 ≥ (x1.length : Int)))) (some t0) (Option.bind (getI t0.Last t1) fun (x3 : Str) => Option.bind (getI x3 t2) fun (x4 : UInt8) => Option.bind (getI x3 t2) fun (x5 : UInt8) => Option.bind (setI x3 t2 (x4 ^^^ (UInt8.ofInt t3))) fun (x6 : List UInt8) => Option.bind (appL 16 ([] : List Str) t0.Last) fun (x7 : List Str) => Option.bind (getI x7 t1) fun (x8 : Str) => Option.bind (setI x7 t1 x6) fun (x9 : List Str) => some (G_api_Dev.mk x9 t0.Wait t0.Lies t0.Arm t0.Down))
end Go.Proofs
