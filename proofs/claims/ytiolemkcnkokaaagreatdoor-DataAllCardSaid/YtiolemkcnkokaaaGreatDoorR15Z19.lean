/- Pure models of functions of the program, and that its code does what they say: palimpref11 bad, palimpref11 broken, palimpref11 May. Written by a program. -/
import Derived.Test.YtiolemkcnkokaaaGreatDoorR15Z1
import Derived.Test.YtiolemkcnkokaaaGreatDoorR15Z18
import Derived.Test.YtiolemkcnkokaaaGreatDoorR15ZB
set_option maxRecDepth 20000
set_option maxHeartbeats 4000000
namespace Go.Proofs
open Go Go.Fhl
set_option linter.unusedVariables false
set_option linter.unusedSimpArgs false
noncomputable def M_ref11_bad_l1 (t0 : (List G_api_Node)) : Nat → Int → Option Bool
  | 0, _ => none
  | n1 + 1, v1 =>
  cond (decide (v1 < (t0.length : Int))) (Option.bind (getI t0 v1) fun (x3 : G_api_Node) => cond (x3.Bad != 0) (some true) ((M_ref11_bad_l1 t0 n1) (w64 (v1 + 1)))) (some false)
noncomputable def M_ref11_bad (t0 : (List G_api_Node)) : Option Bool :=
  M_ref11_bad_l1 t0 fuel 0
noncomputable def M_ref11_broken (t0 : (List G_api_Node)) : Option Bool :=
  Option.bind (M_ref11_lost t0) fun (x1 : Bool) => Option.bind (gd (x1 == false) (M_ref11_bad t0)) fun (x2 : Bool) => some (x1 || x2)
noncomputable def M_ref11_May (t0 : (List G_api_Node)) : Option Bool :=
  Option.bind (M_ref11_Torn t0) fun (x1 : Bool) => Option.bind (gd (x1 == true) (M_ref11_broken t0)) fun (x2 : Bool) => some (x1 && (!x2))
end Go.Proofs
