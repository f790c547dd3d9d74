/- Pure models of functions of the program, and that its code does what they say: palimpref1 At, palimpref1 Slot, palimplaw7 uberOf, palimpref1 MayPtr, palimpref1 MayUber, palimpref1 PutPtrs. Written by a program. -/
import Derived.Test.YtmhfodjiefednaaR75
import Derived.Test.YtmhfodjiefednaaR76
import Derived.Test.YtmhfodjiefednaaR7B
set_option maxRecDepth 20000
set_option maxHeartbeats 4000000
namespace Go.Proofs
open Go Go.Fhl
set_option linter.unusedVariables false
set_option linter.unusedSimpArgs false
noncomputable def M_ref1_At (t0 : Int) (t1 : Int) : Option Int :=
  Option.bind (M_ref1_mayData t0) fun (x1 : Bool) => cond (((!x1) || (decide (t1 < 0))) || (decide (t1 > 3))) (some (-1)) (cond (decide (t1 < 2)) (some (w64 (t1 * 7))) (some (w64 ((w64 (14 + t0)) + (w64 ((w64 (t1 - 2)) * 7))))))
noncomputable def M_ref1_Slot (t0 : Int) (t1 : Int) (t2 : Int) : Option Int :=
  Option.bind (M_ref1_At t0 t1) fun (x1 : Int) => cond (((decide (x1 < 0)) || (decide (t2 < 0))) || (decide (t2 ≥ 6))) (some (-1)) (some (w64 ((w64 (x1 + 1)) + t2)))
noncomputable def M_law7_uberOf (t0 : (A4 UInt8)) : Option G_api_Uber :=
  Option.bind (rem8 t0.x0 12) fun (x1 : UInt8) => Option.bind (quo8 t0.x1 200) fun (x2 : UInt8) => Option.bind (rem8 t0.x1 6) fun (x3 : UInt8) => some (G_api_Uber.mk (w64 (1 + (x1.toNat : Int))) (w64 (7 + (x2.toNat : Int))) (x3.toNat : Int) (G_api_Ptr.mk (w64 (1 + (t0.x2.toNat : Int))) (t0.x3.toNat : Int) (A4.mk 0 0 0 0)))
noncomputable def M_ref1_MayPtr (t0 : G_api_Ptr) : Option Bool :=
  Option.bind (gd (((decide (t0.Addr ≥ 0)) && (decide (t0.Addr ≤ 65535))) == true) (M_ref1_num t0.Birth)) fun (x1 : Bool) => some ((((decide (t0.Addr ≥ 0)) && (decide (t0.Addr ≤ 65535))) && x1) && ((decide (t0.Addr > 0)) || (decide (t0 = (G_api_Ptr.mk 0 0 (A4.mk 0 0 0 0))))))
noncomputable def M_ref1_MayUber (t0 : G_api_Uber) : Option Bool :=
  Option.bind (gd ((decide (t0.Txg ≥ 1)) == true) (M_ref1_num t0.Txg)) fun (x1 : Bool) => Option.bind (gd (((decide (t0.Txg ≥ 1)) && x1) == true) (M_ref1_num t0.Guid)) fun (x2 : Bool) => Option.bind (gd ((((((decide (t0.Txg ≥ 1)) && x1) && x2) && (decide (t0.Seat ≥ 0))) && (decide (t0.Seat < 6))) == true) (M_ref1_MayPtr t0.Root)) fun (x3 : Bool) => some (((((((decide (t0.Txg ≥ 1)) && x1) && x2) && (decide (t0.Seat ≥ 0))) && (decide (t0.Seat < 6))) && x3) && (decide (t0.Root.Addr > 0)))
noncomputable def M_ref1_PutPtrs_l1 (t0 : (List G_api_Ptr)) : Nat → Str → Int → Option Str
  | 0, _, _ => none
  | n1 + 1, v1, v2 =>
  cond (decide (v2 < (t0.length : Int))) (Option.bind (getI t0 v2) fun (x4 : G_api_Ptr) => Option.bind (M_ref1_MayPtr x4) fun (x5 : Bool) => cond (!x5) (some []) (Option.bind (getI t0 v2) fun (x7 : G_api_Ptr) => Option.bind (M_ref1_Put ([50, 52, 52, 52, 52, 52] : Str) ([x7.Addr, x7.Birth, (x7.Sum.x0.toNat : Int), (x7.Sum.x1.toNat : Int), (x7.Sum.x2.toNat : Int), (x7.Sum.x3.toNat : Int)] : List Int)) fun (x8 : Str) => Option.bind (addS v1 x8) fun (x9 : Str) => (M_ref1_PutPtrs_l1 t0 n1) x9 (w64 (v2 + 1)))) (some v1)
noncomputable def M_ref1_PutPtrs (t0 : (List G_api_Ptr)) : Option Str :=
  M_ref1_PutPtrs_l1 t0 fuel ([] : Str) 0
end Go.Proofs
