/- Pure models of functions of the program, and that its code does what they say: palimplaw6 UberForms. Written by a program. -/
import Derived.Test.YteiaengicalapaaR63
import Derived.Test.YteiaengicalapaaR64
import Derived.Test.YteiaengicalapaaR65
import Derived.Test.YteiaengicalapaaR6B
set_option maxRecDepth 20000
set_option maxHeartbeats 4000000
namespace Go.Proofs
open Go Go.Fhl
set_option linter.unusedVariables false
set_option linter.unusedSimpArgs false
noncomputable def M_law6_UberForms_l2 (c_1 : (Int → Option Bool)) : Nat → Int → Option Bool
  | 0, _ => none
  | n2 + 1, v12 =>
  cond (decide (v12 < (([(G_api_Uber.mk 0 0 0 (G_api_Ptr.mk 0 0 (A4.mk 0 0 0 0))), (G_api_Uber.mk 1 0 0 (G_api_Ptr.mk 0 0 (A4.mk 0 0 0 0))), (G_api_Uber.mk 0 0 0 (G_api_Ptr.mk 20 1 (A4.mk 0 0 0 0))), (G_api_Uber.mk 1 0 6 (G_api_Ptr.mk 20 1 (A4.mk 0 0 0 0))), (G_api_Uber.mk 1 0 (-1) (G_api_Ptr.mk 20 1 (A4.mk 0 0 0 0))), (G_api_Uber.mk 1 (-1) 0 (G_api_Ptr.mk 20 1 (A4.mk 0 0 0 0))), (G_api_Uber.mk 1073741825 0 0 (G_api_Ptr.mk 20 1 (A4.mk 0 0 0 0))), (G_api_Uber.mk 1 0 0 (G_api_Ptr.mk 65536 0 (A4.mk 0 0 0 0)))] : List G_api_Uber).length : Int))) (Option.bind (getI ([(G_api_Uber.mk 0 0 0 (G_api_Ptr.mk 0 0 (A4.mk 0 0 0 0))), (G_api_Uber.mk 1 0 0 (G_api_Ptr.mk 0 0 (A4.mk 0 0 0 0))), (G_api_Uber.mk 0 0 0 (G_api_Ptr.mk 20 1 (A4.mk 0 0 0 0))), (G_api_Uber.mk 1 0 6 (G_api_Ptr.mk 20 1 (A4.mk 0 0 0 0))), (G_api_Uber.mk 1 0 (-1) (G_api_Ptr.mk 20 1 (A4.mk 0 0 0 0))), (G_api_Uber.mk 1 (-1) 0 (G_api_Ptr.mk 20 1 (A4.mk 0 0 0 0))), (G_api_Uber.mk 1073741825 0 0 (G_api_Ptr.mk 20 1 (A4.mk 0 0 0 0))), (G_api_Uber.mk 1 0 0 (G_api_Ptr.mk 65536 0 (A4.mk 0 0 0 0)))] : List G_api_Uber) v12) fun (x14 : G_api_Uber) => Option.bind (M_uber_May x14) fun (x15 : Bool) => Option.bind (gd (x15 == false) (getI ([(G_api_Uber.mk 0 0 0 (G_api_Ptr.mk 0 0 (A4.mk 0 0 0 0))), (G_api_Uber.mk 1 0 0 (G_api_Ptr.mk 0 0 (A4.mk 0 0 0 0))), (G_api_Uber.mk 0 0 0 (G_api_Ptr.mk 20 1 (A4.mk 0 0 0 0))), (G_api_Uber.mk 1 0 6 (G_api_Ptr.mk 20 1 (A4.mk 0 0 0 0))), (G_api_Uber.mk 1 0 (-1) (G_api_Ptr.mk 20 1 (A4.mk 0 0 0 0))), (G_api_Uber.mk 1 (-1) 0 (G_api_Ptr.mk 20 1 (A4.mk 0 0 0 0))), (G_api_Uber.mk 1073741825 0 0 (G_api_Ptr.mk 20 1 (A4.mk 0 0 0 0))), (G_api_Uber.mk 1 0 0 (G_api_Ptr.mk 65536 0 (A4.mk 0 0 0 0)))] : List G_api_Uber) v12)) fun (x16 : G_api_Uber) => Option.bind (gd (x15 == false) (M_uber_Put x16)) fun (x17 : Str) => cond (x15 || (x17 != [])) (some false) ((M_law6_UberForms_l2 c_1 n2) (w64 (v12 + 1)))) (Option.bind (M_uber_Config 1 240) fun (x19 : Str) => Option.bind (M_uber_Config (-1) 40) fun (x20 : Str) => Option.bind (gd ((x20 == []) == true) (M_uber_Config 1 39)) fun (x21 : Str) => Option.bind (gd (((x20 == []) && (x21 == [])) == true) (M_uber_Config 1 241)) fun (x22 : Str) => Option.bind (gd ((((x20 == []) && (x21 == [])) && (x22 == [])) == true) (M_uber_Config 1073741825 40)) fun (x23 : Str) => Option.bind (gd ((((((x20 == []) && (x21 == [])) && (x22 == [])) && (x23 == [])) && ((x19.length : Int) == 256)) == true) (slL x19 0 7)) fun (x24 : Str) => some ((((((x20 == []) && (x21 == [])) && (x22 == [])) && (x23 == [])) && ((x19.length : Int) == 256)) && (x24 == ([172, 0, 0, 0, 1, 0, 240] : Str))))
noncomputable def M_law6_UberForms_l1 : Nat → Int → Option Bool
  | 0, _ => none
  | n1 + 1, v3 =>
  cond (decide (v3 < (([(G_api_Uber.mk 1 0 0 (G_api_Ptr.mk 20 1 (A4.mk 0 0 0 0))), (G_api_Uber.mk 1073741824 1073741824 5 (G_api_Ptr.mk 20 1 (A4.mk 0 0 0 0)))] : List G_api_Uber).length : Int))) (Option.bind (getI ([(G_api_Uber.mk 1 0 0 (G_api_Ptr.mk 20 1 (A4.mk 0 0 0 0))), (G_api_Uber.mk 1073741824 1073741824 5 (G_api_Ptr.mk 20 1 (A4.mk 0 0 0 0)))] : List G_api_Uber) v3) fun (x5 : G_api_Uber) => Option.bind (M_uber_Put x5) fun (x6 : Str) => Option.bind (M_uber_Take x6) fun (x7 : (G_api_Uber × Bool)) => Option.bind (getI ([(G_api_Uber.mk 1 0 0 (G_api_Ptr.mk 20 1 (A4.mk 0 0 0 0))), (G_api_Uber.mk 1073741824 1073741824 5 (G_api_Ptr.mk 20 1 (A4.mk 0 0 0 0)))] : List G_api_Uber) v3) fun (x8 : G_api_Uber) => Option.bind (M_uber_May x8) fun (x9 : Bool) => Option.bind (gd (((!x9) || (!x7.2)) == false) (getI ([(G_api_Uber.mk 1 0 0 (G_api_Ptr.mk 20 1 (A4.mk 0 0 0 0))), (G_api_Uber.mk 1073741824 1073741824 5 (G_api_Ptr.mk 20 1 (A4.mk 0 0 0 0)))] : List G_api_Uber) v3)) fun (x10 : G_api_Uber) => cond (((!x9) || (!x7.2)) || (!decide (x7.1 = x10))) (some false) ((M_law6_UberForms_l1 n1) (w64 (v3 + 1)))) (M_law6_UberForms_l2 (M_law6_UberForms_l1 n1) fuel 0)
noncomputable def M_law6_UberForms : Option Bool :=
  Option.bind (M_law6_begun) fun (x1 : Bool) => cond (!x1) (some false) (M_law6_UberForms_l1 fuel 0)
theorem ok_law6_UberForms (r : Bool) (h : M_law6_UberForms = some r) : FFn Try.prog 5 [] (Bo r) := by
  refine FFn.of_body (n := 109) Try.func5 rfl Try.ntmps5 rfl rfl rfl rfl ?_
  show AWp _ _ _ ⟨109, 0, [], [], ⟨0, []⟩⟩
  unfold M_law6_UberForms at h
  refine awp_seq ?_
  refine awp_region ?_
  refine arun_do rfl rfl rfl (ex_assign (eV (v := (Bo false)) rfl)) ?_
  refine arun_keepE [] 0 0 (st' := ⟨109, 0, [], [], ⟨0, []⟩⟩) (by kernel_rfl) (by kernel_rfl) ?_
  show AWp _ _ _ _
  refine awp_seq ?_
  refine awp_seq ?_
  refine awp_region ?_
  obtain ⟨x1, hx1, h⟩ := bindS h
  refine arun_do rfl rfl rfl (ex_call0 (vs := []) (v := (Bo x1)) rfl en_8 (cargs evs_nil) rfl (ok_law6_begun  x1 hx1) rfl) ?_
  refine arun_do rfl rfl rfl (ex_un (vx := (Bo x1)) rfl notB_ok) ?_
  refine arun_keepE [10] 0 0 (st' := ⟨109, 0, [(10, (Bo (!x1)))], [], ⟨0, []⟩⟩) (by kernel_rfl) (by kernel_rfl) ?_
  show AWp _ _ _ _
  rcases Bool.eq_false_or_eq_true (!x1) with hb2 | hb2
  · rw [condT hb2] at h
    refine awp_condT (boT hb2) ?_
    refine awp_seq ?_
    refine awp_region ?_
    refine arun_do rfl rfl rfl (ex_assign (eV (v := (Bo false)) rfl)) ?_
    refine arun_keepE [0] 0 0 (st' := ⟨109, 0, [(0, (Bo false))], [], ⟨0, []⟩⟩) (by kernel_rfl) (by kernel_rfl) ?_
    show AWp _ _ _ _
    refine awp_ret ?_
    cases h
    exact ares1 (rtmp rfl (eV rfl))
  · rw [condF hb2] at h
    refine awp_condF (boF hb2) ?_
    refine awp_skip ?_
    show AWp _ _ _ _
    refine awp_seq ?_
    refine awp_region ?_
    refine arun_do rfl rfl rfl (ex_build (qs := [(0, (I 20)), (1, (I 1))]) (v := (Value.agg (c_api_Ptr (G_api_Ptr.mk 20 1 (A4.mk 0 0 0 0))).toArray)) (evp rfl (evp rfl evp_nil)) (by kernel_rfl)) ?_
    refine arun_do rfl rfl rfl (ex_alloc (k := 0) (zs := (c_api_Ptr (G_api_Ptr.mk 0 0 (A4.mk 0 0 0 0)))) (L' := [(c_api_Ptr (G_api_Ptr.mk 0 0 (A4.mk 0 0 0 0)))]) z_26 rfl rfl rfl rfl) ?_
    refine arun_do0 rfl rfl (ex_storeL (vy := (Value.agg (c_api_Ptr (G_api_Ptr.mk 20 1 (A4.mk 0 0 0 0))).toArray)) (cs := (c_api_Ptr (G_api_Ptr.mk 0 0 (A4.mk 0 0 0 0)))) (vs := (c_api_Ptr (G_api_Ptr.mk 20 1 (A4.mk 0 0 0 0)))) (L' := [(c_api_Ptr (G_api_Ptr.mk 20 1 (A4.mk 0 0 0 0)))]) rfl (eV (v := (Value.agg (c_api_Ptr (G_api_Ptr.mk 20 1 (A4.mk 0 0 0 0))).toArray)) rfl) rfl s_26 rfl (Nat.le_of_ble_eq_true rfl) (by kernel_rfl)) ?_
    refine arun_keepE [1] 1 0 (st' := ⟨109, 0, [(1, (LP 0 0))], [(c_api_Ptr (G_api_Ptr.mk 20 1 (A4.mk 0 0 0 0)))], ⟨0, []⟩⟩) (by kernel_rfl) (by kernel_rfl) ?_
    show AWp _ _ _ _
    refine awp_seq ?_
    refine awp_region ?_
    refine arun_do rfl rfl rfl (tx_ldLA (vs := (c_api_Ptr (G_api_Ptr.mk 20 1 (A4.mk 0 0 0 0)))) Try.underlying26 rfl s_26 (by decide) rfl rfl rfl rfl) ?_
    refine arun_do rfl rfl rfl (ex_build (qs := [(0, (I 1)), (3, (Value.agg (c_api_Ptr (G_api_Ptr.mk 20 1 (A4.mk 0 0 0 0))).toArray))]) (v := (Value.agg (c_api_Uber (G_api_Uber.mk 1 0 0 (G_api_Ptr.mk 20 1 (A4.mk 0 0 0 0)))).toArray)) (evp rfl (evp rfl evp_nil)) (by kernel_rfl)) ?_
    refine arun_do rfl rfl rfl (tx_ldLA (vs := (c_api_Ptr (G_api_Ptr.mk 20 1 (A4.mk 0 0 0 0)))) Try.underlying26 rfl s_26 (by decide) rfl rfl rfl rfl) ?_
    refine arun_do rfl rfl rfl (ex_build (qs := [(0, (I 1073741824)), (1, (I 1073741824)), (2, (I 5)), (3, (Value.agg (c_api_Ptr (G_api_Ptr.mk 20 1 (A4.mk 0 0 0 0))).toArray))]) (v := (Value.agg (c_api_Uber (G_api_Uber.mk 1073741824 1073741824 5 (G_api_Ptr.mk 20 1 (A4.mk 0 0 0 0)))).toArray)) (evp rfl (evp rfl (evp rfl (evp rfl evp_nil)))) (by kernel_rfl)) ?_
    refine arun_do rfl rfl rfl (ex_buildSliceD (qs := [(0, (Value.agg (c_api_Uber (G_api_Uber.mk 1 0 0 (G_api_Ptr.mk 20 1 (A4.mk 0 0 0 0)))).toArray)), (1, (Value.agg (c_api_Uber (G_api_Uber.mk 1073741824 1073741824 5 (G_api_Ptr.mk 20 1 (A4.mk 0 0 0 0)))).toArray))]) (cells := (([(G_api_Uber.mk 1 0 0 (G_api_Ptr.mk 20 1 (A4.mk 0 0 0 0))), (G_api_Uber.mk 1073741824 1073741824 5 (G_api_Ptr.mk 20 1 (A4.mk 0 0 0 0)))] : List G_api_Uber).flatMap c_api_Uber)) Try.underlying43 s_28 (by decide) (evp rfl (evp rfl evp_nil)) rfl (by kernel_rfl) (by kernel_rfl) (by kernel_rfl)) ?_
    refine arun_do rfl rfl rfl (ex_assign (eV (v := (SL 9 c_api_Uber ([(G_api_Uber.mk 1 0 0 (G_api_Ptr.mk 20 1 (A4.mk 0 0 0 0))), (G_api_Uber.mk 1073741824 1073741824 5 (G_api_Ptr.mk 20 1 (A4.mk 0 0 0 0)))] : List G_api_Uber))) rfl)) ?_
    refine arun_keepE [1, 2] 1 0 (st' := ⟨109, 0, [(1, (LP 0 0)), (2, (SL 9 c_api_Uber ([(G_api_Uber.mk 1 0 0 (G_api_Ptr.mk 20 1 (A4.mk 0 0 0 0))), (G_api_Uber.mk 1073741824 1073741824 5 (G_api_Ptr.mk 20 1 (A4.mk 0 0 0 0)))] : List G_api_Uber)))], [(c_api_Ptr (G_api_Ptr.mk 20 1 (A4.mk 0 0 0 0)))], ⟨0, []⟩⟩) (by kernel_rfl) (by kernel_rfl) ?_
    show AWp _ _ _ _
    refine awp_seq ?_
    refine awp_region ?_
    refine arun_do rfl rfl rfl (ex_build (qs := []) (v := (Value.agg (c_api_Uber (G_api_Uber.mk 0 0 0 (G_api_Ptr.mk 0 0 (A4.mk 0 0 0 0)))).toArray)) evp_nil (by kernel_rfl)) ?_
    refine arun_do rfl rfl rfl (ex_build (qs := [(0, (I 1))]) (v := (Value.agg (c_api_Uber (G_api_Uber.mk 1 0 0 (G_api_Ptr.mk 0 0 (A4.mk 0 0 0 0)))).toArray)) (evp rfl evp_nil) (by kernel_rfl)) ?_
    refine arun_do rfl rfl rfl (tx_ldLA (vs := (c_api_Ptr (G_api_Ptr.mk 20 1 (A4.mk 0 0 0 0)))) Try.underlying26 rfl s_26 (by decide) rfl rfl rfl rfl) ?_
    refine arun_do rfl rfl rfl (ex_build (qs := [(3, (Value.agg (c_api_Ptr (G_api_Ptr.mk 20 1 (A4.mk 0 0 0 0))).toArray))]) (v := (Value.agg (c_api_Uber (G_api_Uber.mk 0 0 0 (G_api_Ptr.mk 20 1 (A4.mk 0 0 0 0)))).toArray)) (evp rfl evp_nil) (by kernel_rfl)) ?_
    refine arun_do rfl rfl rfl (tx_ldLA (vs := (c_api_Ptr (G_api_Ptr.mk 20 1 (A4.mk 0 0 0 0)))) Try.underlying26 rfl s_26 (by decide) rfl rfl rfl rfl) ?_
    refine arun_do rfl rfl rfl (ex_build (qs := [(0, (I 1)), (2, (I 6)), (3, (Value.agg (c_api_Ptr (G_api_Ptr.mk 20 1 (A4.mk 0 0 0 0))).toArray))]) (v := (Value.agg (c_api_Uber (G_api_Uber.mk 1 0 6 (G_api_Ptr.mk 20 1 (A4.mk 0 0 0 0)))).toArray)) (evp rfl (evp rfl (evp rfl evp_nil))) (by kernel_rfl)) ?_
    refine arun_do rfl rfl rfl (tx_ldLA (vs := (c_api_Ptr (G_api_Ptr.mk 20 1 (A4.mk 0 0 0 0)))) Try.underlying26 rfl s_26 (by decide) rfl rfl rfl rfl) ?_
    refine arun_do rfl rfl rfl (ex_build (qs := [(0, (I 1)), (2, (I (-1))), (3, (Value.agg (c_api_Ptr (G_api_Ptr.mk 20 1 (A4.mk 0 0 0 0))).toArray))]) (v := (Value.agg (c_api_Uber (G_api_Uber.mk 1 0 (-1) (G_api_Ptr.mk 20 1 (A4.mk 0 0 0 0)))).toArray)) (evp rfl (evp rfl (evp rfl evp_nil))) (by kernel_rfl)) ?_
    refine arun_do rfl rfl rfl (tx_ldLA (vs := (c_api_Ptr (G_api_Ptr.mk 20 1 (A4.mk 0 0 0 0)))) Try.underlying26 rfl s_26 (by decide) rfl rfl rfl rfl) ?_
    refine arun_do rfl rfl rfl (ex_build (qs := [(0, (I 1)), (1, (I (-1))), (3, (Value.agg (c_api_Ptr (G_api_Ptr.mk 20 1 (A4.mk 0 0 0 0))).toArray))]) (v := (Value.agg (c_api_Uber (G_api_Uber.mk 1 (-1) 0 (G_api_Ptr.mk 20 1 (A4.mk 0 0 0 0)))).toArray)) (evp rfl (evp rfl (evp rfl evp_nil))) (by kernel_rfl)) ?_
    refine arun_do rfl rfl rfl (tx_ldLA (vs := (c_api_Ptr (G_api_Ptr.mk 20 1 (A4.mk 0 0 0 0)))) Try.underlying26 rfl s_26 (by decide) rfl rfl rfl rfl) ?_
    refine arun_do rfl rfl rfl (ex_build (qs := [(0, (I 1073741825)), (3, (Value.agg (c_api_Ptr (G_api_Ptr.mk 20 1 (A4.mk 0 0 0 0))).toArray))]) (v := (Value.agg (c_api_Uber (G_api_Uber.mk 1073741825 0 0 (G_api_Ptr.mk 20 1 (A4.mk 0 0 0 0)))).toArray)) (evp rfl (evp rfl evp_nil)) (by kernel_rfl)) ?_
    refine arun_do rfl rfl rfl (ex_build (qs := [(0, (I 65536))]) (v := (Value.agg (c_api_Ptr (G_api_Ptr.mk 65536 0 (A4.mk 0 0 0 0))).toArray)) (evp rfl evp_nil) (by kernel_rfl)) ?_
    refine arun_do rfl rfl rfl (ex_build (qs := [(0, (I 1)), (3, (Value.agg (c_api_Ptr (G_api_Ptr.mk 65536 0 (A4.mk 0 0 0 0))).toArray))]) (v := (Value.agg (c_api_Uber (G_api_Uber.mk 1 0 0 (G_api_Ptr.mk 65536 0 (A4.mk 0 0 0 0)))).toArray)) (evp rfl (evp rfl evp_nil)) (by kernel_rfl)) ?_
    refine arun_do rfl rfl rfl (ex_buildSliceD (qs := [(0, (Value.agg (c_api_Uber (G_api_Uber.mk 0 0 0 (G_api_Ptr.mk 0 0 (A4.mk 0 0 0 0)))).toArray)), (1, (Value.agg (c_api_Uber (G_api_Uber.mk 1 0 0 (G_api_Ptr.mk 0 0 (A4.mk 0 0 0 0)))).toArray)), (2, (Value.agg (c_api_Uber (G_api_Uber.mk 0 0 0 (G_api_Ptr.mk 20 1 (A4.mk 0 0 0 0)))).toArray)), (3, (Value.agg (c_api_Uber (G_api_Uber.mk 1 0 6 (G_api_Ptr.mk 20 1 (A4.mk 0 0 0 0)))).toArray)), (4, (Value.agg (c_api_Uber (G_api_Uber.mk 1 0 (-1) (G_api_Ptr.mk 20 1 (A4.mk 0 0 0 0)))).toArray)), (5, (Value.agg (c_api_Uber (G_api_Uber.mk 1 (-1) 0 (G_api_Ptr.mk 20 1 (A4.mk 0 0 0 0)))).toArray)), (6, (Value.agg (c_api_Uber (G_api_Uber.mk 1073741825 0 0 (G_api_Ptr.mk 20 1 (A4.mk 0 0 0 0)))).toArray)), (7, (Value.agg (c_api_Uber (G_api_Uber.mk 1 0 0 (G_api_Ptr.mk 65536 0 (A4.mk 0 0 0 0)))).toArray))]) (cells := (([(G_api_Uber.mk 0 0 0 (G_api_Ptr.mk 0 0 (A4.mk 0 0 0 0))), (G_api_Uber.mk 1 0 0 (G_api_Ptr.mk 0 0 (A4.mk 0 0 0 0))), (G_api_Uber.mk 0 0 0 (G_api_Ptr.mk 20 1 (A4.mk 0 0 0 0))), (G_api_Uber.mk 1 0 6 (G_api_Ptr.mk 20 1 (A4.mk 0 0 0 0))), (G_api_Uber.mk 1 0 (-1) (G_api_Ptr.mk 20 1 (A4.mk 0 0 0 0))), (G_api_Uber.mk 1 (-1) 0 (G_api_Ptr.mk 20 1 (A4.mk 0 0 0 0))), (G_api_Uber.mk 1073741825 0 0 (G_api_Ptr.mk 20 1 (A4.mk 0 0 0 0))), (G_api_Uber.mk 1 0 0 (G_api_Ptr.mk 65536 0 (A4.mk 0 0 0 0)))] : List G_api_Uber).flatMap c_api_Uber)) Try.underlying43 s_28 (by decide) (evp rfl (evp rfl (evp rfl (evp rfl (evp rfl (evp rfl (evp rfl (evp rfl evp_nil)))))))) rfl (by kernel_rfl) (by kernel_rfl) (by kernel_rfl)) ?_
    refine arun_do rfl rfl rfl (ex_assign (eV (v := (SL 9 c_api_Uber ([(G_api_Uber.mk 0 0 0 (G_api_Ptr.mk 0 0 (A4.mk 0 0 0 0))), (G_api_Uber.mk 1 0 0 (G_api_Ptr.mk 0 0 (A4.mk 0 0 0 0))), (G_api_Uber.mk 0 0 0 (G_api_Ptr.mk 20 1 (A4.mk 0 0 0 0))), (G_api_Uber.mk 1 0 6 (G_api_Ptr.mk 20 1 (A4.mk 0 0 0 0))), (G_api_Uber.mk 1 0 (-1) (G_api_Ptr.mk 20 1 (A4.mk 0 0 0 0))), (G_api_Uber.mk 1 (-1) 0 (G_api_Ptr.mk 20 1 (A4.mk 0 0 0 0))), (G_api_Uber.mk 1073741825 0 0 (G_api_Ptr.mk 20 1 (A4.mk 0 0 0 0))), (G_api_Uber.mk 1 0 0 (G_api_Ptr.mk 65536 0 (A4.mk 0 0 0 0)))] : List G_api_Uber))) rfl)) ?_
    refine arun_keepE [2, 3] 0 0 (st' := ⟨109, 0, [(2, (SL 9 c_api_Uber ([(G_api_Uber.mk 1 0 0 (G_api_Ptr.mk 20 1 (A4.mk 0 0 0 0))), (G_api_Uber.mk 1073741824 1073741824 5 (G_api_Ptr.mk 20 1 (A4.mk 0 0 0 0)))] : List G_api_Uber))), (3, (SL 9 c_api_Uber ([(G_api_Uber.mk 0 0 0 (G_api_Ptr.mk 0 0 (A4.mk 0 0 0 0))), (G_api_Uber.mk 1 0 0 (G_api_Ptr.mk 0 0 (A4.mk 0 0 0 0))), (G_api_Uber.mk 0 0 0 (G_api_Ptr.mk 20 1 (A4.mk 0 0 0 0))), (G_api_Uber.mk 1 0 6 (G_api_Ptr.mk 20 1 (A4.mk 0 0 0 0))), (G_api_Uber.mk 1 0 (-1) (G_api_Ptr.mk 20 1 (A4.mk 0 0 0 0))), (G_api_Uber.mk 1 (-1) 0 (G_api_Ptr.mk 20 1 (A4.mk 0 0 0 0))), (G_api_Uber.mk 1073741825 0 0 (G_api_Ptr.mk 20 1 (A4.mk 0 0 0 0))), (G_api_Uber.mk 1 0 0 (G_api_Ptr.mk 65536 0 (A4.mk 0 0 0 0)))] : List G_api_Uber)))], [], ⟨0, []⟩⟩) (by kernel_rfl) (by kernel_rfl) ?_
    show AWp _ _ _ _
    refine awp_seq ?_
    refine awp_seq ?_
    refine awp_region ?_
    refine arun_do rfl rfl rfl (ex_assign (eV (v := (I 0)) rfl)) ?_
    refine arun_keepE [2, 3, 4] 0 0 (st' := ⟨109, 0, [(2, (SL 9 c_api_Uber ([(G_api_Uber.mk 1 0 0 (G_api_Ptr.mk 20 1 (A4.mk 0 0 0 0))), (G_api_Uber.mk 1073741824 1073741824 5 (G_api_Ptr.mk 20 1 (A4.mk 0 0 0 0)))] : List G_api_Uber))), (3, (SL 9 c_api_Uber ([(G_api_Uber.mk 0 0 0 (G_api_Ptr.mk 0 0 (A4.mk 0 0 0 0))), (G_api_Uber.mk 1 0 0 (G_api_Ptr.mk 0 0 (A4.mk 0 0 0 0))), (G_api_Uber.mk 0 0 0 (G_api_Ptr.mk 20 1 (A4.mk 0 0 0 0))), (G_api_Uber.mk 1 0 6 (G_api_Ptr.mk 20 1 (A4.mk 0 0 0 0))), (G_api_Uber.mk 1 0 (-1) (G_api_Ptr.mk 20 1 (A4.mk 0 0 0 0))), (G_api_Uber.mk 1 (-1) 0 (G_api_Ptr.mk 20 1 (A4.mk 0 0 0 0))), (G_api_Uber.mk 1073741825 0 0 (G_api_Ptr.mk 20 1 (A4.mk 0 0 0 0))), (G_api_Uber.mk 1 0 0 (G_api_Ptr.mk 65536 0 (A4.mk 0 0 0 0)))] : List G_api_Uber))), (4, (I 0))], [], ⟨0, []⟩⟩) (by kernel_rfl) (by kernel_rfl) ?_
    show AWp _ _ _ _
    refine awp_block ?_
    refine awp_loop (fun n s => ∃ (v3 : Int), s = ⟨109, 0, [(2, (SL 9 c_api_Uber ([(G_api_Uber.mk 1 0 0 (G_api_Ptr.mk 20 1 (A4.mk 0 0 0 0))), (G_api_Uber.mk 1073741824 1073741824 5 (G_api_Ptr.mk 20 1 (A4.mk 0 0 0 0)))] : List G_api_Uber))), (3, (SL 9 c_api_Uber ([(G_api_Uber.mk 0 0 0 (G_api_Ptr.mk 0 0 (A4.mk 0 0 0 0))), (G_api_Uber.mk 1 0 0 (G_api_Ptr.mk 0 0 (A4.mk 0 0 0 0))), (G_api_Uber.mk 0 0 0 (G_api_Ptr.mk 20 1 (A4.mk 0 0 0 0))), (G_api_Uber.mk 1 0 6 (G_api_Ptr.mk 20 1 (A4.mk 0 0 0 0))), (G_api_Uber.mk 1 0 (-1) (G_api_Ptr.mk 20 1 (A4.mk 0 0 0 0))), (G_api_Uber.mk 1 (-1) 0 (G_api_Ptr.mk 20 1 (A4.mk 0 0 0 0))), (G_api_Uber.mk 1073741825 0 0 (G_api_Ptr.mk 20 1 (A4.mk 0 0 0 0))), (G_api_Uber.mk 1 0 0 (G_api_Ptr.mk 65536 0 (A4.mk 0 0 0 0)))] : List G_api_Uber))), (4, (I v3))], [], ⟨0, []⟩⟩ ∧ M_law6_UberForms_l1 n v3 = some r) fuel (Exists.intro 0 (And.intro rfl h)) ?_
    rintro n s ⟨v3, rfl, h⟩ -
    cases n with
    | zero => cases h
    | succ n1 =>
      unfold M_law6_UberForms_l1 at h
      refine awp_seq ?_
      refine awp_seq ?_
      refine awp_region ?_
      refine arun_do rfl rfl rfl (ex_move (eV (v := (I v3)) rfl)) ?_
      refine arun_do rfl rfl rfl (ex_move (eV (v := (SL 9 c_api_Uber ([(G_api_Uber.mk 1 0 0 (G_api_Ptr.mk 20 1 (A4.mk 0 0 0 0))), (G_api_Uber.mk 1073741824 1073741824 5 (G_api_Ptr.mk 20 1 (A4.mk 0 0 0 0)))] : List G_api_Uber))) rfl)) ?_
      refine arun_do rfl rfl rfl (tx_lenD (xs := ([(G_api_Uber.mk 1 0 0 (G_api_Ptr.mk 20 1 (A4.mk 0 0 0 0))), (G_api_Uber.mk 1073741824 1073741824 5 (G_api_Ptr.mk 20 1 (A4.mk 0 0 0 0)))] : List G_api_Uber)) ce_api_Uber Try.underlying43 rfl) ?_
      refine arun_do rfl rfl rfl (ex_bin (vx := (I v3)) (vy := (I (([(G_api_Uber.mk 1 0 0 (G_api_Ptr.mk 20 1 (A4.mk 0 0 0 0))), (G_api_Uber.mk 1073741824 1073741824 5 (G_api_Ptr.mk 20 1 (A4.mk 0 0 0 0)))] : List G_api_Uber).length : Int))) rfl rfl lssI_ok) ?_
      refine arun_keepE [2, 3, 4, 35] 0 0 (st' := ⟨109, 0, [(2, (SL 9 c_api_Uber ([(G_api_Uber.mk 1 0 0 (G_api_Ptr.mk 20 1 (A4.mk 0 0 0 0))), (G_api_Uber.mk 1073741824 1073741824 5 (G_api_Ptr.mk 20 1 (A4.mk 0 0 0 0)))] : List G_api_Uber))), (3, (SL 9 c_api_Uber ([(G_api_Uber.mk 0 0 0 (G_api_Ptr.mk 0 0 (A4.mk 0 0 0 0))), (G_api_Uber.mk 1 0 0 (G_api_Ptr.mk 0 0 (A4.mk 0 0 0 0))), (G_api_Uber.mk 0 0 0 (G_api_Ptr.mk 20 1 (A4.mk 0 0 0 0))), (G_api_Uber.mk 1 0 6 (G_api_Ptr.mk 20 1 (A4.mk 0 0 0 0))), (G_api_Uber.mk 1 0 (-1) (G_api_Ptr.mk 20 1 (A4.mk 0 0 0 0))), (G_api_Uber.mk 1 (-1) 0 (G_api_Ptr.mk 20 1 (A4.mk 0 0 0 0))), (G_api_Uber.mk 1073741825 0 0 (G_api_Ptr.mk 20 1 (A4.mk 0 0 0 0))), (G_api_Uber.mk 1 0 0 (G_api_Ptr.mk 65536 0 (A4.mk 0 0 0 0)))] : List G_api_Uber))), (4, (I v3)), (35, (Bo (decide (v3 < (([(G_api_Uber.mk 1 0 0 (G_api_Ptr.mk 20 1 (A4.mk 0 0 0 0))), (G_api_Uber.mk 1073741824 1073741824 5 (G_api_Ptr.mk 20 1 (A4.mk 0 0 0 0)))] : List G_api_Uber).length : Int)))))], [], ⟨0, []⟩⟩) (by kernel_rfl) (by kernel_rfl) ?_
      show AWp _ _ _ _
      rcases Bool.eq_false_or_eq_true (decide (v3 < (([(G_api_Uber.mk 1 0 0 (G_api_Ptr.mk 20 1 (A4.mk 0 0 0 0))), (G_api_Uber.mk 1073741824 1073741824 5 (G_api_Ptr.mk 20 1 (A4.mk 0 0 0 0)))] : List G_api_Uber).length : Int))) with hb4 | hb4
      · rw [condT hb4] at h
        refine awp_condT (boT hb4) ?_
        refine awp_skip ?_
        show AWp _ _ _ _
        refine awp_seq ?_
        refine awp_block ?_
        refine awp_seq ?_
        refine awp_region ?_
        refine arun_do rfl rfl rfl (ex_move (eV (v := (SL 9 c_api_Uber ([(G_api_Uber.mk 1 0 0 (G_api_Ptr.mk 20 1 (A4.mk 0 0 0 0))), (G_api_Uber.mk 1073741824 1073741824 5 (G_api_Ptr.mk 20 1 (A4.mk 0 0 0 0)))] : List G_api_Uber))) rfl)) ?_
        refine arun_do rfl rfl rfl (ex_move (eV (v := (I v3)) rfl)) ?_
        obtain ⟨x5, hx5, h⟩ := bindS h
        refine arun_do rfl rfl rfl (tx_idxD (c := c_api_Uber) (xs := ([(G_api_Uber.mk 1 0 0 (G_api_Ptr.mk 20 1 (A4.mk 0 0 0 0))), (G_api_Uber.mk 1073741824 1073741824 5 (G_api_Ptr.mk 20 1 (A4.mk 0 0 0 0)))] : List G_api_Uber)) (i := v3) ce_api_Uber Try.underlying43 s_28 rfl rfl hx5) ?_
        refine arun_do rfl rfl rfl (tx_ldDA (vs := (c_api_Uber x5)) Try.underlying28 rfl s_28 (by decide) rfl (Nat.le_of_ble_eq_true rfl) rfl) ?_
        obtain ⟨x6, hx6, h⟩ := bindS h
        refine arun_do rfl rfl rfl (ex_call0 (vs := [(Value.agg (c_api_Uber x5).toArray)]) (v := (S x6)) rfl en_11 (cargs (evs rfl evs_nil)) rfl (ok_uber_Put x5 x6 hx6) rfl) ?_
        obtain ⟨x7, hx7, h⟩ := bindS h
        refine arun_do rfl rfl rfl (ex_call0 (vs := [(S x6)]) (v := (Value.tuple #[(Value.agg (c_api_Uber x7.1).toArray), (Bo x7.2)])) rfl en_15 (cargs (evs rfl evs_nil)) rfl (ok_uber_Take x6 x7 hx7) rfl) ?_
        refine arun_do rfl rfl rfl (ex_move (eV (v := (Value.tuple #[(Value.agg (c_api_Uber x7.1).toArray), (Bo x7.2)])) rfl)) ?_
        refine arun_do rfl rfl rfl (ex_extract (vx := (Value.tuple #[(Value.agg (c_api_Uber x7.1).toArray), (Bo x7.2)])) (v := (Value.agg (c_api_Uber x7.1).toArray)) rfl rfl) ?_
        refine arun_do rfl rfl rfl (ex_extract (vx := (Value.tuple #[(Value.agg (c_api_Uber x7.1).toArray), (Bo x7.2)])) (v := (Bo x7.2)) rfl rfl) ?_
        refine arun_do rfl rfl rfl (ex_alloc (k := 0) (zs := (c_api_Uber (G_api_Uber.mk 0 0 0 (G_api_Ptr.mk 0 0 (A4.mk 0 0 0 0))))) (L' := [(c_api_Uber (G_api_Uber.mk 0 0 0 (G_api_Ptr.mk 0 0 (A4.mk 0 0 0 0))))]) z_28 rfl rfl rfl rfl) ?_
        refine arun_do0 rfl rfl (ex_storeL (vy := (Value.agg (c_api_Uber x7.1).toArray)) (cs := (c_api_Uber (G_api_Uber.mk 0 0 0 (G_api_Ptr.mk 0 0 (A4.mk 0 0 0 0))))) (vs := (c_api_Uber x7.1)) (L' := [(c_api_Uber x7.1)]) rfl (eV (v := (Value.agg (c_api_Uber x7.1).toArray)) rfl) rfl s_28 rfl (Nat.le_of_ble_eq_true rfl) (by kernel_rfl)) ?_
        refine arun_do rfl rfl rfl (ex_assign (eV (v := (Bo x7.2)) rfl)) ?_
        refine arun_keepE [2, 3, 4, 5, 6] 1 0 (st' := ⟨109, 0, [(2, (SL 9 c_api_Uber ([(G_api_Uber.mk 1 0 0 (G_api_Ptr.mk 20 1 (A4.mk 0 0 0 0))), (G_api_Uber.mk 1073741824 1073741824 5 (G_api_Ptr.mk 20 1 (A4.mk 0 0 0 0)))] : List G_api_Uber))), (3, (SL 9 c_api_Uber ([(G_api_Uber.mk 0 0 0 (G_api_Ptr.mk 0 0 (A4.mk 0 0 0 0))), (G_api_Uber.mk 1 0 0 (G_api_Ptr.mk 0 0 (A4.mk 0 0 0 0))), (G_api_Uber.mk 0 0 0 (G_api_Ptr.mk 20 1 (A4.mk 0 0 0 0))), (G_api_Uber.mk 1 0 6 (G_api_Ptr.mk 20 1 (A4.mk 0 0 0 0))), (G_api_Uber.mk 1 0 (-1) (G_api_Ptr.mk 20 1 (A4.mk 0 0 0 0))), (G_api_Uber.mk 1 (-1) 0 (G_api_Ptr.mk 20 1 (A4.mk 0 0 0 0))), (G_api_Uber.mk 1073741825 0 0 (G_api_Ptr.mk 20 1 (A4.mk 0 0 0 0))), (G_api_Uber.mk 1 0 0 (G_api_Ptr.mk 65536 0 (A4.mk 0 0 0 0)))] : List G_api_Uber))), (4, (I v3)), (5, (LP 0 0)), (6, (Bo x7.2))], [(c_api_Uber x7.1)], ⟨0, []⟩⟩) (by kernel_rfl) (by kernel_rfl) ?_
        show AWp _ _ _ _
        refine awp_seq ?_
        obtain ⟨x8, hx8, h⟩ := bindS h
        obtain ⟨x9, hx9, h⟩ := bindS h
        obtain ⟨x10, hx10, h⟩ := bindS h
        refine awp_kn [2, 3, 4, 64] 0 0 (st' := ⟨109, 0, [(2, (SL 9 c_api_Uber ([(G_api_Uber.mk 1 0 0 (G_api_Ptr.mk 20 1 (A4.mk 0 0 0 0))), (G_api_Uber.mk 1073741824 1073741824 5 (G_api_Ptr.mk 20 1 (A4.mk 0 0 0 0)))] : List G_api_Uber))), (3, (SL 9 c_api_Uber ([(G_api_Uber.mk 0 0 0 (G_api_Ptr.mk 0 0 (A4.mk 0 0 0 0))), (G_api_Uber.mk 1 0 0 (G_api_Ptr.mk 0 0 (A4.mk 0 0 0 0))), (G_api_Uber.mk 0 0 0 (G_api_Ptr.mk 20 1 (A4.mk 0 0 0 0))), (G_api_Uber.mk 1 0 6 (G_api_Ptr.mk 20 1 (A4.mk 0 0 0 0))), (G_api_Uber.mk 1 0 (-1) (G_api_Ptr.mk 20 1 (A4.mk 0 0 0 0))), (G_api_Uber.mk 1 (-1) 0 (G_api_Ptr.mk 20 1 (A4.mk 0 0 0 0))), (G_api_Uber.mk 1073741825 0 0 (G_api_Ptr.mk 20 1 (A4.mk 0 0 0 0))), (G_api_Uber.mk 1 0 0 (G_api_Ptr.mk 65536 0 (A4.mk 0 0 0 0)))] : List G_api_Uber))), (4, (I v3)), (64, (Bo (((!x9) || (!x7.2)) || (!decide (x7.1 = x10)))))], [], ⟨0, []⟩⟩) (awp_draw (T := [(SL 9 c_api_Uber ([(G_api_Uber.mk 1 0 0 (G_api_Ptr.mk 20 1 (A4.mk 0 0 0 0))), (G_api_Uber.mk 1073741824 1073741824 5 (G_api_Ptr.mk 20 1 (A4.mk 0 0 0 0)))] : List G_api_Uber)), (I v3), (DP (c_api_Uber x8)), (Value.agg (c_api_Uber x8).toArray), (Bo x9), (Bo (!x9)), (Bo (!x9)), (cond ((!x9) == false) (Bo x7.2) skipV), (cond ((!x9) == false) (Bo (!x7.2)) skipV), (Bo ((!x9) || (!x7.2))), (Bo ((!x9) || (!x7.2))), (cond (((!x9) || (!x7.2)) == false) (Value.agg (c_api_Uber x7.1).toArray) skipV), (cond (((!x9) || (!x7.2)) == false) (SL 9 c_api_Uber ([(G_api_Uber.mk 1 0 0 (G_api_Ptr.mk 20 1 (A4.mk 0 0 0 0))), (G_api_Uber.mk 1073741824 1073741824 5 (G_api_Ptr.mk 20 1 (A4.mk 0 0 0 0)))] : List G_api_Uber)) skipV), (cond (((!x9) || (!x7.2)) == false) (I v3) skipV), (cond (((!x9) || (!x7.2)) == false) (DP (c_api_Uber x10)) skipV), (cond (((!x9) || (!x7.2)) == false) (Value.agg (c_api_Uber x10).toArray) skipV), (cond (((!x9) || (!x7.2)) == false) (Bo (!decide (x7.1 = x10))) skipV), (Bo (((!x9) || (!x7.2)) || (!decide (x7.1 = x10))))]) (LH := [([(c_api_Uber x7.1)], ⟨0, []⟩)]) (D := [⟨[(2, none)], [], [0], false⟩, ⟨[(4, none)], [], [0], false⟩, ⟨[(47, some 0), (48, some 1)], [0, 1], [0], false⟩, ⟨[(49, some 2)], [0, 1, 2], [0], false⟩, ⟨[(50, some 3)], [0, 1, 2, 3], [0], false⟩, ⟨[(51, some 4)], [0, 1, 2, 3, 4], [0], false⟩, ⟨[(52, some 5)], [0, 1, 2, 3, 4, 5], [0], false⟩, ⟨[(6, none), (53, some 6)], [0, 1, 2, 3, 4, 5, 6], [0], false⟩, ⟨[(54, some 7), (53, some 6)], [0, 1, 2, 3, 4, 5, 6, 7], [0], false⟩, ⟨[(53, some 6), (55, some 8)], [0, 1, 2, 3, 4, 5, 6, 7, 8], [0], false⟩, ⟨[(56, some 9)], [0, 1, 2, 3, 4, 5, 6, 7, 8, 9], [0], false⟩, ⟨[(5, none), (57, some 10)], [0, 1, 2, 3, 4, 5, 6, 7, 8, 9, 10], [0], false⟩, ⟨[(2, none), (57, some 10)], [0, 1, 2, 3, 4, 5, 6, 7, 8, 9, 10], [0], false⟩, ⟨[(4, none), (57, some 10)], [0, 1, 2, 3, 4, 5, 6, 7, 8, 9, 10], [0], false⟩, ⟨[(59, some 12), (60, some 13), (57, some 10)], [0, 1, 2, 3, 4, 5, 6, 7, 8, 9, 10, 12, 13], [0], false⟩, ⟨[(61, some 14), (57, some 10)], [0, 1, 2, 3, 4, 5, 6, 7, 8, 9, 10, 12, 13, 14], [0], false⟩, ⟨[(58, some 11), (62, some 15), (57, some 10)], [0, 1, 2, 3, 4, 5, 6, 7, 8, 9, 10, 11, 12, 13, 14, 15], [0], false⟩, ⟨[(57, some 10), (63, some 16)], [0, 1, 2, 3, 4, 5, 6, 7, 8, 9, 10, 11, 12, 13, 14, 15, 16], [0], false⟩]) (S := []) (plan := [0, 1, 2, 3, 4, 5, 6, 7, 8, 9, 10, 11, 12, 13, 14, 15, 16, 17]) mo (by kernel_rfl) rfl rfl rfl (dcons (dstep1 (Tm := [(2, (SL 9 c_api_Uber ([(G_api_Uber.mk 1 0 0 (G_api_Ptr.mk 20 1 (A4.mk 0 0 0 0))), (G_api_Uber.mk 1073741824 1073741824 5 (G_api_Ptr.mk 20 1 (A4.mk 0 0 0 0)))] : List G_api_Uber)))]) (L := [(c_api_Uber x7.1)]) (H := ⟨0, []⟩) rfl rfl rfl rfl rfl (astep_do rfl (ex_move (eV (v := (SL 9 c_api_Uber ([(G_api_Uber.mk 1 0 0 (G_api_Ptr.mk 20 1 (A4.mk 0 0 0 0))), (G_api_Uber.mk 1073741824 1073741824 5 (G_api_Ptr.mk 20 1 (A4.mk 0 0 0 0)))] : List G_api_Uber))) rfl)))) (dcons (dstep1 (Tm := [(4, (I v3))]) (L := [(c_api_Uber x7.1)]) (H := ⟨0, []⟩) rfl rfl rfl rfl rfl (astep_do rfl (ex_move (eV (v := (I v3)) rfl)))) (dcons (dstep1 (Tm := [(47, (SL 9 c_api_Uber ([(G_api_Uber.mk 1 0 0 (G_api_Ptr.mk 20 1 (A4.mk 0 0 0 0))), (G_api_Uber.mk 1073741824 1073741824 5 (G_api_Ptr.mk 20 1 (A4.mk 0 0 0 0)))] : List G_api_Uber))), (48, (I v3))]) (L := [(c_api_Uber x7.1)]) (H := ⟨0, []⟩) rfl rfl rfl rfl rfl (astep_do rfl (tx_idxD (c := c_api_Uber) (xs := ([(G_api_Uber.mk 1 0 0 (G_api_Ptr.mk 20 1 (A4.mk 0 0 0 0))), (G_api_Uber.mk 1073741824 1073741824 5 (G_api_Ptr.mk 20 1 (A4.mk 0 0 0 0)))] : List G_api_Uber)) (i := v3) ce_api_Uber Try.underlying43 s_28 rfl rfl hx8))) (dcons (dstep1 (Tm := [(49, (DP (c_api_Uber x8)))]) (L := [(c_api_Uber x7.1)]) (H := ⟨0, []⟩) rfl rfl rfl rfl rfl (astep_do rfl (tx_ldDA (vs := (c_api_Uber x8)) Try.underlying28 rfl s_28 (by decide) rfl (Nat.le_of_ble_eq_true rfl) rfl))) (dcons (dstep1 (Tm := [(50, (Value.agg (c_api_Uber x8).toArray))]) (L := [(c_api_Uber x7.1)]) (H := ⟨0, []⟩) rfl rfl rfl rfl rfl (astep_do rfl (ex_call0 (vs := [(Value.agg (c_api_Uber x8).toArray)]) (v := (Bo x9)) rfl en_9 (cargs (evs rfl evs_nil)) rfl (ok_uber_May x8 x9 hx9) rfl))) (dcons (dstep1 (Tm := [(51, (Bo x9))]) (L := [(c_api_Uber x7.1)]) (H := ⟨0, []⟩) rfl rfl rfl rfl rfl (astep_do rfl (ex_un (vx := (Bo x9)) rfl notB_ok))) (dcons (dstep1 (Tm := [(52, (Bo (!x9)))]) (L := [(c_api_Uber x7.1)]) (H := ⟨0, []⟩) rfl rfl rfl rfl rfl (astep_do rfl (ex_move (eV (v := (Bo (!x9))) rfl)))) (dcons (dstep1 (Tm := [(6, (Bo x7.2)), (53, (Bo (!x9)))]) (L := [(c_api_Uber x7.1)]) (H := ⟨0, []⟩) rfl rfl rfl rfl rfl (astep_guard (v := (Bo x7.2)) ((!x9) == false) rfl (fun hc => ex_move (eV (v := (Bo x7.2)) rfl)))) (dcons (dstep1 (Tm := [(54, (cond ((!x9) == false) (Bo x7.2) skipV)), (53, (Bo (!x9)))]) (L := [(c_api_Uber x7.1)]) (H := ⟨0, []⟩) rfl rfl rfl rfl rfl (astep_guard (v := (Bo (!x7.2))) ((!x9) == false) rfl (fun hc => ex_un (vx := (Bo x7.2)) (cond_of hc) notB_ok))) (dcons (dstep1 (Tm := [(53, (Bo (!x9))), (55, (cond ((!x9) == false) (Bo (!x7.2)) skipV))]) (L := [(c_api_Uber x7.1)]) (H := ⟨0, []⟩) rfl rfl rfl rfl rfl (astep_do rfl (ex_pick rfl pkOr))) (dcons (dstep1 (Tm := [(56, (Bo ((!x9) || (!x7.2))))]) (L := [(c_api_Uber x7.1)]) (H := ⟨0, []⟩) rfl rfl rfl rfl rfl (astep_do rfl (ex_move (eV (v := (Bo ((!x9) || (!x7.2)))) rfl)))) (dcons (dstep1 (Tm := [(5, (LP 0 0)), (57, (Bo ((!x9) || (!x7.2))))]) (L := [(c_api_Uber x7.1)]) (H := ⟨0, []⟩) rfl rfl rfl rfl rfl (astep_guard (v := (Value.agg (c_api_Uber x7.1).toArray)) (((!x9) || (!x7.2)) == false) rfl (fun hc => tx_ldLA (vs := (c_api_Uber x7.1)) Try.underlying28 rfl s_28 (by decide) rfl rfl rfl rfl))) (dcons (dstep1 (Tm := [(2, (SL 9 c_api_Uber ([(G_api_Uber.mk 1 0 0 (G_api_Ptr.mk 20 1 (A4.mk 0 0 0 0))), (G_api_Uber.mk 1073741824 1073741824 5 (G_api_Ptr.mk 20 1 (A4.mk 0 0 0 0)))] : List G_api_Uber))), (57, (Bo ((!x9) || (!x7.2))))]) (L := [(c_api_Uber x7.1)]) (H := ⟨0, []⟩) rfl rfl rfl rfl rfl (astep_guard (v := (SL 9 c_api_Uber ([(G_api_Uber.mk 1 0 0 (G_api_Ptr.mk 20 1 (A4.mk 0 0 0 0))), (G_api_Uber.mk 1073741824 1073741824 5 (G_api_Ptr.mk 20 1 (A4.mk 0 0 0 0)))] : List G_api_Uber))) (((!x9) || (!x7.2)) == false) rfl (fun hc => ex_move (eV (v := (SL 9 c_api_Uber ([(G_api_Uber.mk 1 0 0 (G_api_Ptr.mk 20 1 (A4.mk 0 0 0 0))), (G_api_Uber.mk 1073741824 1073741824 5 (G_api_Ptr.mk 20 1 (A4.mk 0 0 0 0)))] : List G_api_Uber))) rfl)))) (dcons (dstep1 (Tm := [(4, (I v3)), (57, (Bo ((!x9) || (!x7.2))))]) (L := [(c_api_Uber x7.1)]) (H := ⟨0, []⟩) rfl rfl rfl rfl rfl (astep_guard (v := (I v3)) (((!x9) || (!x7.2)) == false) rfl (fun hc => ex_move (eV (v := (I v3)) rfl)))) (dcons (dstep1 (Tm := [(59, (cond (((!x9) || (!x7.2)) == false) (SL 9 c_api_Uber ([(G_api_Uber.mk 1 0 0 (G_api_Ptr.mk 20 1 (A4.mk 0 0 0 0))), (G_api_Uber.mk 1073741824 1073741824 5 (G_api_Ptr.mk 20 1 (A4.mk 0 0 0 0)))] : List G_api_Uber)) skipV)), (60, (cond (((!x9) || (!x7.2)) == false) (I v3) skipV)), (57, (Bo ((!x9) || (!x7.2))))]) (L := [(c_api_Uber x7.1)]) (H := ⟨0, []⟩) rfl rfl rfl rfl rfl (astep_guard (v := (DP (c_api_Uber x10))) (((!x9) || (!x7.2)) == false) rfl (fun hc => tx_idxD (c := c_api_Uber) (xs := ([(G_api_Uber.mk 1 0 0 (G_api_Ptr.mk 20 1 (A4.mk 0 0 0 0))), (G_api_Uber.mk 1073741824 1073741824 5 (G_api_Ptr.mk 20 1 (A4.mk 0 0 0 0)))] : List G_api_Uber)) (i := v3) ce_api_Uber Try.underlying43 s_28 (cond_of hc) (cond_of hc) (gd_of hc hx10)))) (dcons (dstep1 (Tm := [(61, (cond (((!x9) || (!x7.2)) == false) (DP (c_api_Uber x10)) skipV)), (57, (Bo ((!x9) || (!x7.2))))]) (L := [(c_api_Uber x7.1)]) (H := ⟨0, []⟩) rfl rfl rfl rfl rfl (astep_guard (v := (Value.agg (c_api_Uber x10).toArray)) (((!x9) || (!x7.2)) == false) rfl (fun hc => tx_ldDA (vs := (c_api_Uber x10)) Try.underlying28 rfl s_28 (by decide) (cond_of hc) (Nat.le_of_ble_eq_true rfl) rfl))) (dcons (dstep1 (Tm := [(58, (cond (((!x9) || (!x7.2)) == false) (Value.agg (c_api_Uber x7.1).toArray) skipV)), (62, (cond (((!x9) || (!x7.2)) == false) (Value.agg (c_api_Uber x10).toArray) skipV)), (57, (Bo ((!x9) || (!x7.2))))]) (L := [(c_api_Uber x7.1)]) (H := ⟨0, []⟩) rfl rfl rfl rfl rfl (astep_guard (v := (Bo (!decide (x7.1 = x10)))) (((!x9) || (!x7.2)) == false) rfl (fun hc => ex_bin (vx := (Value.agg (c_api_Uber x7.1).toArray)) (vy := (Value.agg (c_api_Uber x10).toArray)) (cond_of hc) (cond_of hc) neq_28))) (dcons (dstep1 (Tm := [(57, (Bo ((!x9) || (!x7.2)))), (63, (cond (((!x9) || (!x7.2)) == false) (Bo (!decide (x7.1 = x10))) skipV))]) (L := [(c_api_Uber x7.1)]) (H := ⟨0, []⟩) rfl rfl rfl rfl rfl (astep_do rfl (ex_pick rfl pkOr))) dnil)))))))))))))))))) ⟨rfl, rfl⟩) (by kernel_rfl) (by kernel_rfl) ?_
        show AWp _ _ _ _
        rcases Bool.eq_false_or_eq_true (((!x9) || (!x7.2)) || (!decide (x7.1 = x10))) with hb11 | hb11
        · rw [condT hb11] at h
          refine awp_condT (boT hb11) ?_
          refine awp_seq ?_
          refine awp_region ?_
          refine arun_do rfl rfl rfl (ex_assign (eV (v := (Bo false)) rfl)) ?_
          refine arun_keepE [0] 0 0 (st' := ⟨109, 0, [(0, (Bo false))], [], ⟨0, []⟩⟩) (by kernel_rfl) (by kernel_rfl) ?_
          show AWp _ _ _ _
          refine awp_ret ?_
          cases h
          exact ares1 (rtmp rfl (eV rfl))
        · rw [condF hb11] at h
          refine awp_condF (boF hb11) ?_
          refine awp_skip ?_
          show AWp _ _ _ _
          refine awp_region ?_
          refine arun_do rfl rfl rfl (ex_move (eV (v := (I v3)) rfl)) ?_
          refine arun_do rfl rfl rfl (ex_bin (vx := (I v3)) (vy := (I 1)) rfl rfl addI_ok) ?_
          refine arun_do rfl rfl rfl (ex_assign (eV (v := (I (w64 (v3 + 1)))) rfl)) ?_
          refine arun_keepE [2, 3, 4] 0 0 (st' := ⟨109, 0, [(2, (SL 9 c_api_Uber ([(G_api_Uber.mk 1 0 0 (G_api_Ptr.mk 20 1 (A4.mk 0 0 0 0))), (G_api_Uber.mk 1073741824 1073741824 5 (G_api_Ptr.mk 20 1 (A4.mk 0 0 0 0)))] : List G_api_Uber))), (3, (SL 9 c_api_Uber ([(G_api_Uber.mk 0 0 0 (G_api_Ptr.mk 0 0 (A4.mk 0 0 0 0))), (G_api_Uber.mk 1 0 0 (G_api_Ptr.mk 0 0 (A4.mk 0 0 0 0))), (G_api_Uber.mk 0 0 0 (G_api_Ptr.mk 20 1 (A4.mk 0 0 0 0))), (G_api_Uber.mk 1 0 6 (G_api_Ptr.mk 20 1 (A4.mk 0 0 0 0))), (G_api_Uber.mk 1 0 (-1) (G_api_Ptr.mk 20 1 (A4.mk 0 0 0 0))), (G_api_Uber.mk 1 (-1) 0 (G_api_Ptr.mk 20 1 (A4.mk 0 0 0 0))), (G_api_Uber.mk 1073741825 0 0 (G_api_Ptr.mk 20 1 (A4.mk 0 0 0 0))), (G_api_Uber.mk 1 0 0 (G_api_Ptr.mk 65536 0 (A4.mk 0 0 0 0)))] : List G_api_Uber))), (4, (I (w64 (v3 + 1))))], [], ⟨0, []⟩⟩) (by kernel_rfl) (by kernel_rfl) ?_
          exact Exists.intro n1 (And.intro (Nat.lt_succ_self _) (Exists.intro (w64 (v3 + 1)) (And.intro rfl h)))
      · rw [condF hb4] at h
        refine awp_condF (boF hb4) ?_
        refine awp_exit ?_
        show AWp _ _ _ _
        refine awp_seq ?_
        refine awp_seq ?_
        refine awp_region ?_
        refine arun_do rfl rfl rfl (ex_assign (eV (v := (I 0)) rfl)) ?_
        refine arun_keepE [3, 7] 0 0 (st' := ⟨109, 0, [(3, (SL 9 c_api_Uber ([(G_api_Uber.mk 0 0 0 (G_api_Ptr.mk 0 0 (A4.mk 0 0 0 0))), (G_api_Uber.mk 1 0 0 (G_api_Ptr.mk 0 0 (A4.mk 0 0 0 0))), (G_api_Uber.mk 0 0 0 (G_api_Ptr.mk 20 1 (A4.mk 0 0 0 0))), (G_api_Uber.mk 1 0 6 (G_api_Ptr.mk 20 1 (A4.mk 0 0 0 0))), (G_api_Uber.mk 1 0 (-1) (G_api_Ptr.mk 20 1 (A4.mk 0 0 0 0))), (G_api_Uber.mk 1 (-1) 0 (G_api_Ptr.mk 20 1 (A4.mk 0 0 0 0))), (G_api_Uber.mk 1073741825 0 0 (G_api_Ptr.mk 20 1 (A4.mk 0 0 0 0))), (G_api_Uber.mk 1 0 0 (G_api_Ptr.mk 65536 0 (A4.mk 0 0 0 0)))] : List G_api_Uber))), (7, (I 0))], [], ⟨0, []⟩⟩) (by kernel_rfl) (by kernel_rfl) ?_
        show AWp _ _ _ _
        refine awp_block ?_
        refine awp_loop (fun n s => ∃ (v12 : Int), s = ⟨109, 0, [(3, (SL 9 c_api_Uber ([(G_api_Uber.mk 0 0 0 (G_api_Ptr.mk 0 0 (A4.mk 0 0 0 0))), (G_api_Uber.mk 1 0 0 (G_api_Ptr.mk 0 0 (A4.mk 0 0 0 0))), (G_api_Uber.mk 0 0 0 (G_api_Ptr.mk 20 1 (A4.mk 0 0 0 0))), (G_api_Uber.mk 1 0 6 (G_api_Ptr.mk 20 1 (A4.mk 0 0 0 0))), (G_api_Uber.mk 1 0 (-1) (G_api_Ptr.mk 20 1 (A4.mk 0 0 0 0))), (G_api_Uber.mk 1 (-1) 0 (G_api_Ptr.mk 20 1 (A4.mk 0 0 0 0))), (G_api_Uber.mk 1073741825 0 0 (G_api_Ptr.mk 20 1 (A4.mk 0 0 0 0))), (G_api_Uber.mk 1 0 0 (G_api_Ptr.mk 65536 0 (A4.mk 0 0 0 0)))] : List G_api_Uber))), (7, (I v12))], [], ⟨0, []⟩⟩ ∧ M_law6_UberForms_l2 (M_law6_UberForms_l1 n1) n v12 = some r) fuel (Exists.intro 0 (And.intro rfl h)) ?_
        rintro n s ⟨v12, rfl, h⟩ -
        cases n with
        | zero => cases h
        | succ n2 =>
          unfold M_law6_UberForms_l2 at h
          refine awp_seq ?_
          refine awp_seq ?_
          refine awp_region ?_
          refine arun_do rfl rfl rfl (ex_move (eV (v := (I v12)) rfl)) ?_
          refine arun_do rfl rfl rfl (ex_move (eV (v := (SL 9 c_api_Uber ([(G_api_Uber.mk 0 0 0 (G_api_Ptr.mk 0 0 (A4.mk 0 0 0 0))), (G_api_Uber.mk 1 0 0 (G_api_Ptr.mk 0 0 (A4.mk 0 0 0 0))), (G_api_Uber.mk 0 0 0 (G_api_Ptr.mk 20 1 (A4.mk 0 0 0 0))), (G_api_Uber.mk 1 0 6 (G_api_Ptr.mk 20 1 (A4.mk 0 0 0 0))), (G_api_Uber.mk 1 0 (-1) (G_api_Ptr.mk 20 1 (A4.mk 0 0 0 0))), (G_api_Uber.mk 1 (-1) 0 (G_api_Ptr.mk 20 1 (A4.mk 0 0 0 0))), (G_api_Uber.mk 1073741825 0 0 (G_api_Ptr.mk 20 1 (A4.mk 0 0 0 0))), (G_api_Uber.mk 1 0 0 (G_api_Ptr.mk 65536 0 (A4.mk 0 0 0 0)))] : List G_api_Uber))) rfl)) ?_
          refine arun_do rfl rfl rfl (tx_lenD (xs := ([(G_api_Uber.mk 0 0 0 (G_api_Ptr.mk 0 0 (A4.mk 0 0 0 0))), (G_api_Uber.mk 1 0 0 (G_api_Ptr.mk 0 0 (A4.mk 0 0 0 0))), (G_api_Uber.mk 0 0 0 (G_api_Ptr.mk 20 1 (A4.mk 0 0 0 0))), (G_api_Uber.mk 1 0 6 (G_api_Ptr.mk 20 1 (A4.mk 0 0 0 0))), (G_api_Uber.mk 1 0 (-1) (G_api_Ptr.mk 20 1 (A4.mk 0 0 0 0))), (G_api_Uber.mk 1 (-1) 0 (G_api_Ptr.mk 20 1 (A4.mk 0 0 0 0))), (G_api_Uber.mk 1073741825 0 0 (G_api_Ptr.mk 20 1 (A4.mk 0 0 0 0))), (G_api_Uber.mk 1 0 0 (G_api_Ptr.mk 65536 0 (A4.mk 0 0 0 0)))] : List G_api_Uber)) ce_api_Uber Try.underlying43 rfl) ?_
          refine arun_do rfl rfl rfl (ex_bin (vx := (I v12)) (vy := (I (([(G_api_Uber.mk 0 0 0 (G_api_Ptr.mk 0 0 (A4.mk 0 0 0 0))), (G_api_Uber.mk 1 0 0 (G_api_Ptr.mk 0 0 (A4.mk 0 0 0 0))), (G_api_Uber.mk 0 0 0 (G_api_Ptr.mk 20 1 (A4.mk 0 0 0 0))), (G_api_Uber.mk 1 0 6 (G_api_Ptr.mk 20 1 (A4.mk 0 0 0 0))), (G_api_Uber.mk 1 0 (-1) (G_api_Ptr.mk 20 1 (A4.mk 0 0 0 0))), (G_api_Uber.mk 1 (-1) 0 (G_api_Ptr.mk 20 1 (A4.mk 0 0 0 0))), (G_api_Uber.mk 1073741825 0 0 (G_api_Ptr.mk 20 1 (A4.mk 0 0 0 0))), (G_api_Uber.mk 1 0 0 (G_api_Ptr.mk 65536 0 (A4.mk 0 0 0 0)))] : List G_api_Uber).length : Int))) rfl rfl lssI_ok) ?_
          refine arun_keepE [3, 7, 68] 0 0 (st' := ⟨109, 0, [(3, (SL 9 c_api_Uber ([(G_api_Uber.mk 0 0 0 (G_api_Ptr.mk 0 0 (A4.mk 0 0 0 0))), (G_api_Uber.mk 1 0 0 (G_api_Ptr.mk 0 0 (A4.mk 0 0 0 0))), (G_api_Uber.mk 0 0 0 (G_api_Ptr.mk 20 1 (A4.mk 0 0 0 0))), (G_api_Uber.mk 1 0 6 (G_api_Ptr.mk 20 1 (A4.mk 0 0 0 0))), (G_api_Uber.mk 1 0 (-1) (G_api_Ptr.mk 20 1 (A4.mk 0 0 0 0))), (G_api_Uber.mk 1 (-1) 0 (G_api_Ptr.mk 20 1 (A4.mk 0 0 0 0))), (G_api_Uber.mk 1073741825 0 0 (G_api_Ptr.mk 20 1 (A4.mk 0 0 0 0))), (G_api_Uber.mk 1 0 0 (G_api_Ptr.mk 65536 0 (A4.mk 0 0 0 0)))] : List G_api_Uber))), (7, (I v12)), (68, (Bo (decide (v12 < (([(G_api_Uber.mk 0 0 0 (G_api_Ptr.mk 0 0 (A4.mk 0 0 0 0))), (G_api_Uber.mk 1 0 0 (G_api_Ptr.mk 0 0 (A4.mk 0 0 0 0))), (G_api_Uber.mk 0 0 0 (G_api_Ptr.mk 20 1 (A4.mk 0 0 0 0))), (G_api_Uber.mk 1 0 6 (G_api_Ptr.mk 20 1 (A4.mk 0 0 0 0))), (G_api_Uber.mk 1 0 (-1) (G_api_Ptr.mk 20 1 (A4.mk 0 0 0 0))), (G_api_Uber.mk 1 (-1) 0 (G_api_Ptr.mk 20 1 (A4.mk 0 0 0 0))), (G_api_Uber.mk 1073741825 0 0 (G_api_Ptr.mk 20 1 (A4.mk 0 0 0 0))), (G_api_Uber.mk 1 0 0 (G_api_Ptr.mk 65536 0 (A4.mk 0 0 0 0)))] : List G_api_Uber).length : Int)))))], [], ⟨0, []⟩⟩) (by kernel_rfl) (by kernel_rfl) ?_
          show AWp _ _ _ _
          rcases Bool.eq_false_or_eq_true (decide (v12 < (([(G_api_Uber.mk 0 0 0 (G_api_Ptr.mk 0 0 (A4.mk 0 0 0 0))), (G_api_Uber.mk 1 0 0 (G_api_Ptr.mk 0 0 (A4.mk 0 0 0 0))), (G_api_Uber.mk 0 0 0 (G_api_Ptr.mk 20 1 (A4.mk 0 0 0 0))), (G_api_Uber.mk 1 0 6 (G_api_Ptr.mk 20 1 (A4.mk 0 0 0 0))), (G_api_Uber.mk 1 0 (-1) (G_api_Ptr.mk 20 1 (A4.mk 0 0 0 0))), (G_api_Uber.mk 1 (-1) 0 (G_api_Ptr.mk 20 1 (A4.mk 0 0 0 0))), (G_api_Uber.mk 1073741825 0 0 (G_api_Ptr.mk 20 1 (A4.mk 0 0 0 0))), (G_api_Uber.mk 1 0 0 (G_api_Ptr.mk 65536 0 (A4.mk 0 0 0 0)))] : List G_api_Uber).length : Int))) with hb13 | hb13
          · rw [condT hb13] at h
            refine awp_condT (boT hb13) ?_
            refine awp_skip ?_
            show AWp _ _ _ _
            refine awp_seq ?_
            refine awp_block ?_
            refine awp_seq ?_
            refine awp_region ?_
            refine arun_do rfl rfl rfl (ex_move (eV (v := (SL 9 c_api_Uber ([(G_api_Uber.mk 0 0 0 (G_api_Ptr.mk 0 0 (A4.mk 0 0 0 0))), (G_api_Uber.mk 1 0 0 (G_api_Ptr.mk 0 0 (A4.mk 0 0 0 0))), (G_api_Uber.mk 0 0 0 (G_api_Ptr.mk 20 1 (A4.mk 0 0 0 0))), (G_api_Uber.mk 1 0 6 (G_api_Ptr.mk 20 1 (A4.mk 0 0 0 0))), (G_api_Uber.mk 1 0 (-1) (G_api_Ptr.mk 20 1 (A4.mk 0 0 0 0))), (G_api_Uber.mk 1 (-1) 0 (G_api_Ptr.mk 20 1 (A4.mk 0 0 0 0))), (G_api_Uber.mk 1073741825 0 0 (G_api_Ptr.mk 20 1 (A4.mk 0 0 0 0))), (G_api_Uber.mk 1 0 0 (G_api_Ptr.mk 65536 0 (A4.mk 0 0 0 0)))] : List G_api_Uber))) rfl)) ?_
            refine arun_do rfl rfl rfl (ex_move (eV (v := (I v12)) rfl)) ?_
            obtain ⟨x14, hx14, h⟩ := bindS h
            refine arun_do rfl rfl rfl (tx_idxD (c := c_api_Uber) (xs := ([(G_api_Uber.mk 0 0 0 (G_api_Ptr.mk 0 0 (A4.mk 0 0 0 0))), (G_api_Uber.mk 1 0 0 (G_api_Ptr.mk 0 0 (A4.mk 0 0 0 0))), (G_api_Uber.mk 0 0 0 (G_api_Ptr.mk 20 1 (A4.mk 0 0 0 0))), (G_api_Uber.mk 1 0 6 (G_api_Ptr.mk 20 1 (A4.mk 0 0 0 0))), (G_api_Uber.mk 1 0 (-1) (G_api_Ptr.mk 20 1 (A4.mk 0 0 0 0))), (G_api_Uber.mk 1 (-1) 0 (G_api_Ptr.mk 20 1 (A4.mk 0 0 0 0))), (G_api_Uber.mk 1073741825 0 0 (G_api_Ptr.mk 20 1 (A4.mk 0 0 0 0))), (G_api_Uber.mk 1 0 0 (G_api_Ptr.mk 65536 0 (A4.mk 0 0 0 0)))] : List G_api_Uber)) (i := v12) ce_api_Uber Try.underlying43 s_28 rfl rfl hx14) ?_
            refine arun_do rfl rfl rfl (tx_ldDA (vs := (c_api_Uber x14)) Try.underlying28 rfl s_28 (by decide) rfl (Nat.le_of_ble_eq_true rfl) rfl) ?_
            obtain ⟨x15, hx15, h⟩ := bindS h
            refine arun_do rfl rfl rfl (ex_call0 (vs := [(Value.agg (c_api_Uber x14).toArray)]) (v := (Bo x15)) rfl en_9 (cargs (evs rfl evs_nil)) rfl (ok_uber_May x14 x15 hx15) rfl) ?_
            refine arun_do rfl rfl rfl (ex_move (eV (v := (Bo x15)) rfl)) ?_
            refine arun_guard (v := (SL 9 c_api_Uber ([(G_api_Uber.mk 0 0 0 (G_api_Ptr.mk 0 0 (A4.mk 0 0 0 0))), (G_api_Uber.mk 1 0 0 (G_api_Ptr.mk 0 0 (A4.mk 0 0 0 0))), (G_api_Uber.mk 0 0 0 (G_api_Ptr.mk 20 1 (A4.mk 0 0 0 0))), (G_api_Uber.mk 1 0 6 (G_api_Ptr.mk 20 1 (A4.mk 0 0 0 0))), (G_api_Uber.mk 1 0 (-1) (G_api_Ptr.mk 20 1 (A4.mk 0 0 0 0))), (G_api_Uber.mk 1 (-1) 0 (G_api_Ptr.mk 20 1 (A4.mk 0 0 0 0))), (G_api_Uber.mk 1073741825 0 0 (G_api_Ptr.mk 20 1 (A4.mk 0 0 0 0))), (G_api_Uber.mk 1 0 0 (G_api_Ptr.mk 65536 0 (A4.mk 0 0 0 0)))] : List G_api_Uber))) (x15 == false) rfl rfl rfl (fun hc => ex_move (eV (v := (SL 9 c_api_Uber ([(G_api_Uber.mk 0 0 0 (G_api_Ptr.mk 0 0 (A4.mk 0 0 0 0))), (G_api_Uber.mk 1 0 0 (G_api_Ptr.mk 0 0 (A4.mk 0 0 0 0))), (G_api_Uber.mk 0 0 0 (G_api_Ptr.mk 20 1 (A4.mk 0 0 0 0))), (G_api_Uber.mk 1 0 6 (G_api_Ptr.mk 20 1 (A4.mk 0 0 0 0))), (G_api_Uber.mk 1 0 (-1) (G_api_Ptr.mk 20 1 (A4.mk 0 0 0 0))), (G_api_Uber.mk 1 (-1) 0 (G_api_Ptr.mk 20 1 (A4.mk 0 0 0 0))), (G_api_Uber.mk 1073741825 0 0 (G_api_Ptr.mk 20 1 (A4.mk 0 0 0 0))), (G_api_Uber.mk 1 0 0 (G_api_Ptr.mk 65536 0 (A4.mk 0 0 0 0)))] : List G_api_Uber))) rfl)) ?_
            refine arun_guard (v := (I v12)) (x15 == false) rfl rfl rfl (fun hc => ex_move (eV (v := (I v12)) rfl)) ?_
            obtain ⟨x16, hx16, h⟩ := bindS h
            refine arun_guard (v := (DP (c_api_Uber x16))) (x15 == false) rfl rfl rfl (fun hc => tx_idxD (c := c_api_Uber) (xs := ([(G_api_Uber.mk 0 0 0 (G_api_Ptr.mk 0 0 (A4.mk 0 0 0 0))), (G_api_Uber.mk 1 0 0 (G_api_Ptr.mk 0 0 (A4.mk 0 0 0 0))), (G_api_Uber.mk 0 0 0 (G_api_Ptr.mk 20 1 (A4.mk 0 0 0 0))), (G_api_Uber.mk 1 0 6 (G_api_Ptr.mk 20 1 (A4.mk 0 0 0 0))), (G_api_Uber.mk 1 0 (-1) (G_api_Ptr.mk 20 1 (A4.mk 0 0 0 0))), (G_api_Uber.mk 1 (-1) 0 (G_api_Ptr.mk 20 1 (A4.mk 0 0 0 0))), (G_api_Uber.mk 1073741825 0 0 (G_api_Ptr.mk 20 1 (A4.mk 0 0 0 0))), (G_api_Uber.mk 1 0 0 (G_api_Ptr.mk 65536 0 (A4.mk 0 0 0 0)))] : List G_api_Uber)) (i := v12) ce_api_Uber Try.underlying43 s_28 (cond_of hc) (cond_of hc) (gd_of hc hx16)) ?_
            refine arun_guard (v := (Value.agg (c_api_Uber x16).toArray)) (x15 == false) rfl rfl rfl (fun hc => tx_ldDA (vs := (c_api_Uber x16)) Try.underlying28 rfl s_28 (by decide) (cond_of hc) (Nat.le_of_ble_eq_true rfl) rfl) ?_
            obtain ⟨x17, hx17, h⟩ := bindS h
            refine arun_guard (v := (S x17)) (x15 == false) rfl rfl rfl (fun hc => ex_call0 (vs := [(Value.agg (c_api_Uber x16).toArray)]) (v := (S x17)) rfl en_11 (cargs (evs (cond_of hc) evs_nil)) rfl (ok_uber_Put x16 x17 (gd_of hc hx17)) rfl) ?_
            refine arun_guard (v := (Bo (x17 != []))) (x15 == false) rfl rfl rfl (fun hc => ex_bin (vx := (S x17)) (vy := (S [])) (cond_of hc) rfl neqS_ok) ?_
            refine arun_do rfl rfl rfl (ex_pick rfl pkOr) ?_
            refine arun_keepE [3, 7, 83] 0 0 (st' := ⟨109, 0, [(3, (SL 9 c_api_Uber ([(G_api_Uber.mk 0 0 0 (G_api_Ptr.mk 0 0 (A4.mk 0 0 0 0))), (G_api_Uber.mk 1 0 0 (G_api_Ptr.mk 0 0 (A4.mk 0 0 0 0))), (G_api_Uber.mk 0 0 0 (G_api_Ptr.mk 20 1 (A4.mk 0 0 0 0))), (G_api_Uber.mk 1 0 6 (G_api_Ptr.mk 20 1 (A4.mk 0 0 0 0))), (G_api_Uber.mk 1 0 (-1) (G_api_Ptr.mk 20 1 (A4.mk 0 0 0 0))), (G_api_Uber.mk 1 (-1) 0 (G_api_Ptr.mk 20 1 (A4.mk 0 0 0 0))), (G_api_Uber.mk 1073741825 0 0 (G_api_Ptr.mk 20 1 (A4.mk 0 0 0 0))), (G_api_Uber.mk 1 0 0 (G_api_Ptr.mk 65536 0 (A4.mk 0 0 0 0)))] : List G_api_Uber))), (7, (I v12)), (83, (Bo (x15 || (x17 != []))))], [], ⟨0, []⟩⟩) (by kernel_rfl) (by kernel_rfl) ?_
            show AWp _ _ _ _
            rcases Bool.eq_false_or_eq_true (x15 || (x17 != [])) with hb18 | hb18
            · rw [condT hb18] at h
              refine awp_condT (boT hb18) ?_
              refine awp_seq ?_
              refine awp_region ?_
              refine arun_do rfl rfl rfl (ex_assign (eV (v := (Bo false)) rfl)) ?_
              refine arun_keepE [0] 0 0 (st' := ⟨109, 0, [(0, (Bo false))], [], ⟨0, []⟩⟩) (by kernel_rfl) (by kernel_rfl) ?_
              show AWp _ _ _ _
              refine awp_ret ?_
              cases h
              exact ares1 (rtmp rfl (eV rfl))
            · rw [condF hb18] at h
              refine awp_condF (boF hb18) ?_
              refine awp_skip ?_
              show AWp _ _ _ _
              refine awp_region ?_
              refine arun_do rfl rfl rfl (ex_move (eV (v := (I v12)) rfl)) ?_
              refine arun_do rfl rfl rfl (ex_bin (vx := (I v12)) (vy := (I 1)) rfl rfl addI_ok) ?_
              refine arun_do rfl rfl rfl (ex_assign (eV (v := (I (w64 (v12 + 1)))) rfl)) ?_
              refine arun_keepE [3, 7] 0 0 (st' := ⟨109, 0, [(3, (SL 9 c_api_Uber ([(G_api_Uber.mk 0 0 0 (G_api_Ptr.mk 0 0 (A4.mk 0 0 0 0))), (G_api_Uber.mk 1 0 0 (G_api_Ptr.mk 0 0 (A4.mk 0 0 0 0))), (G_api_Uber.mk 0 0 0 (G_api_Ptr.mk 20 1 (A4.mk 0 0 0 0))), (G_api_Uber.mk 1 0 6 (G_api_Ptr.mk 20 1 (A4.mk 0 0 0 0))), (G_api_Uber.mk 1 0 (-1) (G_api_Ptr.mk 20 1 (A4.mk 0 0 0 0))), (G_api_Uber.mk 1 (-1) 0 (G_api_Ptr.mk 20 1 (A4.mk 0 0 0 0))), (G_api_Uber.mk 1073741825 0 0 (G_api_Ptr.mk 20 1 (A4.mk 0 0 0 0))), (G_api_Uber.mk 1 0 0 (G_api_Ptr.mk 65536 0 (A4.mk 0 0 0 0)))] : List G_api_Uber))), (7, (I (w64 (v12 + 1))))], [], ⟨0, []⟩⟩) (by kernel_rfl) (by kernel_rfl) ?_
              exact Exists.intro n2 (And.intro (Nat.lt_succ_self _) (Exists.intro (w64 (v12 + 1)) (And.intro rfl h)))
          · rw [condF hb13] at h
            refine awp_condF (boF hb13) ?_
            refine awp_exit ?_
            show AWp _ _ _ _
            refine awp_seq ?_
            refine awp_region ?_
            obtain ⟨x19, hx19, h⟩ := bindS h
            refine arun_do rfl rfl rfl (ex_call0 (vs := [(I 1), (I 240)]) (v := (S x19)) rfl en_13 (cargs (evs rfl (evs rfl evs_nil))) rfl (ok_uber_Config 1 240 x19 hx19) rfl) ?_
            refine arun_do rfl rfl rfl (ex_assign (eV (v := (S x19)) rfl)) ?_
            refine arun_keepE [8] 0 0 (st' := ⟨109, 0, [(8, (S x19))], [], ⟨0, []⟩⟩) (by kernel_rfl) (by kernel_rfl) ?_
            show AWp _ _ _ _
            refine awp_seq ?_
            refine awp_region ?_
            obtain ⟨x20, hx20, h⟩ := bindS h
            refine arun_do rfl rfl rfl (ex_call0 (vs := [(I (-1)), (I 40)]) (v := (S x20)) rfl en_13 (cargs (evs rfl (evs rfl evs_nil))) rfl (ok_uber_Config (-1) 40 x20 hx20) rfl) ?_
            refine arun_do rfl rfl rfl (ex_bin (vx := (S x20)) (vy := (S [])) rfl rfl eqlS_ok) ?_
            refine arun_do rfl rfl rfl (ex_move (eV (v := (Bo (x20 == []))) rfl)) ?_
            obtain ⟨x21, hx21, h⟩ := bindS h
            refine arun_guard (v := (S x21)) ((x20 == []) == true) rfl rfl rfl (fun hc => ex_call0 (vs := [(I 1), (I 39)]) (v := (S x21)) rfl en_13 (cargs (evs rfl (evs rfl evs_nil))) rfl (ok_uber_Config 1 39 x21 (gd_of hc hx21)) rfl) ?_
            refine arun_guard (v := (Bo (x21 == []))) ((x20 == []) == true) rfl rfl rfl (fun hc => ex_bin (vx := (S x21)) (vy := (S [])) (cond_of hc) rfl eqlS_ok) ?_
            refine arun_do rfl rfl rfl (ex_pick rfl pkAnd) ?_
            refine arun_do rfl rfl rfl (ex_move (eV (v := (Bo ((x20 == []) && (x21 == [])))) rfl)) ?_
            obtain ⟨x22, hx22, h⟩ := bindS h
            refine arun_guard (v := (S x22)) (((x20 == []) && (x21 == [])) == true) rfl rfl rfl (fun hc => ex_call0 (vs := [(I 1), (I 241)]) (v := (S x22)) rfl en_13 (cargs (evs rfl (evs rfl evs_nil))) rfl (ok_uber_Config 1 241 x22 (gd_of hc hx22)) rfl) ?_
            refine arun_guard (v := (Bo (x22 == []))) (((x20 == []) && (x21 == [])) == true) rfl rfl rfl (fun hc => ex_bin (vx := (S x22)) (vy := (S [])) (cond_of hc) rfl eqlS_ok) ?_
            refine arun_do rfl rfl rfl (ex_pick rfl pkAnd) ?_
            refine arun_do rfl rfl rfl (ex_move (eV (v := (Bo (((x20 == []) && (x21 == [])) && (x22 == [])))) rfl)) ?_
            obtain ⟨x23, hx23, h⟩ := bindS h
            refine arun_guard (v := (S x23)) ((((x20 == []) && (x21 == [])) && (x22 == [])) == true) rfl rfl rfl (fun hc => ex_call0 (vs := [(I 1073741825), (I 40)]) (v := (S x23)) rfl en_13 (cargs (evs rfl (evs rfl evs_nil))) rfl (ok_uber_Config 1073741825 40 x23 (gd_of hc hx23)) rfl) ?_
            refine arun_guard (v := (Bo (x23 == []))) ((((x20 == []) && (x21 == [])) && (x22 == [])) == true) rfl rfl rfl (fun hc => ex_bin (vx := (S x23)) (vy := (S [])) (cond_of hc) rfl eqlS_ok) ?_
            refine arun_do rfl rfl rfl (ex_pick rfl pkAnd) ?_
            refine arun_do rfl rfl rfl (ex_move (eV (v := (Bo ((((x20 == []) && (x21 == [])) && (x22 == [])) && (x23 == [])))) rfl)) ?_
            refine arun_guard (v := (S x19)) (((((x20 == []) && (x21 == [])) && (x22 == [])) && (x23 == [])) == true) rfl rfl rfl (fun hc => ex_move (eV (v := (S x19)) rfl)) ?_
            refine arun_guard (v := (I (x19.length : Int))) (((((x20 == []) && (x21 == [])) && (x22 == [])) && (x23 == [])) == true) rfl rfl rfl (fun hc => tx_lenS Try.underlying9 (cond_of hc)) ?_
            refine arun_guard (v := (Bo ((x19.length : Int) == 256))) (((((x20 == []) && (x21 == [])) && (x22 == [])) && (x23 == [])) == true) rfl rfl rfl (fun hc => ex_bin (vx := (I (x19.length : Int))) (vy := (I 256)) (cond_of hc) rfl eqlI_ok) ?_
            refine arun_do rfl rfl rfl (ex_pick rfl pkAnd) ?_
            refine arun_do rfl rfl rfl (ex_move (eV (v := (Bo (((((x20 == []) && (x21 == [])) && (x22 == [])) && (x23 == [])) && ((x19.length : Int) == 256)))) rfl)) ?_
            refine arun_guard (v := (S x19)) ((((((x20 == []) && (x21 == [])) && (x22 == [])) && (x23 == [])) && ((x19.length : Int) == 256)) == true) rfl rfl rfl (fun hc => ex_move (eV (v := (S x19)) rfl)) ?_
            obtain ⟨x24, hx24, h⟩ := bindS h
            refine arun_guard (v := (S x24)) ((((((x20 == []) && (x21 == [])) && (x22 == [])) && (x23 == [])) && ((x19.length : Int) == 256)) == true) rfl rfl rfl (fun hc => tx_slS (u := x19) Try.underlying9 (cond_of hc) lo0 (hiX (l := 7) rfl) (gd_of hc hx24)) ?_
            refine arun_guard (v := (Bo (x24 == ([172, 0, 0, 0, 1, 0, 240] : Str)))) ((((((x20 == []) && (x21 == [])) && (x22 == [])) && (x23 == [])) && ((x19.length : Int) == 256)) == true) rfl rfl rfl (fun hc => ex_bin (vx := (S x24)) (vy := (S ([172, 0, 0, 0, 1, 0, 240] : Str))) (cond_of hc) rfl eqlS_ok) ?_
            refine arun_do rfl rfl rfl (ex_pick rfl pkAnd) ?_
            refine arun_do rfl rfl rfl (ex_assign (eV (v := (Bo ((((((x20 == []) && (x21 == [])) && (x22 == [])) && (x23 == [])) && ((x19.length : Int) == 256)) && (x24 == ([172, 0, 0, 0, 1, 0, 240] : Str))))) rfl)) ?_
            refine arun_keepE [0] 0 0 (st' := ⟨109, 0, [(0, (Bo ((((((x20 == []) && (x21 == [])) && (x22 == [])) && (x23 == [])) && ((x19.length : Int) == 256)) && (x24 == ([172, 0, 0, 0, 1, 0, 240] : Str)))))], [], ⟨0, []⟩⟩) (by kernel_rfl) (by kernel_rfl) ?_
            show AWp _ _ _ _
            refine awp_ret ?_
            cases h
            exact ares1 (rtmp rfl (eV rfl))

end Go.Proofs
