/- Pure models of functions of the program, and that its code does what they say: palimplaw2 SumJoins, palimplaw2 SumOrder. Written by a program. -/
import Derived.Test.YthndajeemdfebaaR10
import Derived.Test.YthndajeemdfebaaR1B
set_option maxRecDepth 20000
set_option maxHeartbeats 4000000
namespace Go.Proofs
open Go Go.Fhl
set_option linter.unusedVariables false
set_option linter.unusedSimpArgs false
noncomputable def M_law2_SumJoins (t0 : (List UInt8)) (t1 : Str) : Option Bool :=
  Option.bind (M_law2_begun) fun (x1 : Bool) => cond (!x1) (some false) (cond ((decide ((t0.length : Int) > 60)) || (decide ((t1.length : Int) > 60))) (some true) (Option.bind (quoI (t0.length : Int) 4) fun (x4 : Int) => Option.bind (slL t0 0 (w64 (x4 * 4))) fun (x5 : (List UInt8)) => Option.bind (M_sum_Of ([x5] : List Str)) fun (x6 : (A4 UInt32)) => Option.bind (M_sum_Of ([t1] : List Str)) fun (x7 : (A4 UInt32)) => Option.bind (M_sum_Of ([x5, t1] : List Str)) fun (x8 : (A4 UInt32)) => Option.bind (quo32 (UInt32.ofInt (w64 ((t1.length : Int) + 3))) 4) fun (x9 : UInt32) => Option.bind (quo32 (x9 * (x9 + 1)) 2) fun (x10 : UInt32) => Option.bind (quo32 ((x9 * (x9 + 1)) * (x9 + 2)) 6) fun (x11 : UInt32) => some ((((x8.x0 == (x6.x0 + x7.x0)) && (x8.x1 == ((x6.x1 + (x9 * x6.x0)) + x7.x1))) && (x8.x2 == (((x6.x2 + (x9 * x6.x1)) + (x10 * x6.x0)) + x7.x2))) && (x8.x3 == ((((x6.x3 + (x9 * x6.x2)) + (x10 * x6.x1)) + (x11 * x6.x0)) + x7.x3)))))
theorem ok_law2_SumJoins (t0 : (List UInt8)) (t1 : Str) (r : Bool) (h : M_law2_SumJoins t0 t1 = some r) : FFn Try.prog 7 [(SL 1 c8 t0), (S t1)] (Bo r) := by
  refine FFn.of_body (n := 125) Try.func7 rfl Try.ntmps7 rfl rfl rfl rfl ?_
  show AWp _ _ _ ⟨125, 0, [(0, (SL 1 c8 t0)), (1, (S t1))], [], ⟨0, []⟩⟩
  unfold M_law2_SumJoins at h
  refine awp_seq ?_
  refine awp_region ?_
  refine arun_do rfl rfl rfl (ex_assign (eV (v := (Bo false)) rfl)) ?_
  refine arun_keepE [0, 1] 0 0 (st' := ⟨125, 0, [(0, (SL 1 c8 t0)), (1, (S t1))], [], ⟨0, []⟩⟩) (by kernel_rfl) (by kernel_rfl) ?_
  show AWp _ _ _ _
  refine awp_seq ?_
  refine awp_seq ?_
  refine awp_region ?_
  obtain ⟨x1, hx1, h⟩ := bindS h
  refine arun_do rfl rfl rfl (ex_call0 (vs := []) (v := (Bo x1)) rfl en_9 (cargs evs_nil) rfl (ok_law2_begun  x1 hx1) rfl) ?_
  refine arun_do rfl rfl rfl (ex_un (vx := (Bo x1)) rfl notB_ok) ?_
  refine arun_keepE [0, 1, 13] 0 0 (st' := ⟨125, 0, [(0, (SL 1 c8 t0)), (1, (S t1)), (13, (Bo (!x1)))], [], ⟨0, []⟩⟩) (by kernel_rfl) (by kernel_rfl) ?_
  show AWp _ _ _ _
  rcases Bool.eq_false_or_eq_true (!x1) with hb2 | hb2
  · rw [condT hb2] at h
    refine awp_condT (boT hb2) ?_
    refine awp_seq ?_
    refine awp_region ?_
    refine arun_do rfl rfl rfl (ex_assign (eV (v := (Bo false)) rfl)) ?_
    refine arun_keepE [4] 0 0 (st' := ⟨125, 0, [(4, (Bo false))], [], ⟨0, []⟩⟩) (by kernel_rfl) (by kernel_rfl) ?_
    show AWp _ _ _ _
    refine awp_ret ?_
    cases h
    exact ares1 (rtmp rfl (eV rfl))
  · rw [condF hb2] at h
    refine awp_condF (boF hb2) ?_
    refine awp_skip ?_
    show AWp _ _ _ _
    refine awp_seq ?_
    refine awp_seq ?_
    refine awp_region ?_
    refine arun_do rfl rfl rfl (ex_move (eV (v := (SL 1 c8 t0)) rfl)) ?_
    refine arun_do rfl rfl rfl (tx_lenD (xs := t0) ce8 Try.underlying31 rfl) ?_
    refine arun_do rfl rfl rfl (ex_bin (vx := (I (t0.length : Int))) (vy := (I 60)) rfl rfl gtrI_ok) ?_
    refine arun_do rfl rfl rfl (ex_move (eV (v := (Bo (decide ((t0.length : Int) > 60)))) rfl)) ?_
    refine arun_guard (v := (S t1)) ((decide ((t0.length : Int) > 60)) == false) rfl rfl rfl (fun hc => ex_move (eV (v := (S t1)) rfl)) ?_
    refine arun_guard (v := (I (t1.length : Int))) ((decide ((t0.length : Int) > 60)) == false) rfl rfl rfl (fun hc => tx_lenS Try.underlying9 (cond_of hc)) ?_
    refine arun_guard (v := (Bo (decide ((t1.length : Int) > 60)))) ((decide ((t0.length : Int) > 60)) == false) rfl rfl rfl (fun hc => ex_bin (vx := (I (t1.length : Int))) (vy := (I 60)) (cond_of hc) rfl gtrI_ok) ?_
    refine arun_do rfl rfl rfl (ex_pick rfl pkOr) ?_
    refine arun_keepE [0, 1, 21] 0 0 (st' := ⟨125, 0, [(0, (SL 1 c8 t0)), (1, (S t1)), (21, (Bo ((decide ((t0.length : Int) > 60)) || (decide ((t1.length : Int) > 60)))))], [], ⟨0, []⟩⟩) (by kernel_rfl) (by kernel_rfl) ?_
    show AWp _ _ _ _
    rcases Bool.eq_false_or_eq_true ((decide ((t0.length : Int) > 60)) || (decide ((t1.length : Int) > 60))) with hb3 | hb3
    · rw [condT hb3] at h
      refine awp_condT (boT hb3) ?_
      refine awp_seq ?_
      refine awp_region ?_
      refine arun_do rfl rfl rfl (ex_assign (eV (v := (Bo true)) rfl)) ?_
      refine arun_keepE [4] 0 0 (st' := ⟨125, 0, [(4, (Bo true))], [], ⟨0, []⟩⟩) (by kernel_rfl) (by kernel_rfl) ?_
      show AWp _ _ _ _
      refine awp_ret ?_
      cases h
      exact ares1 (rtmp rfl (eV rfl))
    · rw [condF hb3] at h
      refine awp_condF (boF hb3) ?_
      refine awp_skip ?_
      show AWp _ _ _ _
      refine awp_seq ?_
      refine awp_region ?_
      refine arun_do rfl rfl rfl (ex_move (eV (v := (SL 1 c8 t0)) rfl)) ?_
      refine arun_do rfl rfl rfl (ex_move (eV (v := (SL 1 c8 t0)) rfl)) ?_
      refine arun_do rfl rfl rfl (tx_lenD (xs := t0) ce8 Try.underlying31 rfl) ?_
      obtain ⟨x4, hx4, h⟩ := bindS h
      refine arun_do rfl rfl rfl (ex_bin (vx := (I (t0.length : Int))) (vy := (I 4)) rfl rfl (quoI_ok hx4)) ?_
      refine arun_do rfl rfl rfl (ex_bin (vx := (I x4)) (vy := (I 4)) rfl rfl mulI_ok) ?_
      obtain ⟨x5, hx5, h⟩ := bindS h
      refine arun_do rfl rfl rfl (tx_slD (c := c8) (xs := t0) ce8 Try.underlying31 s_5 rfl lo0 (hiX (l := (w64 (x4 * 4))) rfl) hx5) ?_
      refine arun_do rfl rfl rfl (tx_bsD (bs := x5) Try.underlying31 Try.underlying9 Try.underlying5 rfl) ?_
      refine arun_do rfl rfl rfl (ex_assign (eV (v := (S x5)) rfl)) ?_
      refine arun_keepE [1, 5] 0 0 (st' := ⟨125, 0, [(1, (S t1)), (5, (S x5))], [], ⟨0, []⟩⟩) (by kernel_rfl) (by kernel_rfl) ?_
      show AWp _ _ _ _
      refine awp_seq ?_
      refine awp_region ?_
      refine arun_do rfl rfl rfl (ex_move (eV (v := (S x5)) rfl)) ?_
      refine arun_do rfl rfl rfl (ex_buildSliceD (qs := [(0, (S x5))]) (cells := (([x5] : List Str).flatMap cS)) Try.underlying28 s_9 (by decide) (evp rfl evp_nil) rfl (by kernel_rfl) (by kernel_rfl) (by kernel_rfl)) ?_
      obtain ⟨x6, hx6, h⟩ := bindS h
      refine arun_do rfl rfl rfl (ex_call0 (vs := [(SL 1 cS ([x5] : List Str))]) (v := (Value.agg ((cA4 c32) x6).toArray)) rfl en_10 (cargs (evs rfl evs_nil)) rfl (ok_sum_Of ([x5] : List Str) x6 hx6) rfl) ?_
      refine arun_do rfl rfl rfl (ex_move (eV (v := (S t1)) rfl)) ?_
      refine arun_do rfl rfl rfl (ex_buildSliceD (qs := [(0, (S t1))]) (cells := (([t1] : List Str).flatMap cS)) Try.underlying28 s_9 (by decide) (evp rfl evp_nil) rfl (by kernel_rfl) (by kernel_rfl) (by kernel_rfl)) ?_
      obtain ⟨x7, hx7, h⟩ := bindS h
      refine arun_do rfl rfl rfl (ex_call0 (vs := [(SL 1 cS ([t1] : List Str))]) (v := (Value.agg ((cA4 c32) x7).toArray)) rfl en_10 (cargs (evs rfl evs_nil)) rfl (ok_sum_Of ([t1] : List Str) x7 hx7) rfl) ?_
      refine arun_do rfl rfl rfl (ex_move (eV (v := (S x5)) rfl)) ?_
      refine arun_do rfl rfl rfl (ex_move (eV (v := (S t1)) rfl)) ?_
      refine arun_do rfl rfl rfl (ex_buildSliceD (qs := [(0, (S x5)), (1, (S t1))]) (cells := (([x5, t1] : List Str).flatMap cS)) Try.underlying28 s_9 (by decide) (evp rfl (evp rfl evp_nil)) rfl (by kernel_rfl) (by kernel_rfl) (by kernel_rfl)) ?_
      obtain ⟨x8, hx8, h⟩ := bindS h
      refine arun_do rfl rfl rfl (ex_call0 (vs := [(SL 1 cS ([x5, t1] : List Str))]) (v := (Value.agg ((cA4 c32) x8).toArray)) rfl en_10 (cargs (evs rfl evs_nil)) rfl (ok_sum_Of ([x5, t1] : List Str) x8 hx8) rfl) ?_
      refine arun_do rfl rfl rfl (ex_alloc (k := 0) (zs := ((cA4 c32) (A4.mk 0 0 0 0))) (L' := [((cA4 c32) (A4.mk 0 0 0 0))]) z_25 rfl rfl rfl rfl) ?_
      refine arun_do rfl rfl rfl (ex_alloc (k := 1) (zs := ((cA4 c32) (A4.mk 0 0 0 0))) (L' := [((cA4 c32) (A4.mk 0 0 0 0)), ((cA4 c32) (A4.mk 0 0 0 0))]) z_25 rfl rfl rfl rfl) ?_
      refine arun_do rfl rfl rfl (ex_alloc (k := 2) (zs := ((cA4 c32) (A4.mk 0 0 0 0))) (L' := [((cA4 c32) (A4.mk 0 0 0 0)), ((cA4 c32) (A4.mk 0 0 0 0)), ((cA4 c32) (A4.mk 0 0 0 0))]) z_25 rfl rfl rfl rfl) ?_
      refine arun_do0 rfl rfl (ex_storeL (vy := (Value.agg ((cA4 c32) x6).toArray)) (cs := ((cA4 c32) (A4.mk 0 0 0 0))) (vs := ((cA4 c32) x6)) (L' := [((cA4 c32) x6), ((cA4 c32) (A4.mk 0 0 0 0)), ((cA4 c32) (A4.mk 0 0 0 0))]) rfl (eV (v := (Value.agg ((cA4 c32) x6).toArray)) rfl) rfl s_25 rfl (Nat.le_of_ble_eq_true rfl) (by kernel_rfl)) ?_
      refine arun_do0 rfl rfl (ex_storeL (vy := (Value.agg ((cA4 c32) x7).toArray)) (cs := ((cA4 c32) (A4.mk 0 0 0 0))) (vs := ((cA4 c32) x7)) (L' := [((cA4 c32) x6), ((cA4 c32) x7), ((cA4 c32) (A4.mk 0 0 0 0))]) rfl (eV (v := (Value.agg ((cA4 c32) x7).toArray)) rfl) rfl s_25 rfl (Nat.le_of_ble_eq_true rfl) (by kernel_rfl)) ?_
      refine arun_do0 rfl rfl (ex_storeL (vy := (Value.agg ((cA4 c32) x8).toArray)) (cs := ((cA4 c32) (A4.mk 0 0 0 0))) (vs := ((cA4 c32) x8)) (L' := [((cA4 c32) x6), ((cA4 c32) x7), ((cA4 c32) x8)]) rfl (eV (v := (Value.agg ((cA4 c32) x8).toArray)) rfl) rfl s_25 rfl (Nat.le_of_ble_eq_true rfl) (by kernel_rfl)) ?_
      refine arun_keepE [1, 6, 7, 8] 3 0 (st' := ⟨125, 0, [(1, (S t1)), (6, (LP 0 0)), (7, (LP 1 0)), (8, (LP 2 0))], [((cA4 c32) x6), ((cA4 c32) x7), ((cA4 c32) x8)], ⟨0, []⟩⟩) (by kernel_rfl) (by kernel_rfl) ?_
      show AWp _ _ _ _
      refine awp_seq ?_
      refine awp_region ?_
      refine arun_do rfl rfl rfl (ex_move (eV (v := (S t1)) rfl)) ?_
      refine arun_do rfl rfl rfl (tx_lenS Try.underlying9 rfl) ?_
      refine arun_do rfl rfl rfl (ex_bin (vx := (I (t1.length : Int))) (vy := (I 3)) rfl rfl addI_ok) ?_
      refine arun_do rfl rfl rfl (tx_64_32 Try.underlying3 Try.underlying23 rfl) ?_
      obtain ⟨x9, hx9, h⟩ := bindS h
      refine arun_do rfl rfl rfl (ex_bin (vx := (U32 (UInt32.ofInt (w64 ((t1.length : Int) + 3))))) (vy := (U32 4)) rfl rfl (quo32_ok hx9)) ?_
      refine arun_do rfl rfl rfl (ex_assign (eV (v := (U32 x9)) rfl)) ?_
      refine arun_keepE [6, 7, 8, 9] 3 0 (st' := ⟨125, 0, [(6, (LP 0 0)), (7, (LP 1 0)), (8, (LP 2 0)), (9, (U32 x9))], [((cA4 c32) x6), ((cA4 c32) x7), ((cA4 c32) x8)], ⟨0, []⟩⟩) (by kernel_rfl) (by kernel_rfl) ?_
      show AWp _ _ _ _
      refine awp_seq ?_
      refine awp_region ?_
      refine arun_do rfl rfl rfl (ex_move (eV (v := (U32 x9)) rfl)) ?_
      refine arun_do rfl rfl rfl (ex_move (eV (v := (U32 x9)) rfl)) ?_
      refine arun_do rfl rfl rfl (ex_bin (vx := (U32 x9)) (vy := (U32 1)) rfl rfl add32_ok) ?_
      refine arun_do rfl rfl rfl (ex_bin (vx := (U32 x9)) (vy := (U32 (x9 + 1))) rfl rfl mul32_ok) ?_
      obtain ⟨x10, hx10, h⟩ := bindS h
      refine arun_do rfl rfl rfl (ex_bin (vx := (U32 (x9 * (x9 + 1)))) (vy := (U32 2)) rfl rfl (quo32_ok hx10)) ?_
      refine arun_do rfl rfl rfl (ex_assign (eV (v := (U32 x10)) rfl)) ?_
      refine arun_keepE [6, 7, 8, 9, 10] 3 0 (st' := ⟨125, 0, [(6, (LP 0 0)), (7, (LP 1 0)), (8, (LP 2 0)), (9, (U32 x9)), (10, (U32 x10))], [((cA4 c32) x6), ((cA4 c32) x7), ((cA4 c32) x8)], ⟨0, []⟩⟩) (by kernel_rfl) (by kernel_rfl) ?_
      show AWp _ _ _ _
      refine awp_seq ?_
      refine awp_region ?_
      refine arun_do rfl rfl rfl (ex_move (eV (v := (U32 x9)) rfl)) ?_
      refine arun_do rfl rfl rfl (ex_move (eV (v := (U32 x9)) rfl)) ?_
      refine arun_do rfl rfl rfl (ex_bin (vx := (U32 x9)) (vy := (U32 1)) rfl rfl add32_ok) ?_
      refine arun_do rfl rfl rfl (ex_bin (vx := (U32 x9)) (vy := (U32 (x9 + 1))) rfl rfl mul32_ok) ?_
      refine arun_do rfl rfl rfl (ex_move (eV (v := (U32 x9)) rfl)) ?_
      refine arun_do rfl rfl rfl (ex_bin (vx := (U32 x9)) (vy := (U32 2)) rfl rfl add32_ok) ?_
      refine arun_do rfl rfl rfl (ex_bin (vx := (U32 (x9 * (x9 + 1)))) (vy := (U32 (x9 + 2))) rfl rfl mul32_ok) ?_
      obtain ⟨x11, hx11, h⟩ := bindS h
      refine arun_do rfl rfl rfl (ex_bin (vx := (U32 ((x9 * (x9 + 1)) * (x9 + 2)))) (vy := (U32 6)) rfl rfl (quo32_ok hx11)) ?_
      refine arun_do rfl rfl rfl (ex_assign (eV (v := (U32 x11)) rfl)) ?_
      refine arun_keepE [6, 7, 8, 9, 10, 11] 3 0 (st' := ⟨125, 0, [(6, (LP 0 0)), (7, (LP 1 0)), (8, (LP 2 0)), (9, (U32 x9)), (10, (U32 x10)), (11, (U32 x11))], [((cA4 c32) x6), ((cA4 c32) x7), ((cA4 c32) x8)], ⟨0, []⟩⟩) (by kernel_rfl) (by kernel_rfl) ?_
      show AWp _ _ _ _
      refine awp_seq ?_
      refine awp_region ?_
      refine arun_do rfl rfl rfl (ex_indexAddrA (i := 0) (v := (LP 2 0)) Try.underlying25 s_23 rfl rfl (by decide) rfl) ?_
      refine arun_do rfl rfl rfl (tx_ldL1 (v := (U32 x8.x0)) Try.underlying23 rfl rfl rfl rfl) ?_
      refine arun_do rfl rfl rfl (ex_indexAddrA (i := 0) (v := (LP 0 0)) Try.underlying25 s_23 rfl rfl (by decide) rfl) ?_
      refine arun_do rfl rfl rfl (tx_ldL1 (v := (U32 x6.x0)) Try.underlying23 rfl rfl rfl rfl) ?_
      refine arun_do rfl rfl rfl (ex_indexAddrA (i := 0) (v := (LP 1 0)) Try.underlying25 s_23 rfl rfl (by decide) rfl) ?_
      refine arun_do rfl rfl rfl (tx_ldL1 (v := (U32 x7.x0)) Try.underlying23 rfl rfl rfl rfl) ?_
      refine arun_do rfl rfl rfl (ex_bin (vx := (U32 x6.x0)) (vy := (U32 x7.x0)) rfl rfl add32_ok) ?_
      refine arun_do rfl rfl rfl (ex_bin (vx := (U32 x8.x0)) (vy := (U32 (x6.x0 + x7.x0))) rfl rfl eql32_ok) ?_
      refine arun_do rfl rfl rfl (ex_move (eV (v := (Bo (x8.x0 == (x6.x0 + x7.x0)))) rfl)) ?_
      refine arun_guard (v := (LP 2 1)) ((x8.x0 == (x6.x0 + x7.x0)) == true) rfl rfl rfl (fun hc => ex_indexAddrA (i := 1) (v := (LP 2 1)) Try.underlying25 s_23 rfl rfl (by decide) rfl) ?_
      refine arun_guard (v := (U32 x8.x1)) ((x8.x0 == (x6.x0 + x7.x0)) == true) rfl rfl rfl (fun hc => tx_ldL1 (v := (U32 x8.x1)) Try.underlying23 rfl (cond_of hc) rfl rfl) ?_
      refine arun_guard (v := (LP 0 1)) ((x8.x0 == (x6.x0 + x7.x0)) == true) rfl rfl rfl (fun hc => ex_indexAddrA (i := 1) (v := (LP 0 1)) Try.underlying25 s_23 rfl rfl (by decide) rfl) ?_
      refine arun_guard (v := (U32 x6.x1)) ((x8.x0 == (x6.x0 + x7.x0)) == true) rfl rfl rfl (fun hc => tx_ldL1 (v := (U32 x6.x1)) Try.underlying23 rfl (cond_of hc) rfl rfl) ?_
      refine arun_guard (v := (U32 x9)) ((x8.x0 == (x6.x0 + x7.x0)) == true) rfl rfl rfl (fun hc => ex_move (eV (v := (U32 x9)) rfl)) ?_
      refine arun_guard (v := (LP 0 0)) ((x8.x0 == (x6.x0 + x7.x0)) == true) rfl rfl rfl (fun hc => ex_indexAddrA (i := 0) (v := (LP 0 0)) Try.underlying25 s_23 rfl rfl (by decide) rfl) ?_
      refine arun_guard (v := (U32 x6.x0)) ((x8.x0 == (x6.x0 + x7.x0)) == true) rfl rfl rfl (fun hc => tx_ldL1 (v := (U32 x6.x0)) Try.underlying23 rfl (cond_of hc) rfl rfl) ?_
      refine arun_guard (v := (U32 (x9 * x6.x0))) ((x8.x0 == (x6.x0 + x7.x0)) == true) rfl rfl rfl (fun hc => ex_bin (vx := (U32 x9)) (vy := (U32 x6.x0)) (cond_of hc) (cond_of hc) mul32_ok) ?_
      refine arun_guard (v := (U32 (x6.x1 + (x9 * x6.x0)))) ((x8.x0 == (x6.x0 + x7.x0)) == true) rfl rfl rfl (fun hc => ex_bin (vx := (U32 x6.x1)) (vy := (U32 (x9 * x6.x0))) (cond_of hc) (cond_of hc) add32_ok) ?_
      refine arun_guard (v := (LP 1 1)) ((x8.x0 == (x6.x0 + x7.x0)) == true) rfl rfl rfl (fun hc => ex_indexAddrA (i := 1) (v := (LP 1 1)) Try.underlying25 s_23 rfl rfl (by decide) rfl) ?_
      refine arun_guard (v := (U32 x7.x1)) ((x8.x0 == (x6.x0 + x7.x0)) == true) rfl rfl rfl (fun hc => tx_ldL1 (v := (U32 x7.x1)) Try.underlying23 rfl (cond_of hc) rfl rfl) ?_
      refine arun_guard (v := (U32 ((x6.x1 + (x9 * x6.x0)) + x7.x1))) ((x8.x0 == (x6.x0 + x7.x0)) == true) rfl rfl rfl (fun hc => ex_bin (vx := (U32 (x6.x1 + (x9 * x6.x0)))) (vy := (U32 x7.x1)) (cond_of hc) (cond_of hc) add32_ok) ?_
      refine arun_guard (v := (Bo (x8.x1 == ((x6.x1 + (x9 * x6.x0)) + x7.x1)))) ((x8.x0 == (x6.x0 + x7.x0)) == true) rfl rfl rfl (fun hc => ex_bin (vx := (U32 x8.x1)) (vy := (U32 ((x6.x1 + (x9 * x6.x0)) + x7.x1))) (cond_of hc) (cond_of hc) eql32_ok) ?_
      refine arun_do rfl rfl rfl (ex_pick rfl pkAnd) ?_
      refine arun_do rfl rfl rfl (ex_move (eV (v := (Bo ((x8.x0 == (x6.x0 + x7.x0)) && (x8.x1 == ((x6.x1 + (x9 * x6.x0)) + x7.x1))))) rfl)) ?_
      refine arun_guard (v := (LP 2 2)) (((x8.x0 == (x6.x0 + x7.x0)) && (x8.x1 == ((x6.x1 + (x9 * x6.x0)) + x7.x1))) == true) rfl rfl rfl (fun hc => ex_indexAddrA (i := 2) (v := (LP 2 2)) Try.underlying25 s_23 rfl rfl (by decide) rfl) ?_
      refine arun_guard (v := (U32 x8.x2)) (((x8.x0 == (x6.x0 + x7.x0)) && (x8.x1 == ((x6.x1 + (x9 * x6.x0)) + x7.x1))) == true) rfl rfl rfl (fun hc => tx_ldL1 (v := (U32 x8.x2)) Try.underlying23 rfl (cond_of hc) rfl rfl) ?_
      refine arun_guard (v := (LP 0 2)) (((x8.x0 == (x6.x0 + x7.x0)) && (x8.x1 == ((x6.x1 + (x9 * x6.x0)) + x7.x1))) == true) rfl rfl rfl (fun hc => ex_indexAddrA (i := 2) (v := (LP 0 2)) Try.underlying25 s_23 rfl rfl (by decide) rfl) ?_
      refine arun_guard (v := (U32 x6.x2)) (((x8.x0 == (x6.x0 + x7.x0)) && (x8.x1 == ((x6.x1 + (x9 * x6.x0)) + x7.x1))) == true) rfl rfl rfl (fun hc => tx_ldL1 (v := (U32 x6.x2)) Try.underlying23 rfl (cond_of hc) rfl rfl) ?_
      refine arun_guard (v := (U32 x9)) (((x8.x0 == (x6.x0 + x7.x0)) && (x8.x1 == ((x6.x1 + (x9 * x6.x0)) + x7.x1))) == true) rfl rfl rfl (fun hc => ex_move (eV (v := (U32 x9)) rfl)) ?_
      refine arun_guard (v := (LP 0 1)) (((x8.x0 == (x6.x0 + x7.x0)) && (x8.x1 == ((x6.x1 + (x9 * x6.x0)) + x7.x1))) == true) rfl rfl rfl (fun hc => ex_indexAddrA (i := 1) (v := (LP 0 1)) Try.underlying25 s_23 rfl rfl (by decide) rfl) ?_
      refine arun_guard (v := (U32 x6.x1)) (((x8.x0 == (x6.x0 + x7.x0)) && (x8.x1 == ((x6.x1 + (x9 * x6.x0)) + x7.x1))) == true) rfl rfl rfl (fun hc => tx_ldL1 (v := (U32 x6.x1)) Try.underlying23 rfl (cond_of hc) rfl rfl) ?_
      refine arun_guard (v := (U32 (x9 * x6.x1))) (((x8.x0 == (x6.x0 + x7.x0)) && (x8.x1 == ((x6.x1 + (x9 * x6.x0)) + x7.x1))) == true) rfl rfl rfl (fun hc => ex_bin (vx := (U32 x9)) (vy := (U32 x6.x1)) (cond_of hc) (cond_of hc) mul32_ok) ?_
      refine arun_guard (v := (U32 (x6.x2 + (x9 * x6.x1)))) (((x8.x0 == (x6.x0 + x7.x0)) && (x8.x1 == ((x6.x1 + (x9 * x6.x0)) + x7.x1))) == true) rfl rfl rfl (fun hc => ex_bin (vx := (U32 x6.x2)) (vy := (U32 (x9 * x6.x1))) (cond_of hc) (cond_of hc) add32_ok) ?_
      refine arun_guard (v := (U32 x10)) (((x8.x0 == (x6.x0 + x7.x0)) && (x8.x1 == ((x6.x1 + (x9 * x6.x0)) + x7.x1))) == true) rfl rfl rfl (fun hc => ex_move (eV (v := (U32 x10)) rfl)) ?_
      refine arun_guard (v := (LP 0 0)) (((x8.x0 == (x6.x0 + x7.x0)) && (x8.x1 == ((x6.x1 + (x9 * x6.x0)) + x7.x1))) == true) rfl rfl rfl (fun hc => ex_indexAddrA (i := 0) (v := (LP 0 0)) Try.underlying25 s_23 rfl rfl (by decide) rfl) ?_
      refine arun_guard (v := (U32 x6.x0)) (((x8.x0 == (x6.x0 + x7.x0)) && (x8.x1 == ((x6.x1 + (x9 * x6.x0)) + x7.x1))) == true) rfl rfl rfl (fun hc => tx_ldL1 (v := (U32 x6.x0)) Try.underlying23 rfl (cond_of hc) rfl rfl) ?_
      refine arun_guard (v := (U32 (x10 * x6.x0))) (((x8.x0 == (x6.x0 + x7.x0)) && (x8.x1 == ((x6.x1 + (x9 * x6.x0)) + x7.x1))) == true) rfl rfl rfl (fun hc => ex_bin (vx := (U32 x10)) (vy := (U32 x6.x0)) (cond_of hc) (cond_of hc) mul32_ok) ?_
      refine arun_guard (v := (U32 ((x6.x2 + (x9 * x6.x1)) + (x10 * x6.x0)))) (((x8.x0 == (x6.x0 + x7.x0)) && (x8.x1 == ((x6.x1 + (x9 * x6.x0)) + x7.x1))) == true) rfl rfl rfl (fun hc => ex_bin (vx := (U32 (x6.x2 + (x9 * x6.x1)))) (vy := (U32 (x10 * x6.x0))) (cond_of hc) (cond_of hc) add32_ok) ?_
      refine arun_guard (v := (LP 1 2)) (((x8.x0 == (x6.x0 + x7.x0)) && (x8.x1 == ((x6.x1 + (x9 * x6.x0)) + x7.x1))) == true) rfl rfl rfl (fun hc => ex_indexAddrA (i := 2) (v := (LP 1 2)) Try.underlying25 s_23 rfl rfl (by decide) rfl) ?_
      refine arun_guard (v := (U32 x7.x2)) (((x8.x0 == (x6.x0 + x7.x0)) && (x8.x1 == ((x6.x1 + (x9 * x6.x0)) + x7.x1))) == true) rfl rfl rfl (fun hc => tx_ldL1 (v := (U32 x7.x2)) Try.underlying23 rfl (cond_of hc) rfl rfl) ?_
      refine arun_guard (v := (U32 (((x6.x2 + (x9 * x6.x1)) + (x10 * x6.x0)) + x7.x2))) (((x8.x0 == (x6.x0 + x7.x0)) && (x8.x1 == ((x6.x1 + (x9 * x6.x0)) + x7.x1))) == true) rfl rfl rfl (fun hc => ex_bin (vx := (U32 ((x6.x2 + (x9 * x6.x1)) + (x10 * x6.x0)))) (vy := (U32 x7.x2)) (cond_of hc) (cond_of hc) add32_ok) ?_
      refine arun_guard (v := (Bo (x8.x2 == (((x6.x2 + (x9 * x6.x1)) + (x10 * x6.x0)) + x7.x2)))) (((x8.x0 == (x6.x0 + x7.x0)) && (x8.x1 == ((x6.x1 + (x9 * x6.x0)) + x7.x1))) == true) rfl rfl rfl (fun hc => ex_bin (vx := (U32 x8.x2)) (vy := (U32 (((x6.x2 + (x9 * x6.x1)) + (x10 * x6.x0)) + x7.x2))) (cond_of hc) (cond_of hc) eql32_ok) ?_
      refine arun_do rfl rfl rfl (ex_pick rfl pkAnd) ?_
      refine arun_do rfl rfl rfl (ex_move (eV (v := (Bo (((x8.x0 == (x6.x0 + x7.x0)) && (x8.x1 == ((x6.x1 + (x9 * x6.x0)) + x7.x1))) && (x8.x2 == (((x6.x2 + (x9 * x6.x1)) + (x10 * x6.x0)) + x7.x2))))) rfl)) ?_
      refine arun_guard (v := (LP 2 3)) ((((x8.x0 == (x6.x0 + x7.x0)) && (x8.x1 == ((x6.x1 + (x9 * x6.x0)) + x7.x1))) && (x8.x2 == (((x6.x2 + (x9 * x6.x1)) + (x10 * x6.x0)) + x7.x2))) == true) rfl rfl rfl (fun hc => ex_indexAddrA (i := 3) (v := (LP 2 3)) Try.underlying25 s_23 rfl rfl (by decide) rfl) ?_
      refine arun_guard (v := (U32 x8.x3)) ((((x8.x0 == (x6.x0 + x7.x0)) && (x8.x1 == ((x6.x1 + (x9 * x6.x0)) + x7.x1))) && (x8.x2 == (((x6.x2 + (x9 * x6.x1)) + (x10 * x6.x0)) + x7.x2))) == true) rfl rfl rfl (fun hc => tx_ldL1 (v := (U32 x8.x3)) Try.underlying23 rfl (cond_of hc) rfl rfl) ?_
      refine arun_guard (v := (LP 0 3)) ((((x8.x0 == (x6.x0 + x7.x0)) && (x8.x1 == ((x6.x1 + (x9 * x6.x0)) + x7.x1))) && (x8.x2 == (((x6.x2 + (x9 * x6.x1)) + (x10 * x6.x0)) + x7.x2))) == true) rfl rfl rfl (fun hc => ex_indexAddrA (i := 3) (v := (LP 0 3)) Try.underlying25 s_23 rfl rfl (by decide) rfl) ?_
      refine arun_guard (v := (U32 x6.x3)) ((((x8.x0 == (x6.x0 + x7.x0)) && (x8.x1 == ((x6.x1 + (x9 * x6.x0)) + x7.x1))) && (x8.x2 == (((x6.x2 + (x9 * x6.x1)) + (x10 * x6.x0)) + x7.x2))) == true) rfl rfl rfl (fun hc => tx_ldL1 (v := (U32 x6.x3)) Try.underlying23 rfl (cond_of hc) rfl rfl) ?_
      refine arun_guard (v := (U32 x9)) ((((x8.x0 == (x6.x0 + x7.x0)) && (x8.x1 == ((x6.x1 + (x9 * x6.x0)) + x7.x1))) && (x8.x2 == (((x6.x2 + (x9 * x6.x1)) + (x10 * x6.x0)) + x7.x2))) == true) rfl rfl rfl (fun hc => ex_move (eV (v := (U32 x9)) rfl)) ?_
      refine arun_guard (v := (LP 0 2)) ((((x8.x0 == (x6.x0 + x7.x0)) && (x8.x1 == ((x6.x1 + (x9 * x6.x0)) + x7.x1))) && (x8.x2 == (((x6.x2 + (x9 * x6.x1)) + (x10 * x6.x0)) + x7.x2))) == true) rfl rfl rfl (fun hc => ex_indexAddrA (i := 2) (v := (LP 0 2)) Try.underlying25 s_23 rfl rfl (by decide) rfl) ?_
      refine arun_guard (v := (U32 x6.x2)) ((((x8.x0 == (x6.x0 + x7.x0)) && (x8.x1 == ((x6.x1 + (x9 * x6.x0)) + x7.x1))) && (x8.x2 == (((x6.x2 + (x9 * x6.x1)) + (x10 * x6.x0)) + x7.x2))) == true) rfl rfl rfl (fun hc => tx_ldL1 (v := (U32 x6.x2)) Try.underlying23 rfl (cond_of hc) rfl rfl) ?_
      refine arun_guard (v := (U32 (x9 * x6.x2))) ((((x8.x0 == (x6.x0 + x7.x0)) && (x8.x1 == ((x6.x1 + (x9 * x6.x0)) + x7.x1))) && (x8.x2 == (((x6.x2 + (x9 * x6.x1)) + (x10 * x6.x0)) + x7.x2))) == true) rfl rfl rfl (fun hc => ex_bin (vx := (U32 x9)) (vy := (U32 x6.x2)) (cond_of hc) (cond_of hc) mul32_ok) ?_
      refine arun_guard (v := (U32 (x6.x3 + (x9 * x6.x2)))) ((((x8.x0 == (x6.x0 + x7.x0)) && (x8.x1 == ((x6.x1 + (x9 * x6.x0)) + x7.x1))) && (x8.x2 == (((x6.x2 + (x9 * x6.x1)) + (x10 * x6.x0)) + x7.x2))) == true) rfl rfl rfl (fun hc => ex_bin (vx := (U32 x6.x3)) (vy := (U32 (x9 * x6.x2))) (cond_of hc) (cond_of hc) add32_ok) ?_
      refine arun_guard (v := (U32 x10)) ((((x8.x0 == (x6.x0 + x7.x0)) && (x8.x1 == ((x6.x1 + (x9 * x6.x0)) + x7.x1))) && (x8.x2 == (((x6.x2 + (x9 * x6.x1)) + (x10 * x6.x0)) + x7.x2))) == true) rfl rfl rfl (fun hc => ex_move (eV (v := (U32 x10)) rfl)) ?_
      refine arun_guard (v := (LP 0 1)) ((((x8.x0 == (x6.x0 + x7.x0)) && (x8.x1 == ((x6.x1 + (x9 * x6.x0)) + x7.x1))) && (x8.x2 == (((x6.x2 + (x9 * x6.x1)) + (x10 * x6.x0)) + x7.x2))) == true) rfl rfl rfl (fun hc => ex_indexAddrA (i := 1) (v := (LP 0 1)) Try.underlying25 s_23 rfl rfl (by decide) rfl) ?_
      refine arun_guard (v := (U32 x6.x1)) ((((x8.x0 == (x6.x0 + x7.x0)) && (x8.x1 == ((x6.x1 + (x9 * x6.x0)) + x7.x1))) && (x8.x2 == (((x6.x2 + (x9 * x6.x1)) + (x10 * x6.x0)) + x7.x2))) == true) rfl rfl rfl (fun hc => tx_ldL1 (v := (U32 x6.x1)) Try.underlying23 rfl (cond_of hc) rfl rfl) ?_
      refine arun_guard (v := (U32 (x10 * x6.x1))) ((((x8.x0 == (x6.x0 + x7.x0)) && (x8.x1 == ((x6.x1 + (x9 * x6.x0)) + x7.x1))) && (x8.x2 == (((x6.x2 + (x9 * x6.x1)) + (x10 * x6.x0)) + x7.x2))) == true) rfl rfl rfl (fun hc => ex_bin (vx := (U32 x10)) (vy := (U32 x6.x1)) (cond_of hc) (cond_of hc) mul32_ok) ?_
      refine arun_guard (v := (U32 ((x6.x3 + (x9 * x6.x2)) + (x10 * x6.x1)))) ((((x8.x0 == (x6.x0 + x7.x0)) && (x8.x1 == ((x6.x1 + (x9 * x6.x0)) + x7.x1))) && (x8.x2 == (((x6.x2 + (x9 * x6.x1)) + (x10 * x6.x0)) + x7.x2))) == true) rfl rfl rfl (fun hc => ex_bin (vx := (U32 (x6.x3 + (x9 * x6.x2)))) (vy := (U32 (x10 * x6.x1))) (cond_of hc) (cond_of hc) add32_ok) ?_
      refine arun_guard (v := (U32 x11)) ((((x8.x0 == (x6.x0 + x7.x0)) && (x8.x1 == ((x6.x1 + (x9 * x6.x0)) + x7.x1))) && (x8.x2 == (((x6.x2 + (x9 * x6.x1)) + (x10 * x6.x0)) + x7.x2))) == true) rfl rfl rfl (fun hc => ex_move (eV (v := (U32 x11)) rfl)) ?_
      refine arun_guard (v := (LP 0 0)) ((((x8.x0 == (x6.x0 + x7.x0)) && (x8.x1 == ((x6.x1 + (x9 * x6.x0)) + x7.x1))) && (x8.x2 == (((x6.x2 + (x9 * x6.x1)) + (x10 * x6.x0)) + x7.x2))) == true) rfl rfl rfl (fun hc => ex_indexAddrA (i := 0) (v := (LP 0 0)) Try.underlying25 s_23 rfl rfl (by decide) rfl) ?_
      refine arun_guard (v := (U32 x6.x0)) ((((x8.x0 == (x6.x0 + x7.x0)) && (x8.x1 == ((x6.x1 + (x9 * x6.x0)) + x7.x1))) && (x8.x2 == (((x6.x2 + (x9 * x6.x1)) + (x10 * x6.x0)) + x7.x2))) == true) rfl rfl rfl (fun hc => tx_ldL1 (v := (U32 x6.x0)) Try.underlying23 rfl (cond_of hc) rfl rfl) ?_
      refine arun_guard (v := (U32 (x11 * x6.x0))) ((((x8.x0 == (x6.x0 + x7.x0)) && (x8.x1 == ((x6.x1 + (x9 * x6.x0)) + x7.x1))) && (x8.x2 == (((x6.x2 + (x9 * x6.x1)) + (x10 * x6.x0)) + x7.x2))) == true) rfl rfl rfl (fun hc => ex_bin (vx := (U32 x11)) (vy := (U32 x6.x0)) (cond_of hc) (cond_of hc) mul32_ok) ?_
      refine arun_guard (v := (U32 (((x6.x3 + (x9 * x6.x2)) + (x10 * x6.x1)) + (x11 * x6.x0)))) ((((x8.x0 == (x6.x0 + x7.x0)) && (x8.x1 == ((x6.x1 + (x9 * x6.x0)) + x7.x1))) && (x8.x2 == (((x6.x2 + (x9 * x6.x1)) + (x10 * x6.x0)) + x7.x2))) == true) rfl rfl rfl (fun hc => ex_bin (vx := (U32 ((x6.x3 + (x9 * x6.x2)) + (x10 * x6.x1)))) (vy := (U32 (x11 * x6.x0))) (cond_of hc) (cond_of hc) add32_ok) ?_
      refine arun_guard (v := (LP 1 3)) ((((x8.x0 == (x6.x0 + x7.x0)) && (x8.x1 == ((x6.x1 + (x9 * x6.x0)) + x7.x1))) && (x8.x2 == (((x6.x2 + (x9 * x6.x1)) + (x10 * x6.x0)) + x7.x2))) == true) rfl rfl rfl (fun hc => ex_indexAddrA (i := 3) (v := (LP 1 3)) Try.underlying25 s_23 rfl rfl (by decide) rfl) ?_
      refine arun_guard (v := (U32 x7.x3)) ((((x8.x0 == (x6.x0 + x7.x0)) && (x8.x1 == ((x6.x1 + (x9 * x6.x0)) + x7.x1))) && (x8.x2 == (((x6.x2 + (x9 * x6.x1)) + (x10 * x6.x0)) + x7.x2))) == true) rfl rfl rfl (fun hc => tx_ldL1 (v := (U32 x7.x3)) Try.underlying23 rfl (cond_of hc) rfl rfl) ?_
      refine arun_guard (v := (U32 ((((x6.x3 + (x9 * x6.x2)) + (x10 * x6.x1)) + (x11 * x6.x0)) + x7.x3))) ((((x8.x0 == (x6.x0 + x7.x0)) && (x8.x1 == ((x6.x1 + (x9 * x6.x0)) + x7.x1))) && (x8.x2 == (((x6.x2 + (x9 * x6.x1)) + (x10 * x6.x0)) + x7.x2))) == true) rfl rfl rfl (fun hc => ex_bin (vx := (U32 (((x6.x3 + (x9 * x6.x2)) + (x10 * x6.x1)) + (x11 * x6.x0)))) (vy := (U32 x7.x3)) (cond_of hc) (cond_of hc) add32_ok) ?_
      refine arun_guard (v := (Bo (x8.x3 == ((((x6.x3 + (x9 * x6.x2)) + (x10 * x6.x1)) + (x11 * x6.x0)) + x7.x3)))) ((((x8.x0 == (x6.x0 + x7.x0)) && (x8.x1 == ((x6.x1 + (x9 * x6.x0)) + x7.x1))) && (x8.x2 == (((x6.x2 + (x9 * x6.x1)) + (x10 * x6.x0)) + x7.x2))) == true) rfl rfl rfl (fun hc => ex_bin (vx := (U32 x8.x3)) (vy := (U32 ((((x6.x3 + (x9 * x6.x2)) + (x10 * x6.x1)) + (x11 * x6.x0)) + x7.x3))) (cond_of hc) (cond_of hc) eql32_ok) ?_
      refine arun_do rfl rfl rfl (ex_pick rfl pkAnd) ?_
      refine arun_do rfl rfl rfl (ex_assign (eV (v := (Bo ((((x8.x0 == (x6.x0 + x7.x0)) && (x8.x1 == ((x6.x1 + (x9 * x6.x0)) + x7.x1))) && (x8.x2 == (((x6.x2 + (x9 * x6.x1)) + (x10 * x6.x0)) + x7.x2))) && (x8.x3 == ((((x6.x3 + (x9 * x6.x2)) + (x10 * x6.x1)) + (x11 * x6.x0)) + x7.x3))))) rfl)) ?_
      refine arun_keepE [4] 0 0 (st' := ⟨125, 0, [(4, (Bo ((((x8.x0 == (x6.x0 + x7.x0)) && (x8.x1 == ((x6.x1 + (x9 * x6.x0)) + x7.x1))) && (x8.x2 == (((x6.x2 + (x9 * x6.x1)) + (x10 * x6.x0)) + x7.x2))) && (x8.x3 == ((((x6.x3 + (x9 * x6.x2)) + (x10 * x6.x1)) + (x11 * x6.x0)) + x7.x3)))))], [], ⟨0, []⟩⟩) (by kernel_rfl) (by kernel_rfl) ?_
      show AWp _ _ _ _
      refine awp_ret ?_
      cases h
      exact ares1 (rtmp rfl (eV rfl))

noncomputable def M_law2_SumOrder_l1 (y7 : Int) (y8 : Int) (x12 : (A4 UInt32)) (x13 : UInt8) (x15 : UInt32) (x17 : UInt32) (x19 : UInt32) (x20 : UInt8) (x22 : UInt32) (x24 : UInt32) (x26 : UInt32) : Nat → Int → List UInt8 → Option Bool
  | 0, _, _ => none
  | n1 + 1, v27, v28 =>
  cond (decide (v27 < 4)) (Option.bind (getI v28 (w64 ((w64 (4 * y8)) + v27))) fun (x30 : UInt8) => Option.bind (getI v28 (w64 ((w64 (4 * y7)) + v27))) fun (x31 : UInt8) => Option.bind (getI v28 (w64 ((w64 (4 * y7)) + v27))) fun (x32 : UInt8) => Option.bind (setI v28 (w64 ((w64 (4 * y7)) + v27)) x30) fun (x33 : List UInt8) => Option.bind (getI x33 (w64 ((w64 (4 * y8)) + v27))) fun (x34 : UInt8) => Option.bind (setI x33 (w64 ((w64 (4 * y8)) + v27)) x31) fun (x35 : List UInt8) => (M_law2_SumOrder_l1 y7 y8 x12 x13 x15 x17 x19 x20 x22 x24 x26 n1) (w64 (v27 + 1)) x35) (Option.bind (M_sum_Of ([v28] : List Str)) fun (x36 : (A4 UInt32)) => some ((x36.x0 == x12.x0) && (x36.x1 == (x12.x1 + (((((x20.toUInt32 + x22) + x24) + x26) - (((x13.toUInt32 + x15) + x17) + x19)) * (UInt32.ofInt (w64 (y8 - y7))))))))
noncomputable def M_law2_SumOrder_k1 (t0 : (List UInt8)) (x4 : Int) (y7 : Int) (y8 : Int) : Option Bool :=
  Option.bind (slL t0 0 (w64 (4 * x4))) fun (x10 : (List UInt8)) => Option.bind (appL 1 ([] : List UInt8) x10) fun (x11 : List UInt8) => Option.bind (M_sum_Of ([x11] : List Str)) fun (x12 : (A4 UInt32)) => Option.bind (getI x11 (w64 (4 * y7))) fun (x13 : UInt8) => Option.bind (getI x11 (w64 ((w64 (4 * y7)) + 1))) fun (x14 : UInt8) => Option.bind (shl32 x14.toUInt32 8) fun (x15 : UInt32) => Option.bind (getI x11 (w64 ((w64 (4 * y7)) + 2))) fun (x16 : UInt8) => Option.bind (shl32 x16.toUInt32 16) fun (x17 : UInt32) => Option.bind (getI x11 (w64 ((w64 (4 * y7)) + 3))) fun (x18 : UInt8) => Option.bind (shl32 x18.toUInt32 24) fun (x19 : UInt32) => Option.bind (getI x11 (w64 (4 * y8))) fun (x20 : UInt8) => Option.bind (getI x11 (w64 ((w64 (4 * y8)) + 1))) fun (x21 : UInt8) => Option.bind (shl32 x21.toUInt32 8) fun (x22 : UInt32) => Option.bind (getI x11 (w64 ((w64 (4 * y8)) + 2))) fun (x23 : UInt8) => Option.bind (shl32 x23.toUInt32 16) fun (x24 : UInt32) => Option.bind (getI x11 (w64 ((w64 (4 * y8)) + 3))) fun (x25 : UInt8) => Option.bind (shl32 x25.toUInt32 24) fun (x26 : UInt32) => M_law2_SumOrder_l1 y7 y8 x12 x13 x15 x17 x19 x20 x22 x24 x26 fuel 0 x11
noncomputable def M_law2_SumOrder (t0 : (List UInt8)) (t1 : UInt8) (t2 : UInt8) : Option Bool :=
  Option.bind (M_law2_begun) fun (x1 : Bool) => cond (!x1) (some false) (cond ((decide ((t0.length : Int) > 60)) || (decide ((t0.length : Int) < 8))) (some true) (Option.bind (quoI (t0.length : Int) 4) fun (x4 : Int) => Option.bind (remI (t1.toNat : Int) x4) fun (x5 : Int) => Option.bind (remI (t2.toNat : Int) x4) fun (x6 : Int) => cond (decide (x5 > x6)) (M_law2_SumOrder_k1 t0 x4 x6 x5) (M_law2_SumOrder_k1 t0 x4 x5 x6)))
theorem ok_law2_SumOrder (t0 : (List UInt8)) (t1 : UInt8) (t2 : UInt8) (r : Bool) (h : M_law2_SumOrder t0 t1 t2 = some r) : FFn Try.prog 8 [(SL 1 c8 t0), (U8 t1), (U8 t2)] (Bo r) := by
  refine FFn.of_body (n := 175) Try.func8 rfl Try.ntmps8 rfl rfl rfl rfl ?_
  show AWp _ _ _ ⟨175, 0, [(0, (SL 1 c8 t0)), (1, (U8 t1)), (2, (U8 t2))], [], ⟨0, []⟩⟩
  unfold M_law2_SumOrder at h
  refine awp_seq ?_
  refine awp_region ?_
  refine arun_do rfl rfl rfl (ex_assign (eV (v := (Bo false)) rfl)) ?_
  refine arun_keepE [0, 1, 2] 0 0 (st' := ⟨175, 0, [(0, (SL 1 c8 t0)), (1, (U8 t1)), (2, (U8 t2))], [], ⟨0, []⟩⟩) (by kernel_rfl) (by kernel_rfl) ?_
  show AWp _ _ _ _
  refine awp_seq ?_
  refine awp_seq ?_
  refine awp_region ?_
  obtain ⟨x1, hx1, h⟩ := bindS h
  refine arun_do rfl rfl rfl (ex_call0 (vs := []) (v := (Bo x1)) rfl en_9 (cargs evs_nil) rfl (ok_law2_begun  x1 hx1) rfl) ?_
  refine arun_do rfl rfl rfl (ex_un (vx := (Bo x1)) rfl notB_ok) ?_
  refine arun_keepE [0, 1, 2, 18] 0 0 (st' := ⟨175, 0, [(0, (SL 1 c8 t0)), (1, (U8 t1)), (2, (U8 t2)), (18, (Bo (!x1)))], [], ⟨0, []⟩⟩) (by kernel_rfl) (by kernel_rfl) ?_
  show AWp _ _ _ _
  rcases Bool.eq_false_or_eq_true (!x1) with hb2 | hb2
  · rw [condT hb2] at h
    refine awp_condT (boT hb2) ?_
    refine awp_seq ?_
    refine awp_region ?_
    refine arun_do rfl rfl rfl (ex_assign (eV (v := (Bo false)) rfl)) ?_
    refine arun_keepE [6] 0 0 (st' := ⟨175, 0, [(6, (Bo false))], [], ⟨0, []⟩⟩) (by kernel_rfl) (by kernel_rfl) ?_
    show AWp _ _ _ _
    refine awp_ret ?_
    cases h
    exact ares1 (rtmp rfl (eV rfl))
  · rw [condF hb2] at h
    refine awp_condF (boF hb2) ?_
    refine awp_skip ?_
    show AWp _ _ _ _
    refine awp_seq ?_
    refine awp_seq ?_
    refine awp_region ?_
    refine arun_do rfl rfl rfl (ex_move (eV (v := (SL 1 c8 t0)) rfl)) ?_
    refine arun_do rfl rfl rfl (tx_lenD (xs := t0) ce8 Try.underlying31 rfl) ?_
    refine arun_do rfl rfl rfl (ex_bin (vx := (I (t0.length : Int))) (vy := (I 60)) rfl rfl gtrI_ok) ?_
    refine arun_do rfl rfl rfl (ex_move (eV (v := (Bo (decide ((t0.length : Int) > 60)))) rfl)) ?_
    refine arun_guard (v := (SL 1 c8 t0)) ((decide ((t0.length : Int) > 60)) == false) rfl rfl rfl (fun hc => ex_move (eV (v := (SL 1 c8 t0)) rfl)) ?_
    refine arun_guard (v := (I (t0.length : Int))) ((decide ((t0.length : Int) > 60)) == false) rfl rfl rfl (fun hc => tx_lenD (xs := t0) ce8 Try.underlying31 (cond_of hc)) ?_
    refine arun_guard (v := (Bo (decide ((t0.length : Int) < 8)))) ((decide ((t0.length : Int) > 60)) == false) rfl rfl rfl (fun hc => ex_bin (vx := (I (t0.length : Int))) (vy := (I 8)) (cond_of hc) rfl lssI_ok) ?_
    refine arun_do rfl rfl rfl (ex_pick rfl pkOr) ?_
    refine arun_keepE [0, 1, 2, 26] 0 0 (st' := ⟨175, 0, [(0, (SL 1 c8 t0)), (1, (U8 t1)), (2, (U8 t2)), (26, (Bo ((decide ((t0.length : Int) > 60)) || (decide ((t0.length : Int) < 8)))))], [], ⟨0, []⟩⟩) (by kernel_rfl) (by kernel_rfl) ?_
    show AWp _ _ _ _
    rcases Bool.eq_false_or_eq_true ((decide ((t0.length : Int) > 60)) || (decide ((t0.length : Int) < 8))) with hb3 | hb3
    · rw [condT hb3] at h
      refine awp_condT (boT hb3) ?_
      refine awp_seq ?_
      refine awp_region ?_
      refine arun_do rfl rfl rfl (ex_assign (eV (v := (Bo true)) rfl)) ?_
      refine arun_keepE [6] 0 0 (st' := ⟨175, 0, [(6, (Bo true))], [], ⟨0, []⟩⟩) (by kernel_rfl) (by kernel_rfl) ?_
      show AWp _ _ _ _
      refine awp_ret ?_
      cases h
      exact ares1 (rtmp rfl (eV rfl))
    · rw [condF hb3] at h
      refine awp_condF (boF hb3) ?_
      refine awp_skip ?_
      show AWp _ _ _ _
      refine awp_seq ?_
      refine awp_region ?_
      refine arun_do rfl rfl rfl (ex_move (eV (v := (SL 1 c8 t0)) rfl)) ?_
      refine arun_do rfl rfl rfl (tx_lenD (xs := t0) ce8 Try.underlying31 rfl) ?_
      obtain ⟨x4, hx4, h⟩ := bindS h
      refine arun_do rfl rfl rfl (ex_bin (vx := (I (t0.length : Int))) (vy := (I 4)) rfl rfl (quoI_ok hx4)) ?_
      refine arun_do rfl rfl rfl (ex_assign (eV (v := (I x4)) rfl)) ?_
      refine arun_keepE [0, 1, 2, 7] 0 0 (st' := ⟨175, 0, [(0, (SL 1 c8 t0)), (1, (U8 t1)), (2, (U8 t2)), (7, (I x4))], [], ⟨0, []⟩⟩) (by kernel_rfl) (by kernel_rfl) ?_
      show AWp _ _ _ _
      refine awp_seq ?_
      obtain ⟨x5, hx5, h⟩ := bindS h
      obtain ⟨x6, hx6, h⟩ := bindS h
      refine awp_kn [0, 7, 8, 9] 0 0 (st' := ⟨175, 0, [(0, (SL 1 c8 t0)), (7, (I x4)), (8, (I x5)), (9, (I x6))], [], ⟨0, []⟩⟩) (awp_draw (T := [(U8 t1), (I (t1.toNat : Int)), (I x4), (I x5), (U8 t2), (I (t2.toNat : Int)), (I x4), (I x6), (I x5), (I x6)]) (LH := [([], ⟨0, []⟩)]) (D := [⟨[(1, none)], [], [0], false⟩, ⟨[(30, some 0)], [0], [0], false⟩, ⟨[(7, none)], [], [0], false⟩, ⟨[(31, some 1), (32, some 2)], [0, 1, 2], [0], false⟩, ⟨[(2, none)], [], [0], false⟩, ⟨[(34, some 4)], [4], [0], false⟩, ⟨[(7, none)], [], [0], false⟩, ⟨[(35, some 5), (36, some 6)], [4, 5, 6], [0], false⟩, ⟨[(33, some 3)], [0, 1, 2, 3], [0], false⟩, ⟨[(37, some 7)], [0, 1, 2, 3, 4, 5, 6, 7, 8], [0], false⟩]) (S := []) (plan := [0, 1, 2, 3, 4, 5, 6, 7, 8, 9]) mo (by kernel_rfl) rfl rfl rfl (dcons (dstep1 (Tm := [(1, (U8 t1))]) (L := []) (H := ⟨0, []⟩) rfl rfl rfl rfl rfl (astep_do rfl (ex_move (eV (v := (U8 t1)) rfl)))) (dcons (dstep1 (Tm := [(30, (U8 t1))]) (L := []) (H := ⟨0, []⟩) rfl rfl rfl rfl rfl (astep_do rfl (tx_8_64 Try.underlying5 Try.underlying3 rfl))) (dcons (dstep1 (Tm := [(7, (I x4))]) (L := []) (H := ⟨0, []⟩) rfl rfl rfl rfl rfl (astep_do rfl (ex_move (eV (v := (I x4)) rfl)))) (dcons (dstep1 (Tm := [(31, (I (t1.toNat : Int))), (32, (I x4))]) (L := []) (H := ⟨0, []⟩) rfl rfl rfl rfl rfl (astep_do rfl (ex_bin (vx := (I (t1.toNat : Int))) (vy := (I x4)) rfl rfl (remI_ok hx5)))) (dcons (dstep1 (Tm := [(2, (U8 t2))]) (L := []) (H := ⟨0, []⟩) rfl rfl rfl rfl rfl (astep_do rfl (ex_move (eV (v := (U8 t2)) rfl)))) (dcons (dstep1 (Tm := [(34, (U8 t2))]) (L := []) (H := ⟨0, []⟩) rfl rfl rfl rfl rfl (astep_do rfl (tx_8_64 Try.underlying5 Try.underlying3 rfl))) (dcons (dstep1 (Tm := [(7, (I x4))]) (L := []) (H := ⟨0, []⟩) rfl rfl rfl rfl rfl (astep_do rfl (ex_move (eV (v := (I x4)) rfl)))) (dcons (dstep1 (Tm := [(35, (I (t2.toNat : Int))), (36, (I x4))]) (L := []) (H := ⟨0, []⟩) rfl rfl rfl rfl rfl (astep_do rfl (ex_bin (vx := (I (t2.toNat : Int))) (vy := (I x4)) rfl rfl (remI_ok hx6)))) (dcons (dstep1 (Tm := [(33, (I x5))]) (L := []) (H := ⟨0, []⟩) rfl rfl rfl rfl rfl (astep_do rfl (ex_assign (eV (v := (I x5)) rfl)))) (dcons (dstep1 (Tm := [(37, (I x6))]) (L := []) (H := ⟨0, []⟩) rfl rfl rfl rfl rfl (astep_do rfl (ex_assign (eV (v := (I x6)) rfl)))) dnil)))))))))) ⟨rfl, rfl⟩) (by kernel_rfl) (by kernel_rfl) ?_
      show AWp _ _ _ _
      refine awp_seqJ (fun s => ∃ (y7 : Int) (y8 : Int), s = ⟨175, 0, [(0, (SL 1 c8 t0)), (7, (I x4)), (8, (I y7)), (9, (I y8))], [], ⟨0, []⟩⟩ ∧ M_law2_SumOrder_k1 t0 x4 y7 y8 = some r) ?_ ?_
      · refine awp_seq ?_
        refine awp_region ?_
        refine arun_do rfl rfl rfl (ex_move (eV (v := (I x5)) rfl)) ?_
        refine arun_do rfl rfl rfl (ex_move (eV (v := (I x6)) rfl)) ?_
        refine arun_do rfl rfl rfl (ex_bin (vx := (I x5)) (vy := (I x6)) rfl rfl gtrI_ok) ?_
        refine arun_keepE [0, 7, 8, 9, 40] 0 0 (st' := ⟨175, 0, [(0, (SL 1 c8 t0)), (7, (I x4)), (8, (I x5)), (9, (I x6)), (40, (Bo (decide (x5 > x6))))], [], ⟨0, []⟩⟩) (by kernel_rfl) (by kernel_rfl) ?_
        show AWp _ _ _ _
        rcases Bool.eq_false_or_eq_true (decide (x5 > x6)) with hb9 | hb9
        · rw [condT hb9] at h
          refine awp_condT (boT hb9) ?_
          refine awp_region ?_
          refine arun_do rfl rfl rfl (ex_move (eV (v := (I x6)) rfl)) ?_
          refine arun_do rfl rfl rfl (ex_move (eV (v := (I x5)) rfl)) ?_
          refine arun_do rfl rfl rfl (ex_assign (eV (v := (I x6)) rfl)) ?_
          refine arun_do rfl rfl rfl (ex_assign (eV (v := (I x5)) rfl)) ?_
          refine arun_keepE [0, 7, 8, 9] 0 0 (st' := ⟨175, 0, [(0, (SL 1 c8 t0)), (7, (I x4)), (8, (I x6)), (9, (I x5))], [], ⟨0, []⟩⟩) (by kernel_rfl) (by kernel_rfl) ?_
          exact (Exists.intro x6 (Exists.intro x5 (And.intro rfl h)))
        · rw [condF hb9] at h
          refine awp_condF (boF hb9) ?_
          refine awp_keepE [0, 7, 8, 9] 0 0 (st' := ⟨175, 0, [(0, (SL 1 c8 t0)), (7, (I x4)), (8, (I x5)), (9, (I x6))], [], ⟨0, []⟩⟩) (by kernel_rfl) (by kernel_rfl) ?_
          refine awp_skip ?_
          exact (Exists.intro x5 (Exists.intro x6 (And.intro rfl h)))
      · rintro s ⟨y7, y8, rfl, h⟩
        unfold M_law2_SumOrder_k1 at h
        refine awp_seq ?_
        refine awp_region ?_
        refine arun_do rfl rfl rfl (ex_buildSliceG (k := 0) (qs := []) (cells := (([] : List UInt8).flatMap c8)) (H' := ⟨1, [(0, ⟨1, (([] : List UInt8).flatMap c8), true⟩)]⟩) Try.underlying31 s_5 (by decide) (by decide) evp_nil rfl (by kernel_rfl) (by kernel_rfl) (by kernel_rfl) rfl rfl) ?_
        refine arun_do rfl rfl rfl (ex_move (eV (v := (SL 1 c8 t0)) rfl)) ?_
        refine arun_do rfl rfl rfl (ex_move (eV (v := (I x4)) rfl)) ?_
        refine arun_do rfl rfl rfl (ex_bin (vx := (I 4)) (vy := (I x4)) rfl rfl mulI_ok) ?_
        obtain ⟨x10, hx10, h⟩ := bindS h
        refine arun_do rfl rfl rfl (tx_slD (c := c8) (xs := t0) ce8 Try.underlying31 s_5 rfl lo0 (hiX (l := (w64 (4 * x4))) rfl) hx10) ?_
        obtain ⟨x11, hx11, h⟩ := bindS h
        refine arun_do rfl rfl rfl (tx_appG (c := c8) (xs := []) (H' := ⟨1, [(0, ⟨1, ((x11).flatMap c8), true⟩)]⟩) ce8 e_5 rfl rfl rfl (tsrcD (ys := x10) ce8 Try.underlying31 s_5 Try.underlying31 rfl) hx11 rfl) ?_
        refine arun_do rfl rfl rfl (ex_assign (eV (v := (GV 0 x11.length)) rfl)) ?_
        refine arun_keepE [8, 9, 10] 0 1 (st' := ⟨175, 0, [(8, (I y7)), (9, (I y8)), (10, (GV 0 x11.length))], [], ⟨1, [(0, ⟨1, ((x11).flatMap c8), true⟩)]⟩⟩) (by kernel_rfl) (by kernel_rfl) ?_
        show AWp _ _ _ _
        refine awp_seq ?_
        refine awp_region ?_
        refine arun_do rfl rfl rfl (ex_move (eV (v := (GV 0 x11.length)) rfl)) ?_
        refine arun_do rfl rfl rfl (tx_bsG (bs := x11) Try.underlying31 Try.underlying9 Try.underlying5 rfl rfl rfl) ?_
        refine arun_do rfl rfl rfl (ex_buildSliceD (qs := [(0, (S x11))]) (cells := (([x11] : List Str).flatMap cS)) Try.underlying28 s_9 (by decide) (evp rfl evp_nil) rfl (by kernel_rfl) (by kernel_rfl) (by kernel_rfl)) ?_
        obtain ⟨x12, hx12, h⟩ := bindS h
        refine arun_do rfl rfl rfl (ex_call0 (vs := [(SL 1 cS ([x11] : List Str))]) (v := (Value.agg ((cA4 c32) x12).toArray)) rfl en_10 (cargs (evs rfl evs_nil)) rfl (ok_sum_Of ([x11] : List Str) x12 hx12) rfl) ?_
        refine arun_do rfl rfl rfl (ex_alloc (k := 0) (zs := ((cA4 c32) (A4.mk 0 0 0 0))) (L' := [((cA4 c32) (A4.mk 0 0 0 0))]) z_25 rfl rfl rfl rfl) ?_
        refine arun_do0 rfl rfl (ex_storeL (vy := (Value.agg ((cA4 c32) x12).toArray)) (cs := ((cA4 c32) (A4.mk 0 0 0 0))) (vs := ((cA4 c32) x12)) (L' := [((cA4 c32) x12)]) rfl (eV (v := (Value.agg ((cA4 c32) x12).toArray)) rfl) rfl s_25 rfl (Nat.le_of_ble_eq_true rfl) (by kernel_rfl)) ?_
        refine arun_keepE [8, 9, 10, 11] 1 1 (st' := ⟨175, 0, [(8, (I y7)), (9, (I y8)), (10, (GV 0 x11.length)), (11, (LP 0 0))], [((cA4 c32) x12)], ⟨1, [(0, ⟨1, ((x11).flatMap c8), true⟩)]⟩⟩) (by kernel_rfl) (by kernel_rfl) ?_
        show AWp _ _ _ _
        refine awp_seq ?_
        obtain ⟨x13, hx13, h⟩ := bindS h
        obtain ⟨x14, hx14, h⟩ := bindS h
        obtain ⟨x15, hx15, h⟩ := bindS h
        obtain ⟨x16, hx16, h⟩ := bindS h
        obtain ⟨x17, hx17, h⟩ := bindS h
        obtain ⟨x18, hx18, h⟩ := bindS h
        obtain ⟨x19, hx19, h⟩ := bindS h
        refine awp_kn [8, 9, 10, 11, 12] 1 1 (st' := ⟨175, 0, [(8, (I y7)), (9, (I y8)), (10, (GV 0 x11.length)), (11, (LP 0 0)), (12, (U32 (((x13.toUInt32 + x15) + x17) + x19)))], [((cA4 c32) x12)], ⟨1, [(0, ⟨1, ((x11).flatMap c8), true⟩)]⟩⟩) (awp_draw (T := [(GV 0 x11.length), (I y7), (I (w64 (4 * y7))), (GP 0 ((w64 (4 * y7)).toNat * 1) (List.flatMap c8 x11).length), (U8 x13), (U32 x13.toUInt32), (GV 0 x11.length), (I y7), (I (w64 (4 * y7))), (I (w64 ((w64 (4 * y7)) + 1))), (GP 0 ((w64 ((w64 (4 * y7)) + 1)).toNat * 1) (List.flatMap c8 x11).length), (U8 x14), (U32 x14.toUInt32), (U32 x15), (U32 (x13.toUInt32 + x15)), (GV 0 x11.length), (I y7), (I (w64 (4 * y7))), (I (w64 ((w64 (4 * y7)) + 2))), (GP 0 ((w64 ((w64 (4 * y7)) + 2)).toNat * 1) (List.flatMap c8 x11).length), (U8 x16), (U32 x16.toUInt32), (U32 x17), (U32 ((x13.toUInt32 + x15) + x17)), (GV 0 x11.length), (I y7), (I (w64 (4 * y7))), (I (w64 ((w64 (4 * y7)) + 3))), (GP 0 ((w64 ((w64 (4 * y7)) + 3)).toNat * 1) (List.flatMap c8 x11).length), (U8 x18), (U32 x18.toUInt32), (U32 x19), (U32 (((x13.toUInt32 + x15) + x17) + x19)), (U32 (((x13.toUInt32 + x15) + x17) + x19))]) (LH := [([((cA4 c32) x12)], ⟨1, [(0, ⟨1, ((x11).flatMap c8), true⟩)]⟩)]) (D := [⟨[(10, none)], [], [0], false⟩, ⟨[(8, none)], [], [0], false⟩, ⟨[(54, some 1)], [1], [0], false⟩, ⟨[(53, some 0), (55, some 2)], [0, 1, 2], [0], false⟩, ⟨[(56, some 3)], [0, 1, 2, 3], [0], false⟩, ⟨[(57, some 4)], [0, 1, 2, 3, 4], [0], false⟩, ⟨[(10, none)], [], [0], false⟩, ⟨[(8, none)], [], [0], false⟩, ⟨[(60, some 7)], [7], [0], false⟩, ⟨[(61, some 8)], [7, 8], [0], false⟩, ⟨[(59, some 6), (62, some 9)], [6, 7, 8, 9], [0], false⟩, ⟨[(63, some 10)], [6, 7, 8, 9, 10], [0], false⟩, ⟨[(64, some 11)], [6, 7, 8, 9, 10, 11], [0], false⟩, ⟨[(65, some 12)], [6, 7, 8, 9, 10, 11, 12], [0], false⟩, ⟨[(58, some 5), (66, some 13)], [0, 1, 2, 3, 4, 5, 6, 7, 8, 9, 10, 11, 12, 13], [0], false⟩, ⟨[(10, none)], [], [0], false⟩, ⟨[(8, none)], [], [0], false⟩, ⟨[(69, some 16)], [16], [0], false⟩, ⟨[(70, some 17)], [16, 17], [0], false⟩, ⟨[(68, some 15), (71, some 18)], [15, 16, 17, 18], [0], false⟩, ⟨[(72, some 19)], [15, 16, 17, 18, 19], [0], false⟩, ⟨[(73, some 20)], [15, 16, 17, 18, 19, 20], [0], false⟩, ⟨[(74, some 21)], [15, 16, 17, 18, 19, 20, 21], [0], false⟩, ⟨[(67, some 14), (75, some 22)], [0, 1, 2, 3, 4, 5, 6, 7, 8, 9, 10, 11, 12, 13, 14, 15, 16, 17, 18, 19, 20, 21, 22], [0], false⟩, ⟨[(10, none)], [], [0], false⟩, ⟨[(8, none)], [], [0], false⟩, ⟨[(78, some 25)], [25], [0], false⟩, ⟨[(79, some 26)], [25, 26], [0], false⟩, ⟨[(77, some 24), (80, some 27)], [24, 25, 26, 27], [0], false⟩, ⟨[(81, some 28)], [24, 25, 26, 27, 28], [0], false⟩, ⟨[(82, some 29)], [24, 25, 26, 27, 28, 29], [0], false⟩, ⟨[(83, some 30)], [24, 25, 26, 27, 28, 29, 30], [0], false⟩, ⟨[(76, some 23), (84, some 31)], [0, 1, 2, 3, 4, 5, 6, 7, 8, 9, 10, 11, 12, 13, 14, 15, 16, 17, 18, 19, 20, 21, 22, 23, 24, 25, 26, 27, 28, 29, 30, 31], [0], false⟩, ⟨[(85, some 32)], [0, 1, 2, 3, 4, 5, 6, 7, 8, 9, 10, 11, 12, 13, 14, 15, 16, 17, 18, 19, 20, 21, 22, 23, 24, 25, 26, 27, 28, 29, 30, 31, 32], [0], false⟩]) (S := []) (plan := [0, 1, 2, 3, 4, 5, 6, 7, 8, 9, 10, 11, 12, 13, 14, 15, 16, 17, 18, 19, 20, 21, 22, 23, 24, 25, 26, 27, 28, 29, 30, 31, 32, 33]) mo (by kernel_rfl) rfl rfl rfl (dcons (dstep1 (Tm := [(10, (GV 0 x11.length))]) (L := [((cA4 c32) x12)]) (H := ⟨1, [(0, ⟨1, ((x11).flatMap c8), true⟩)]⟩) rfl rfl rfl rfl rfl (astep_do rfl (ex_move (eV (v := (GV 0 x11.length)) rfl)))) (dcons (dstep1 (Tm := [(8, (I y7))]) (L := [((cA4 c32) x12)]) (H := ⟨1, [(0, ⟨1, ((x11).flatMap c8), true⟩)]⟩) rfl rfl rfl rfl rfl (astep_do rfl (ex_move (eV (v := (I y7)) rfl)))) (dcons (dstep1 (Tm := [(54, (I y7))]) (L := [((cA4 c32) x12)]) (H := ⟨1, [(0, ⟨1, ((x11).flatMap c8), true⟩)]⟩) rfl rfl rfl rfl rfl (astep_do rfl (ex_bin (vx := (I 4)) (vy := (I y7)) rfl rfl mulI_ok))) (dcons (dstep1 (Tm := [(53, (GV 0 x11.length)), (55, (I (w64 (4 * y7))))]) (L := [((cA4 c32) x12)]) (H := ⟨1, [(0, ⟨1, ((x11).flatMap c8), true⟩)]⟩) rfl rfl rfl rfl rfl (astep_do rfl (tx_idxG (c := c8) (xs := x11) (i := (w64 (4 * y7))) ce8 Try.underlying31 s_5 rfl rfl rfl rfl hx13))) (dcons (dstep1 (Tm := [(56, (GP 0 ((w64 (4 * y7)).toNat * 1) (List.flatMap c8 x11).length))]) (L := [((cA4 c32) x12)]) (H := ⟨1, [(0, ⟨1, ((x11).flatMap c8), true⟩)]⟩) rfl rfl rfl rfl rfl (astep_do rfl (tx_ldG (v := (U8 x13)) (s := 1) rfl rfl (part_elem (off := 0) (v := (U8 x13)) ce8 hx13 Try.underlying5 rfl (by decide) rfl)))) (dcons (dstep1 (Tm := [(57, (U8 x13))]) (L := [((cA4 c32) x12)]) (H := ⟨1, [(0, ⟨1, ((x11).flatMap c8), true⟩)]⟩) rfl rfl rfl rfl rfl (astep_do rfl (tx_8_32 Try.underlying5 Try.underlying23 rfl))) (dcons (dstep1 (Tm := [(10, (GV 0 x11.length))]) (L := [((cA4 c32) x12)]) (H := ⟨1, [(0, ⟨1, ((x11).flatMap c8), true⟩)]⟩) rfl rfl rfl rfl rfl (astep_do rfl (ex_move (eV (v := (GV 0 x11.length)) rfl)))) (dcons (dstep1 (Tm := [(8, (I y7))]) (L := [((cA4 c32) x12)]) (H := ⟨1, [(0, ⟨1, ((x11).flatMap c8), true⟩)]⟩) rfl rfl rfl rfl rfl (astep_do rfl (ex_move (eV (v := (I y7)) rfl)))) (dcons (dstep1 (Tm := [(60, (I y7))]) (L := [((cA4 c32) x12)]) (H := ⟨1, [(0, ⟨1, ((x11).flatMap c8), true⟩)]⟩) rfl rfl rfl rfl rfl (astep_do rfl (ex_bin (vx := (I 4)) (vy := (I y7)) rfl rfl mulI_ok))) (dcons (dstep1 (Tm := [(61, (I (w64 (4 * y7))))]) (L := [((cA4 c32) x12)]) (H := ⟨1, [(0, ⟨1, ((x11).flatMap c8), true⟩)]⟩) rfl rfl rfl rfl rfl (astep_do rfl (ex_bin (vx := (I (w64 (4 * y7)))) (vy := (I 1)) rfl rfl addI_ok))) (dcons (dstep1 (Tm := [(59, (GV 0 x11.length)), (62, (I (w64 ((w64 (4 * y7)) + 1))))]) (L := [((cA4 c32) x12)]) (H := ⟨1, [(0, ⟨1, ((x11).flatMap c8), true⟩)]⟩) rfl rfl rfl rfl rfl (astep_do rfl (tx_idxG (c := c8) (xs := x11) (i := (w64 ((w64 (4 * y7)) + 1))) ce8 Try.underlying31 s_5 rfl rfl rfl rfl hx14))) (dcons (dstep1 (Tm := [(63, (GP 0 ((w64 ((w64 (4 * y7)) + 1)).toNat * 1) (List.flatMap c8 x11).length))]) (L := [((cA4 c32) x12)]) (H := ⟨1, [(0, ⟨1, ((x11).flatMap c8), true⟩)]⟩) rfl rfl rfl rfl rfl (astep_do rfl (tx_ldG (v := (U8 x14)) (s := 1) rfl rfl (part_elem (off := 0) (v := (U8 x14)) ce8 hx14 Try.underlying5 rfl (by decide) rfl)))) (dcons (dstep1 (Tm := [(64, (U8 x14))]) (L := [((cA4 c32) x12)]) (H := ⟨1, [(0, ⟨1, ((x11).flatMap c8), true⟩)]⟩) rfl rfl rfl rfl rfl (astep_do rfl (tx_8_32 Try.underlying5 Try.underlying23 rfl))) (dcons (dstep1 (Tm := [(65, (U32 x14.toUInt32))]) (L := [((cA4 c32) x12)]) (H := ⟨1, [(0, ⟨1, ((x11).flatMap c8), true⟩)]⟩) rfl rfl rfl rfl rfl (astep_do rfl (ex_bin (vx := (U32 x14.toUInt32)) (vy := (U64 8)) rfl rfl (shl32_ok hx15)))) (dcons (dstep1 (Tm := [(58, (U32 x13.toUInt32)), (66, (U32 x15))]) (L := [((cA4 c32) x12)]) (H := ⟨1, [(0, ⟨1, ((x11).flatMap c8), true⟩)]⟩) rfl rfl rfl rfl rfl (astep_do rfl (ex_bin (vx := (U32 x13.toUInt32)) (vy := (U32 x15)) rfl rfl add32_ok))) (dcons (dstep1 (Tm := [(10, (GV 0 x11.length))]) (L := [((cA4 c32) x12)]) (H := ⟨1, [(0, ⟨1, ((x11).flatMap c8), true⟩)]⟩) rfl rfl rfl rfl rfl (astep_do rfl (ex_move (eV (v := (GV 0 x11.length)) rfl)))) (dcons (dstep1 (Tm := [(8, (I y7))]) (L := [((cA4 c32) x12)]) (H := ⟨1, [(0, ⟨1, ((x11).flatMap c8), true⟩)]⟩) rfl rfl rfl rfl rfl (astep_do rfl (ex_move (eV (v := (I y7)) rfl)))) (dcons (dstep1 (Tm := [(69, (I y7))]) (L := [((cA4 c32) x12)]) (H := ⟨1, [(0, ⟨1, ((x11).flatMap c8), true⟩)]⟩) rfl rfl rfl rfl rfl (astep_do rfl (ex_bin (vx := (I 4)) (vy := (I y7)) rfl rfl mulI_ok))) (dcons (dstep1 (Tm := [(70, (I (w64 (4 * y7))))]) (L := [((cA4 c32) x12)]) (H := ⟨1, [(0, ⟨1, ((x11).flatMap c8), true⟩)]⟩) rfl rfl rfl rfl rfl (astep_do rfl (ex_bin (vx := (I (w64 (4 * y7)))) (vy := (I 2)) rfl rfl addI_ok))) (dcons (dstep1 (Tm := [(68, (GV 0 x11.length)), (71, (I (w64 ((w64 (4 * y7)) + 2))))]) (L := [((cA4 c32) x12)]) (H := ⟨1, [(0, ⟨1, ((x11).flatMap c8), true⟩)]⟩) rfl rfl rfl rfl rfl (astep_do rfl (tx_idxG (c := c8) (xs := x11) (i := (w64 ((w64 (4 * y7)) + 2))) ce8 Try.underlying31 s_5 rfl rfl rfl rfl hx16))) (dcons (dstep1 (Tm := [(72, (GP 0 ((w64 ((w64 (4 * y7)) + 2)).toNat * 1) (List.flatMap c8 x11).length))]) (L := [((cA4 c32) x12)]) (H := ⟨1, [(0, ⟨1, ((x11).flatMap c8), true⟩)]⟩) rfl rfl rfl rfl rfl (astep_do rfl (tx_ldG (v := (U8 x16)) (s := 1) rfl rfl (part_elem (off := 0) (v := (U8 x16)) ce8 hx16 Try.underlying5 rfl (by decide) rfl)))) (dcons (dstep1 (Tm := [(73, (U8 x16))]) (L := [((cA4 c32) x12)]) (H := ⟨1, [(0, ⟨1, ((x11).flatMap c8), true⟩)]⟩) rfl rfl rfl rfl rfl (astep_do rfl (tx_8_32 Try.underlying5 Try.underlying23 rfl))) (dcons (dstep1 (Tm := [(74, (U32 x16.toUInt32))]) (L := [((cA4 c32) x12)]) (H := ⟨1, [(0, ⟨1, ((x11).flatMap c8), true⟩)]⟩) rfl rfl rfl rfl rfl (astep_do rfl (ex_bin (vx := (U32 x16.toUInt32)) (vy := (U64 16)) rfl rfl (shl32_ok hx17)))) (dcons (dstep1 (Tm := [(67, (U32 (x13.toUInt32 + x15))), (75, (U32 x17))]) (L := [((cA4 c32) x12)]) (H := ⟨1, [(0, ⟨1, ((x11).flatMap c8), true⟩)]⟩) rfl rfl rfl rfl rfl (astep_do rfl (ex_bin (vx := (U32 (x13.toUInt32 + x15))) (vy := (U32 x17)) rfl rfl add32_ok))) (dcons (dstep1 (Tm := [(10, (GV 0 x11.length))]) (L := [((cA4 c32) x12)]) (H := ⟨1, [(0, ⟨1, ((x11).flatMap c8), true⟩)]⟩) rfl rfl rfl rfl rfl (astep_do rfl (ex_move (eV (v := (GV 0 x11.length)) rfl)))) (dcons (dstep1 (Tm := [(8, (I y7))]) (L := [((cA4 c32) x12)]) (H := ⟨1, [(0, ⟨1, ((x11).flatMap c8), true⟩)]⟩) rfl rfl rfl rfl rfl (astep_do rfl (ex_move (eV (v := (I y7)) rfl)))) (dcons (dstep1 (Tm := [(78, (I y7))]) (L := [((cA4 c32) x12)]) (H := ⟨1, [(0, ⟨1, ((x11).flatMap c8), true⟩)]⟩) rfl rfl rfl rfl rfl (astep_do rfl (ex_bin (vx := (I 4)) (vy := (I y7)) rfl rfl mulI_ok))) (dcons (dstep1 (Tm := [(79, (I (w64 (4 * y7))))]) (L := [((cA4 c32) x12)]) (H := ⟨1, [(0, ⟨1, ((x11).flatMap c8), true⟩)]⟩) rfl rfl rfl rfl rfl (astep_do rfl (ex_bin (vx := (I (w64 (4 * y7)))) (vy := (I 3)) rfl rfl addI_ok))) (dcons (dstep1 (Tm := [(77, (GV 0 x11.length)), (80, (I (w64 ((w64 (4 * y7)) + 3))))]) (L := [((cA4 c32) x12)]) (H := ⟨1, [(0, ⟨1, ((x11).flatMap c8), true⟩)]⟩) rfl rfl rfl rfl rfl (astep_do rfl (tx_idxG (c := c8) (xs := x11) (i := (w64 ((w64 (4 * y7)) + 3))) ce8 Try.underlying31 s_5 rfl rfl rfl rfl hx18))) (dcons (dstep1 (Tm := [(81, (GP 0 ((w64 ((w64 (4 * y7)) + 3)).toNat * 1) (List.flatMap c8 x11).length))]) (L := [((cA4 c32) x12)]) (H := ⟨1, [(0, ⟨1, ((x11).flatMap c8), true⟩)]⟩) rfl rfl rfl rfl rfl (astep_do rfl (tx_ldG (v := (U8 x18)) (s := 1) rfl rfl (part_elem (off := 0) (v := (U8 x18)) ce8 hx18 Try.underlying5 rfl (by decide) rfl)))) (dcons (dstep1 (Tm := [(82, (U8 x18))]) (L := [((cA4 c32) x12)]) (H := ⟨1, [(0, ⟨1, ((x11).flatMap c8), true⟩)]⟩) rfl rfl rfl rfl rfl (astep_do rfl (tx_8_32 Try.underlying5 Try.underlying23 rfl))) (dcons (dstep1 (Tm := [(83, (U32 x18.toUInt32))]) (L := [((cA4 c32) x12)]) (H := ⟨1, [(0, ⟨1, ((x11).flatMap c8), true⟩)]⟩) rfl rfl rfl rfl rfl (astep_do rfl (ex_bin (vx := (U32 x18.toUInt32)) (vy := (U64 24)) rfl rfl (shl32_ok hx19)))) (dcons (dstep1 (Tm := [(76, (U32 ((x13.toUInt32 + x15) + x17))), (84, (U32 x19))]) (L := [((cA4 c32) x12)]) (H := ⟨1, [(0, ⟨1, ((x11).flatMap c8), true⟩)]⟩) rfl rfl rfl rfl rfl (astep_do rfl (ex_bin (vx := (U32 ((x13.toUInt32 + x15) + x17))) (vy := (U32 x19)) rfl rfl add32_ok))) (dcons (dstep1 (Tm := [(85, (U32 (((x13.toUInt32 + x15) + x17) + x19)))]) (L := [((cA4 c32) x12)]) (H := ⟨1, [(0, ⟨1, ((x11).flatMap c8), true⟩)]⟩) rfl rfl rfl rfl rfl (astep_do rfl (ex_assign (eV (v := (U32 (((x13.toUInt32 + x15) + x17) + x19))) rfl)))) dnil)))))))))))))))))))))))))))))))))) ⟨rfl, rfl⟩) (by kernel_rfl) (by kernel_rfl) ?_
        show AWp _ _ _ _
        refine awp_seq ?_
        obtain ⟨x20, hx20, h⟩ := bindS h
        obtain ⟨x21, hx21, h⟩ := bindS h
        obtain ⟨x22, hx22, h⟩ := bindS h
        obtain ⟨x23, hx23, h⟩ := bindS h
        obtain ⟨x24, hx24, h⟩ := bindS h
        obtain ⟨x25, hx25, h⟩ := bindS h
        obtain ⟨x26, hx26, h⟩ := bindS h
        refine awp_kn [8, 9, 10, 11, 12, 13] 1 1 (st' := ⟨175, 0, [(8, (I y7)), (9, (I y8)), (10, (GV 0 x11.length)), (11, (LP 0 0)), (12, (U32 (((x13.toUInt32 + x15) + x17) + x19))), (13, (U32 (((x20.toUInt32 + x22) + x24) + x26)))], [((cA4 c32) x12)], ⟨1, [(0, ⟨1, ((x11).flatMap c8), true⟩)]⟩⟩) (awp_draw (T := [(GV 0 x11.length), (I y8), (I (w64 (4 * y8))), (GP 0 ((w64 (4 * y8)).toNat * 1) (List.flatMap c8 x11).length), (U8 x20), (U32 x20.toUInt32), (GV 0 x11.length), (I y8), (I (w64 (4 * y8))), (I (w64 ((w64 (4 * y8)) + 1))), (GP 0 ((w64 ((w64 (4 * y8)) + 1)).toNat * 1) (List.flatMap c8 x11).length), (U8 x21), (U32 x21.toUInt32), (U32 x22), (U32 (x20.toUInt32 + x22)), (GV 0 x11.length), (I y8), (I (w64 (4 * y8))), (I (w64 ((w64 (4 * y8)) + 2))), (GP 0 ((w64 ((w64 (4 * y8)) + 2)).toNat * 1) (List.flatMap c8 x11).length), (U8 x23), (U32 x23.toUInt32), (U32 x24), (U32 ((x20.toUInt32 + x22) + x24)), (GV 0 x11.length), (I y8), (I (w64 (4 * y8))), (I (w64 ((w64 (4 * y8)) + 3))), (GP 0 ((w64 ((w64 (4 * y8)) + 3)).toNat * 1) (List.flatMap c8 x11).length), (U8 x25), (U32 x25.toUInt32), (U32 x26), (U32 (((x20.toUInt32 + x22) + x24) + x26)), (U32 (((x20.toUInt32 + x22) + x24) + x26))]) (LH := [([((cA4 c32) x12)], ⟨1, [(0, ⟨1, ((x11).flatMap c8), true⟩)]⟩)]) (D := [⟨[(10, none)], [], [0], false⟩, ⟨[(9, none)], [], [0], false⟩, ⟨[(87, some 1)], [1], [0], false⟩, ⟨[(86, some 0), (88, some 2)], [0, 1, 2], [0], false⟩, ⟨[(89, some 3)], [0, 1, 2, 3], [0], false⟩, ⟨[(90, some 4)], [0, 1, 2, 3, 4], [0], false⟩, ⟨[(10, none)], [], [0], false⟩, ⟨[(9, none)], [], [0], false⟩, ⟨[(93, some 7)], [7], [0], false⟩, ⟨[(94, some 8)], [7, 8], [0], false⟩, ⟨[(92, some 6), (95, some 9)], [6, 7, 8, 9], [0], false⟩, ⟨[(96, some 10)], [6, 7, 8, 9, 10], [0], false⟩, ⟨[(97, some 11)], [6, 7, 8, 9, 10, 11], [0], false⟩, ⟨[(98, some 12)], [6, 7, 8, 9, 10, 11, 12], [0], false⟩, ⟨[(91, some 5), (99, some 13)], [0, 1, 2, 3, 4, 5, 6, 7, 8, 9, 10, 11, 12, 13], [0], false⟩, ⟨[(10, none)], [], [0], false⟩, ⟨[(9, none)], [], [0], false⟩, ⟨[(102, some 16)], [16], [0], false⟩, ⟨[(103, some 17)], [16, 17], [0], false⟩, ⟨[(101, some 15), (104, some 18)], [15, 16, 17, 18], [0], false⟩, ⟨[(105, some 19)], [15, 16, 17, 18, 19], [0], false⟩, ⟨[(106, some 20)], [15, 16, 17, 18, 19, 20], [0], false⟩, ⟨[(107, some 21)], [15, 16, 17, 18, 19, 20, 21], [0], false⟩, ⟨[(100, some 14), (108, some 22)], [0, 1, 2, 3, 4, 5, 6, 7, 8, 9, 10, 11, 12, 13, 14, 15, 16, 17, 18, 19, 20, 21, 22], [0], false⟩, ⟨[(10, none)], [], [0], false⟩, ⟨[(9, none)], [], [0], false⟩, ⟨[(111, some 25)], [25], [0], false⟩, ⟨[(112, some 26)], [25, 26], [0], false⟩, ⟨[(110, some 24), (113, some 27)], [24, 25, 26, 27], [0], false⟩, ⟨[(114, some 28)], [24, 25, 26, 27, 28], [0], false⟩, ⟨[(115, some 29)], [24, 25, 26, 27, 28, 29], [0], false⟩, ⟨[(116, some 30)], [24, 25, 26, 27, 28, 29, 30], [0], false⟩, ⟨[(109, some 23), (117, some 31)], [0, 1, 2, 3, 4, 5, 6, 7, 8, 9, 10, 11, 12, 13, 14, 15, 16, 17, 18, 19, 20, 21, 22, 23, 24, 25, 26, 27, 28, 29, 30, 31], [0], false⟩, ⟨[(118, some 32)], [0, 1, 2, 3, 4, 5, 6, 7, 8, 9, 10, 11, 12, 13, 14, 15, 16, 17, 18, 19, 20, 21, 22, 23, 24, 25, 26, 27, 28, 29, 30, 31, 32], [0], false⟩]) (S := []) (plan := [0, 1, 2, 3, 4, 5, 6, 7, 8, 9, 10, 11, 12, 13, 14, 15, 16, 17, 18, 19, 20, 21, 22, 23, 24, 25, 26, 27, 28, 29, 30, 31, 32, 33]) mo (by kernel_rfl) rfl rfl rfl (dcons (dstep1 (Tm := [(10, (GV 0 x11.length))]) (L := [((cA4 c32) x12)]) (H := ⟨1, [(0, ⟨1, ((x11).flatMap c8), true⟩)]⟩) rfl rfl rfl rfl rfl (astep_do rfl (ex_move (eV (v := (GV 0 x11.length)) rfl)))) (dcons (dstep1 (Tm := [(9, (I y8))]) (L := [((cA4 c32) x12)]) (H := ⟨1, [(0, ⟨1, ((x11).flatMap c8), true⟩)]⟩) rfl rfl rfl rfl rfl (astep_do rfl (ex_move (eV (v := (I y8)) rfl)))) (dcons (dstep1 (Tm := [(87, (I y8))]) (L := [((cA4 c32) x12)]) (H := ⟨1, [(0, ⟨1, ((x11).flatMap c8), true⟩)]⟩) rfl rfl rfl rfl rfl (astep_do rfl (ex_bin (vx := (I 4)) (vy := (I y8)) rfl rfl mulI_ok))) (dcons (dstep1 (Tm := [(86, (GV 0 x11.length)), (88, (I (w64 (4 * y8))))]) (L := [((cA4 c32) x12)]) (H := ⟨1, [(0, ⟨1, ((x11).flatMap c8), true⟩)]⟩) rfl rfl rfl rfl rfl (astep_do rfl (tx_idxG (c := c8) (xs := x11) (i := (w64 (4 * y8))) ce8 Try.underlying31 s_5 rfl rfl rfl rfl hx20))) (dcons (dstep1 (Tm := [(89, (GP 0 ((w64 (4 * y8)).toNat * 1) (List.flatMap c8 x11).length))]) (L := [((cA4 c32) x12)]) (H := ⟨1, [(0, ⟨1, ((x11).flatMap c8), true⟩)]⟩) rfl rfl rfl rfl rfl (astep_do rfl (tx_ldG (v := (U8 x20)) (s := 1) rfl rfl (part_elem (off := 0) (v := (U8 x20)) ce8 hx20 Try.underlying5 rfl (by decide) rfl)))) (dcons (dstep1 (Tm := [(90, (U8 x20))]) (L := [((cA4 c32) x12)]) (H := ⟨1, [(0, ⟨1, ((x11).flatMap c8), true⟩)]⟩) rfl rfl rfl rfl rfl (astep_do rfl (tx_8_32 Try.underlying5 Try.underlying23 rfl))) (dcons (dstep1 (Tm := [(10, (GV 0 x11.length))]) (L := [((cA4 c32) x12)]) (H := ⟨1, [(0, ⟨1, ((x11).flatMap c8), true⟩)]⟩) rfl rfl rfl rfl rfl (astep_do rfl (ex_move (eV (v := (GV 0 x11.length)) rfl)))) (dcons (dstep1 (Tm := [(9, (I y8))]) (L := [((cA4 c32) x12)]) (H := ⟨1, [(0, ⟨1, ((x11).flatMap c8), true⟩)]⟩) rfl rfl rfl rfl rfl (astep_do rfl (ex_move (eV (v := (I y8)) rfl)))) (dcons (dstep1 (Tm := [(93, (I y8))]) (L := [((cA4 c32) x12)]) (H := ⟨1, [(0, ⟨1, ((x11).flatMap c8), true⟩)]⟩) rfl rfl rfl rfl rfl (astep_do rfl (ex_bin (vx := (I 4)) (vy := (I y8)) rfl rfl mulI_ok))) (dcons (dstep1 (Tm := [(94, (I (w64 (4 * y8))))]) (L := [((cA4 c32) x12)]) (H := ⟨1, [(0, ⟨1, ((x11).flatMap c8), true⟩)]⟩) rfl rfl rfl rfl rfl (astep_do rfl (ex_bin (vx := (I (w64 (4 * y8)))) (vy := (I 1)) rfl rfl addI_ok))) (dcons (dstep1 (Tm := [(92, (GV 0 x11.length)), (95, (I (w64 ((w64 (4 * y8)) + 1))))]) (L := [((cA4 c32) x12)]) (H := ⟨1, [(0, ⟨1, ((x11).flatMap c8), true⟩)]⟩) rfl rfl rfl rfl rfl (astep_do rfl (tx_idxG (c := c8) (xs := x11) (i := (w64 ((w64 (4 * y8)) + 1))) ce8 Try.underlying31 s_5 rfl rfl rfl rfl hx21))) (dcons (dstep1 (Tm := [(96, (GP 0 ((w64 ((w64 (4 * y8)) + 1)).toNat * 1) (List.flatMap c8 x11).length))]) (L := [((cA4 c32) x12)]) (H := ⟨1, [(0, ⟨1, ((x11).flatMap c8), true⟩)]⟩) rfl rfl rfl rfl rfl (astep_do rfl (tx_ldG (v := (U8 x21)) (s := 1) rfl rfl (part_elem (off := 0) (v := (U8 x21)) ce8 hx21 Try.underlying5 rfl (by decide) rfl)))) (dcons (dstep1 (Tm := [(97, (U8 x21))]) (L := [((cA4 c32) x12)]) (H := ⟨1, [(0, ⟨1, ((x11).flatMap c8), true⟩)]⟩) rfl rfl rfl rfl rfl (astep_do rfl (tx_8_32 Try.underlying5 Try.underlying23 rfl))) (dcons (dstep1 (Tm := [(98, (U32 x21.toUInt32))]) (L := [((cA4 c32) x12)]) (H := ⟨1, [(0, ⟨1, ((x11).flatMap c8), true⟩)]⟩) rfl rfl rfl rfl rfl (astep_do rfl (ex_bin (vx := (U32 x21.toUInt32)) (vy := (U64 8)) rfl rfl (shl32_ok hx22)))) (dcons (dstep1 (Tm := [(91, (U32 x20.toUInt32)), (99, (U32 x22))]) (L := [((cA4 c32) x12)]) (H := ⟨1, [(0, ⟨1, ((x11).flatMap c8), true⟩)]⟩) rfl rfl rfl rfl rfl (astep_do rfl (ex_bin (vx := (U32 x20.toUInt32)) (vy := (U32 x22)) rfl rfl add32_ok))) (dcons (dstep1 (Tm := [(10, (GV 0 x11.length))]) (L := [((cA4 c32) x12)]) (H := ⟨1, [(0, ⟨1, ((x11).flatMap c8), true⟩)]⟩) rfl rfl rfl rfl rfl (astep_do rfl (ex_move (eV (v := (GV 0 x11.length)) rfl)))) (dcons (dstep1 (Tm := [(9, (I y8))]) (L := [((cA4 c32) x12)]) (H := ⟨1, [(0, ⟨1, ((x11).flatMap c8), true⟩)]⟩) rfl rfl rfl rfl rfl (astep_do rfl (ex_move (eV (v := (I y8)) rfl)))) (dcons (dstep1 (Tm := [(102, (I y8))]) (L := [((cA4 c32) x12)]) (H := ⟨1, [(0, ⟨1, ((x11).flatMap c8), true⟩)]⟩) rfl rfl rfl rfl rfl (astep_do rfl (ex_bin (vx := (I 4)) (vy := (I y8)) rfl rfl mulI_ok))) (dcons (dstep1 (Tm := [(103, (I (w64 (4 * y8))))]) (L := [((cA4 c32) x12)]) (H := ⟨1, [(0, ⟨1, ((x11).flatMap c8), true⟩)]⟩) rfl rfl rfl rfl rfl (astep_do rfl (ex_bin (vx := (I (w64 (4 * y8)))) (vy := (I 2)) rfl rfl addI_ok))) (dcons (dstep1 (Tm := [(101, (GV 0 x11.length)), (104, (I (w64 ((w64 (4 * y8)) + 2))))]) (L := [((cA4 c32) x12)]) (H := ⟨1, [(0, ⟨1, ((x11).flatMap c8), true⟩)]⟩) rfl rfl rfl rfl rfl (astep_do rfl (tx_idxG (c := c8) (xs := x11) (i := (w64 ((w64 (4 * y8)) + 2))) ce8 Try.underlying31 s_5 rfl rfl rfl rfl hx23))) (dcons (dstep1 (Tm := [(105, (GP 0 ((w64 ((w64 (4 * y8)) + 2)).toNat * 1) (List.flatMap c8 x11).length))]) (L := [((cA4 c32) x12)]) (H := ⟨1, [(0, ⟨1, ((x11).flatMap c8), true⟩)]⟩) rfl rfl rfl rfl rfl (astep_do rfl (tx_ldG (v := (U8 x23)) (s := 1) rfl rfl (part_elem (off := 0) (v := (U8 x23)) ce8 hx23 Try.underlying5 rfl (by decide) rfl)))) (dcons (dstep1 (Tm := [(106, (U8 x23))]) (L := [((cA4 c32) x12)]) (H := ⟨1, [(0, ⟨1, ((x11).flatMap c8), true⟩)]⟩) rfl rfl rfl rfl rfl (astep_do rfl (tx_8_32 Try.underlying5 Try.underlying23 rfl))) (dcons (dstep1 (Tm := [(107, (U32 x23.toUInt32))]) (L := [((cA4 c32) x12)]) (H := ⟨1, [(0, ⟨1, ((x11).flatMap c8), true⟩)]⟩) rfl rfl rfl rfl rfl (astep_do rfl (ex_bin (vx := (U32 x23.toUInt32)) (vy := (U64 16)) rfl rfl (shl32_ok hx24)))) (dcons (dstep1 (Tm := [(100, (U32 (x20.toUInt32 + x22))), (108, (U32 x24))]) (L := [((cA4 c32) x12)]) (H := ⟨1, [(0, ⟨1, ((x11).flatMap c8), true⟩)]⟩) rfl rfl rfl rfl rfl (astep_do rfl (ex_bin (vx := (U32 (x20.toUInt32 + x22))) (vy := (U32 x24)) rfl rfl add32_ok))) (dcons (dstep1 (Tm := [(10, (GV 0 x11.length))]) (L := [((cA4 c32) x12)]) (H := ⟨1, [(0, ⟨1, ((x11).flatMap c8), true⟩)]⟩) rfl rfl rfl rfl rfl (astep_do rfl (ex_move (eV (v := (GV 0 x11.length)) rfl)))) (dcons (dstep1 (Tm := [(9, (I y8))]) (L := [((cA4 c32) x12)]) (H := ⟨1, [(0, ⟨1, ((x11).flatMap c8), true⟩)]⟩) rfl rfl rfl rfl rfl (astep_do rfl (ex_move (eV (v := (I y8)) rfl)))) (dcons (dstep1 (Tm := [(111, (I y8))]) (L := [((cA4 c32) x12)]) (H := ⟨1, [(0, ⟨1, ((x11).flatMap c8), true⟩)]⟩) rfl rfl rfl rfl rfl (astep_do rfl (ex_bin (vx := (I 4)) (vy := (I y8)) rfl rfl mulI_ok))) (dcons (dstep1 (Tm := [(112, (I (w64 (4 * y8))))]) (L := [((cA4 c32) x12)]) (H := ⟨1, [(0, ⟨1, ((x11).flatMap c8), true⟩)]⟩) rfl rfl rfl rfl rfl (astep_do rfl (ex_bin (vx := (I (w64 (4 * y8)))) (vy := (I 3)) rfl rfl addI_ok))) (dcons (dstep1 (Tm := [(110, (GV 0 x11.length)), (113, (I (w64 ((w64 (4 * y8)) + 3))))]) (L := [((cA4 c32) x12)]) (H := ⟨1, [(0, ⟨1, ((x11).flatMap c8), true⟩)]⟩) rfl rfl rfl rfl rfl (astep_do rfl (tx_idxG (c := c8) (xs := x11) (i := (w64 ((w64 (4 * y8)) + 3))) ce8 Try.underlying31 s_5 rfl rfl rfl rfl hx25))) (dcons (dstep1 (Tm := [(114, (GP 0 ((w64 ((w64 (4 * y8)) + 3)).toNat * 1) (List.flatMap c8 x11).length))]) (L := [((cA4 c32) x12)]) (H := ⟨1, [(0, ⟨1, ((x11).flatMap c8), true⟩)]⟩) rfl rfl rfl rfl rfl (astep_do rfl (tx_ldG (v := (U8 x25)) (s := 1) rfl rfl (part_elem (off := 0) (v := (U8 x25)) ce8 hx25 Try.underlying5 rfl (by decide) rfl)))) (dcons (dstep1 (Tm := [(115, (U8 x25))]) (L := [((cA4 c32) x12)]) (H := ⟨1, [(0, ⟨1, ((x11).flatMap c8), true⟩)]⟩) rfl rfl rfl rfl rfl (astep_do rfl (tx_8_32 Try.underlying5 Try.underlying23 rfl))) (dcons (dstep1 (Tm := [(116, (U32 x25.toUInt32))]) (L := [((cA4 c32) x12)]) (H := ⟨1, [(0, ⟨1, ((x11).flatMap c8), true⟩)]⟩) rfl rfl rfl rfl rfl (astep_do rfl (ex_bin (vx := (U32 x25.toUInt32)) (vy := (U64 24)) rfl rfl (shl32_ok hx26)))) (dcons (dstep1 (Tm := [(109, (U32 ((x20.toUInt32 + x22) + x24))), (117, (U32 x26))]) (L := [((cA4 c32) x12)]) (H := ⟨1, [(0, ⟨1, ((x11).flatMap c8), true⟩)]⟩) rfl rfl rfl rfl rfl (astep_do rfl (ex_bin (vx := (U32 ((x20.toUInt32 + x22) + x24))) (vy := (U32 x26)) rfl rfl add32_ok))) (dcons (dstep1 (Tm := [(118, (U32 (((x20.toUInt32 + x22) + x24) + x26)))]) (L := [((cA4 c32) x12)]) (H := ⟨1, [(0, ⟨1, ((x11).flatMap c8), true⟩)]⟩) rfl rfl rfl rfl rfl (astep_do rfl (ex_assign (eV (v := (U32 (((x20.toUInt32 + x22) + x24) + x26))) rfl)))) dnil)))))))))))))))))))))))))))))))))) ⟨rfl, rfl⟩) (by kernel_rfl) (by kernel_rfl) ?_
        show AWp _ _ _ _
        refine awp_seq ?_
        refine awp_seq ?_
        refine awp_region ?_
        refine arun_do rfl rfl rfl (ex_assign (eV (v := (I 0)) rfl)) ?_
        refine arun_keepE [8, 9, 10, 11, 12, 13, 14] 1 1 (st' := ⟨175, 0, [(8, (I y7)), (9, (I y8)), (10, (GV 0 x11.length)), (11, (LP 0 0)), (12, (U32 (((x13.toUInt32 + x15) + x17) + x19))), (13, (U32 (((x20.toUInt32 + x22) + x24) + x26))), (14, (I 0))], [((cA4 c32) x12)], ⟨1, [(0, ⟨1, ((x11).flatMap c8), true⟩)]⟩⟩) (by kernel_rfl) (by kernel_rfl) ?_
        show AWp _ _ _ _
        refine awp_block ?_
        refine awp_loop (fun n s => ∃ (v27 : Int) (v28 : List UInt8), s = ⟨175, 0, [(8, (I y7)), (9, (I y8)), (10, (GV 0 v28.length)), (11, (LP 0 0)), (12, (U32 (((x13.toUInt32 + x15) + x17) + x19))), (13, (U32 (((x20.toUInt32 + x22) + x24) + x26))), (14, (I v27))], [((cA4 c32) x12)], ⟨1, [(0, ⟨1, ((v28).flatMap c8), true⟩)]⟩⟩ ∧ M_law2_SumOrder_l1 y7 y8 x12 x13 x15 x17 x19 x20 x22 x24 x26 n v27 v28 = some r) fuel (Exists.intro 0 (Exists.intro x11 (And.intro rfl h))) ?_
        rintro n s ⟨v27, v28, rfl, h⟩ -
        cases n with
        | zero => cases h
        | succ n1 =>
          unfold M_law2_SumOrder_l1 at h
          refine awp_seq ?_
          refine awp_seq ?_
          refine awp_region ?_
          refine arun_do rfl rfl rfl (ex_move (eV (v := (I v27)) rfl)) ?_
          refine arun_do rfl rfl rfl (ex_bin (vx := (I v27)) (vy := (I 4)) rfl rfl lssI_ok) ?_
          refine arun_keepE [8, 9, 10, 11, 12, 13, 14, 120] 1 1 (st' := ⟨175, 0, [(8, (I y7)), (9, (I y8)), (10, (GV 0 v28.length)), (11, (LP 0 0)), (12, (U32 (((x13.toUInt32 + x15) + x17) + x19))), (13, (U32 (((x20.toUInt32 + x22) + x24) + x26))), (14, (I v27)), (120, (Bo (decide (v27 < 4))))], [((cA4 c32) x12)], ⟨1, [(0, ⟨1, ((v28).flatMap c8), true⟩)]⟩⟩) (by kernel_rfl) (by kernel_rfl) ?_
          show AWp _ _ _ _
          rcases Bool.eq_false_or_eq_true (decide (v27 < 4)) with hb29 | hb29
          · rw [condT hb29] at h
            refine awp_condT (boT hb29) ?_
            refine awp_skip ?_
            show AWp _ _ _ _
            refine awp_seq ?_
            refine awp_block ?_
            obtain ⟨x30, hx30, h⟩ := bindS h
            obtain ⟨x31, hx31, h⟩ := bindS h
            obtain ⟨x32, hx32, h⟩ := bindS h
            obtain ⟨x33, hx33, h⟩ := bindS h
            obtain ⟨x34, hx34, h⟩ := bindS h
            obtain ⟨x35, hx35, h⟩ := bindS h
            refine awp_knR [8, 9, 10, 11, 12, 13, 14] 1 1 [(8, (I y7)), (9, (I y8)), (10, (GV 0 x35.length)), (11, (LP 0 0)), (12, (U32 (((x13.toUInt32 + x15) + x17) + x19))), (13, (U32 (((x20.toUInt32 + x22) + x24) + x26))), (14, (I v27))] (st' := ⟨175, 0, [(8, (I y7)), (9, (I y8)), (10, (GV 0 v28.length)), (11, (LP 0 0)), (12, (U32 (((x13.toUInt32 + x15) + x17) + x19))), (13, (U32 (((x20.toUInt32 + x22) + x24) + x26))), (14, (I v27))], [((cA4 c32) x12)], ⟨1, [(0, ⟨1, ((x35).flatMap c8), true⟩)]⟩⟩) (awp_draw (T := [(GV 0 v28.length), (I y7), (I (w64 (4 * y7))), (I v27), (I (w64 ((w64 (4 * y7)) + v27))), (GV 0 v28.length), (I y8), (I (w64 (4 * y8))), (I v27), (I (w64 ((w64 (4 * y8)) + v27))), (GV 0 v28.length), (I y8), (I (w64 (4 * y8))), (I v27), (I (w64 ((w64 (4 * y8)) + v27))), (GP 0 ((w64 ((w64 (4 * y8)) + v27)).toNat * 1) (List.flatMap c8 v28).length), (U8 x30), (GV 0 v28.length), (I y7), (I (w64 (4 * y7))), (I v27), (I (w64 ((w64 (4 * y7)) + v27))), (GP 0 ((w64 ((w64 (4 * y7)) + v27)).toNat * 1) (List.flatMap c8 v28).length), (U8 x31), (GP 0 ((w64 ((w64 (4 * y7)) + v27)).toNat * 1) (List.flatMap c8 v28).length), undef, (GP 0 ((w64 ((w64 (4 * y8)) + v27)).toNat * 1) (List.flatMap c8 x33).length), undef]) (LH := [([((cA4 c32) x12)], ⟨1, [(0, ⟨1, ((v28).flatMap c8), true⟩)]⟩), ([((cA4 c32) x12)], ⟨1, [(0, ⟨1, ((x33).flatMap c8), true⟩)]⟩), ([((cA4 c32) x12)], ⟨1, [(0, ⟨1, ((x35).flatMap c8), true⟩)]⟩)]) (D := [⟨[(10, none)], [], [0], false⟩, ⟨[(8, none)], [], [0], false⟩, ⟨[(124, some 1)], [1], [0], false⟩, ⟨[(14, none)], [], [0], false⟩, ⟨[(125, some 2), (126, some 3)], [1, 2, 3], [0], false⟩, ⟨[(10, none)], [], [0, 1], false⟩, ⟨[(9, none)], [], [0, 1], false⟩, ⟨[(129, some 6)], [6], [0, 1], false⟩, ⟨[(14, none)], [], [0, 1], false⟩, ⟨[(130, some 7), (131, some 8)], [6, 7, 8], [0, 1], false⟩, ⟨[(10, none)], [], [0], false⟩, ⟨[(9, none)], [], [0], false⟩, ⟨[(134, some 11)], [11], [0], false⟩, ⟨[(14, none)], [], [0], false⟩, ⟨[(135, some 12), (136, some 13)], [11, 12, 13], [0], false⟩, ⟨[(133, some 10), (137, some 14)], [10, 11, 12, 13, 14], [0], false⟩, ⟨[(138, some 15)], [10, 11, 12, 13, 14, 15], [0], false⟩, ⟨[(10, none)], [], [0], false⟩, ⟨[(8, none)], [], [0], false⟩, ⟨[(141, some 18)], [18], [0], false⟩, ⟨[(14, none)], [], [0], false⟩, ⟨[(142, some 19), (143, some 20)], [18, 19, 20], [0], false⟩, ⟨[(140, some 17), (144, some 21)], [17, 18, 19, 20, 21], [0], false⟩, ⟨[(145, some 22)], [17, 18, 19, 20, 21, 22], [0], false⟩, ⟨[(123, some 0), (127, some 4)], [0, 1, 2, 3, 4, 10, 11, 12, 13, 14, 15, 16, 17, 18, 19, 20, 21, 22, 23], [0], false⟩, ⟨[(147, some 24), (139, some 16)], [0, 1, 2, 3, 4, 10, 11, 12, 13, 14, 15, 16, 17, 18, 19, 20, 21, 22, 23, 24], [0], true⟩, ⟨[(128, some 5), (132, some 9)], [0, 1, 2, 3, 4, 5, 6, 7, 8, 9, 10, 11, 12, 13, 14, 15, 16, 17, 18, 19, 20, 21, 22, 23, 24, 25], [1], false⟩, ⟨[(148, some 26), (146, some 23)], [0, 1, 2, 3, 4, 5, 6, 7, 8, 9, 10, 11, 12, 13, 14, 15, 16, 17, 18, 19, 20, 21, 22, 23, 24, 25, 26], [1], true⟩]) (S := [25, 27]) (plan := [0, 1, 2, 3, 4, 5, 6, 7, 8, 9, 10, 11, 12, 13, 14, 15, 16, 17, 18, 19, 20, 21, 22, 23, 24, 25, 26, 27]) mo (by kernel_rfl) rfl rfl rfl (dcons (dstep1 (Tm := [(10, (GV 0 v28.length))]) (L := [((cA4 c32) x12)]) (H := ⟨1, [(0, ⟨1, ((v28).flatMap c8), true⟩)]⟩) rfl rfl rfl rfl rfl (astep_do rfl (ex_move (eV (v := (GV 0 v28.length)) rfl)))) (dcons (dstep1 (Tm := [(8, (I y7))]) (L := [((cA4 c32) x12)]) (H := ⟨1, [(0, ⟨1, ((v28).flatMap c8), true⟩)]⟩) rfl rfl rfl rfl rfl (astep_do rfl (ex_move (eV (v := (I y7)) rfl)))) (dcons (dstep1 (Tm := [(124, (I y7))]) (L := [((cA4 c32) x12)]) (H := ⟨1, [(0, ⟨1, ((v28).flatMap c8), true⟩)]⟩) rfl rfl rfl rfl rfl (astep_do rfl (ex_bin (vx := (I 4)) (vy := (I y7)) rfl rfl mulI_ok))) (dcons (dstep1 (Tm := [(14, (I v27))]) (L := [((cA4 c32) x12)]) (H := ⟨1, [(0, ⟨1, ((v28).flatMap c8), true⟩)]⟩) rfl rfl rfl rfl rfl (astep_do rfl (ex_move (eV (v := (I v27)) rfl)))) (dcons (dstep1 (Tm := [(125, (I (w64 (4 * y7)))), (126, (I v27))]) (L := [((cA4 c32) x12)]) (H := ⟨1, [(0, ⟨1, ((v28).flatMap c8), true⟩)]⟩) rfl rfl rfl rfl rfl (astep_do rfl (ex_bin (vx := (I (w64 (4 * y7)))) (vy := (I v27)) rfl rfl addI_ok))) (dcons (dstepN (by intro k hk; simp only [List.mem_cons, List.not_mem_nil, or_false] at hk; rcases hk with rfl | rfl <;> exact ⟨[(10, (GV 0 v28.length))], _, _, _, _, _, rfl, rfl, rfl, rfl, astep_do rfl (ex_move (eV (v := (GV 0 v28.length)) rfl))⟩)) (dcons (dstepN (by intro k hk; simp only [List.mem_cons, List.not_mem_nil, or_false] at hk; rcases hk with rfl | rfl <;> exact ⟨[(9, (I y8))], _, _, _, _, _, rfl, rfl, rfl, rfl, astep_do rfl (ex_move (eV (v := (I y8)) rfl))⟩)) (dcons (dstepN (by intro k hk; simp only [List.mem_cons, List.not_mem_nil, or_false] at hk; rcases hk with rfl | rfl <;> exact ⟨[(129, (I y8))], _, _, _, _, _, rfl, rfl, rfl, rfl, astep_do rfl (ex_bin (vx := (I 4)) (vy := (I y8)) rfl rfl mulI_ok)⟩)) (dcons (dstepN (by intro k hk; simp only [List.mem_cons, List.not_mem_nil, or_false] at hk; rcases hk with rfl | rfl <;> exact ⟨[(14, (I v27))], _, _, _, _, _, rfl, rfl, rfl, rfl, astep_do rfl (ex_move (eV (v := (I v27)) rfl))⟩)) (dcons (dstepN (by intro k hk; simp only [List.mem_cons, List.not_mem_nil, or_false] at hk; rcases hk with rfl | rfl <;> exact ⟨[(130, (I (w64 (4 * y8)))), (131, (I v27))], _, _, _, _, _, rfl, rfl, rfl, rfl, astep_do rfl (ex_bin (vx := (I (w64 (4 * y8)))) (vy := (I v27)) rfl rfl addI_ok)⟩)) (dcons (dstep1 (Tm := [(10, (GV 0 v28.length))]) (L := [((cA4 c32) x12)]) (H := ⟨1, [(0, ⟨1, ((v28).flatMap c8), true⟩)]⟩) rfl rfl rfl rfl rfl (astep_do rfl (ex_move (eV (v := (GV 0 v28.length)) rfl)))) (dcons (dstep1 (Tm := [(9, (I y8))]) (L := [((cA4 c32) x12)]) (H := ⟨1, [(0, ⟨1, ((v28).flatMap c8), true⟩)]⟩) rfl rfl rfl rfl rfl (astep_do rfl (ex_move (eV (v := (I y8)) rfl)))) (dcons (dstep1 (Tm := [(134, (I y8))]) (L := [((cA4 c32) x12)]) (H := ⟨1, [(0, ⟨1, ((v28).flatMap c8), true⟩)]⟩) rfl rfl rfl rfl rfl (astep_do rfl (ex_bin (vx := (I 4)) (vy := (I y8)) rfl rfl mulI_ok))) (dcons (dstep1 (Tm := [(14, (I v27))]) (L := [((cA4 c32) x12)]) (H := ⟨1, [(0, ⟨1, ((v28).flatMap c8), true⟩)]⟩) rfl rfl rfl rfl rfl (astep_do rfl (ex_move (eV (v := (I v27)) rfl)))) (dcons (dstep1 (Tm := [(135, (I (w64 (4 * y8)))), (136, (I v27))]) (L := [((cA4 c32) x12)]) (H := ⟨1, [(0, ⟨1, ((v28).flatMap c8), true⟩)]⟩) rfl rfl rfl rfl rfl (astep_do rfl (ex_bin (vx := (I (w64 (4 * y8)))) (vy := (I v27)) rfl rfl addI_ok))) (dcons (dstep1 (Tm := [(133, (GV 0 v28.length)), (137, (I (w64 ((w64 (4 * y8)) + v27))))]) (L := [((cA4 c32) x12)]) (H := ⟨1, [(0, ⟨1, ((v28).flatMap c8), true⟩)]⟩) rfl rfl rfl rfl rfl (astep_do rfl (tx_idxG (c := c8) (xs := v28) (i := (w64 ((w64 (4 * y8)) + v27))) ce8 Try.underlying31 s_5 rfl rfl rfl rfl hx30))) (dcons (dstep1 (Tm := [(138, (GP 0 ((w64 ((w64 (4 * y8)) + v27)).toNat * 1) (List.flatMap c8 v28).length))]) (L := [((cA4 c32) x12)]) (H := ⟨1, [(0, ⟨1, ((v28).flatMap c8), true⟩)]⟩) rfl rfl rfl rfl rfl (astep_do rfl (tx_ldG (v := (U8 x30)) (s := 1) rfl rfl (part_elem (off := 0) (v := (U8 x30)) ce8 hx30 Try.underlying5 rfl (by decide) rfl)))) (dcons (dstep1 (Tm := [(10, (GV 0 v28.length))]) (L := [((cA4 c32) x12)]) (H := ⟨1, [(0, ⟨1, ((v28).flatMap c8), true⟩)]⟩) rfl rfl rfl rfl rfl (astep_do rfl (ex_move (eV (v := (GV 0 v28.length)) rfl)))) (dcons (dstep1 (Tm := [(8, (I y7))]) (L := [((cA4 c32) x12)]) (H := ⟨1, [(0, ⟨1, ((v28).flatMap c8), true⟩)]⟩) rfl rfl rfl rfl rfl (astep_do rfl (ex_move (eV (v := (I y7)) rfl)))) (dcons (dstep1 (Tm := [(141, (I y7))]) (L := [((cA4 c32) x12)]) (H := ⟨1, [(0, ⟨1, ((v28).flatMap c8), true⟩)]⟩) rfl rfl rfl rfl rfl (astep_do rfl (ex_bin (vx := (I 4)) (vy := (I y7)) rfl rfl mulI_ok))) (dcons (dstep1 (Tm := [(14, (I v27))]) (L := [((cA4 c32) x12)]) (H := ⟨1, [(0, ⟨1, ((v28).flatMap c8), true⟩)]⟩) rfl rfl rfl rfl rfl (astep_do rfl (ex_move (eV (v := (I v27)) rfl)))) (dcons (dstep1 (Tm := [(142, (I (w64 (4 * y7)))), (143, (I v27))]) (L := [((cA4 c32) x12)]) (H := ⟨1, [(0, ⟨1, ((v28).flatMap c8), true⟩)]⟩) rfl rfl rfl rfl rfl (astep_do rfl (ex_bin (vx := (I (w64 (4 * y7)))) (vy := (I v27)) rfl rfl addI_ok))) (dcons (dstep1 (Tm := [(140, (GV 0 v28.length)), (144, (I (w64 ((w64 (4 * y7)) + v27))))]) (L := [((cA4 c32) x12)]) (H := ⟨1, [(0, ⟨1, ((v28).flatMap c8), true⟩)]⟩) rfl rfl rfl rfl rfl (astep_do rfl (tx_idxG (c := c8) (xs := v28) (i := (w64 ((w64 (4 * y7)) + v27))) ce8 Try.underlying31 s_5 rfl rfl rfl rfl hx31))) (dcons (dstep1 (Tm := [(145, (GP 0 ((w64 ((w64 (4 * y7)) + v27)).toNat * 1) (List.flatMap c8 v28).length))]) (L := [((cA4 c32) x12)]) (H := ⟨1, [(0, ⟨1, ((v28).flatMap c8), true⟩)]⟩) rfl rfl rfl rfl rfl (astep_do rfl (tx_ldG (v := (U8 x31)) (s := 1) rfl rfl (part_elem (off := 0) (v := (U8 x31)) ce8 hx31 Try.underlying5 rfl (by decide) rfl)))) (dcons (dstep1 (Tm := [(123, (GV 0 v28.length)), (127, (I (w64 ((w64 (4 * y7)) + v27))))]) (L := [((cA4 c32) x12)]) (H := ⟨1, [(0, ⟨1, ((v28).flatMap c8), true⟩)]⟩) rfl rfl rfl rfl rfl (astep_do rfl (tx_idxG (c := c8) (xs := v28) (i := (w64 ((w64 (4 * y7)) + v27))) ce8 Try.underlying31 s_5 rfl rfl rfl rfl hx32))) (dcons (dstep1 (Tm := [(147, (GP 0 ((w64 ((w64 (4 * y7)) + v27)).toNat * 1) (List.flatMap c8 v28).length)), (139, (U8 x30))]) (L := [((cA4 c32) x12)]) (H := ⟨1, [(0, ⟨1, ((v28).flatMap c8), true⟩)]⟩) rfl rfl rfl rfl rfl (astep_do rfl (tx_stG (c := c8) (xs := v28) (e := x30) (H' := ⟨1, [(0, ⟨1, ((x33).flatMap c8), true⟩)]⟩) ce8 s_5 rfl (eV (v := (U8 x30)) rfl) rfl rfl hx33 rfl))) (dcons (dstep1 (Tm := [(128, (GV 0 v28.length)), (132, (I (w64 ((w64 (4 * y8)) + v27))))]) (L := [((cA4 c32) x12)]) (H := ⟨1, [(0, ⟨1, ((x33).flatMap c8), true⟩)]⟩) rfl rfl rfl rfl rfl (astep_do rfl (tx_idxG (c := c8) (xs := x33) (i := (w64 ((w64 (4 * y8)) + v27))) ce8 Try.underlying31 s_5 rfl rfl rfl (setI_len hx33) hx34))) (dcons (dstep1 (Tm := [(148, (GP 0 ((w64 ((w64 (4 * y8)) + v27)).toNat * 1) (List.flatMap c8 x33).length)), (146, (U8 x31))]) (L := [((cA4 c32) x12)]) (H := ⟨1, [(0, ⟨1, ((x33).flatMap c8), true⟩)]⟩) rfl rfl rfl rfl rfl (astep_do rfl (tx_stG (c := c8) (xs := x33) (e := x31) (H' := ⟨1, [(0, ⟨1, ((x35).flatMap c8), true⟩)]⟩) ce8 s_5 rfl (eV (v := (U8 x31)) rfl) rfl rfl hx35 rfl))) dnil)))))))))))))))))))))))))))) ⟨rfl, rfl⟩) (by kernel_rfl) (by kernel_rfl) (ReT.keep (v := (I y7)) rfl (ReT.keep (v := (I y8)) rfl (ReT.gv rfl (Eq.trans (setI_len hx33) (setI_len hx35)) (ReT.keep (v := (LP 0 0)) rfl (ReT.keep (v := (U32 (((x13.toUInt32 + x15) + x17) + x19))) rfl (ReT.keep (v := (U32 (((x20.toUInt32 + x22) + x24) + x26))) rfl (ReT.keep (v := (I v27)) rfl ReT.nil))))))) ?_
            show AWp _ _ _ _
            refine awp_region ?_
            refine arun_do rfl rfl rfl (ex_move (eV (v := (I v27)) rfl)) ?_
            refine arun_do rfl rfl rfl (ex_bin (vx := (I v27)) (vy := (I 1)) rfl rfl addI_ok) ?_
            refine arun_do rfl rfl rfl (ex_assign (eV (v := (I (w64 (v27 + 1)))) rfl)) ?_
            refine arun_keepE [8, 9, 10, 11, 12, 13, 14] 1 1 (st' := ⟨175, 0, [(8, (I y7)), (9, (I y8)), (10, (GV 0 x35.length)), (11, (LP 0 0)), (12, (U32 (((x13.toUInt32 + x15) + x17) + x19))), (13, (U32 (((x20.toUInt32 + x22) + x24) + x26))), (14, (I (w64 (v27 + 1))))], [((cA4 c32) x12)], ⟨1, [(0, ⟨1, ((x35).flatMap c8), true⟩)]⟩⟩) (by kernel_rfl) (by kernel_rfl) ?_
            exact Exists.intro n1 (And.intro (Nat.lt_succ_self _) (Exists.intro (w64 (v27 + 1)) (Exists.intro x35 (And.intro rfl h))))
          · rw [condF hb29] at h
            refine awp_condF (boF hb29) ?_
            refine awp_exit ?_
            show AWp _ _ _ _
            refine awp_seq ?_
            refine awp_region ?_
            refine arun_do rfl rfl rfl (ex_move (eV (v := (GV 0 v28.length)) rfl)) ?_
            refine arun_do rfl rfl rfl (tx_bsG (bs := v28) Try.underlying31 Try.underlying9 Try.underlying5 rfl rfl rfl) ?_
            refine arun_do rfl rfl rfl (ex_buildSliceD (qs := [(0, (S v28))]) (cells := (([v28] : List Str).flatMap cS)) Try.underlying28 s_9 (by decide) (evp rfl evp_nil) rfl (by kernel_rfl) (by kernel_rfl) (by kernel_rfl)) ?_
            obtain ⟨x36, hx36, h⟩ := bindS h
            refine arun_do rfl rfl rfl (ex_call0 (vs := [(SL 1 cS ([v28] : List Str))]) (v := (Value.agg ((cA4 c32) x36).toArray)) rfl en_10 (cargs (evs rfl evs_nil)) rfl (ok_sum_Of ([v28] : List Str) x36 hx36) rfl) ?_
            refine arun_do rfl rfl rfl (ex_alloc (k := 1) (zs := ((cA4 c32) (A4.mk 0 0 0 0))) (L' := [((cA4 c32) x12), ((cA4 c32) (A4.mk 0 0 0 0))]) z_25 rfl rfl rfl rfl) ?_
            refine arun_do0 rfl rfl (ex_storeL (vy := (Value.agg ((cA4 c32) x36).toArray)) (cs := ((cA4 c32) (A4.mk 0 0 0 0))) (vs := ((cA4 c32) x36)) (L' := [((cA4 c32) x12), ((cA4 c32) x36)]) rfl (eV (v := (Value.agg ((cA4 c32) x36).toArray)) rfl) rfl s_25 rfl (Nat.le_of_ble_eq_true rfl) (by kernel_rfl)) ?_
            refine arun_keepE [8, 9, 11, 12, 13, 15] 2 0 (st' := ⟨175, 0, [(8, (I y7)), (9, (I y8)), (11, (LP 0 0)), (12, (U32 (((x13.toUInt32 + x15) + x17) + x19))), (13, (U32 (((x20.toUInt32 + x22) + x24) + x26))), (15, (LP 1 0))], [((cA4 c32) x12), ((cA4 c32) x36)], ⟨0, []⟩⟩) (by kernel_rfl) (by kernel_rfl) ?_
            show AWp _ _ _ _
            refine awp_seq ?_
            refine awp_region ?_
            refine arun_do rfl rfl rfl (ex_move (eV (v := (I y8)) rfl)) ?_
            refine arun_do rfl rfl rfl (ex_move (eV (v := (I y7)) rfl)) ?_
            refine arun_do rfl rfl rfl (ex_bin (vx := (I y8)) (vy := (I y7)) rfl rfl subI_ok) ?_
            refine arun_do rfl rfl rfl (tx_64_32 Try.underlying3 Try.underlying23 rfl) ?_
            refine arun_do rfl rfl rfl (ex_assign (eV (v := (U32 (UInt32.ofInt (w64 (y8 - y7))))) rfl)) ?_
            refine arun_keepE [11, 12, 13, 15, 16] 2 0 (st' := ⟨175, 0, [(11, (LP 0 0)), (12, (U32 (((x13.toUInt32 + x15) + x17) + x19))), (13, (U32 (((x20.toUInt32 + x22) + x24) + x26))), (15, (LP 1 0)), (16, (U32 (UInt32.ofInt (w64 (y8 - y7)))))], [((cA4 c32) x12), ((cA4 c32) x36)], ⟨0, []⟩⟩) (by kernel_rfl) (by kernel_rfl) ?_
            show AWp _ _ _ _
            refine awp_seq ?_
            refine awp_region ?_
            refine arun_do rfl rfl rfl (ex_indexAddrA (i := 0) (v := (LP 1 0)) Try.underlying25 s_23 rfl rfl (by decide) rfl) ?_
            refine arun_do rfl rfl rfl (tx_ldL1 (v := (U32 x36.x0)) Try.underlying23 rfl rfl rfl rfl) ?_
            refine arun_do rfl rfl rfl (ex_indexAddrA (i := 0) (v := (LP 0 0)) Try.underlying25 s_23 rfl rfl (by decide) rfl) ?_
            refine arun_do rfl rfl rfl (tx_ldL1 (v := (U32 x12.x0)) Try.underlying23 rfl rfl rfl rfl) ?_
            refine arun_do rfl rfl rfl (ex_bin (vx := (U32 x36.x0)) (vy := (U32 x12.x0)) rfl rfl eql32_ok) ?_
            refine arun_do rfl rfl rfl (ex_move (eV (v := (Bo (x36.x0 == x12.x0))) rfl)) ?_
            refine arun_guard (v := (LP 1 1)) ((x36.x0 == x12.x0) == true) rfl rfl rfl (fun hc => ex_indexAddrA (i := 1) (v := (LP 1 1)) Try.underlying25 s_23 rfl rfl (by decide) rfl) ?_
            refine arun_guard (v := (U32 x36.x1)) ((x36.x0 == x12.x0) == true) rfl rfl rfl (fun hc => tx_ldL1 (v := (U32 x36.x1)) Try.underlying23 rfl (cond_of hc) rfl rfl) ?_
            refine arun_guard (v := (LP 0 1)) ((x36.x0 == x12.x0) == true) rfl rfl rfl (fun hc => ex_indexAddrA (i := 1) (v := (LP 0 1)) Try.underlying25 s_23 rfl rfl (by decide) rfl) ?_
            refine arun_guard (v := (U32 x12.x1)) ((x36.x0 == x12.x0) == true) rfl rfl rfl (fun hc => tx_ldL1 (v := (U32 x12.x1)) Try.underlying23 rfl (cond_of hc) rfl rfl) ?_
            refine arun_guard (v := (U32 (((x20.toUInt32 + x22) + x24) + x26))) ((x36.x0 == x12.x0) == true) rfl rfl rfl (fun hc => ex_move (eV (v := (U32 (((x20.toUInt32 + x22) + x24) + x26))) rfl)) ?_
            refine arun_guard (v := (U32 (((x13.toUInt32 + x15) + x17) + x19))) ((x36.x0 == x12.x0) == true) rfl rfl rfl (fun hc => ex_move (eV (v := (U32 (((x13.toUInt32 + x15) + x17) + x19))) rfl)) ?_
            refine arun_guard (v := (U32 ((((x20.toUInt32 + x22) + x24) + x26) - (((x13.toUInt32 + x15) + x17) + x19)))) ((x36.x0 == x12.x0) == true) rfl rfl rfl (fun hc => ex_bin (vx := (U32 (((x20.toUInt32 + x22) + x24) + x26))) (vy := (U32 (((x13.toUInt32 + x15) + x17) + x19))) (cond_of hc) (cond_of hc) sub32_ok) ?_
            refine arun_guard (v := (U32 (UInt32.ofInt (w64 (y8 - y7))))) ((x36.x0 == x12.x0) == true) rfl rfl rfl (fun hc => ex_move (eV (v := (U32 (UInt32.ofInt (w64 (y8 - y7))))) rfl)) ?_
            refine arun_guard (v := (U32 (((((x20.toUInt32 + x22) + x24) + x26) - (((x13.toUInt32 + x15) + x17) + x19)) * (UInt32.ofInt (w64 (y8 - y7)))))) ((x36.x0 == x12.x0) == true) rfl rfl rfl (fun hc => ex_bin (vx := (U32 ((((x20.toUInt32 + x22) + x24) + x26) - (((x13.toUInt32 + x15) + x17) + x19)))) (vy := (U32 (UInt32.ofInt (w64 (y8 - y7))))) (cond_of hc) (cond_of hc) mul32_ok) ?_
            refine arun_guard (v := (U32 (x12.x1 + (((((x20.toUInt32 + x22) + x24) + x26) - (((x13.toUInt32 + x15) + x17) + x19)) * (UInt32.ofInt (w64 (y8 - y7))))))) ((x36.x0 == x12.x0) == true) rfl rfl rfl (fun hc => ex_bin (vx := (U32 x12.x1)) (vy := (U32 (((((x20.toUInt32 + x22) + x24) + x26) - (((x13.toUInt32 + x15) + x17) + x19)) * (UInt32.ofInt (w64 (y8 - y7)))))) (cond_of hc) (cond_of hc) add32_ok) ?_
            refine arun_guard (v := (Bo (x36.x1 == (x12.x1 + (((((x20.toUInt32 + x22) + x24) + x26) - (((x13.toUInt32 + x15) + x17) + x19)) * (UInt32.ofInt (w64 (y8 - y7)))))))) ((x36.x0 == x12.x0) == true) rfl rfl rfl (fun hc => ex_bin (vx := (U32 x36.x1)) (vy := (U32 (x12.x1 + (((((x20.toUInt32 + x22) + x24) + x26) - (((x13.toUInt32 + x15) + x17) + x19)) * (UInt32.ofInt (w64 (y8 - y7))))))) (cond_of hc) (cond_of hc) eql32_ok) ?_
            refine arun_do rfl rfl rfl (ex_pick rfl pkAnd) ?_
            refine arun_do rfl rfl rfl (ex_assign (eV (v := (Bo ((x36.x0 == x12.x0) && (x36.x1 == (x12.x1 + (((((x20.toUInt32 + x22) + x24) + x26) - (((x13.toUInt32 + x15) + x17) + x19)) * (UInt32.ofInt (w64 (y8 - y7))))))))) rfl)) ?_
            refine arun_keepE [6] 0 0 (st' := ⟨175, 0, [(6, (Bo ((x36.x0 == x12.x0) && (x36.x1 == (x12.x1 + (((((x20.toUInt32 + x22) + x24) + x26) - (((x13.toUInt32 + x15) + x17) + x19)) * (UInt32.ofInt (w64 (y8 - y7)))))))))], [], ⟨0, []⟩⟩) (by kernel_rfl) (by kernel_rfl) ?_
            show AWp _ _ _ _
            refine awp_ret ?_
            cases h
            exact ares1 (rtmp rfl (eV rfl))

end Go.Proofs
