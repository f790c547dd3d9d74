/- Pure models of functions of the program, and that its code does what they say: palimplaw15 DataBytes. Written by a program. -/
import Derived.Test.YtiolemkcnkokaaaDoorR150
import Derived.Test.YtiolemkcnkokaaaDoorR1510
import Derived.Test.YtiolemkcnkokaaaDoorR1511
import Derived.Test.YtiolemkcnkokaaaDoorR152
import Derived.Test.YtiolemkcnkokaaaDoorR157
import Derived.Test.YtiolemkcnkokaaaDoorR158
import Derived.Test.YtiolemkcnkokaaaDoorR15B
set_option maxRecDepth 20000
set_option maxHeartbeats 4000000
namespace Go.Proofs
open Go Go.Fhl
set_option linter.unusedVariables false
set_option linter.unusedSimpArgs false
noncomputable def M_law15_DataBytes_k1 (c_1 : (Int → List UInt8 → Option Bool)) (t1 : Str) (t3 : UInt8) (t4 : UInt8) (t5 : UInt8) (x7 : Int) (x8 : ((List G_api_Node) × Int)) (v12 : Int) (y15 : List UInt8) : Option Bool :=
  Option.bind (getI t1 v12) fun (x19 : UInt8) => Option.bind (getI y15 (w64 (x7 + v12))) fun (x20 : UInt8) => Option.bind (setI y15 (w64 (x7 + v12)) x19) fun (x21 : List UInt8) => c_1 (w64 (v12 + 1)) x21
noncomputable def M_law15_DataBytes_l2 (c_1 : (Int → List UInt8 → Option Bool)) (t1 : Str) (t3 : UInt8) (t4 : UInt8) (t5 : UInt8) (x7 : Int) (x8 : ((List G_api_Node) × Int)) (v12 : Int) : Nat → List UInt8 → Option Bool
  | 0, _ => none
  | n2 + 1, v16 =>
  cond (decide (((v16.length : Nat) : Int) ≤ (w64 (x7 + v12)))) (Option.bind (appL 1 v16 ([0] : List UInt8)) fun (x18 : List UInt8) => (M_law15_DataBytes_l2 c_1 t1 t3 t4 t5 x7 x8 v12 n2) x18) (M_law15_DataBytes_k1 c_1 t1 t3 t4 t5 x7 x8 v12 v16)
noncomputable def M_law15_DataBytes_k2 (c_1 : (Int → List UInt8 → Option Bool)) (t4 : UInt8) (t5 : UInt8) (x22 : Int) (x23 : ((List G_api_Node) × Int)) (y24 : List UInt8) : Option Bool :=
  Option.bind (slL y24 0 x22) fun (x28 : (List UInt8)) => Option.bind (M_data_Read x23.1 ([102] : Str) (t4.toNat : Int) (t5.toNat : Int)) fun (x29 : (Str × Int)) => Option.bind (M_data_Read x23.1 ([102] : Str) 0 128) fun (x30 : (Str × Int)) => Option.bind (gd (((x23.2 == 0) && (x29.2 == 0)) == true) (slL x28 (min (t4.toNat : Int) x22) (min x22 (w64 ((min (t4.toNat : Int) x22) + (t5.toNat : Int)))))) fun (x31 : (List UInt8)) => some ((((x23.2 == 0) && (x29.2 == 0)) && (x29.1 == x31)) && (x30.1 == x28))
noncomputable def M_law15_DataBytes_l3 (c_1 : (Int → List UInt8 → Option Bool)) (t4 : UInt8) (t5 : UInt8) (x22 : Int) (x23 : ((List G_api_Node) × Int)) : Nat → List UInt8 → Option Bool
  | 0, _ => none
  | n3 + 1, v25 =>
  cond (decide (((v25.length : Nat) : Int) < x22)) (Option.bind (appL 1 v25 ([0] : List UInt8)) fun (x27 : List UInt8) => (M_law15_DataBytes_l3 c_1 t4 t5 x22 x23 n3) x27) (M_law15_DataBytes_k2 c_1 t4 t5 x22 x23 v25)
noncomputable def M_law15_DataBytes_l1 (t1 : Str) (t3 : UInt8) (t4 : UInt8) (t5 : UInt8) (x7 : Int) (x8 : ((List G_api_Node) × Int)) : Nat → Int → List UInt8 → Option Bool
  | 0, _, _ => none
  | n1 + 1, v12, v13 =>
  cond (decide (v12 < (t1.length : Int))) (M_law15_DataBytes_l2 (M_law15_DataBytes_l1 t1 t3 t4 t5 x7 x8 n1) t1 t3 t4 t5 x7 x8 v12 fuel v13) (Option.bind (remI (t3.toNat : Int) 129) fun (x22 : Int) => Option.bind (M_data_Cut x8.1 ([102] : Str) x22) fun (x23 : ((List G_api_Node) × Int)) => M_law15_DataBytes_l3 (M_law15_DataBytes_l1 t1 t3 t4 t5 x7 x8 n1) t4 t5 x22 x23 fuel v13)
noncomputable def M_law15_DataBytes (t0 : Str) (t1 : Str) (t2 : UInt8) (t3 : UInt8) (t4 : UInt8) (t5 : UInt8) : Option Bool :=
  Option.bind (M_law15_begun) fun (x1 : Bool) => cond (!x1) (some false) (cond ((decide ((t0.length : Int) > 128)) || (decide ((t1.length : Int) > 128))) (some true) (Option.bind (M_ref11_New) fun (x4 : (List G_api_Node)) => Option.bind (M_ref11_Make x4 ([102] : Str) 1) fun (x5 : ((List G_api_Node) × Int)) => Option.bind (M_data_Write x5.1 ([102] : Str) 0 t0) fun (x6 : ((List G_api_Node) × Int)) => Option.bind (remI (t2.toNat : Int) 129) fun (x7 : Int) => Option.bind (M_data_Write x6.1 ([102] : Str) x7 t1) fun (x8 : ((List G_api_Node) × Int)) => cond ((x6.2 != 0) || ((x8.2 == 0) != (decide ((w64 (x7 + (t1.length : Int))) ≤ 128)))) (some false) (cond (x8.2 != 0) (Option.bind (gd ((x8.2 == 8) == true) (M_ref11_Same x8.1 x6.1)) fun (x11 : Bool) => some ((x8.2 == 8) && x11)) (M_law15_DataBytes_l1 t1 t3 t4 t5 x7 x8 fuel 0 t0))))
theorem ok_law15_DataBytes (t0 : Str) (t1 : Str) (t2 : UInt8) (t3 : UInt8) (t4 : UInt8) (t5 : UInt8) (r : Bool) (h : M_law15_DataBytes t0 t1 t2 t3 t4 t5 = some r) : FFn Tryd.prog 3 [(S t0), (S t1), (U8 t2), (U8 t3), (U8 t4), (U8 t5)] (Bo r) := by
  refine FFn.of_body (n := 169) Tryd.func3 rfl Tryd.ntmps3 rfl rfl rfl rfl ?_
  show AWp _ _ _ ⟨169, 0, [(0, (S t0)), (1, (S t1)), (2, (U8 t2)), (3, (U8 t3)), (4, (U8 t4)), (5, (U8 t5))], [], ⟨0, []⟩⟩
  unfold M_law15_DataBytes at h
  refine awp_seq ?_
  refine awp_region ?_
  refine arun_do rfl rfl rfl (ex_assign (eV (v := (Bo false)) rfl)) ?_
  refine arun_keepE [0, 1, 2, 3, 4, 5] 0 0 (st' := ⟨169, 0, [(0, (S t0)), (1, (S t1)), (2, (U8 t2)), (3, (U8 t3)), (4, (U8 t4)), (5, (U8 t5))], [], ⟨0, []⟩⟩) (by kernel_rfl) (by kernel_rfl) ?_
  show AWp _ _ _ _
  refine awp_seq ?_
  refine awp_seq ?_
  refine awp_region ?_
  obtain ⟨x1, hx1, h⟩ := bindS h
  refine arun_do rfl rfl rfl (ex_call0 (vs := []) (v := (Bo x1)) rfl en_9 (cargs evs_nil) rfl (ok_law15_begun  x1 hx1) rfl) ?_
  refine arun_do rfl rfl rfl (ex_un (vx := (Bo x1)) rfl notB_ok) ?_
  refine arun_keepE [0, 1, 2, 3, 4, 5, 30] 0 0 (st' := ⟨169, 0, [(0, (S t0)), (1, (S t1)), (2, (U8 t2)), (3, (U8 t3)), (4, (U8 t4)), (5, (U8 t5)), (30, (Bo (!x1)))], [], ⟨0, []⟩⟩) (by kernel_rfl) (by kernel_rfl) ?_
  show AWp _ _ _ _
  rcases Bool.eq_false_or_eq_true (!x1) with hb2 | hb2
  · rw [condT hb2] at h
    refine awp_condT (boT hb2) ?_
    refine awp_seq ?_
    refine awp_region ?_
    refine arun_do rfl rfl rfl (ex_assign (eV (v := (Bo false)) rfl)) ?_
    refine arun_keepE [12] 0 0 (st' := ⟨169, 0, [(12, (Bo false))], [], ⟨0, []⟩⟩) (by kernel_rfl) (by kernel_rfl) ?_
    show AWp _ _ _ _
    refine awp_ret ?_
    cases h
    exact ares1 (rtmp rfl (eV rfl))
  · rw [condF hb2] at h
    refine awp_condF (boF hb2) ?_
    refine awp_skip ?_
    show AWp _ _ _ _
    refine awp_seq ?_
    refine awp_seq ?_
    refine awp_region ?_
    refine arun_do rfl rfl rfl (ex_move (eV (v := (S t0)) rfl)) ?_
    refine arun_do rfl rfl rfl (tx_lenS Tryd.underlying9 rfl) ?_
    refine arun_do rfl rfl rfl (ex_bin (vx := (I (t0.length : Int))) (vy := (I 128)) rfl rfl gtrI_ok) ?_
    refine arun_do rfl rfl rfl (ex_move (eV (v := (Bo (decide ((t0.length : Int) > 128)))) rfl)) ?_
    refine arun_guard (v := (S t1)) ((decide ((t0.length : Int) > 128)) == false) rfl rfl rfl (fun hc => ex_move (eV (v := (S t1)) rfl)) ?_
    refine arun_guard (v := (I (t1.length : Int))) ((decide ((t0.length : Int) > 128)) == false) rfl rfl rfl (fun hc => tx_lenS Tryd.underlying9 (cond_of hc)) ?_
    refine arun_guard (v := (Bo (decide ((t1.length : Int) > 128)))) ((decide ((t0.length : Int) > 128)) == false) rfl rfl rfl (fun hc => ex_bin (vx := (I (t1.length : Int))) (vy := (I 128)) (cond_of hc) rfl gtrI_ok) ?_
    refine arun_do rfl rfl rfl (ex_pick rfl pkOr) ?_
    refine arun_keepE [0, 1, 2, 3, 4, 5, 38] 0 0 (st' := ⟨169, 0, [(0, (S t0)), (1, (S t1)), (2, (U8 t2)), (3, (U8 t3)), (4, (U8 t4)), (5, (U8 t5)), (38, (Bo ((decide ((t0.length : Int) > 128)) || (decide ((t1.length : Int) > 128)))))], [], ⟨0, []⟩⟩) (by kernel_rfl) (by kernel_rfl) ?_
    show AWp _ _ _ _
    rcases Bool.eq_false_or_eq_true ((decide ((t0.length : Int) > 128)) || (decide ((t1.length : Int) > 128))) with hb3 | hb3
    · rw [condT hb3] at h
      refine awp_condT (boT hb3) ?_
      refine awp_seq ?_
      refine awp_region ?_
      refine arun_do rfl rfl rfl (ex_assign (eV (v := (Bo true)) rfl)) ?_
      refine arun_keepE [12] 0 0 (st' := ⟨169, 0, [(12, (Bo true))], [], ⟨0, []⟩⟩) (by kernel_rfl) (by kernel_rfl) ?_
      show AWp _ _ _ _
      refine awp_ret ?_
      cases h
      exact ares1 (rtmp rfl (eV rfl))
    · rw [condF hb3] at h
      refine awp_condF (boF hb3) ?_
      refine awp_skip ?_
      show AWp _ _ _ _
      refine awp_seq ?_
      refine awp_region ?_
      obtain ⟨x4, hx4, h⟩ := bindS h
      refine arun_do rfl rfl rfl (ex_call0 (vs := []) (v := (SL 5 c_api_Node x4)) rfl en_11 (cargs evs_nil) rfl (ok_ref11_New  x4 hx4) rfl) ?_
      obtain ⟨x5, hx5, h⟩ := bindS h
      refine arun_do rfl rfl rfl (ex_call0 (vs := [(SL 5 c_api_Node x4), (S ([102] : Str)), (I 1)]) (v := (Value.tuple #[(SL 5 c_api_Node x5.1), (I x5.2)])) rfl en_10 (cargs (evs rfl (evs rfl (evs rfl evs_nil)))) rfl (ok_ref11_Make x4 ([102] : Str) 1 x5 hx5) rfl) ?_
      refine arun_do rfl rfl rfl (ex_move (eV (v := (Value.tuple #[(SL 5 c_api_Node x5.1), (I x5.2)])) rfl)) ?_
      refine arun_do rfl rfl rfl (ex_extract (vx := (Value.tuple #[(SL 5 c_api_Node x5.1), (I x5.2)])) (v := (SL 5 c_api_Node x5.1)) rfl rfl) ?_
      refine arun_do rfl rfl rfl (ex_extract (vx := (Value.tuple #[(SL 5 c_api_Node x5.1), (I x5.2)])) (v := (I x5.2)) rfl rfl) ?_
      refine arun_do rfl rfl rfl (ex_assign (eV (v := (SL 5 c_api_Node x5.1)) rfl)) ?_
      refine arun_do rfl rfl rfl (ex_assign (eV (v := (I x5.2)) rfl)) ?_
      refine arun_keepE [0, 1, 2, 3, 4, 5, 13] 0 0 (st' := ⟨169, 0, [(0, (S t0)), (1, (S t1)), (2, (U8 t2)), (3, (U8 t3)), (4, (U8 t4)), (5, (U8 t5)), (13, (SL 5 c_api_Node x5.1))], [], ⟨0, []⟩⟩) (by kernel_rfl) (by kernel_rfl) ?_
      show AWp _ _ _ _
      refine awp_seq ?_
      refine awp_region ?_
      refine arun_do rfl rfl rfl (ex_move (eV (v := (SL 5 c_api_Node x5.1)) rfl)) ?_
      refine arun_do rfl rfl rfl (ex_move (eV (v := (S t0)) rfl)) ?_
      obtain ⟨x6, hx6, h⟩ := bindS h
      refine arun_do rfl rfl rfl (ex_call0 (vs := [(SL 5 c_api_Node x5.1), (S ([102] : Str)), (I 0), (S t0)]) (v := (Value.tuple #[(SL 5 c_api_Node x6.1), (I x6.2)])) rfl en_12 (cargs (evs rfl (evs rfl (evs rfl (evs rfl evs_nil))))) rfl (ok_data_Write x5.1 ([102] : Str) 0 t0 x6 hx6) rfl) ?_
      refine arun_do rfl rfl rfl (ex_move (eV (v := (Value.tuple #[(SL 5 c_api_Node x6.1), (I x6.2)])) rfl)) ?_
      refine arun_do rfl rfl rfl (ex_extract (vx := (Value.tuple #[(SL 5 c_api_Node x6.1), (I x6.2)])) (v := (SL 5 c_api_Node x6.1)) rfl rfl) ?_
      refine arun_do rfl rfl rfl (ex_extract (vx := (Value.tuple #[(SL 5 c_api_Node x6.1), (I x6.2)])) (v := (I x6.2)) rfl rfl) ?_
      refine arun_do rfl rfl rfl (ex_assign (eV (v := (SL 5 c_api_Node x6.1)) rfl)) ?_
      refine arun_do rfl rfl rfl (ex_assign (eV (v := (I x6.2)) rfl)) ?_
      refine arun_keepE [0, 1, 2, 3, 4, 5, 13, 15] 0 0 (st' := ⟨169, 0, [(0, (S t0)), (1, (S t1)), (2, (U8 t2)), (3, (U8 t3)), (4, (U8 t4)), (5, (U8 t5)), (13, (SL 5 c_api_Node x6.1)), (15, (I x6.2))], [], ⟨0, []⟩⟩) (by kernel_rfl) (by kernel_rfl) ?_
      show AWp _ _ _ _
      refine awp_seq ?_
      refine awp_region ?_
      refine arun_do rfl rfl rfl (ex_move (eV (v := (U8 t2)) rfl)) ?_
      refine arun_do rfl rfl rfl (tx_8_64 Tryd.underlying5 Tryd.underlying3 rfl) ?_
      obtain ⟨x7, hx7, h⟩ := bindS h
      refine arun_do rfl rfl rfl (ex_bin (vx := (I (t2.toNat : Int))) (vy := (I 129)) rfl rfl (remI_ok hx7)) ?_
      refine arun_do rfl rfl rfl (ex_assign (eV (v := (I x7)) rfl)) ?_
      refine arun_keepE [0, 1, 3, 4, 5, 13, 15, 16] 0 0 (st' := ⟨169, 0, [(0, (S t0)), (1, (S t1)), (3, (U8 t3)), (4, (U8 t4)), (5, (U8 t5)), (13, (SL 5 c_api_Node x6.1)), (15, (I x6.2)), (16, (I x7))], [], ⟨0, []⟩⟩) (by kernel_rfl) (by kernel_rfl) ?_
      show AWp _ _ _ _
      refine awp_seq ?_
      refine awp_region ?_
      refine arun_do rfl rfl rfl (ex_move (eV (v := (SL 5 c_api_Node x6.1)) rfl)) ?_
      refine arun_do rfl rfl rfl (ex_move (eV (v := (I x7)) rfl)) ?_
      refine arun_do rfl rfl rfl (ex_move (eV (v := (S t1)) rfl)) ?_
      obtain ⟨x8, hx8, h⟩ := bindS h
      refine arun_do rfl rfl rfl (ex_call0 (vs := [(SL 5 c_api_Node x6.1), (S ([102] : Str)), (I x7), (S t1)]) (v := (Value.tuple #[(SL 5 c_api_Node x8.1), (I x8.2)])) rfl en_12 (cargs (evs rfl (evs rfl (evs rfl (evs rfl evs_nil))))) rfl (ok_data_Write x6.1 ([102] : Str) x7 t1 x8 hx8) rfl) ?_
      refine arun_do rfl rfl rfl (ex_move (eV (v := (Value.tuple #[(SL 5 c_api_Node x8.1), (I x8.2)])) rfl)) ?_
      refine arun_do rfl rfl rfl (ex_extract (vx := (Value.tuple #[(SL 5 c_api_Node x8.1), (I x8.2)])) (v := (SL 5 c_api_Node x8.1)) rfl rfl) ?_
      refine arun_do rfl rfl rfl (ex_extract (vx := (Value.tuple #[(SL 5 c_api_Node x8.1), (I x8.2)])) (v := (I x8.2)) rfl rfl) ?_
      refine arun_do rfl rfl rfl (ex_assign (eV (v := (SL 5 c_api_Node x8.1)) rfl)) ?_
      refine arun_do rfl rfl rfl (ex_assign (eV (v := (I x8.2)) rfl)) ?_
      refine arun_keepE [0, 1, 3, 4, 5, 13, 15, 16, 17, 18] 0 0 (st' := ⟨169, 0, [(0, (S t0)), (1, (S t1)), (3, (U8 t3)), (4, (U8 t4)), (5, (U8 t5)), (13, (SL 5 c_api_Node x6.1)), (15, (I x6.2)), (16, (I x7)), (17, (SL 5 c_api_Node x8.1)), (18, (I x8.2))], [], ⟨0, []⟩⟩) (by kernel_rfl) (by kernel_rfl) ?_
      show AWp _ _ _ _
      refine awp_seq ?_
      refine awp_seq ?_
      refine awp_region ?_
      refine arun_do rfl rfl rfl (ex_move (eV (v := (I x6.2)) rfl)) ?_
      refine arun_do rfl rfl rfl (ex_bin (vx := (I x6.2)) (vy := (I 0)) rfl rfl neqI_ok) ?_
      refine arun_do rfl rfl rfl (ex_move (eV (v := (Bo (x6.2 != 0))) rfl)) ?_
      refine arun_guard (v := (I x8.2)) ((x6.2 != 0) == false) rfl rfl rfl (fun hc => ex_move (eV (v := (I x8.2)) rfl)) ?_
      refine arun_guard (v := (Bo (x8.2 == 0))) ((x6.2 != 0) == false) rfl rfl rfl (fun hc => ex_bin (vx := (I x8.2)) (vy := (I 0)) (cond_of hc) rfl eqlI_ok) ?_
      refine arun_guard (v := (I x7)) ((x6.2 != 0) == false) rfl rfl rfl (fun hc => ex_move (eV (v := (I x7)) rfl)) ?_
      refine arun_guard (v := (S t1)) ((x6.2 != 0) == false) rfl rfl rfl (fun hc => ex_move (eV (v := (S t1)) rfl)) ?_
      refine arun_guard (v := (I (t1.length : Int))) ((x6.2 != 0) == false) rfl rfl rfl (fun hc => tx_lenS Tryd.underlying9 (cond_of hc)) ?_
      refine arun_guard (v := (I (w64 (x7 + (t1.length : Int))))) ((x6.2 != 0) == false) rfl rfl rfl (fun hc => ex_bin (vx := (I x7)) (vy := (I (t1.length : Int))) (cond_of hc) (cond_of hc) addI_ok) ?_
      refine arun_guard (v := (Bo (decide ((w64 (x7 + (t1.length : Int))) ≤ 128)))) ((x6.2 != 0) == false) rfl rfl rfl (fun hc => ex_bin (vx := (I (w64 (x7 + (t1.length : Int))))) (vy := (I 128)) (cond_of hc) rfl leqI_ok) ?_
      refine arun_guard (v := (Bo ((x8.2 == 0) != (decide ((w64 (x7 + (t1.length : Int))) ≤ 128))))) ((x6.2 != 0) == false) rfl rfl rfl (fun hc => ex_bin (vx := (Bo (x8.2 == 0))) (vy := (Bo (decide ((w64 (x7 + (t1.length : Int))) ≤ 128)))) (cond_of hc) (cond_of hc) (neqB_ok Tryd.underlying4)) ?_
      refine arun_do rfl rfl rfl (ex_pick rfl pkOr) ?_
      refine arun_keepE [0, 1, 3, 4, 5, 13, 16, 17, 18, 71] 0 0 (st' := ⟨169, 0, [(0, (S t0)), (1, (S t1)), (3, (U8 t3)), (4, (U8 t4)), (5, (U8 t5)), (13, (SL 5 c_api_Node x6.1)), (16, (I x7)), (17, (SL 5 c_api_Node x8.1)), (18, (I x8.2)), (71, (Bo ((x6.2 != 0) || ((x8.2 == 0) != (decide ((w64 (x7 + (t1.length : Int))) ≤ 128))))))], [], ⟨0, []⟩⟩) (by kernel_rfl) (by kernel_rfl) ?_
      show AWp _ _ _ _
      rcases Bool.eq_false_or_eq_true ((x6.2 != 0) || ((x8.2 == 0) != (decide ((w64 (x7 + (t1.length : Int))) ≤ 128)))) with hb9 | hb9
      · rw [condT hb9] at h
        refine awp_condT (boT hb9) ?_
        refine awp_seq ?_
        refine awp_region ?_
        refine arun_do rfl rfl rfl (ex_assign (eV (v := (Bo false)) rfl)) ?_
        refine arun_keepE [12] 0 0 (st' := ⟨169, 0, [(12, (Bo false))], [], ⟨0, []⟩⟩) (by kernel_rfl) (by kernel_rfl) ?_
        show AWp _ _ _ _
        refine awp_ret ?_
        cases h
        exact ares1 (rtmp rfl (eV rfl))
      · rw [condF hb9] at h
        refine awp_condF (boF hb9) ?_
        refine awp_skip ?_
        show AWp _ _ _ _
        refine awp_seq ?_
        refine awp_seq ?_
        refine awp_region ?_
        refine arun_do rfl rfl rfl (ex_move (eV (v := (I x8.2)) rfl)) ?_
        refine arun_do rfl rfl rfl (ex_bin (vx := (I x8.2)) (vy := (I 0)) rfl rfl neqI_ok) ?_
        refine arun_keepE [0, 1, 3, 4, 5, 13, 16, 17, 18, 73] 0 0 (st' := ⟨169, 0, [(0, (S t0)), (1, (S t1)), (3, (U8 t3)), (4, (U8 t4)), (5, (U8 t5)), (13, (SL 5 c_api_Node x6.1)), (16, (I x7)), (17, (SL 5 c_api_Node x8.1)), (18, (I x8.2)), (73, (Bo (x8.2 != 0)))], [], ⟨0, []⟩⟩) (by kernel_rfl) (by kernel_rfl) ?_
        show AWp _ _ _ _
        rcases Bool.eq_false_or_eq_true (x8.2 != 0) with hb10 | hb10
        · rw [condT hb10] at h
          refine awp_condT (boT hb10) ?_
          refine awp_seq ?_
          refine awp_region ?_
          refine arun_do rfl rfl rfl (ex_move (eV (v := (I x8.2)) rfl)) ?_
          refine arun_do rfl rfl rfl (ex_bin (vx := (I x8.2)) (vy := (I 8)) rfl rfl eqlI_ok) ?_
          refine arun_do rfl rfl rfl (ex_move (eV (v := (Bo (x8.2 == 8))) rfl)) ?_
          refine arun_guard (v := (SL 5 c_api_Node x8.1)) ((x8.2 == 8) == true) rfl rfl rfl (fun hc => ex_move (eV (v := (SL 5 c_api_Node x8.1)) rfl)) ?_
          refine arun_guard (v := (SL 5 c_api_Node x6.1)) ((x8.2 == 8) == true) rfl rfl rfl (fun hc => ex_move (eV (v := (SL 5 c_api_Node x6.1)) rfl)) ?_
          obtain ⟨x11, hx11, h⟩ := bindS h
          refine arun_guard (v := (Bo x11)) ((x8.2 == 8) == true) rfl rfl rfl (fun hc => ex_call0 (vs := [(SL 5 c_api_Node x8.1), (SL 5 c_api_Node x6.1)]) (v := (Bo x11)) rfl en_13 (cargs (evs (cond_of hc) (evs (cond_of hc) evs_nil))) rfl (ok_ref11_Same x8.1 x6.1 x11 (gd_of hc hx11)) rfl) ?_
          refine arun_do rfl rfl rfl (ex_pick rfl pkAnd) ?_
          refine arun_do rfl rfl rfl (ex_assign (eV (v := (Bo ((x8.2 == 8) && x11))) rfl)) ?_
          refine arun_keepE [12] 0 0 (st' := ⟨169, 0, [(12, (Bo ((x8.2 == 8) && x11)))], [], ⟨0, []⟩⟩) (by kernel_rfl) (by kernel_rfl) ?_
          show AWp _ _ _ _
          refine awp_ret ?_
          cases h
          exact ares1 (rtmp rfl (eV rfl))
        · rw [condF hb10] at h
          refine awp_condF (boF hb10) ?_
          refine awp_skip ?_
          show AWp _ _ _ _
          refine awp_seq ?_
          refine awp_region ?_
          refine arun_do rfl rfl rfl (ex_move (eV (v := (S t0)) rfl)) ?_
          refine arun_do rfl rfl rfl (tx_sbG (k := 0) (H' := ⟨1, [(0, ⟨1, ((t0).flatMap c8), true⟩)]⟩) Tryd.underlying9 Tryd.underlying31 Tryd.underlying5 rfl rfl rfl) ?_
          refine arun_do rfl rfl rfl (ex_assign (eV (v := (GV 0 t0.length)) rfl)) ?_
          refine arun_keepE [1, 3, 4, 5, 16, 17, 19] 0 1 (st' := ⟨169, 0, [(1, (S t1)), (3, (U8 t3)), (4, (U8 t4)), (5, (U8 t5)), (16, (I x7)), (17, (SL 5 c_api_Node x8.1)), (19, (GV 0 t0.length))], [], ⟨1, [(0, ⟨1, ((t0).flatMap c8), true⟩)]⟩⟩) (by kernel_rfl) (by kernel_rfl) ?_
          show AWp _ _ _ _
          refine awp_seq ?_
          refine awp_seq ?_
          refine awp_region ?_
          refine arun_do rfl rfl rfl (ex_assign (eV (v := (I 0)) rfl)) ?_
          refine arun_keepE [1, 3, 4, 5, 16, 17, 19, 20] 0 1 (st' := ⟨169, 0, [(1, (S t1)), (3, (U8 t3)), (4, (U8 t4)), (5, (U8 t5)), (16, (I x7)), (17, (SL 5 c_api_Node x8.1)), (19, (GV 0 t0.length)), (20, (I 0))], [], ⟨1, [(0, ⟨1, ((t0).flatMap c8), true⟩)]⟩⟩) (by kernel_rfl) (by kernel_rfl) ?_
          show AWp _ _ _ _
          refine awp_block ?_
          refine awp_loop (fun n s => ∃ (v12 : Int) (v13 : List UInt8), s = ⟨169, 0, [(1, (S t1)), (3, (U8 t3)), (4, (U8 t4)), (5, (U8 t5)), (16, (I x7)), (17, (SL 5 c_api_Node x8.1)), (19, (GV 0 v13.length)), (20, (I v12))], [], ⟨1, [(0, ⟨1, ((v13).flatMap c8), true⟩)]⟩⟩ ∧ M_law15_DataBytes_l1 t1 t3 t4 t5 x7 x8 n v12 v13 = some r) fuel (Exists.intro 0 (Exists.intro t0 (And.intro rfl h))) ?_
          rintro n s ⟨v12, v13, rfl, h⟩ -
          cases n with
          | zero => cases h
          | succ n1 =>
            unfold M_law15_DataBytes_l1 at h
            refine awp_seq ?_
            refine awp_seq ?_
            refine awp_region ?_
            refine arun_do rfl rfl rfl (ex_move (eV (v := (I v12)) rfl)) ?_
            refine arun_do rfl rfl rfl (ex_move (eV (v := (S t1)) rfl)) ?_
            refine arun_do rfl rfl rfl (tx_lenS Tryd.underlying9 rfl) ?_
            refine arun_do rfl rfl rfl (ex_bin (vx := (I v12)) (vy := (I (t1.length : Int))) rfl rfl lssI_ok) ?_
            refine arun_keepE [1, 3, 4, 5, 16, 17, 19, 20, 86] 0 1 (st' := ⟨169, 0, [(1, (S t1)), (3, (U8 t3)), (4, (U8 t4)), (5, (U8 t5)), (16, (I x7)), (17, (SL 5 c_api_Node x8.1)), (19, (GV 0 v13.length)), (20, (I v12)), (86, (Bo (decide (v12 < (t1.length : Int)))))], [], ⟨1, [(0, ⟨1, ((v13).flatMap c8), true⟩)]⟩⟩) (by kernel_rfl) (by kernel_rfl) ?_
            show AWp _ _ _ _
            rcases Bool.eq_false_or_eq_true (decide (v12 < (t1.length : Int))) with hb14 | hb14
            · rw [condT hb14] at h
              refine awp_condT (boT hb14) ?_
              refine awp_skip ?_
              show AWp _ _ _ _
              refine awp_seq ?_
              refine awp_block ?_
              refine awp_seqJ (fun s => ∃ (y15 : List UInt8), s = ⟨169, 0, [(1, (S t1)), (3, (U8 t3)), (4, (U8 t4)), (5, (U8 t5)), (16, (I x7)), (17, (SL 5 c_api_Node x8.1)), (19, (GV 0 y15.length)), (20, (I v12))], [], ⟨1, [(0, ⟨1, ((y15).flatMap c8), true⟩)]⟩⟩ ∧ M_law15_DataBytes_k1 (M_law15_DataBytes_l1 t1 t3 t4 t5 x7 x8 n1) t1 t3 t4 t5 x7 x8 v12 y15 = some r) ?_ ?_
              · refine awp_block ?_
                refine awp_keepE [1, 3, 4, 5, 16, 17, 19, 20] 0 1 (st' := ⟨169, 0, [(1, (S t1)), (3, (U8 t3)), (4, (U8 t4)), (5, (U8 t5)), (16, (I x7)), (17, (SL 5 c_api_Node x8.1)), (19, (GV 0 v13.length)), (20, (I v12))], [], ⟨1, [(0, ⟨1, ((v13).flatMap c8), true⟩)]⟩⟩) (by kernel_rfl) (by kernel_rfl) ?_
                refine awp_loop (fun n s => ∃ (v16 : List UInt8), s = ⟨169, 0, [(1, (S t1)), (3, (U8 t3)), (4, (U8 t4)), (5, (U8 t5)), (16, (I x7)), (17, (SL 5 c_api_Node x8.1)), (19, (GV 0 v16.length)), (20, (I v12))], [], ⟨1, [(0, ⟨1, ((v16).flatMap c8), true⟩)]⟩⟩ ∧ M_law15_DataBytes_l2 (M_law15_DataBytes_l1 t1 t3 t4 t5 x7 x8 n1) t1 t3 t4 t5 x7 x8 v12 n v16 = some r) fuel (Exists.intro v13 (And.intro rfl h)) ?_
                rintro n s ⟨v16, rfl, h⟩ -
                cases n with
                | zero => cases h
                | succ n2 =>
                  unfold M_law15_DataBytes_l2 at h
                  refine awp_seq ?_
                  refine awp_seq ?_
                  refine awp_region ?_
                  refine arun_do rfl rfl rfl (ex_move (eV (v := (GV 0 v16.length)) rfl)) ?_
                  refine arun_do rfl rfl rfl (ex_lenN (n := v16.length) Tryd.underlying31 rfl) ?_
                  refine arun_do rfl rfl rfl (ex_move (eV (v := (I x7)) rfl)) ?_
                  refine arun_do rfl rfl rfl (ex_move (eV (v := (I v12)) rfl)) ?_
                  refine arun_do rfl rfl rfl (ex_bin (vx := (I x7)) (vy := (I v12)) rfl rfl addI_ok) ?_
                  refine arun_do rfl rfl rfl (ex_bin (vx := (I ((v16.length : Nat) : Int))) (vy := (I (w64 (x7 + v12)))) rfl rfl leqI_ok) ?_
                  refine arun_keepE [1, 3, 4, 5, 16, 17, 19, 20, 94] 0 1 (st' := ⟨169, 0, [(1, (S t1)), (3, (U8 t3)), (4, (U8 t4)), (5, (U8 t5)), (16, (I x7)), (17, (SL 5 c_api_Node x8.1)), (19, (GV 0 v16.length)), (20, (I v12)), (94, (Bo (decide (((v16.length : Nat) : Int) ≤ (w64 (x7 + v12))))))], [], ⟨1, [(0, ⟨1, ((v16).flatMap c8), true⟩)]⟩⟩) (by kernel_rfl) (by kernel_rfl) ?_
                  show AWp _ _ _ _
                  rcases Bool.eq_false_or_eq_true (decide (((v16.length : Nat) : Int) ≤ (w64 (x7 + v12)))) with hb17 | hb17
                  · rw [condT hb17] at h
                    refine awp_condT (boT hb17) ?_
                    refine awp_skip ?_
                    show AWp _ _ _ _
                    refine awp_block ?_
                    refine awp_region ?_
                    refine arun_do rfl rfl rfl (ex_move (eV (v := (GV 0 v16.length)) rfl)) ?_
                    refine arun_do rfl rfl rfl (ex_buildSliceD (qs := [(0, (U8 0))]) (cells := (([0] : List UInt8).flatMap c8)) Tryd.underlying31 s_5 (by decide) (evp rfl evp_nil) rfl (by kernel_rfl) (by kernel_rfl) (by kernel_rfl)) ?_
                    obtain ⟨x18, hx18, h⟩ := bindS h
                    refine arun_do rfl rfl rfl (tx_appG (c := c8) (xs := v16) (H' := ⟨1, [(0, ⟨1, ((x18).flatMap c8), true⟩)]⟩) ce8 e_5 rfl rfl rfl (tsrcD (ys := ([0] : List UInt8)) ce8 Tryd.underlying31 s_5 Tryd.underlying31 rfl) hx18 rfl) ?_
                    refine arun_do rfl rfl rfl (ex_assign (eV (v := (GV 0 x18.length)) rfl)) ?_
                    refine arun_keepE [1, 3, 4, 5, 16, 17, 19, 20] 0 1 (st' := ⟨169, 0, [(1, (S t1)), (3, (U8 t3)), (4, (U8 t4)), (5, (U8 t5)), (16, (I x7)), (17, (SL 5 c_api_Node x8.1)), (19, (GV 0 x18.length)), (20, (I v12))], [], ⟨1, [(0, ⟨1, ((x18).flatMap c8), true⟩)]⟩⟩) (by kernel_rfl) (by kernel_rfl) ?_
                    exact Exists.intro n2 (And.intro (Nat.lt_succ_self _) (Exists.intro x18 (And.intro rfl h)))
                  · rw [condF hb17] at h
                    refine awp_condF (boF hb17) ?_
                    refine awp_keepE [1, 3, 4, 5, 16, 17, 19, 20] 0 1 (st' := ⟨169, 0, [(1, (S t1)), (3, (U8 t3)), (4, (U8 t4)), (5, (U8 t5)), (16, (I x7)), (17, (SL 5 c_api_Node x8.1)), (19, (GV 0 v16.length)), (20, (I v12))], [], ⟨1, [(0, ⟨1, ((v16).flatMap c8), true⟩)]⟩⟩) (by kernel_rfl) (by kernel_rfl) ?_
                    refine awp_exit ?_
                    exact (Exists.intro v16 (And.intro rfl h))
              · rintro s ⟨y15, rfl, h⟩
                unfold M_law15_DataBytes_k1 at h
                refine awp_region ?_
                refine arun_do rfl rfl rfl (ex_move (eV (v := (GV 0 y15.length)) rfl)) ?_
                refine arun_do rfl rfl rfl (ex_move (eV (v := (I x7)) rfl)) ?_
                refine arun_do rfl rfl rfl (ex_move (eV (v := (I v12)) rfl)) ?_
                refine arun_do rfl rfl rfl (ex_bin (vx := (I x7)) (vy := (I v12)) rfl rfl addI_ok) ?_
                refine arun_do rfl rfl rfl (ex_move (eV (v := (S t1)) rfl)) ?_
                refine arun_do rfl rfl rfl (ex_move (eV (v := (I v12)) rfl)) ?_
                obtain ⟨x19, hx19, h⟩ := bindS h
                refine arun_do rfl rfl rfl (tx_idxS (u := t1) (i := v12) Tryd.underlying9 rfl rfl hx19) ?_
                obtain ⟨x20, hx20, h⟩ := bindS h
                refine arun_do rfl rfl rfl (tx_idxG (c := c8) (xs := y15) (i := (w64 (x7 + v12))) ce8 Tryd.underlying31 s_5 rfl rfl rfl rfl hx20) ?_
                obtain ⟨x21, hx21, h⟩ := bindS h
                refine arun_do0 rfl rfl (tx_stG (c := c8) (xs := y15) (e := x19) (H' := ⟨1, [(0, ⟨1, ((x21).flatMap c8), true⟩)]⟩) ce8 s_5 rfl (eV (v := (U8 x19)) rfl) rfl rfl hx21 rfl) ?_
                refine arun_fewer (T' := [(1, (S t1)), (3, (U8 t3)), (4, (U8 t4)), (5, (U8 t5)), (16, (I x7)), (17, (SL 5 c_api_Node x8.1)), (19, (GV 0 x21.length)), (20, (I v12)), (98, (GV 0 x21.length)), (99, (I x7)), (100, (I v12)), (101, (I (w64 (x7 + v12)))), (102, (S t1)), (103, (I v12)), (104, (U8 x19))]) (ReT.keep (v := (S t1)) rfl (ReT.keep (v := (U8 t3)) rfl (ReT.keep (v := (U8 t4)) rfl (ReT.keep (v := (U8 t5)) rfl (ReT.keep (v := (I x7)) rfl (ReT.keep (v := (SL 5 c_api_Node x8.1)) rfl (ReT.gv rfl (setI_len hx21) (ReT.keep (v := (I v12)) rfl (ReT.gv rfl (setI_len hx21) (ReT.keep (v := (I x7)) rfl (ReT.keep (v := (I v12)) rfl (ReT.keep (v := (I (w64 (x7 + v12)))) rfl (ReT.keep (v := (S t1)) rfl (ReT.keep (v := (I v12)) rfl (ReT.keep (v := (U8 x19)) rfl ReT.nil))))))))))))))) ?_
                refine arun_keepE [1, 3, 4, 5, 16, 17, 19, 20] 0 1 (st' := ⟨169, 0, [(1, (S t1)), (3, (U8 t3)), (4, (U8 t4)), (5, (U8 t5)), (16, (I x7)), (17, (SL 5 c_api_Node x8.1)), (19, (GV 0 x21.length)), (20, (I v12))], [], ⟨1, [(0, ⟨1, ((x21).flatMap c8), true⟩)]⟩⟩) (by kernel_rfl) (by kernel_rfl) ?_
                show AWp _ _ _ _
                refine awp_region ?_
                refine arun_do rfl rfl rfl (ex_move (eV (v := (I v12)) rfl)) ?_
                refine arun_do rfl rfl rfl (ex_bin (vx := (I v12)) (vy := (I 1)) rfl rfl addI_ok) ?_
                refine arun_do rfl rfl rfl (ex_assign (eV (v := (I (w64 (v12 + 1)))) rfl)) ?_
                refine arun_keepE [1, 3, 4, 5, 16, 17, 19, 20] 0 1 (st' := ⟨169, 0, [(1, (S t1)), (3, (U8 t3)), (4, (U8 t4)), (5, (U8 t5)), (16, (I x7)), (17, (SL 5 c_api_Node x8.1)), (19, (GV 0 x21.length)), (20, (I (w64 (v12 + 1))))], [], ⟨1, [(0, ⟨1, ((x21).flatMap c8), true⟩)]⟩⟩) (by kernel_rfl) (by kernel_rfl) ?_
                exact Exists.intro n1 (And.intro (Nat.lt_succ_self _) (Exists.intro (w64 (v12 + 1)) (Exists.intro x21 (And.intro rfl h))))
            · rw [condF hb14] at h
              refine awp_condF (boF hb14) ?_
              refine awp_exit ?_
              show AWp _ _ _ _
              refine awp_seq ?_
              refine awp_region ?_
              refine arun_do rfl rfl rfl (ex_move (eV (v := (U8 t3)) rfl)) ?_
              refine arun_do rfl rfl rfl (tx_8_64 Tryd.underlying5 Tryd.underlying3 rfl) ?_
              obtain ⟨x22, hx22, h⟩ := bindS h
              refine arun_do rfl rfl rfl (ex_bin (vx := (I (t3.toNat : Int))) (vy := (I 129)) rfl rfl (remI_ok hx22)) ?_
              refine arun_do rfl rfl rfl (ex_assign (eV (v := (I x22)) rfl)) ?_
              refine arun_keepE [4, 5, 17, 19, 21] 0 1 (st' := ⟨169, 0, [(4, (U8 t4)), (5, (U8 t5)), (17, (SL 5 c_api_Node x8.1)), (19, (GV 0 v13.length)), (21, (I x22))], [], ⟨1, [(0, ⟨1, ((v13).flatMap c8), true⟩)]⟩⟩) (by kernel_rfl) (by kernel_rfl) ?_
              show AWp _ _ _ _
              refine awp_seq ?_
              refine awp_region ?_
              refine arun_do rfl rfl rfl (ex_move (eV (v := (SL 5 c_api_Node x8.1)) rfl)) ?_
              refine arun_do rfl rfl rfl (ex_move (eV (v := (I x22)) rfl)) ?_
              obtain ⟨x23, hx23, h⟩ := bindS h
              refine arun_do rfl rfl rfl (ex_call0 (vs := [(SL 5 c_api_Node x8.1), (S ([102] : Str)), (I x22)]) (v := (Value.tuple #[(SL 5 c_api_Node x23.1), (I x23.2)])) rfl en_14 (cargs (evs rfl (evs rfl (evs rfl evs_nil)))) rfl (ok_data_Cut x8.1 ([102] : Str) x22 x23 hx23) rfl) ?_
              refine arun_do rfl rfl rfl (ex_move (eV (v := (Value.tuple #[(SL 5 c_api_Node x23.1), (I x23.2)])) rfl)) ?_
              refine arun_do rfl rfl rfl (ex_extract (vx := (Value.tuple #[(SL 5 c_api_Node x23.1), (I x23.2)])) (v := (SL 5 c_api_Node x23.1)) rfl rfl) ?_
              refine arun_do rfl rfl rfl (ex_extract (vx := (Value.tuple #[(SL 5 c_api_Node x23.1), (I x23.2)])) (v := (I x23.2)) rfl rfl) ?_
              refine arun_do rfl rfl rfl (ex_assign (eV (v := (SL 5 c_api_Node x23.1)) rfl)) ?_
              refine arun_do rfl rfl rfl (ex_assign (eV (v := (I x23.2)) rfl)) ?_
              refine arun_keepE [4, 5, 19, 21, 22, 23] 0 1 (st' := ⟨169, 0, [(4, (U8 t4)), (5, (U8 t5)), (19, (GV 0 v13.length)), (21, (I x22)), (22, (SL 5 c_api_Node x23.1)), (23, (I x23.2))], [], ⟨1, [(0, ⟨1, ((v13).flatMap c8), true⟩)]⟩⟩) (by kernel_rfl) (by kernel_rfl) ?_
              show AWp _ _ _ _
              refine awp_seqJ (fun s => ∃ (y24 : List UInt8), s = ⟨169, 0, [(4, (U8 t4)), (5, (U8 t5)), (19, (GV 0 y24.length)), (21, (I x22)), (22, (SL 5 c_api_Node x23.1)), (23, (I x23.2))], [], ⟨1, [(0, ⟨1, ((y24).flatMap c8), true⟩)]⟩⟩ ∧ M_law15_DataBytes_k2 (M_law15_DataBytes_l1 t1 t3 t4 t5 x7 x8 n1) t4 t5 x22 x23 y24 = some r) ?_ ?_
              · refine awp_block ?_
                refine awp_loop (fun n s => ∃ (v25 : List UInt8), s = ⟨169, 0, [(4, (U8 t4)), (5, (U8 t5)), (19, (GV 0 v25.length)), (21, (I x22)), (22, (SL 5 c_api_Node x23.1)), (23, (I x23.2))], [], ⟨1, [(0, ⟨1, ((v25).flatMap c8), true⟩)]⟩⟩ ∧ M_law15_DataBytes_l3 (M_law15_DataBytes_l1 t1 t3 t4 t5 x7 x8 n1) t4 t5 x22 x23 n v25 = some r) fuel (Exists.intro v13 (And.intro rfl h)) ?_
                rintro n s ⟨v25, rfl, h⟩ -
                cases n with
                | zero => cases h
                | succ n3 =>
                  unfold M_law15_DataBytes_l3 at h
                  refine awp_seq ?_
                  refine awp_seq ?_
                  refine awp_region ?_
                  refine arun_do rfl rfl rfl (ex_move (eV (v := (GV 0 v25.length)) rfl)) ?_
                  refine arun_do rfl rfl rfl (ex_lenN (n := v25.length) Tryd.underlying31 rfl) ?_
                  refine arun_do rfl rfl rfl (ex_move (eV (v := (I x22)) rfl)) ?_
                  refine arun_do rfl rfl rfl (ex_bin (vx := (I ((v25.length : Nat) : Int))) (vy := (I x22)) rfl rfl lssI_ok) ?_
                  refine arun_keepE [4, 5, 19, 21, 22, 23, 118] 0 1 (st' := ⟨169, 0, [(4, (U8 t4)), (5, (U8 t5)), (19, (GV 0 v25.length)), (21, (I x22)), (22, (SL 5 c_api_Node x23.1)), (23, (I x23.2)), (118, (Bo (decide (((v25.length : Nat) : Int) < x22))))], [], ⟨1, [(0, ⟨1, ((v25).flatMap c8), true⟩)]⟩⟩) (by kernel_rfl) (by kernel_rfl) ?_
                  show AWp _ _ _ _
                  rcases Bool.eq_false_or_eq_true (decide (((v25.length : Nat) : Int) < x22)) with hb26 | hb26
                  · rw [condT hb26] at h
                    refine awp_condT (boT hb26) ?_
                    refine awp_skip ?_
                    show AWp _ _ _ _
                    refine awp_block ?_
                    refine awp_region ?_
                    refine arun_do rfl rfl rfl (ex_move (eV (v := (GV 0 v25.length)) rfl)) ?_
                    refine arun_do rfl rfl rfl (ex_buildSliceD (qs := [(0, (U8 0))]) (cells := (([0] : List UInt8).flatMap c8)) Tryd.underlying31 s_5 (by decide) (evp rfl evp_nil) rfl (by kernel_rfl) (by kernel_rfl) (by kernel_rfl)) ?_
                    obtain ⟨x27, hx27, h⟩ := bindS h
                    refine arun_do rfl rfl rfl (tx_appG (c := c8) (xs := v25) (H' := ⟨1, [(0, ⟨1, ((x27).flatMap c8), true⟩)]⟩) ce8 e_5 rfl rfl rfl (tsrcD (ys := ([0] : List UInt8)) ce8 Tryd.underlying31 s_5 Tryd.underlying31 rfl) hx27 rfl) ?_
                    refine arun_do rfl rfl rfl (ex_assign (eV (v := (GV 0 x27.length)) rfl)) ?_
                    refine arun_keepE [4, 5, 19, 21, 22, 23] 0 1 (st' := ⟨169, 0, [(4, (U8 t4)), (5, (U8 t5)), (19, (GV 0 x27.length)), (21, (I x22)), (22, (SL 5 c_api_Node x23.1)), (23, (I x23.2))], [], ⟨1, [(0, ⟨1, ((x27).flatMap c8), true⟩)]⟩⟩) (by kernel_rfl) (by kernel_rfl) ?_
                    exact Exists.intro n3 (And.intro (Nat.lt_succ_self _) (Exists.intro x27 (And.intro rfl h)))
                  · rw [condF hb26] at h
                    refine awp_condF (boF hb26) ?_
                    refine awp_keepE [4, 5, 19, 21, 22, 23] 0 1 (st' := ⟨169, 0, [(4, (U8 t4)), (5, (U8 t5)), (19, (GV 0 v25.length)), (21, (I x22)), (22, (SL 5 c_api_Node x23.1)), (23, (I x23.2))], [], ⟨1, [(0, ⟨1, ((v25).flatMap c8), true⟩)]⟩⟩) (by kernel_rfl) (by kernel_rfl) ?_
                    refine awp_exit ?_
                    exact (Exists.intro v25 (And.intro rfl h))
              · rintro s ⟨y24, rfl, h⟩
                unfold M_law15_DataBytes_k2 at h
                refine awp_seq ?_
                refine awp_region ?_
                refine arun_do rfl rfl rfl (ex_move (eV (v := (GV 0 y24.length)) rfl)) ?_
                refine arun_do rfl rfl rfl (ex_move (eV (v := (I x22)) rfl)) ?_
                refine arun_freeze 0 (bk := ⟨1, ((y24).flatMap c8), true⟩) (T' := [(4, (U8 t4)), (5, (U8 t5)), (19, (SL 1 c8 y24)), (21, (I x22)), (22, (SL 5 c_api_Node x23.1)), (23, (I x23.2)), (122, (SL 1 c8 y24)), (123, (I x22))]) (L' := []) rfl (FzT.keep (v := (U8 t4)) rfl (FzT.keep (v := (U8 t5)) rfl (fzG ce8 rfl rfl (FzT.keep (v := (I x22)) rfl (FzT.keep (v := (SL 5 c_api_Node x23.1)) rfl (FzT.keep (v := (I x23.2)) rfl (fzG ce8 rfl rfl (FzT.keep (v := (I x22)) rfl FzT.nil)))))))) (FzL.refl _) ?_
                show ARun _ _ _ _ _ ⟨169, 0, [(4, (U8 t4)), (5, (U8 t5)), (19, (SL 1 c8 y24)), (21, (I x22)), (22, (SL 5 c_api_Node x23.1)), (23, (I x23.2)), (122, (SL 1 c8 y24)), (123, (I x22))], [], ⟨1, []⟩⟩
                obtain ⟨x28, hx28, h⟩ := bindS h
                refine arun_do rfl rfl rfl (tx_slD (c := c8) (xs := y24) ce8 Tryd.underlying31 s_5 rfl lo0 (hiX (l := x22) rfl) hx28) ?_
                refine arun_do rfl rfl rfl (ex_assign (eV (v := (SL 1 c8 x28)) rfl)) ?_
                refine arun_keepE [4, 5, 19, 21, 22, 23] 0 0 (st' := ⟨169, 0, [(4, (U8 t4)), (5, (U8 t5)), (19, (SL 1 c8 x28)), (21, (I x22)), (22, (SL 5 c_api_Node x23.1)), (23, (I x23.2))], [], ⟨0, []⟩⟩) (by kernel_rfl) (by kernel_rfl) ?_
                show AWp _ _ _ _
                refine awp_seq ?_
                refine awp_region ?_
                refine arun_do rfl rfl rfl (ex_move (eV (v := (SL 5 c_api_Node x23.1)) rfl)) ?_
                refine arun_do rfl rfl rfl (ex_move (eV (v := (U8 t4)) rfl)) ?_
                refine arun_do rfl rfl rfl (tx_8_64 Tryd.underlying5 Tryd.underlying3 rfl) ?_
                refine arun_do rfl rfl rfl (ex_move (eV (v := (U8 t5)) rfl)) ?_
                refine arun_do rfl rfl rfl (tx_8_64 Tryd.underlying5 Tryd.underlying3 rfl) ?_
                obtain ⟨x29, hx29, h⟩ := bindS h
                refine arun_do rfl rfl rfl (ex_call0 (vs := [(SL 5 c_api_Node x23.1), (S ([102] : Str)), (I (t4.toNat : Int)), (I (t5.toNat : Int))]) (v := (Value.tuple #[(S x29.1), (I x29.2)])) rfl en_15 (cargs (evs rfl (evs rfl (evs rfl (evs rfl evs_nil))))) rfl (ok_data_Read x23.1 ([102] : Str) (t4.toNat : Int) (t5.toNat : Int) x29 hx29) rfl) ?_
                refine arun_do rfl rfl rfl (ex_move (eV (v := (Value.tuple #[(S x29.1), (I x29.2)])) rfl)) ?_
                refine arun_do rfl rfl rfl (ex_extract (vx := (Value.tuple #[(S x29.1), (I x29.2)])) (v := (S x29.1)) rfl rfl) ?_
                refine arun_do rfl rfl rfl (ex_extract (vx := (Value.tuple #[(S x29.1), (I x29.2)])) (v := (I x29.2)) rfl rfl) ?_
                refine arun_do rfl rfl rfl (ex_assign (eV (v := (S x29.1)) rfl)) ?_
                refine arun_do rfl rfl rfl (ex_assign (eV (v := (I x29.2)) rfl)) ?_
                refine arun_keepE [4, 5, 19, 21, 22, 23, 24, 25] 0 0 (st' := ⟨169, 0, [(4, (U8 t4)), (5, (U8 t5)), (19, (SL 1 c8 x28)), (21, (I x22)), (22, (SL 5 c_api_Node x23.1)), (23, (I x23.2)), (24, (S x29.1)), (25, (I x29.2))], [], ⟨0, []⟩⟩) (by kernel_rfl) (by kernel_rfl) ?_
                show AWp _ _ _ _
                refine awp_seq ?_
                refine awp_region ?_
                refine arun_do rfl rfl rfl (ex_move (eV (v := (U8 t4)) rfl)) ?_
                refine arun_do rfl rfl rfl (tx_8_64 Tryd.underlying5 Tryd.underlying3 rfl) ?_
                refine arun_do rfl rfl rfl (ex_move (eV (v := (I x22)) rfl)) ?_
                refine arun_do rfl rfl rfl (ex_min (m := (t4.toNat : Int)) (n := x22) rfl rfl) ?_
                refine arun_do rfl rfl rfl (ex_assign (eV (v := (I (min (t4.toNat : Int) x22))) rfl)) ?_
                refine arun_keepE [5, 19, 21, 22, 23, 24, 25, 26] 0 0 (st' := ⟨169, 0, [(5, (U8 t5)), (19, (SL 1 c8 x28)), (21, (I x22)), (22, (SL 5 c_api_Node x23.1)), (23, (I x23.2)), (24, (S x29.1)), (25, (I x29.2)), (26, (I (min (t4.toNat : Int) x22)))], [], ⟨0, []⟩⟩) (by kernel_rfl) (by kernel_rfl) ?_
                show AWp _ _ _ _
                refine awp_seq ?_
                refine awp_region ?_
                refine arun_do rfl rfl rfl (ex_move (eV (v := (SL 5 c_api_Node x23.1)) rfl)) ?_
                obtain ⟨x30, hx30, h⟩ := bindS h
                refine arun_do rfl rfl rfl (ex_call0 (vs := [(SL 5 c_api_Node x23.1), (S ([102] : Str)), (I 0), (I 128)]) (v := (Value.tuple #[(S x30.1), (I x30.2)])) rfl en_15 (cargs (evs rfl (evs rfl (evs rfl (evs rfl evs_nil))))) rfl (ok_data_Read x23.1 ([102] : Str) 0 128 x30 hx30) rfl) ?_
                refine arun_do rfl rfl rfl (ex_move (eV (v := (Value.tuple #[(S x30.1), (I x30.2)])) rfl)) ?_
                refine arun_do rfl rfl rfl (ex_extract (vx := (Value.tuple #[(S x30.1), (I x30.2)])) (v := (S x30.1)) rfl rfl) ?_
                refine arun_do rfl rfl rfl (ex_extract (vx := (Value.tuple #[(S x30.1), (I x30.2)])) (v := (I x30.2)) rfl rfl) ?_
                refine arun_do rfl rfl rfl (ex_assign (eV (v := (S x30.1)) rfl)) ?_
                refine arun_do rfl rfl rfl (ex_assign (eV (v := (I x30.2)) rfl)) ?_
                refine arun_keepE [5, 19, 21, 23, 24, 25, 26, 27] 0 0 (st' := ⟨169, 0, [(5, (U8 t5)), (19, (SL 1 c8 x28)), (21, (I x22)), (23, (I x23.2)), (24, (S x29.1)), (25, (I x29.2)), (26, (I (min (t4.toNat : Int) x22))), (27, (S x30.1))], [], ⟨0, []⟩⟩) (by kernel_rfl) (by kernel_rfl) ?_
                show AWp _ _ _ _
                refine awp_seq ?_
                refine awp_region ?_
                refine arun_do rfl rfl rfl (ex_move (eV (v := (I x23.2)) rfl)) ?_
                refine arun_do rfl rfl rfl (ex_bin (vx := (I x23.2)) (vy := (I 0)) rfl rfl eqlI_ok) ?_
                refine arun_do rfl rfl rfl (ex_move (eV (v := (Bo (x23.2 == 0))) rfl)) ?_
                refine arun_guard (v := (I x29.2)) ((x23.2 == 0) == true) rfl rfl rfl (fun hc => ex_move (eV (v := (I x29.2)) rfl)) ?_
                refine arun_guard (v := (Bo (x29.2 == 0))) ((x23.2 == 0) == true) rfl rfl rfl (fun hc => ex_bin (vx := (I x29.2)) (vy := (I 0)) (cond_of hc) rfl eqlI_ok) ?_
                refine arun_do rfl rfl rfl (ex_pick rfl pkAnd) ?_
                refine arun_do rfl rfl rfl (ex_move (eV (v := (Bo ((x23.2 == 0) && (x29.2 == 0)))) rfl)) ?_
                refine arun_guard (v := (S x29.1)) (((x23.2 == 0) && (x29.2 == 0)) == true) rfl rfl rfl (fun hc => ex_move (eV (v := (S x29.1)) rfl)) ?_
                refine arun_guard (v := (SL 1 c8 x28)) (((x23.2 == 0) && (x29.2 == 0)) == true) rfl rfl rfl (fun hc => ex_move (eV (v := (SL 1 c8 x28)) rfl)) ?_
                refine arun_guard (v := (I (min (t4.toNat : Int) x22))) (((x23.2 == 0) && (x29.2 == 0)) == true) rfl rfl rfl (fun hc => ex_move (eV (v := (I (min (t4.toNat : Int) x22))) rfl)) ?_
                refine arun_guard (v := (I x22)) (((x23.2 == 0) && (x29.2 == 0)) == true) rfl rfl rfl (fun hc => ex_move (eV (v := (I x22)) rfl)) ?_
                refine arun_guard (v := (I (min (t4.toNat : Int) x22))) (((x23.2 == 0) && (x29.2 == 0)) == true) rfl rfl rfl (fun hc => ex_move (eV (v := (I (min (t4.toNat : Int) x22))) rfl)) ?_
                refine arun_guard (v := (U8 t5)) (((x23.2 == 0) && (x29.2 == 0)) == true) rfl rfl rfl (fun hc => ex_move (eV (v := (U8 t5)) rfl)) ?_
                refine arun_guard (v := (I (t5.toNat : Int))) (((x23.2 == 0) && (x29.2 == 0)) == true) rfl rfl rfl (fun hc => tx_8_64 Tryd.underlying5 Tryd.underlying3 (cond_of hc)) ?_
                refine arun_guard (v := (I (w64 ((min (t4.toNat : Int) x22) + (t5.toNat : Int))))) (((x23.2 == 0) && (x29.2 == 0)) == true) rfl rfl rfl (fun hc => ex_bin (vx := (I (min (t4.toNat : Int) x22))) (vy := (I (t5.toNat : Int))) (cond_of hc) (cond_of hc) addI_ok) ?_
                refine arun_guard (v := (I (min x22 (w64 ((min (t4.toNat : Int) x22) + (t5.toNat : Int)))))) (((x23.2 == 0) && (x29.2 == 0)) == true) rfl rfl rfl (fun hc => ex_min (m := x22) (n := (w64 ((min (t4.toNat : Int) x22) + (t5.toNat : Int)))) (cond_of hc) (cond_of hc)) ?_
                obtain ⟨x31, hx31, h⟩ := bindS h
                refine arun_guard (v := (SL 1 c8 x31)) (((x23.2 == 0) && (x29.2 == 0)) == true) rfl rfl rfl (fun hc => tx_slD (c := c8) (xs := x28) ce8 Tryd.underlying31 s_5 (cond_of hc) (loX (l := (min (t4.toNat : Int) x22)) (cond_of hc)) (hiX (l := (min x22 (w64 ((min (t4.toNat : Int) x22) + (t5.toNat : Int))))) (cond_of hc)) (gd_of hc hx31)) ?_
                refine arun_guard (v := (S x31)) (((x23.2 == 0) && (x29.2 == 0)) == true) rfl rfl rfl (fun hc => tx_bsD (bs := x31) Tryd.underlying31 Tryd.underlying9 Tryd.underlying5 (cond_of hc)) ?_
                refine arun_guard (v := (Bo (x29.1 == x31))) (((x23.2 == 0) && (x29.2 == 0)) == true) rfl rfl rfl (fun hc => ex_bin (vx := (S x29.1)) (vy := (S x31)) (cond_of hc) (cond_of hc) eqlS_ok) ?_
                refine arun_do rfl rfl rfl (ex_pick rfl pkAnd) ?_
                refine arun_do rfl rfl rfl (ex_move (eV (v := (Bo (((x23.2 == 0) && (x29.2 == 0)) && (x29.1 == x31)))) rfl)) ?_
                refine arun_guard (v := (S x30.1)) ((((x23.2 == 0) && (x29.2 == 0)) && (x29.1 == x31)) == true) rfl rfl rfl (fun hc => ex_move (eV (v := (S x30.1)) rfl)) ?_
                refine arun_guard (v := (SL 1 c8 x28)) ((((x23.2 == 0) && (x29.2 == 0)) && (x29.1 == x31)) == true) rfl rfl rfl (fun hc => ex_move (eV (v := (SL 1 c8 x28)) rfl)) ?_
                refine arun_guard (v := (S x28)) ((((x23.2 == 0) && (x29.2 == 0)) && (x29.1 == x31)) == true) rfl rfl rfl (fun hc => tx_bsD (bs := x28) Tryd.underlying31 Tryd.underlying9 Tryd.underlying5 (cond_of hc)) ?_
                refine arun_guard (v := (Bo (x30.1 == x28))) ((((x23.2 == 0) && (x29.2 == 0)) && (x29.1 == x31)) == true) rfl rfl rfl (fun hc => ex_bin (vx := (S x30.1)) (vy := (S x28)) (cond_of hc) (cond_of hc) eqlS_ok) ?_
                refine arun_do rfl rfl rfl (ex_pick rfl pkAnd) ?_
                refine arun_do rfl rfl rfl (ex_assign (eV (v := (Bo ((((x23.2 == 0) && (x29.2 == 0)) && (x29.1 == x31)) && (x30.1 == x28)))) rfl)) ?_
                refine arun_keepE [12] 0 0 (st' := ⟨169, 0, [(12, (Bo ((((x23.2 == 0) && (x29.2 == 0)) && (x29.1 == x31)) && (x30.1 == x28))))], [], ⟨0, []⟩⟩) (by kernel_rfl) (by kernel_rfl) ?_
                show AWp _ _ _ _
                refine awp_ret ?_
                cases h
                exact ares1 (rtmp rfl (eV rfl))

end Go.Proofs
