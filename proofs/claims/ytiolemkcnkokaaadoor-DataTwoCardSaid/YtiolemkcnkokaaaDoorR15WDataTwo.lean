/- Pure models of functions of the program, and that its code does what they say: palimplaw15 DataTwo. Written by a program. -/
import Derived.Test.YtiolemkcnkokaaaDoorR150
import Derived.Test.YtiolemkcnkokaaaDoorR1510
import Derived.Test.YtiolemkcnkokaaaDoorR1511
import Derived.Test.YtiolemkcnkokaaaDoorR152
import Derived.Test.YtiolemkcnkokaaaDoorR157
import Derived.Test.YtiolemkcnkokaaaDoorR158
import Derived.Test.YtiolemkcnkokaaaDoorR15B
set_option maxRecDepth 20000
set_option maxHeartbeats 4000000
namespace Go.Proofs
open Go Go.Fhl
set_option linter.unusedVariables false
set_option linter.unusedSimpArgs false
noncomputable def M_law15_DataTwo (t0 : Str) (t1 : Str) (t2 : Str) (t3 : UInt8) (t4 : UInt8) : Option Bool :=
  Option.bind (M_law15_begun) fun (x1 : Bool) => cond (!x1) (some false) (cond (((decide ((t0.length : Int) > 128)) || (decide ((t1.length : Int) > 60))) || (decide ((t2.length : Int) > 60))) (some true) (Option.bind (M_ref11_New) fun (x4 : (List G_api_Node)) => Option.bind (M_ref11_Make x4 ([102] : Str) 1) fun (x5 : ((List G_api_Node) × Int)) => Option.bind (M_data_Write x5.1 ([102] : Str) 0 t0) fun (x6 : ((List G_api_Node) × Int)) => Option.bind (rem8 t3 60) fun (x7 : UInt8) => Option.bind (rem8 t4 60) fun (x8 : UInt8) => Option.bind (M_data_Write x6.1 ([102] : Str) (x7.toNat : Int) t1) fun (x9 : ((List G_api_Node) × Int)) => Option.bind (M_data_Write x9.1 ([102] : Str) (x8.toNat : Int) t2) fun (x10 : ((List G_api_Node) × Int)) => Option.bind (M_data_Write x6.1 ([102] : Str) (x8.toNat : Int) t2) fun (x11 : ((List G_api_Node) × Int)) => Option.bind (M_data_Write x11.1 ([102] : Str) (x7.toNat : Int) t1) fun (x12 : ((List G_api_Node) × Int)) => cond ((((x9.2 != 0) || (x10.2 != 0)) || (x11.2 != 0)) || (x12.2 != 0)) (some false) (Option.bind (M_data_Read x10.1 ([102] : Str) (x8.toNat : Int) (t2.length : Int)) fun (x14 : (Str × Int)) => Option.bind (M_data_Read x12.1 ([102] : Str) (x7.toNat : Int) (t1.length : Int)) fun (x15 : (Str × Int)) => Option.bind (gd ((((((x14.2 == 0) && (x15.2 == 0)) && (x14.1 == t2)) && (x15.1 == t1)) == true) && ((!((decide ((w64 ((x7.toNat : Int) + (t1.length : Int))) ≤ (x8.toNat : Int))) || (decide ((w64 ((x8.toNat : Int) + (t2.length : Int))) ≤ (x7.toNat : Int))))) == false)) (M_ref11_Same x10.1 x12.1)) fun (x16 : Bool) => some (((((x14.2 == 0) && (x15.2 == 0)) && (x14.1 == t2)) && (x15.1 == t1)) && ((!((decide ((w64 ((x7.toNat : Int) + (t1.length : Int))) ≤ (x8.toNat : Int))) || (decide ((w64 ((x8.toNat : Int) + (t2.length : Int))) ≤ (x7.toNat : Int))))) || x16)))))
theorem ok_law15_DataTwo (t0 : Str) (t1 : Str) (t2 : Str) (t3 : UInt8) (t4 : UInt8) (r : Bool) (h : M_law15_DataTwo t0 t1 t2 t3 t4 = some r) : FFn Tryd.prog 7 [(S t0), (S t1), (S t2), (U8 t3), (U8 t4)] (Bo r) := by
  refine FFn.of_body (n := 155) Tryd.func7 rfl Tryd.ntmps7 rfl rfl rfl rfl ?_
  show AWp _ _ _ ⟨155, 0, [(0, (S t0)), (1, (S t1)), (2, (S t2)), (3, (U8 t3)), (4, (U8 t4))], [], ⟨0, []⟩⟩
  unfold M_law15_DataTwo at h
  refine awp_seq ?_
  refine awp_region ?_
  refine arun_do rfl rfl rfl (ex_assign (eV (v := (Bo false)) rfl)) ?_
  refine arun_keepE [0, 1, 2, 3, 4] 0 0 (st' := ⟨155, 0, [(0, (S t0)), (1, (S t1)), (2, (S t2)), (3, (U8 t3)), (4, (U8 t4))], [], ⟨0, []⟩⟩) (by kernel_rfl) (by kernel_rfl) ?_
  show AWp _ _ _ _
  refine awp_seq ?_
  refine awp_seq ?_
  refine awp_region ?_
  obtain ⟨x1, hx1, h⟩ := bindS h
  refine arun_do rfl rfl rfl (ex_call0 (vs := []) (v := (Bo x1)) rfl en_9 (cargs evs_nil) rfl (ok_law15_begun  x1 hx1) rfl) ?_
  refine arun_do rfl rfl rfl (ex_un (vx := (Bo x1)) rfl notB_ok) ?_
  refine arun_keepE [0, 1, 2, 3, 4, 27] 0 0 (st' := ⟨155, 0, [(0, (S t0)), (1, (S t1)), (2, (S t2)), (3, (U8 t3)), (4, (U8 t4)), (27, (Bo (!x1)))], [], ⟨0, []⟩⟩) (by kernel_rfl) (by kernel_rfl) ?_
  show AWp _ _ _ _
  rcases Bool.eq_false_or_eq_true (!x1) with hb2 | hb2
  · rw [condT hb2] at h
    refine awp_condT (boT hb2) ?_
    refine awp_seq ?_
    refine awp_region ?_
    refine arun_do rfl rfl rfl (ex_assign (eV (v := (Bo false)) rfl)) ?_
    refine arun_keepE [10] 0 0 (st' := ⟨155, 0, [(10, (Bo false))], [], ⟨0, []⟩⟩) (by kernel_rfl) (by kernel_rfl) ?_
    show AWp _ _ _ _
    refine awp_ret ?_
    cases h
    exact ares1 (rtmp rfl (eV rfl))
  · rw [condF hb2] at h
    refine awp_condF (boF hb2) ?_
    refine awp_skip ?_
    show AWp _ _ _ _
    refine awp_seq ?_
    refine awp_seq ?_
    refine awp_region ?_
    refine arun_do rfl rfl rfl (ex_move (eV (v := (S t0)) rfl)) ?_
    refine arun_do rfl rfl rfl (tx_lenS Tryd.underlying9 rfl) ?_
    refine arun_do rfl rfl rfl (ex_bin (vx := (I (t0.length : Int))) (vy := (I 128)) rfl rfl gtrI_ok) ?_
    refine arun_do rfl rfl rfl (ex_move (eV (v := (Bo (decide ((t0.length : Int) > 128)))) rfl)) ?_
    refine arun_guard (v := (S t1)) ((decide ((t0.length : Int) > 128)) == false) rfl rfl rfl (fun hc => ex_move (eV (v := (S t1)) rfl)) ?_
    refine arun_guard (v := (I (t1.length : Int))) ((decide ((t0.length : Int) > 128)) == false) rfl rfl rfl (fun hc => tx_lenS Tryd.underlying9 (cond_of hc)) ?_
    refine arun_guard (v := (Bo (decide ((t1.length : Int) > 60)))) ((decide ((t0.length : Int) > 128)) == false) rfl rfl rfl (fun hc => ex_bin (vx := (I (t1.length : Int))) (vy := (I 60)) (cond_of hc) rfl gtrI_ok) ?_
    refine arun_do rfl rfl rfl (ex_pick rfl pkOr) ?_
    refine arun_do rfl rfl rfl (ex_move (eV (v := (Bo ((decide ((t0.length : Int) > 128)) || (decide ((t1.length : Int) > 60))))) rfl)) ?_
    refine arun_guard (v := (S t2)) (((decide ((t0.length : Int) > 128)) || (decide ((t1.length : Int) > 60))) == false) rfl rfl rfl (fun hc => ex_move (eV (v := (S t2)) rfl)) ?_
    refine arun_guard (v := (I (t2.length : Int))) (((decide ((t0.length : Int) > 128)) || (decide ((t1.length : Int) > 60))) == false) rfl rfl rfl (fun hc => tx_lenS Tryd.underlying9 (cond_of hc)) ?_
    refine arun_guard (v := (Bo (decide ((t2.length : Int) > 60)))) (((decide ((t0.length : Int) > 128)) || (decide ((t1.length : Int) > 60))) == false) rfl rfl rfl (fun hc => ex_bin (vx := (I (t2.length : Int))) (vy := (I 60)) (cond_of hc) rfl gtrI_ok) ?_
    refine arun_do rfl rfl rfl (ex_pick rfl pkOr) ?_
    refine arun_keepE [0, 1, 2, 3, 4, 40] 0 0 (st' := ⟨155, 0, [(0, (S t0)), (1, (S t1)), (2, (S t2)), (3, (U8 t3)), (4, (U8 t4)), (40, (Bo (((decide ((t0.length : Int) > 128)) || (decide ((t1.length : Int) > 60))) || (decide ((t2.length : Int) > 60)))))], [], ⟨0, []⟩⟩) (by kernel_rfl) (by kernel_rfl) ?_
    show AWp _ _ _ _
    rcases Bool.eq_false_or_eq_true (((decide ((t0.length : Int) > 128)) || (decide ((t1.length : Int) > 60))) || (decide ((t2.length : Int) > 60))) with hb3 | hb3
    · rw [condT hb3] at h
      refine awp_condT (boT hb3) ?_
      refine awp_seq ?_
      refine awp_region ?_
      refine arun_do rfl rfl rfl (ex_assign (eV (v := (Bo true)) rfl)) ?_
      refine arun_keepE [10] 0 0 (st' := ⟨155, 0, [(10, (Bo true))], [], ⟨0, []⟩⟩) (by kernel_rfl) (by kernel_rfl) ?_
      show AWp _ _ _ _
      refine awp_ret ?_
      cases h
      exact ares1 (rtmp rfl (eV rfl))
    · rw [condF hb3] at h
      refine awp_condF (boF hb3) ?_
      refine awp_skip ?_
      show AWp _ _ _ _
      refine awp_seq ?_
      refine awp_region ?_
      obtain ⟨x4, hx4, h⟩ := bindS h
      refine arun_do rfl rfl rfl (ex_call0 (vs := []) (v := (SL 5 c_api_Node x4)) rfl en_11 (cargs evs_nil) rfl (ok_ref11_New  x4 hx4) rfl) ?_
      obtain ⟨x5, hx5, h⟩ := bindS h
      refine arun_do rfl rfl rfl (ex_call0 (vs := [(SL 5 c_api_Node x4), (S ([102] : Str)), (I 1)]) (v := (Value.tuple #[(SL 5 c_api_Node x5.1), (I x5.2)])) rfl en_10 (cargs (evs rfl (evs rfl (evs rfl evs_nil)))) rfl (ok_ref11_Make x4 ([102] : Str) 1 x5 hx5) rfl) ?_
      refine arun_do rfl rfl rfl (ex_move (eV (v := (Value.tuple #[(SL 5 c_api_Node x5.1), (I x5.2)])) rfl)) ?_
      refine arun_do rfl rfl rfl (ex_extract (vx := (Value.tuple #[(SL 5 c_api_Node x5.1), (I x5.2)])) (v := (SL 5 c_api_Node x5.1)) rfl rfl) ?_
      refine arun_do rfl rfl rfl (ex_extract (vx := (Value.tuple #[(SL 5 c_api_Node x5.1), (I x5.2)])) (v := (I x5.2)) rfl rfl) ?_
      refine arun_do rfl rfl rfl (ex_assign (eV (v := (SL 5 c_api_Node x5.1)) rfl)) ?_
      refine arun_do rfl rfl rfl (ex_assign (eV (v := (I x5.2)) rfl)) ?_
      refine arun_keepE [0, 1, 2, 3, 4, 11] 0 0 (st' := ⟨155, 0, [(0, (S t0)), (1, (S t1)), (2, (S t2)), (3, (U8 t3)), (4, (U8 t4)), (11, (SL 5 c_api_Node x5.1))], [], ⟨0, []⟩⟩) (by kernel_rfl) (by kernel_rfl) ?_
      show AWp _ _ _ _
      refine awp_seq ?_
      refine awp_region ?_
      refine arun_do rfl rfl rfl (ex_move (eV (v := (SL 5 c_api_Node x5.1)) rfl)) ?_
      refine arun_do rfl rfl rfl (ex_move (eV (v := (S t0)) rfl)) ?_
      obtain ⟨x6, hx6, h⟩ := bindS h
      refine arun_do rfl rfl rfl (ex_call0 (vs := [(SL 5 c_api_Node x5.1), (S ([102] : Str)), (I 0), (S t0)]) (v := (Value.tuple #[(SL 5 c_api_Node x6.1), (I x6.2)])) rfl en_12 (cargs (evs rfl (evs rfl (evs rfl (evs rfl evs_nil))))) rfl (ok_data_Write x5.1 ([102] : Str) 0 t0 x6 hx6) rfl) ?_
      refine arun_do rfl rfl rfl (ex_move (eV (v := (Value.tuple #[(SL 5 c_api_Node x6.1), (I x6.2)])) rfl)) ?_
      refine arun_do rfl rfl rfl (ex_extract (vx := (Value.tuple #[(SL 5 c_api_Node x6.1), (I x6.2)])) (v := (SL 5 c_api_Node x6.1)) rfl rfl) ?_
      refine arun_do rfl rfl rfl (ex_extract (vx := (Value.tuple #[(SL 5 c_api_Node x6.1), (I x6.2)])) (v := (I x6.2)) rfl rfl) ?_
      refine arun_do rfl rfl rfl (ex_assign (eV (v := (SL 5 c_api_Node x6.1)) rfl)) ?_
      refine arun_keepE [1, 2, 3, 4, 11] 0 0 (st' := ⟨155, 0, [(1, (S t1)), (2, (S t2)), (3, (U8 t3)), (4, (U8 t4)), (11, (SL 5 c_api_Node x6.1))], [], ⟨0, []⟩⟩) (by kernel_rfl) (by kernel_rfl) ?_
      show AWp _ _ _ _
      refine awp_seq ?_
      refine awp_region ?_
      refine arun_do rfl rfl rfl (ex_move (eV (v := (U8 t3)) rfl)) ?_
      obtain ⟨x7, hx7, h⟩ := bindS h
      refine arun_do rfl rfl rfl (ex_bin (vx := (U8 t3)) (vy := (U8 60)) rfl rfl (rem8_ok hx7)) ?_
      refine arun_do rfl rfl rfl (tx_8_64 Tryd.underlying5 Tryd.underlying3 rfl) ?_
      refine arun_do rfl rfl rfl (ex_move (eV (v := (U8 t4)) rfl)) ?_
      obtain ⟨x8, hx8, h⟩ := bindS h
      refine arun_do rfl rfl rfl (ex_bin (vx := (U8 t4)) (vy := (U8 60)) rfl rfl (rem8_ok hx8)) ?_
      refine arun_do rfl rfl rfl (tx_8_64 Tryd.underlying5 Tryd.underlying3 rfl) ?_
      refine arun_do rfl rfl rfl (ex_assign (eV (v := (I (x7.toNat : Int))) rfl)) ?_
      refine arun_do rfl rfl rfl (ex_assign (eV (v := (I (x8.toNat : Int))) rfl)) ?_
      refine arun_keepE [1, 2, 11, 13, 14] 0 0 (st' := ⟨155, 0, [(1, (S t1)), (2, (S t2)), (11, (SL 5 c_api_Node x6.1)), (13, (I (x7.toNat : Int))), (14, (I (x8.toNat : Int)))], [], ⟨0, []⟩⟩) (by kernel_rfl) (by kernel_rfl) ?_
      show AWp _ _ _ _
      refine awp_seq ?_
      refine awp_region ?_
      refine arun_do rfl rfl rfl (ex_move (eV (v := (SL 5 c_api_Node x6.1)) rfl)) ?_
      refine arun_do rfl rfl rfl (ex_move (eV (v := (I (x7.toNat : Int))) rfl)) ?_
      refine arun_do rfl rfl rfl (ex_move (eV (v := (S t1)) rfl)) ?_
      obtain ⟨x9, hx9, h⟩ := bindS h
      refine arun_do rfl rfl rfl (ex_call0 (vs := [(SL 5 c_api_Node x6.1), (S ([102] : Str)), (I (x7.toNat : Int)), (S t1)]) (v := (Value.tuple #[(SL 5 c_api_Node x9.1), (I x9.2)])) rfl en_12 (cargs (evs rfl (evs rfl (evs rfl (evs rfl evs_nil))))) rfl (ok_data_Write x6.1 ([102] : Str) (x7.toNat : Int) t1 x9 hx9) rfl) ?_
      refine arun_do rfl rfl rfl (ex_move (eV (v := (Value.tuple #[(SL 5 c_api_Node x9.1), (I x9.2)])) rfl)) ?_
      refine arun_do rfl rfl rfl (ex_extract (vx := (Value.tuple #[(SL 5 c_api_Node x9.1), (I x9.2)])) (v := (SL 5 c_api_Node x9.1)) rfl rfl) ?_
      refine arun_do rfl rfl rfl (ex_extract (vx := (Value.tuple #[(SL 5 c_api_Node x9.1), (I x9.2)])) (v := (I x9.2)) rfl rfl) ?_
      refine arun_do rfl rfl rfl (ex_assign (eV (v := (SL 5 c_api_Node x9.1)) rfl)) ?_
      refine arun_do rfl rfl rfl (ex_assign (eV (v := (I x9.2)) rfl)) ?_
      refine arun_keepE [1, 2, 11, 13, 14, 15, 16] 0 0 (st' := ⟨155, 0, [(1, (S t1)), (2, (S t2)), (11, (SL 5 c_api_Node x6.1)), (13, (I (x7.toNat : Int))), (14, (I (x8.toNat : Int))), (15, (SL 5 c_api_Node x9.1)), (16, (I x9.2))], [], ⟨0, []⟩⟩) (by kernel_rfl) (by kernel_rfl) ?_
      show AWp _ _ _ _
      refine awp_seq ?_
      refine awp_region ?_
      refine arun_do rfl rfl rfl (ex_move (eV (v := (SL 5 c_api_Node x9.1)) rfl)) ?_
      refine arun_do rfl rfl rfl (ex_move (eV (v := (I (x8.toNat : Int))) rfl)) ?_
      refine arun_do rfl rfl rfl (ex_move (eV (v := (S t2)) rfl)) ?_
      obtain ⟨x10, hx10, h⟩ := bindS h
      refine arun_do rfl rfl rfl (ex_call0 (vs := [(SL 5 c_api_Node x9.1), (S ([102] : Str)), (I (x8.toNat : Int)), (S t2)]) (v := (Value.tuple #[(SL 5 c_api_Node x10.1), (I x10.2)])) rfl en_12 (cargs (evs rfl (evs rfl (evs rfl (evs rfl evs_nil))))) rfl (ok_data_Write x9.1 ([102] : Str) (x8.toNat : Int) t2 x10 hx10) rfl) ?_
      refine arun_do rfl rfl rfl (ex_move (eV (v := (Value.tuple #[(SL 5 c_api_Node x10.1), (I x10.2)])) rfl)) ?_
      refine arun_do rfl rfl rfl (ex_extract (vx := (Value.tuple #[(SL 5 c_api_Node x10.1), (I x10.2)])) (v := (SL 5 c_api_Node x10.1)) rfl rfl) ?_
      refine arun_do rfl rfl rfl (ex_extract (vx := (Value.tuple #[(SL 5 c_api_Node x10.1), (I x10.2)])) (v := (I x10.2)) rfl rfl) ?_
      refine arun_do rfl rfl rfl (ex_assign (eV (v := (SL 5 c_api_Node x10.1)) rfl)) ?_
      refine arun_do rfl rfl rfl (ex_assign (eV (v := (I x10.2)) rfl)) ?_
      refine arun_keepE [1, 2, 11, 13, 14, 15, 16, 17] 0 0 (st' := ⟨155, 0, [(1, (S t1)), (2, (S t2)), (11, (SL 5 c_api_Node x6.1)), (13, (I (x7.toNat : Int))), (14, (I (x8.toNat : Int))), (15, (SL 5 c_api_Node x10.1)), (16, (I x9.2)), (17, (I x10.2))], [], ⟨0, []⟩⟩) (by kernel_rfl) (by kernel_rfl) ?_
      show AWp _ _ _ _
      refine awp_seq ?_
      refine awp_region ?_
      refine arun_do rfl rfl rfl (ex_move (eV (v := (SL 5 c_api_Node x6.1)) rfl)) ?_
      refine arun_do rfl rfl rfl (ex_move (eV (v := (I (x8.toNat : Int))) rfl)) ?_
      refine arun_do rfl rfl rfl (ex_move (eV (v := (S t2)) rfl)) ?_
      obtain ⟨x11, hx11, h⟩ := bindS h
      refine arun_do rfl rfl rfl (ex_call0 (vs := [(SL 5 c_api_Node x6.1), (S ([102] : Str)), (I (x8.toNat : Int)), (S t2)]) (v := (Value.tuple #[(SL 5 c_api_Node x11.1), (I x11.2)])) rfl en_12 (cargs (evs rfl (evs rfl (evs rfl (evs rfl evs_nil))))) rfl (ok_data_Write x6.1 ([102] : Str) (x8.toNat : Int) t2 x11 hx11) rfl) ?_
      refine arun_do rfl rfl rfl (ex_move (eV (v := (Value.tuple #[(SL 5 c_api_Node x11.1), (I x11.2)])) rfl)) ?_
      refine arun_do rfl rfl rfl (ex_extract (vx := (Value.tuple #[(SL 5 c_api_Node x11.1), (I x11.2)])) (v := (SL 5 c_api_Node x11.1)) rfl rfl) ?_
      refine arun_do rfl rfl rfl (ex_extract (vx := (Value.tuple #[(SL 5 c_api_Node x11.1), (I x11.2)])) (v := (I x11.2)) rfl rfl) ?_
      refine arun_do rfl rfl rfl (ex_assign (eV (v := (SL 5 c_api_Node x11.1)) rfl)) ?_
      refine arun_do rfl rfl rfl (ex_assign (eV (v := (I x11.2)) rfl)) ?_
      refine arun_keepE [1, 2, 13, 14, 15, 16, 17, 18, 19] 0 0 (st' := ⟨155, 0, [(1, (S t1)), (2, (S t2)), (13, (I (x7.toNat : Int))), (14, (I (x8.toNat : Int))), (15, (SL 5 c_api_Node x10.1)), (16, (I x9.2)), (17, (I x10.2)), (18, (SL 5 c_api_Node x11.1)), (19, (I x11.2))], [], ⟨0, []⟩⟩) (by kernel_rfl) (by kernel_rfl) ?_
      show AWp _ _ _ _
      refine awp_seq ?_
      refine awp_region ?_
      refine arun_do rfl rfl rfl (ex_move (eV (v := (SL 5 c_api_Node x11.1)) rfl)) ?_
      refine arun_do rfl rfl rfl (ex_move (eV (v := (I (x7.toNat : Int))) rfl)) ?_
      refine arun_do rfl rfl rfl (ex_move (eV (v := (S t1)) rfl)) ?_
      obtain ⟨x12, hx12, h⟩ := bindS h
      refine arun_do rfl rfl rfl (ex_call0 (vs := [(SL 5 c_api_Node x11.1), (S ([102] : Str)), (I (x7.toNat : Int)), (S t1)]) (v := (Value.tuple #[(SL 5 c_api_Node x12.1), (I x12.2)])) rfl en_12 (cargs (evs rfl (evs rfl (evs rfl (evs rfl evs_nil))))) rfl (ok_data_Write x11.1 ([102] : Str) (x7.toNat : Int) t1 x12 hx12) rfl) ?_
      refine arun_do rfl rfl rfl (ex_move (eV (v := (Value.tuple #[(SL 5 c_api_Node x12.1), (I x12.2)])) rfl)) ?_
      refine arun_do rfl rfl rfl (ex_extract (vx := (Value.tuple #[(SL 5 c_api_Node x12.1), (I x12.2)])) (v := (SL 5 c_api_Node x12.1)) rfl rfl) ?_
      refine arun_do rfl rfl rfl (ex_extract (vx := (Value.tuple #[(SL 5 c_api_Node x12.1), (I x12.2)])) (v := (I x12.2)) rfl rfl) ?_
      refine arun_do rfl rfl rfl (ex_assign (eV (v := (SL 5 c_api_Node x12.1)) rfl)) ?_
      refine arun_do rfl rfl rfl (ex_assign (eV (v := (I x12.2)) rfl)) ?_
      refine arun_keepE [1, 2, 13, 14, 15, 16, 17, 18, 19, 20] 0 0 (st' := ⟨155, 0, [(1, (S t1)), (2, (S t2)), (13, (I (x7.toNat : Int))), (14, (I (x8.toNat : Int))), (15, (SL 5 c_api_Node x10.1)), (16, (I x9.2)), (17, (I x10.2)), (18, (SL 5 c_api_Node x12.1)), (19, (I x11.2)), (20, (I x12.2))], [], ⟨0, []⟩⟩) (by kernel_rfl) (by kernel_rfl) ?_
      show AWp _ _ _ _
      refine awp_seq ?_
      refine awp_seq ?_
      refine awp_region ?_
      refine arun_do rfl rfl rfl (ex_move (eV (v := (I x9.2)) rfl)) ?_
      refine arun_do rfl rfl rfl (ex_bin (vx := (I x9.2)) (vy := (I 0)) rfl rfl neqI_ok) ?_
      refine arun_do rfl rfl rfl (ex_move (eV (v := (Bo (x9.2 != 0))) rfl)) ?_
      refine arun_guard (v := (I x10.2)) ((x9.2 != 0) == false) rfl rfl rfl (fun hc => ex_move (eV (v := (I x10.2)) rfl)) ?_
      refine arun_guard (v := (Bo (x10.2 != 0))) ((x9.2 != 0) == false) rfl rfl rfl (fun hc => ex_bin (vx := (I x10.2)) (vy := (I 0)) (cond_of hc) rfl neqI_ok) ?_
      refine arun_do rfl rfl rfl (ex_pick rfl pkOr) ?_
      refine arun_do rfl rfl rfl (ex_move (eV (v := (Bo ((x9.2 != 0) || (x10.2 != 0)))) rfl)) ?_
      refine arun_guard (v := (I x11.2)) (((x9.2 != 0) || (x10.2 != 0)) == false) rfl rfl rfl (fun hc => ex_move (eV (v := (I x11.2)) rfl)) ?_
      refine arun_guard (v := (Bo (x11.2 != 0))) (((x9.2 != 0) || (x10.2 != 0)) == false) rfl rfl rfl (fun hc => ex_bin (vx := (I x11.2)) (vy := (I 0)) (cond_of hc) rfl neqI_ok) ?_
      refine arun_do rfl rfl rfl (ex_pick rfl pkOr) ?_
      refine arun_do rfl rfl rfl (ex_move (eV (v := (Bo (((x9.2 != 0) || (x10.2 != 0)) || (x11.2 != 0)))) rfl)) ?_
      refine arun_guard (v := (I x12.2)) ((((x9.2 != 0) || (x10.2 != 0)) || (x11.2 != 0)) == false) rfl rfl rfl (fun hc => ex_move (eV (v := (I x12.2)) rfl)) ?_
      refine arun_guard (v := (Bo (x12.2 != 0))) ((((x9.2 != 0) || (x10.2 != 0)) || (x11.2 != 0)) == false) rfl rfl rfl (fun hc => ex_bin (vx := (I x12.2)) (vy := (I 0)) (cond_of hc) rfl neqI_ok) ?_
      refine arun_do rfl rfl rfl (ex_pick rfl pkOr) ?_
      refine arun_keepE [1, 2, 13, 14, 15, 18, 99] 0 0 (st' := ⟨155, 0, [(1, (S t1)), (2, (S t2)), (13, (I (x7.toNat : Int))), (14, (I (x8.toNat : Int))), (15, (SL 5 c_api_Node x10.1)), (18, (SL 5 c_api_Node x12.1)), (99, (Bo ((((x9.2 != 0) || (x10.2 != 0)) || (x11.2 != 0)) || (x12.2 != 0))))], [], ⟨0, []⟩⟩) (by kernel_rfl) (by kernel_rfl) ?_
      show AWp _ _ _ _
      rcases Bool.eq_false_or_eq_true ((((x9.2 != 0) || (x10.2 != 0)) || (x11.2 != 0)) || (x12.2 != 0)) with hb13 | hb13
      · rw [condT hb13] at h
        refine awp_condT (boT hb13) ?_
        refine awp_seq ?_
        refine awp_region ?_
        refine arun_do rfl rfl rfl (ex_assign (eV (v := (Bo false)) rfl)) ?_
        refine arun_keepE [10] 0 0 (st' := ⟨155, 0, [(10, (Bo false))], [], ⟨0, []⟩⟩) (by kernel_rfl) (by kernel_rfl) ?_
        show AWp _ _ _ _
        refine awp_ret ?_
        cases h
        exact ares1 (rtmp rfl (eV rfl))
      · rw [condF hb13] at h
        refine awp_condF (boF hb13) ?_
        refine awp_skip ?_
        show AWp _ _ _ _
        refine awp_seq ?_
        refine awp_region ?_
        refine arun_do rfl rfl rfl (ex_move (eV (v := (SL 5 c_api_Node x10.1)) rfl)) ?_
        refine arun_do rfl rfl rfl (ex_move (eV (v := (I (x8.toNat : Int))) rfl)) ?_
        refine arun_do rfl rfl rfl (ex_move (eV (v := (S t2)) rfl)) ?_
        refine arun_do rfl rfl rfl (tx_lenS Tryd.underlying9 rfl) ?_
        obtain ⟨x14, hx14, h⟩ := bindS h
        refine arun_do rfl rfl rfl (ex_call0 (vs := [(SL 5 c_api_Node x10.1), (S ([102] : Str)), (I (x8.toNat : Int)), (I (t2.length : Int))]) (v := (Value.tuple #[(S x14.1), (I x14.2)])) rfl en_15 (cargs (evs rfl (evs rfl (evs rfl (evs rfl evs_nil))))) rfl (ok_data_Read x10.1 ([102] : Str) (x8.toNat : Int) (t2.length : Int) x14 hx14) rfl) ?_
        refine arun_do rfl rfl rfl (ex_move (eV (v := (Value.tuple #[(S x14.1), (I x14.2)])) rfl)) ?_
        refine arun_do rfl rfl rfl (ex_extract (vx := (Value.tuple #[(S x14.1), (I x14.2)])) (v := (S x14.1)) rfl rfl) ?_
        refine arun_do rfl rfl rfl (ex_extract (vx := (Value.tuple #[(S x14.1), (I x14.2)])) (v := (I x14.2)) rfl rfl) ?_
        refine arun_do rfl rfl rfl (ex_assign (eV (v := (S x14.1)) rfl)) ?_
        refine arun_do rfl rfl rfl (ex_assign (eV (v := (I x14.2)) rfl)) ?_
        refine arun_keepE [1, 2, 13, 14, 15, 18, 21, 22] 0 0 (st' := ⟨155, 0, [(1, (S t1)), (2, (S t2)), (13, (I (x7.toNat : Int))), (14, (I (x8.toNat : Int))), (15, (SL 5 c_api_Node x10.1)), (18, (SL 5 c_api_Node x12.1)), (21, (S x14.1)), (22, (I x14.2))], [], ⟨0, []⟩⟩) (by kernel_rfl) (by kernel_rfl) ?_
        show AWp _ _ _ _
        refine awp_seq ?_
        refine awp_region ?_
        refine arun_do rfl rfl rfl (ex_move (eV (v := (SL 5 c_api_Node x12.1)) rfl)) ?_
        refine arun_do rfl rfl rfl (ex_move (eV (v := (I (x7.toNat : Int))) rfl)) ?_
        refine arun_do rfl rfl rfl (ex_move (eV (v := (S t1)) rfl)) ?_
        refine arun_do rfl rfl rfl (tx_lenS Tryd.underlying9 rfl) ?_
        obtain ⟨x15, hx15, h⟩ := bindS h
        refine arun_do rfl rfl rfl (ex_call0 (vs := [(SL 5 c_api_Node x12.1), (S ([102] : Str)), (I (x7.toNat : Int)), (I (t1.length : Int))]) (v := (Value.tuple #[(S x15.1), (I x15.2)])) rfl en_15 (cargs (evs rfl (evs rfl (evs rfl (evs rfl evs_nil))))) rfl (ok_data_Read x12.1 ([102] : Str) (x7.toNat : Int) (t1.length : Int) x15 hx15) rfl) ?_
        refine arun_do rfl rfl rfl (ex_move (eV (v := (Value.tuple #[(S x15.1), (I x15.2)])) rfl)) ?_
        refine arun_do rfl rfl rfl (ex_extract (vx := (Value.tuple #[(S x15.1), (I x15.2)])) (v := (S x15.1)) rfl rfl) ?_
        refine arun_do rfl rfl rfl (ex_extract (vx := (Value.tuple #[(S x15.1), (I x15.2)])) (v := (I x15.2)) rfl rfl) ?_
        refine arun_do rfl rfl rfl (ex_assign (eV (v := (S x15.1)) rfl)) ?_
        refine arun_do rfl rfl rfl (ex_assign (eV (v := (I x15.2)) rfl)) ?_
        refine arun_keepE [1, 2, 13, 14, 15, 18, 21, 22, 23, 24] 0 0 (st' := ⟨155, 0, [(1, (S t1)), (2, (S t2)), (13, (I (x7.toNat : Int))), (14, (I (x8.toNat : Int))), (15, (SL 5 c_api_Node x10.1)), (18, (SL 5 c_api_Node x12.1)), (21, (S x14.1)), (22, (I x14.2)), (23, (S x15.1)), (24, (I x15.2))], [], ⟨0, []⟩⟩) (by kernel_rfl) (by kernel_rfl) ?_
        show AWp _ _ _ _
        refine awp_seq ?_
        refine awp_region ?_
        refine arun_do rfl rfl rfl (ex_move (eV (v := (I (x7.toNat : Int))) rfl)) ?_
        refine arun_do rfl rfl rfl (ex_move (eV (v := (S t1)) rfl)) ?_
        refine arun_do rfl rfl rfl (tx_lenS Tryd.underlying9 rfl) ?_
        refine arun_do rfl rfl rfl (ex_bin (vx := (I (x7.toNat : Int))) (vy := (I (t1.length : Int))) rfl rfl addI_ok) ?_
        refine arun_do rfl rfl rfl (ex_move (eV (v := (I (x8.toNat : Int))) rfl)) ?_
        refine arun_do rfl rfl rfl (ex_bin (vx := (I (w64 ((x7.toNat : Int) + (t1.length : Int))))) (vy := (I (x8.toNat : Int))) rfl rfl leqI_ok) ?_
        refine arun_do rfl rfl rfl (ex_move (eV (v := (Bo (decide ((w64 ((x7.toNat : Int) + (t1.length : Int))) ≤ (x8.toNat : Int))))) rfl)) ?_
        refine arun_guard (v := (I (x8.toNat : Int))) ((decide ((w64 ((x7.toNat : Int) + (t1.length : Int))) ≤ (x8.toNat : Int))) == false) rfl rfl rfl (fun hc => ex_move (eV (v := (I (x8.toNat : Int))) rfl)) ?_
        refine arun_guard (v := (S t2)) ((decide ((w64 ((x7.toNat : Int) + (t1.length : Int))) ≤ (x8.toNat : Int))) == false) rfl rfl rfl (fun hc => ex_move (eV (v := (S t2)) rfl)) ?_
        refine arun_guard (v := (I (t2.length : Int))) ((decide ((w64 ((x7.toNat : Int) + (t1.length : Int))) ≤ (x8.toNat : Int))) == false) rfl rfl rfl (fun hc => tx_lenS Tryd.underlying9 (cond_of hc)) ?_
        refine arun_guard (v := (I (w64 ((x8.toNat : Int) + (t2.length : Int))))) ((decide ((w64 ((x7.toNat : Int) + (t1.length : Int))) ≤ (x8.toNat : Int))) == false) rfl rfl rfl (fun hc => ex_bin (vx := (I (x8.toNat : Int))) (vy := (I (t2.length : Int))) (cond_of hc) (cond_of hc) addI_ok) ?_
        refine arun_guard (v := (I (x7.toNat : Int))) ((decide ((w64 ((x7.toNat : Int) + (t1.length : Int))) ≤ (x8.toNat : Int))) == false) rfl rfl rfl (fun hc => ex_move (eV (v := (I (x7.toNat : Int))) rfl)) ?_
        refine arun_guard (v := (Bo (decide ((w64 ((x8.toNat : Int) + (t2.length : Int))) ≤ (x7.toNat : Int))))) ((decide ((w64 ((x7.toNat : Int) + (t1.length : Int))) ≤ (x8.toNat : Int))) == false) rfl rfl rfl (fun hc => ex_bin (vx := (I (w64 ((x8.toNat : Int) + (t2.length : Int))))) (vy := (I (x7.toNat : Int))) (cond_of hc) (cond_of hc) leqI_ok) ?_
        refine arun_do rfl rfl rfl (ex_pick rfl pkOr) ?_
        refine arun_do rfl rfl rfl (ex_assign (eV (v := (Bo ((decide ((w64 ((x7.toNat : Int) + (t1.length : Int))) ≤ (x8.toNat : Int))) || (decide ((w64 ((x8.toNat : Int) + (t2.length : Int))) ≤ (x7.toNat : Int)))))) rfl)) ?_
        refine arun_keepE [1, 2, 15, 18, 21, 22, 23, 24, 25] 0 0 (st' := ⟨155, 0, [(1, (S t1)), (2, (S t2)), (15, (SL 5 c_api_Node x10.1)), (18, (SL 5 c_api_Node x12.1)), (21, (S x14.1)), (22, (I x14.2)), (23, (S x15.1)), (24, (I x15.2)), (25, (Bo ((decide ((w64 ((x7.toNat : Int) + (t1.length : Int))) ≤ (x8.toNat : Int))) || (decide ((w64 ((x8.toNat : Int) + (t2.length : Int))) ≤ (x7.toNat : Int))))))], [], ⟨0, []⟩⟩) (by kernel_rfl) (by kernel_rfl) ?_
        show AWp _ _ _ _
        refine awp_seq ?_
        refine awp_region ?_
        refine arun_do rfl rfl rfl (ex_move (eV (v := (I x14.2)) rfl)) ?_
        refine arun_do rfl rfl rfl (ex_bin (vx := (I x14.2)) (vy := (I 0)) rfl rfl eqlI_ok) ?_
        refine arun_do rfl rfl rfl (ex_move (eV (v := (Bo (x14.2 == 0))) rfl)) ?_
        refine arun_guard (v := (I x15.2)) ((x14.2 == 0) == true) rfl rfl rfl (fun hc => ex_move (eV (v := (I x15.2)) rfl)) ?_
        refine arun_guard (v := (Bo (x15.2 == 0))) ((x14.2 == 0) == true) rfl rfl rfl (fun hc => ex_bin (vx := (I x15.2)) (vy := (I 0)) (cond_of hc) rfl eqlI_ok) ?_
        refine arun_do rfl rfl rfl (ex_pick rfl pkAnd) ?_
        refine arun_do rfl rfl rfl (ex_move (eV (v := (Bo ((x14.2 == 0) && (x15.2 == 0)))) rfl)) ?_
        refine arun_guard (v := (S x14.1)) (((x14.2 == 0) && (x15.2 == 0)) == true) rfl rfl rfl (fun hc => ex_move (eV (v := (S x14.1)) rfl)) ?_
        refine arun_guard (v := (S t2)) (((x14.2 == 0) && (x15.2 == 0)) == true) rfl rfl rfl (fun hc => ex_move (eV (v := (S t2)) rfl)) ?_
        refine arun_guard (v := (Bo (x14.1 == t2))) (((x14.2 == 0) && (x15.2 == 0)) == true) rfl rfl rfl (fun hc => ex_bin (vx := (S x14.1)) (vy := (S t2)) (cond_of hc) (cond_of hc) eqlS_ok) ?_
        refine arun_do rfl rfl rfl (ex_pick rfl pkAnd) ?_
        refine arun_do rfl rfl rfl (ex_move (eV (v := (Bo (((x14.2 == 0) && (x15.2 == 0)) && (x14.1 == t2)))) rfl)) ?_
        refine arun_guard (v := (S x15.1)) ((((x14.2 == 0) && (x15.2 == 0)) && (x14.1 == t2)) == true) rfl rfl rfl (fun hc => ex_move (eV (v := (S x15.1)) rfl)) ?_
        refine arun_guard (v := (S t1)) ((((x14.2 == 0) && (x15.2 == 0)) && (x14.1 == t2)) == true) rfl rfl rfl (fun hc => ex_move (eV (v := (S t1)) rfl)) ?_
        refine arun_guard (v := (Bo (x15.1 == t1))) ((((x14.2 == 0) && (x15.2 == 0)) && (x14.1 == t2)) == true) rfl rfl rfl (fun hc => ex_bin (vx := (S x15.1)) (vy := (S t1)) (cond_of hc) (cond_of hc) eqlS_ok) ?_
        refine arun_do rfl rfl rfl (ex_pick rfl pkAnd) ?_
        refine arun_do rfl rfl rfl (ex_move (eV (v := (Bo ((((x14.2 == 0) && (x15.2 == 0)) && (x14.1 == t2)) && (x15.1 == t1)))) rfl)) ?_
        refine arun_guard (v := (Bo ((decide ((w64 ((x7.toNat : Int) + (t1.length : Int))) ≤ (x8.toNat : Int))) || (decide ((w64 ((x8.toNat : Int) + (t2.length : Int))) ≤ (x7.toNat : Int)))))) (((((x14.2 == 0) && (x15.2 == 0)) && (x14.1 == t2)) && (x15.1 == t1)) == true) rfl rfl rfl (fun hc => ex_move (eV (v := (Bo ((decide ((w64 ((x7.toNat : Int) + (t1.length : Int))) ≤ (x8.toNat : Int))) || (decide ((w64 ((x8.toNat : Int) + (t2.length : Int))) ≤ (x7.toNat : Int)))))) rfl)) ?_
        refine arun_guard (v := (Bo (!((decide ((w64 ((x7.toNat : Int) + (t1.length : Int))) ≤ (x8.toNat : Int))) || (decide ((w64 ((x8.toNat : Int) + (t2.length : Int))) ≤ (x7.toNat : Int))))))) (((((x14.2 == 0) && (x15.2 == 0)) && (x14.1 == t2)) && (x15.1 == t1)) == true) rfl rfl rfl (fun hc => ex_un (vx := (Bo ((decide ((w64 ((x7.toNat : Int) + (t1.length : Int))) ≤ (x8.toNat : Int))) || (decide ((w64 ((x8.toNat : Int) + (t2.length : Int))) ≤ (x7.toNat : Int)))))) (cond_of hc) notB_ok) ?_
        refine arun_guard (v := (Bo (!((decide ((w64 ((x7.toNat : Int) + (t1.length : Int))) ≤ (x8.toNat : Int))) || (decide ((w64 ((x8.toNat : Int) + (t2.length : Int))) ≤ (x7.toNat : Int))))))) (((((x14.2 == 0) && (x15.2 == 0)) && (x14.1 == t2)) && (x15.1 == t1)) == true) rfl rfl rfl (fun hc => ex_move (eV (v := (Bo (!((decide ((w64 ((x7.toNat : Int) + (t1.length : Int))) ≤ (x8.toNat : Int))) || (decide ((w64 ((x8.toNat : Int) + (t2.length : Int))) ≤ (x7.toNat : Int))))))) (cond_of hc))) ?_
        refine arun_guard (v := (SL 5 c_api_Node x10.1)) ((((((x14.2 == 0) && (x15.2 == 0)) && (x14.1 == t2)) && (x15.1 == t1)) == true) && ((!((decide ((w64 ((x7.toNat : Int) + (t1.length : Int))) ≤ (x8.toNat : Int))) || (decide ((w64 ((x8.toNat : Int) + (t2.length : Int))) ≤ (x7.toNat : Int))))) == false)) rfl rfl gv_nest (fun hc => ex_move (eV (v := (SL 5 c_api_Node x10.1)) rfl)) ?_
        refine arun_guard (v := (SL 5 c_api_Node x12.1)) ((((((x14.2 == 0) && (x15.2 == 0)) && (x14.1 == t2)) && (x15.1 == t1)) == true) && ((!((decide ((w64 ((x7.toNat : Int) + (t1.length : Int))) ≤ (x8.toNat : Int))) || (decide ((w64 ((x8.toNat : Int) + (t2.length : Int))) ≤ (x7.toNat : Int))))) == false)) rfl rfl gv_nest (fun hc => ex_move (eV (v := (SL 5 c_api_Node x12.1)) rfl)) ?_
        obtain ⟨x16, hx16, h⟩ := bindS h
        refine arun_guard (v := (Bo x16)) ((((((x14.2 == 0) && (x15.2 == 0)) && (x14.1 == t2)) && (x15.1 == t1)) == true) && ((!((decide ((w64 ((x7.toNat : Int) + (t1.length : Int))) ≤ (x8.toNat : Int))) || (decide ((w64 ((x8.toNat : Int) + (t2.length : Int))) ≤ (x7.toNat : Int))))) == false)) rfl rfl gv_nest (fun hc => ex_call0 (vs := [(SL 5 c_api_Node x10.1), (SL 5 c_api_Node x12.1)]) (v := (Bo x16)) rfl en_13 (cargs (evs (cond_of hc) (evs (cond_of hc) evs_nil))) rfl (ok_ref11_Same x10.1 x12.1 x16 (gd_of hc hx16)) rfl) ?_
        refine arun_guard (v := (Bo ((!((decide ((w64 ((x7.toNat : Int) + (t1.length : Int))) ≤ (x8.toNat : Int))) || (decide ((w64 ((x8.toNat : Int) + (t2.length : Int))) ≤ (x7.toNat : Int))))) || x16))) (((((x14.2 == 0) && (x15.2 == 0)) && (x14.1 == t2)) && (x15.1 == t1)) == true) rfl rfl rfl (fun hc => ex_pick (cond_of hc) (pkOrN hc)) ?_
        refine arun_do rfl rfl rfl (ex_pick rfl pkAnd) ?_
        refine arun_do rfl rfl rfl (ex_assign (eV (v := (Bo (((((x14.2 == 0) && (x15.2 == 0)) && (x14.1 == t2)) && (x15.1 == t1)) && ((!((decide ((w64 ((x7.toNat : Int) + (t1.length : Int))) ≤ (x8.toNat : Int))) || (decide ((w64 ((x8.toNat : Int) + (t2.length : Int))) ≤ (x7.toNat : Int))))) || x16)))) rfl)) ?_
        refine arun_keepE [10] 0 0 (st' := ⟨155, 0, [(10, (Bo (((((x14.2 == 0) && (x15.2 == 0)) && (x14.1 == t2)) && (x15.1 == t1)) && ((!((decide ((w64 ((x7.toNat : Int) + (t1.length : Int))) ≤ (x8.toNat : Int))) || (decide ((w64 ((x8.toNat : Int) + (t2.length : Int))) ≤ (x7.toNat : Int))))) || x16))))], [], ⟨0, []⟩⟩) (by kernel_rfl) (by kernel_rfl) ?_
        show AWp _ _ _ _
        refine awp_ret ?_
        cases h
        exact ares1 (rtmp rfl (eV rfl))

end Go.Proofs
