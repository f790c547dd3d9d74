/- Pure models of functions of the program, and that its code does what they say: palimplaw15 DataForms. Written by a program. -/
import Derived.Test.YtiolemkcnkokaaaDoorR150
import Derived.Test.YtiolemkcnkokaaaDoorR1510
import Derived.Test.YtiolemkcnkokaaaDoorR1511
import Derived.Test.YtiolemkcnkokaaaDoorR152
import Derived.Test.YtiolemkcnkokaaaDoorR157
import Derived.Test.YtiolemkcnkokaaaDoorR158
import Derived.Test.YtiolemkcnkokaaaDoorR159
import Derived.Test.YtiolemkcnkokaaaDoorR15B
set_option maxRecDepth 20000
set_option maxHeartbeats 4000000
namespace Go.Proofs
open Go Go.Fhl
set_option linter.unusedVariables false
set_option linter.unusedSimpArgs false
noncomputable def M_law15_DataForms : Option Bool :=
  Option.bind (M_law15_begun) fun (x1 : Bool) => cond (!x1) (some false) (Option.bind (M_ref11_New) fun (x3 : (List G_api_Node)) => Option.bind (M_ref11_Make x3 ([100] : Str) 2) fun (x4 : ((List G_api_Node) × Int)) => Option.bind (M_ref11_Make x4.1 ([102] : Str) 1) fun (x5 : ((List G_api_Node) × Int)) => Option.bind (M_data_Write x5.1 ([100] : Str) 0 ([120] : Str)) fun (x6 : ((List G_api_Node) × Int)) => Option.bind (M_data_Write x5.1 ([102] : Str) (-1) ([120] : Str)) fun (x7 : ((List G_api_Node) × Int)) => Option.bind (M_data_Write x5.1 ([102] : Str) 128 ([120] : Str)) fun (x8 : ((List G_api_Node) × Int)) => Option.bind (M_data_Write x5.1 ([102] : Str) 128 ([] : Str)) fun (x9 : ((List G_api_Node) × Int)) => Option.bind (M_data_Write x5.1 ([102] : Str) 129 ([] : Str)) fun (x10 : ((List G_api_Node) × Int)) => Option.bind (M_data_Write x5.1 ([102] : Str) 4611686018427387904 ([120] : Str)) fun (x11 : ((List G_api_Node) × Int)) => Option.bind (M_data_Cut x5.1 ([102] : Str) (-1)) fun (x12 : ((List G_api_Node) × Int)) => Option.bind (M_data_Cut x5.1 ([102] : Str) 129) fun (x13 : ((List G_api_Node) × Int)) => Option.bind (M_data_Cut x5.1 ([100] : Str) 500) fun (x14 : ((List G_api_Node) × Int)) => Option.bind (M_data_Read x5.1 ([102] : Str) (-1) 0) fun (x15 : (Str × Int)) => Option.bind (M_data_Read x5.1 ([102] : Str) 0 (-1)) fun (x16 : (Str × Int)) => Option.bind (M_data_Read x5.1 ([102] : Str) 4611686018427387904 4611686018427387904) fun (x17 : (Str × Int)) => Option.bind (M_data_Read x5.1 ([100] : Str) (-1) 0) fun (x18 : (Str × Int)) => Option.bind (M_data_List x5.1 ([102] : Str)) fun (x19 : ((List Str) × Int)) => Option.bind (M_data_Stat x5.1 ([] : Str)) fun (x20 : (G_api_Stat × Int)) => Option.bind (M_data_Read x5.1 ([47] : Str) 0 0) fun (x21 : (Str × Int)) => Option.bind (M_data_Read x5.1 ([102, 47, 120] : Str) 0 0) fun (x22 : (Str × Int)) => Option.bind (M_data_List x5.1 ([] : Str)) fun (x23 : ((List Str) × Int)) => Option.bind (gd (((((x6.2 == 4) && (x7.2 == 1)) && (x8.2 == 8)) && (x9.2 == 0)) == true) (M_ref11_Same x9.1 x5.1)) fun (x24 : Bool) => Option.bind (gd (((((((((((((((((((((((x6.2 == 4) && (x7.2 == 1)) && (x8.2 == 8)) && (x9.2 == 0)) && x24) && (x10.2 == 8)) && (x11.2 == 8)) && (x12.2 == 1)) && (x13.2 == 8)) && (x14.2 == 4)) && (x15.2 == 1)) && (x16.2 == 1)) && (x17.1 == [])) && (x17.2 == 0)) && (x18.2 == 4)) && (x19.2 == 5)) && (decide (x20.1 = (G_api_Stat.mk 0 2 0 0)))) && (x20.2 == 0)) && (x21.2 == 1)) && (x22.2 == 5)) && (x23.2 == 0)) && ((x23.1.length : Int) == 2)) == true) (getI x23.1 0)) fun (x25 : Str) => some (((((((((((((((((((((((x6.2 == 4) && (x7.2 == 1)) && (x8.2 == 8)) && (x9.2 == 0)) && x24) && (x10.2 == 8)) && (x11.2 == 8)) && (x12.2 == 1)) && (x13.2 == 8)) && (x14.2 == 4)) && (x15.2 == 1)) && (x16.2 == 1)) && (x17.1 == [])) && (x17.2 == 0)) && (x18.2 == 4)) && (x19.2 == 5)) && (decide (x20.1 = (G_api_Stat.mk 0 2 0 0)))) && (x20.2 == 0)) && (x21.2 == 1)) && (x22.2 == 5)) && (x23.2 == 0)) && ((x23.1.length : Int) == 2)) && (x25 == ([100] : Str))))
theorem ok_law15_DataForms (r : Bool) (h : M_law15_DataForms = some r) : FFn Tryd.prog 6 [] (Bo r) := by
  refine FFn.of_body (n := 236) Tryd.func6 rfl Tryd.ntmps6 rfl rfl rfl rfl ?_
  show AWp _ _ _ ⟨236, 0, [], [], ⟨0, []⟩⟩
  unfold M_law15_DataForms at h
  refine awp_seq ?_
  refine awp_region ?_
  refine arun_do rfl rfl rfl (ex_assign (eV (v := (Bo false)) rfl)) ?_
  refine arun_keepE [] 0 0 (st' := ⟨236, 0, [], [], ⟨0, []⟩⟩) (by kernel_rfl) (by kernel_rfl) ?_
  show AWp _ _ _ _
  refine awp_seq ?_
  refine awp_seq ?_
  refine awp_region ?_
  obtain ⟨x1, hx1, h⟩ := bindS h
  refine arun_do rfl rfl rfl (ex_call0 (vs := []) (v := (Bo x1)) rfl en_9 (cargs evs_nil) rfl (ok_law15_begun  x1 hx1) rfl) ?_
  refine arun_do rfl rfl rfl (ex_un (vx := (Bo x1)) rfl notB_ok) ?_
  refine arun_keepE [40] 0 0 (st' := ⟨236, 0, [(40, (Bo (!x1)))], [], ⟨0, []⟩⟩) (by kernel_rfl) (by kernel_rfl) ?_
  show AWp _ _ _ _
  rcases Bool.eq_false_or_eq_true (!x1) with hb2 | hb2
  · rw [condT hb2] at h
    refine awp_condT (boT hb2) ?_
    refine awp_seq ?_
    refine awp_region ?_
    refine arun_do rfl rfl rfl (ex_assign (eV (v := (Bo false)) rfl)) ?_
    refine arun_keepE [0] 0 0 (st' := ⟨236, 0, [(0, (Bo false))], [], ⟨0, []⟩⟩) (by kernel_rfl) (by kernel_rfl) ?_
    show AWp _ _ _ _
    refine awp_ret ?_
    cases h
    exact ares1 (rtmp rfl (eV rfl))
  · rw [condF hb2] at h
    refine awp_condF (boF hb2) ?_
    refine awp_skip ?_
    show AWp _ _ _ _
    refine awp_seq ?_
    refine awp_region ?_
    obtain ⟨x3, hx3, h⟩ := bindS h
    refine arun_do rfl rfl rfl (ex_call0 (vs := []) (v := (SL 5 c_api_Node x3)) rfl en_11 (cargs evs_nil) rfl (ok_ref11_New  x3 hx3) rfl) ?_
    obtain ⟨x4, hx4, h⟩ := bindS h
    refine arun_do rfl rfl rfl (ex_call0 (vs := [(SL 5 c_api_Node x3), (S ([100] : Str)), (I 2)]) (v := (Value.tuple #[(SL 5 c_api_Node x4.1), (I x4.2)])) rfl en_10 (cargs (evs rfl (evs rfl (evs rfl evs_nil)))) rfl (ok_ref11_Make x3 ([100] : Str) 2 x4 hx4) rfl) ?_
    refine arun_do rfl rfl rfl (ex_move (eV (v := (Value.tuple #[(SL 5 c_api_Node x4.1), (I x4.2)])) rfl)) ?_
    refine arun_do rfl rfl rfl (ex_extract (vx := (Value.tuple #[(SL 5 c_api_Node x4.1), (I x4.2)])) (v := (SL 5 c_api_Node x4.1)) rfl rfl) ?_
    refine arun_do rfl rfl rfl (ex_extract (vx := (Value.tuple #[(SL 5 c_api_Node x4.1), (I x4.2)])) (v := (I x4.2)) rfl rfl) ?_
    refine arun_do rfl rfl rfl (ex_assign (eV (v := (SL 5 c_api_Node x4.1)) rfl)) ?_
    refine arun_do rfl rfl rfl (ex_assign (eV (v := (I x4.2)) rfl)) ?_
    refine arun_keepE [1] 0 0 (st' := ⟨236, 0, [(1, (SL 5 c_api_Node x4.1))], [], ⟨0, []⟩⟩) (by kernel_rfl) (by kernel_rfl) ?_
    show AWp _ _ _ _
    refine awp_seq ?_
    refine awp_region ?_
    refine arun_do rfl rfl rfl (ex_move (eV (v := (SL 5 c_api_Node x4.1)) rfl)) ?_
    obtain ⟨x5, hx5, h⟩ := bindS h
    refine arun_do rfl rfl rfl (ex_call0 (vs := [(SL 5 c_api_Node x4.1), (S ([102] : Str)), (I 1)]) (v := (Value.tuple #[(SL 5 c_api_Node x5.1), (I x5.2)])) rfl en_10 (cargs (evs rfl (evs rfl (evs rfl evs_nil)))) rfl (ok_ref11_Make x4.1 ([102] : Str) 1 x5 hx5) rfl) ?_
    refine arun_do rfl rfl rfl (ex_move (eV (v := (Value.tuple #[(SL 5 c_api_Node x5.1), (I x5.2)])) rfl)) ?_
    refine arun_do rfl rfl rfl (ex_extract (vx := (Value.tuple #[(SL 5 c_api_Node x5.1), (I x5.2)])) (v := (SL 5 c_api_Node x5.1)) rfl rfl) ?_
    refine arun_do rfl rfl rfl (ex_extract (vx := (Value.tuple #[(SL 5 c_api_Node x5.1), (I x5.2)])) (v := (I x5.2)) rfl rfl) ?_
    refine arun_do rfl rfl rfl (ex_assign (eV (v := (SL 5 c_api_Node x5.1)) rfl)) ?_
    refine arun_keepE [1] 0 0 (st' := ⟨236, 0, [(1, (SL 5 c_api_Node x5.1))], [], ⟨0, []⟩⟩) (by kernel_rfl) (by kernel_rfl) ?_
    show AWp _ _ _ _
    refine awp_seq ?_
    refine awp_region ?_
    refine arun_do rfl rfl rfl (ex_move (eV (v := (SL 5 c_api_Node x5.1)) rfl)) ?_
    obtain ⟨x6, hx6, h⟩ := bindS h
    refine arun_do rfl rfl rfl (ex_call0 (vs := [(SL 5 c_api_Node x5.1), (S ([100] : Str)), (I 0), (S ([120] : Str))]) (v := (Value.tuple #[(SL 5 c_api_Node x6.1), (I x6.2)])) rfl en_12 (cargs (evs rfl (evs rfl (evs rfl (evs rfl evs_nil))))) rfl (ok_data_Write x5.1 ([100] : Str) 0 ([120] : Str) x6 hx6) rfl) ?_
    refine arun_do rfl rfl rfl (ex_move (eV (v := (Value.tuple #[(SL 5 c_api_Node x6.1), (I x6.2)])) rfl)) ?_
    refine arun_do rfl rfl rfl (ex_extract (vx := (Value.tuple #[(SL 5 c_api_Node x6.1), (I x6.2)])) (v := (SL 5 c_api_Node x6.1)) rfl rfl) ?_
    refine arun_do rfl rfl rfl (ex_extract (vx := (Value.tuple #[(SL 5 c_api_Node x6.1), (I x6.2)])) (v := (I x6.2)) rfl rfl) ?_
    refine arun_do rfl rfl rfl (ex_assign (eV (v := (SL 5 c_api_Node x6.1)) rfl)) ?_
    refine arun_do rfl rfl rfl (ex_assign (eV (v := (I x6.2)) rfl)) ?_
    refine arun_keepE [1, 4] 0 0 (st' := ⟨236, 0, [(1, (SL 5 c_api_Node x5.1)), (4, (I x6.2))], [], ⟨0, []⟩⟩) (by kernel_rfl) (by kernel_rfl) ?_
    show AWp _ _ _ _
    refine awp_seq ?_
    refine awp_region ?_
    refine arun_do rfl rfl rfl (ex_move (eV (v := (SL 5 c_api_Node x5.1)) rfl)) ?_
    obtain ⟨x7, hx7, h⟩ := bindS h
    refine arun_do rfl rfl rfl (ex_call0 (vs := [(SL 5 c_api_Node x5.1), (S ([102] : Str)), (I (-1)), (S ([120] : Str))]) (v := (Value.tuple #[(SL 5 c_api_Node x7.1), (I x7.2)])) rfl en_12 (cargs (evs rfl (evs rfl (evs rfl (evs rfl evs_nil))))) rfl (ok_data_Write x5.1 ([102] : Str) (-1) ([120] : Str) x7 hx7) rfl) ?_
    refine arun_do rfl rfl rfl (ex_move (eV (v := (Value.tuple #[(SL 5 c_api_Node x7.1), (I x7.2)])) rfl)) ?_
    refine arun_do rfl rfl rfl (ex_extract (vx := (Value.tuple #[(SL 5 c_api_Node x7.1), (I x7.2)])) (v := (SL 5 c_api_Node x7.1)) rfl rfl) ?_
    refine arun_do rfl rfl rfl (ex_extract (vx := (Value.tuple #[(SL 5 c_api_Node x7.1), (I x7.2)])) (v := (I x7.2)) rfl rfl) ?_
    refine arun_do rfl rfl rfl (ex_assign (eV (v := (SL 5 c_api_Node x7.1)) rfl)) ?_
    refine arun_do rfl rfl rfl (ex_assign (eV (v := (I x7.2)) rfl)) ?_
    refine arun_keepE [1, 4, 6] 0 0 (st' := ⟨236, 0, [(1, (SL 5 c_api_Node x5.1)), (4, (I x6.2)), (6, (I x7.2))], [], ⟨0, []⟩⟩) (by kernel_rfl) (by kernel_rfl) ?_
    show AWp _ _ _ _
    refine awp_seq ?_
    refine awp_region ?_
    refine arun_do rfl rfl rfl (ex_move (eV (v := (SL 5 c_api_Node x5.1)) rfl)) ?_
    obtain ⟨x8, hx8, h⟩ := bindS h
    refine arun_do rfl rfl rfl (ex_call0 (vs := [(SL 5 c_api_Node x5.1), (S ([102] : Str)), (I 128), (S ([120] : Str))]) (v := (Value.tuple #[(SL 5 c_api_Node x8.1), (I x8.2)])) rfl en_12 (cargs (evs rfl (evs rfl (evs rfl (evs rfl evs_nil))))) rfl (ok_data_Write x5.1 ([102] : Str) 128 ([120] : Str) x8 hx8) rfl) ?_
    refine arun_do rfl rfl rfl (ex_move (eV (v := (Value.tuple #[(SL 5 c_api_Node x8.1), (I x8.2)])) rfl)) ?_
    refine arun_do rfl rfl rfl (ex_extract (vx := (Value.tuple #[(SL 5 c_api_Node x8.1), (I x8.2)])) (v := (SL 5 c_api_Node x8.1)) rfl rfl) ?_
    refine arun_do rfl rfl rfl (ex_extract (vx := (Value.tuple #[(SL 5 c_api_Node x8.1), (I x8.2)])) (v := (I x8.2)) rfl rfl) ?_
    refine arun_do rfl rfl rfl (ex_assign (eV (v := (SL 5 c_api_Node x8.1)) rfl)) ?_
    refine arun_do rfl rfl rfl (ex_assign (eV (v := (I x8.2)) rfl)) ?_
    refine arun_keepE [1, 4, 6, 8] 0 0 (st' := ⟨236, 0, [(1, (SL 5 c_api_Node x5.1)), (4, (I x6.2)), (6, (I x7.2)), (8, (I x8.2))], [], ⟨0, []⟩⟩) (by kernel_rfl) (by kernel_rfl) ?_
    show AWp _ _ _ _
    refine awp_seq ?_
    refine awp_region ?_
    refine arun_do rfl rfl rfl (ex_move (eV (v := (SL 5 c_api_Node x5.1)) rfl)) ?_
    obtain ⟨x9, hx9, h⟩ := bindS h
    refine arun_do rfl rfl rfl (ex_call0 (vs := [(SL 5 c_api_Node x5.1), (S ([102] : Str)), (I 128), (S [])]) (v := (Value.tuple #[(SL 5 c_api_Node x9.1), (I x9.2)])) rfl en_12 (cargs (evs rfl (evs rfl (evs rfl (evs rfl evs_nil))))) rfl (ok_data_Write x5.1 ([102] : Str) 128 ([] : Str) x9 hx9) rfl) ?_
    refine arun_do rfl rfl rfl (ex_move (eV (v := (Value.tuple #[(SL 5 c_api_Node x9.1), (I x9.2)])) rfl)) ?_
    refine arun_do rfl rfl rfl (ex_extract (vx := (Value.tuple #[(SL 5 c_api_Node x9.1), (I x9.2)])) (v := (SL 5 c_api_Node x9.1)) rfl rfl) ?_
    refine arun_do rfl rfl rfl (ex_extract (vx := (Value.tuple #[(SL 5 c_api_Node x9.1), (I x9.2)])) (v := (I x9.2)) rfl rfl) ?_
    refine arun_do rfl rfl rfl (ex_assign (eV (v := (SL 5 c_api_Node x9.1)) rfl)) ?_
    refine arun_do rfl rfl rfl (ex_assign (eV (v := (I x9.2)) rfl)) ?_
    refine arun_keepE [1, 4, 6, 8, 9, 10] 0 0 (st' := ⟨236, 0, [(1, (SL 5 c_api_Node x5.1)), (4, (I x6.2)), (6, (I x7.2)), (8, (I x8.2)), (9, (SL 5 c_api_Node x9.1)), (10, (I x9.2))], [], ⟨0, []⟩⟩) (by kernel_rfl) (by kernel_rfl) ?_
    show AWp _ _ _ _
    refine awp_seq ?_
    refine awp_region ?_
    refine arun_do rfl rfl rfl (ex_move (eV (v := (SL 5 c_api_Node x5.1)) rfl)) ?_
    obtain ⟨x10, hx10, h⟩ := bindS h
    refine arun_do rfl rfl rfl (ex_call0 (vs := [(SL 5 c_api_Node x5.1), (S ([102] : Str)), (I 129), (S [])]) (v := (Value.tuple #[(SL 5 c_api_Node x10.1), (I x10.2)])) rfl en_12 (cargs (evs rfl (evs rfl (evs rfl (evs rfl evs_nil))))) rfl (ok_data_Write x5.1 ([102] : Str) 129 ([] : Str) x10 hx10) rfl) ?_
    refine arun_do rfl rfl rfl (ex_move (eV (v := (Value.tuple #[(SL 5 c_api_Node x10.1), (I x10.2)])) rfl)) ?_
    refine arun_do rfl rfl rfl (ex_extract (vx := (Value.tuple #[(SL 5 c_api_Node x10.1), (I x10.2)])) (v := (SL 5 c_api_Node x10.1)) rfl rfl) ?_
    refine arun_do rfl rfl rfl (ex_extract (vx := (Value.tuple #[(SL 5 c_api_Node x10.1), (I x10.2)])) (v := (I x10.2)) rfl rfl) ?_
    refine arun_do rfl rfl rfl (ex_assign (eV (v := (SL 5 c_api_Node x10.1)) rfl)) ?_
    refine arun_do rfl rfl rfl (ex_assign (eV (v := (I x10.2)) rfl)) ?_
    refine arun_keepE [1, 4, 6, 8, 9, 10, 12] 0 0 (st' := ⟨236, 0, [(1, (SL 5 c_api_Node x5.1)), (4, (I x6.2)), (6, (I x7.2)), (8, (I x8.2)), (9, (SL 5 c_api_Node x9.1)), (10, (I x9.2)), (12, (I x10.2))], [], ⟨0, []⟩⟩) (by kernel_rfl) (by kernel_rfl) ?_
    show AWp _ _ _ _
    refine awp_seq ?_
    refine awp_region ?_
    refine arun_do rfl rfl rfl (ex_move (eV (v := (SL 5 c_api_Node x5.1)) rfl)) ?_
    obtain ⟨x11, hx11, h⟩ := bindS h
    refine arun_do rfl rfl rfl (ex_call0 (vs := [(SL 5 c_api_Node x5.1), (S ([102] : Str)), (I 4611686018427387904), (S ([120] : Str))]) (v := (Value.tuple #[(SL 5 c_api_Node x11.1), (I x11.2)])) rfl en_12 (cargs (evs rfl (evs rfl (evs rfl (evs rfl evs_nil))))) rfl (ok_data_Write x5.1 ([102] : Str) 4611686018427387904 ([120] : Str) x11 hx11) rfl) ?_
    refine arun_do rfl rfl rfl (ex_move (eV (v := (Value.tuple #[(SL 5 c_api_Node x11.1), (I x11.2)])) rfl)) ?_
    refine arun_do rfl rfl rfl (ex_extract (vx := (Value.tuple #[(SL 5 c_api_Node x11.1), (I x11.2)])) (v := (SL 5 c_api_Node x11.1)) rfl rfl) ?_
    refine arun_do rfl rfl rfl (ex_extract (vx := (Value.tuple #[(SL 5 c_api_Node x11.1), (I x11.2)])) (v := (I x11.2)) rfl rfl) ?_
    refine arun_do rfl rfl rfl (ex_assign (eV (v := (SL 5 c_api_Node x11.1)) rfl)) ?_
    refine arun_do rfl rfl rfl (ex_assign (eV (v := (I x11.2)) rfl)) ?_
    refine arun_keepE [1, 4, 6, 8, 9, 10, 12, 14] 0 0 (st' := ⟨236, 0, [(1, (SL 5 c_api_Node x5.1)), (4, (I x6.2)), (6, (I x7.2)), (8, (I x8.2)), (9, (SL 5 c_api_Node x9.1)), (10, (I x9.2)), (12, (I x10.2)), (14, (I x11.2))], [], ⟨0, []⟩⟩) (by kernel_rfl) (by kernel_rfl) ?_
    show AWp _ _ _ _
    refine awp_seq ?_
    refine awp_region ?_
    refine arun_do rfl rfl rfl (ex_move (eV (v := (SL 5 c_api_Node x5.1)) rfl)) ?_
    obtain ⟨x12, hx12, h⟩ := bindS h
    refine arun_do rfl rfl rfl (ex_call0 (vs := [(SL 5 c_api_Node x5.1), (S ([102] : Str)), (I (-1))]) (v := (Value.tuple #[(SL 5 c_api_Node x12.1), (I x12.2)])) rfl en_14 (cargs (evs rfl (evs rfl (evs rfl evs_nil)))) rfl (ok_data_Cut x5.1 ([102] : Str) (-1) x12 hx12) rfl) ?_
    refine arun_do rfl rfl rfl (ex_move (eV (v := (Value.tuple #[(SL 5 c_api_Node x12.1), (I x12.2)])) rfl)) ?_
    refine arun_do rfl rfl rfl (ex_extract (vx := (Value.tuple #[(SL 5 c_api_Node x12.1), (I x12.2)])) (v := (SL 5 c_api_Node x12.1)) rfl rfl) ?_
    refine arun_do rfl rfl rfl (ex_extract (vx := (Value.tuple #[(SL 5 c_api_Node x12.1), (I x12.2)])) (v := (I x12.2)) rfl rfl) ?_
    refine arun_do rfl rfl rfl (ex_assign (eV (v := (SL 5 c_api_Node x12.1)) rfl)) ?_
    refine arun_do rfl rfl rfl (ex_assign (eV (v := (I x12.2)) rfl)) ?_
    refine arun_keepE [1, 4, 6, 8, 9, 10, 12, 14, 16] 0 0 (st' := ⟨236, 0, [(1, (SL 5 c_api_Node x5.1)), (4, (I x6.2)), (6, (I x7.2)), (8, (I x8.2)), (9, (SL 5 c_api_Node x9.1)), (10, (I x9.2)), (12, (I x10.2)), (14, (I x11.2)), (16, (I x12.2))], [], ⟨0, []⟩⟩) (by kernel_rfl) (by kernel_rfl) ?_
    show AWp _ _ _ _
    refine awp_seq ?_
    refine awp_region ?_
    refine arun_do rfl rfl rfl (ex_move (eV (v := (SL 5 c_api_Node x5.1)) rfl)) ?_
    obtain ⟨x13, hx13, h⟩ := bindS h
    refine arun_do rfl rfl rfl (ex_call0 (vs := [(SL 5 c_api_Node x5.1), (S ([102] : Str)), (I 129)]) (v := (Value.tuple #[(SL 5 c_api_Node x13.1), (I x13.2)])) rfl en_14 (cargs (evs rfl (evs rfl (evs rfl evs_nil)))) rfl (ok_data_Cut x5.1 ([102] : Str) 129 x13 hx13) rfl) ?_
    refine arun_do rfl rfl rfl (ex_move (eV (v := (Value.tuple #[(SL 5 c_api_Node x13.1), (I x13.2)])) rfl)) ?_
    refine arun_do rfl rfl rfl (ex_extract (vx := (Value.tuple #[(SL 5 c_api_Node x13.1), (I x13.2)])) (v := (SL 5 c_api_Node x13.1)) rfl rfl) ?_
    refine arun_do rfl rfl rfl (ex_extract (vx := (Value.tuple #[(SL 5 c_api_Node x13.1), (I x13.2)])) (v := (I x13.2)) rfl rfl) ?_
    refine arun_do rfl rfl rfl (ex_assign (eV (v := (SL 5 c_api_Node x13.1)) rfl)) ?_
    refine arun_do rfl rfl rfl (ex_assign (eV (v := (I x13.2)) rfl)) ?_
    refine arun_keepE [1, 4, 6, 8, 9, 10, 12, 14, 16, 18] 0 0 (st' := ⟨236, 0, [(1, (SL 5 c_api_Node x5.1)), (4, (I x6.2)), (6, (I x7.2)), (8, (I x8.2)), (9, (SL 5 c_api_Node x9.1)), (10, (I x9.2)), (12, (I x10.2)), (14, (I x11.2)), (16, (I x12.2)), (18, (I x13.2))], [], ⟨0, []⟩⟩) (by kernel_rfl) (by kernel_rfl) ?_
    show AWp _ _ _ _
    refine awp_seq ?_
    refine awp_region ?_
    refine arun_do rfl rfl rfl (ex_move (eV (v := (SL 5 c_api_Node x5.1)) rfl)) ?_
    obtain ⟨x14, hx14, h⟩ := bindS h
    refine arun_do rfl rfl rfl (ex_call0 (vs := [(SL 5 c_api_Node x5.1), (S ([100] : Str)), (I 500)]) (v := (Value.tuple #[(SL 5 c_api_Node x14.1), (I x14.2)])) rfl en_14 (cargs (evs rfl (evs rfl (evs rfl evs_nil)))) rfl (ok_data_Cut x5.1 ([100] : Str) 500 x14 hx14) rfl) ?_
    refine arun_do rfl rfl rfl (ex_move (eV (v := (Value.tuple #[(SL 5 c_api_Node x14.1), (I x14.2)])) rfl)) ?_
    refine arun_do rfl rfl rfl (ex_extract (vx := (Value.tuple #[(SL 5 c_api_Node x14.1), (I x14.2)])) (v := (SL 5 c_api_Node x14.1)) rfl rfl) ?_
    refine arun_do rfl rfl rfl (ex_extract (vx := (Value.tuple #[(SL 5 c_api_Node x14.1), (I x14.2)])) (v := (I x14.2)) rfl rfl) ?_
    refine arun_do rfl rfl rfl (ex_assign (eV (v := (SL 5 c_api_Node x14.1)) rfl)) ?_
    refine arun_do rfl rfl rfl (ex_assign (eV (v := (I x14.2)) rfl)) ?_
    refine arun_keepE [1, 4, 6, 8, 9, 10, 12, 14, 16, 18, 20] 0 0 (st' := ⟨236, 0, [(1, (SL 5 c_api_Node x5.1)), (4, (I x6.2)), (6, (I x7.2)), (8, (I x8.2)), (9, (SL 5 c_api_Node x9.1)), (10, (I x9.2)), (12, (I x10.2)), (14, (I x11.2)), (16, (I x12.2)), (18, (I x13.2)), (20, (I x14.2))], [], ⟨0, []⟩⟩) (by kernel_rfl) (by kernel_rfl) ?_
    show AWp _ _ _ _
    refine awp_seq ?_
    refine awp_region ?_
    refine arun_do rfl rfl rfl (ex_move (eV (v := (SL 5 c_api_Node x5.1)) rfl)) ?_
    obtain ⟨x15, hx15, h⟩ := bindS h
    refine arun_do rfl rfl rfl (ex_call0 (vs := [(SL 5 c_api_Node x5.1), (S ([102] : Str)), (I (-1)), (I 0)]) (v := (Value.tuple #[(S x15.1), (I x15.2)])) rfl en_15 (cargs (evs rfl (evs rfl (evs rfl (evs rfl evs_nil))))) rfl (ok_data_Read x5.1 ([102] : Str) (-1) 0 x15 hx15) rfl) ?_
    refine arun_do rfl rfl rfl (ex_move (eV (v := (Value.tuple #[(S x15.1), (I x15.2)])) rfl)) ?_
    refine arun_do rfl rfl rfl (ex_extract (vx := (Value.tuple #[(S x15.1), (I x15.2)])) (v := (S x15.1)) rfl rfl) ?_
    refine arun_do rfl rfl rfl (ex_extract (vx := (Value.tuple #[(S x15.1), (I x15.2)])) (v := (I x15.2)) rfl rfl) ?_
    refine arun_do rfl rfl rfl (ex_assign (eV (v := (S x15.1)) rfl)) ?_
    refine arun_do rfl rfl rfl (ex_assign (eV (v := (I x15.2)) rfl)) ?_
    refine arun_keepE [1, 4, 6, 8, 9, 10, 12, 14, 16, 18, 20, 22] 0 0 (st' := ⟨236, 0, [(1, (SL 5 c_api_Node x5.1)), (4, (I x6.2)), (6, (I x7.2)), (8, (I x8.2)), (9, (SL 5 c_api_Node x9.1)), (10, (I x9.2)), (12, (I x10.2)), (14, (I x11.2)), (16, (I x12.2)), (18, (I x13.2)), (20, (I x14.2)), (22, (I x15.2))], [], ⟨0, []⟩⟩) (by kernel_rfl) (by kernel_rfl) ?_
    show AWp _ _ _ _
    refine awp_seq ?_
    refine awp_region ?_
    refine arun_do rfl rfl rfl (ex_move (eV (v := (SL 5 c_api_Node x5.1)) rfl)) ?_
    obtain ⟨x16, hx16, h⟩ := bindS h
    refine arun_do rfl rfl rfl (ex_call0 (vs := [(SL 5 c_api_Node x5.1), (S ([102] : Str)), (I 0), (I (-1))]) (v := (Value.tuple #[(S x16.1), (I x16.2)])) rfl en_15 (cargs (evs rfl (evs rfl (evs rfl (evs rfl evs_nil))))) rfl (ok_data_Read x5.1 ([102] : Str) 0 (-1) x16 hx16) rfl) ?_
    refine arun_do rfl rfl rfl (ex_move (eV (v := (Value.tuple #[(S x16.1), (I x16.2)])) rfl)) ?_
    refine arun_do rfl rfl rfl (ex_extract (vx := (Value.tuple #[(S x16.1), (I x16.2)])) (v := (S x16.1)) rfl rfl) ?_
    refine arun_do rfl rfl rfl (ex_extract (vx := (Value.tuple #[(S x16.1), (I x16.2)])) (v := (I x16.2)) rfl rfl) ?_
    refine arun_do rfl rfl rfl (ex_assign (eV (v := (S x16.1)) rfl)) ?_
    refine arun_do rfl rfl rfl (ex_assign (eV (v := (I x16.2)) rfl)) ?_
    refine arun_keepE [1, 4, 6, 8, 9, 10, 12, 14, 16, 18, 20, 22, 24] 0 0 (st' := ⟨236, 0, [(1, (SL 5 c_api_Node x5.1)), (4, (I x6.2)), (6, (I x7.2)), (8, (I x8.2)), (9, (SL 5 c_api_Node x9.1)), (10, (I x9.2)), (12, (I x10.2)), (14, (I x11.2)), (16, (I x12.2)), (18, (I x13.2)), (20, (I x14.2)), (22, (I x15.2)), (24, (I x16.2))], [], ⟨0, []⟩⟩) (by kernel_rfl) (by kernel_rfl) ?_
    show AWp _ _ _ _
    refine awp_seq ?_
    refine awp_region ?_
    refine arun_do rfl rfl rfl (ex_move (eV (v := (SL 5 c_api_Node x5.1)) rfl)) ?_
    obtain ⟨x17, hx17, h⟩ := bindS h
    refine arun_do rfl rfl rfl (ex_call0 (vs := [(SL 5 c_api_Node x5.1), (S ([102] : Str)), (I 4611686018427387904), (I 4611686018427387904)]) (v := (Value.tuple #[(S x17.1), (I x17.2)])) rfl en_15 (cargs (evs rfl (evs rfl (evs rfl (evs rfl evs_nil))))) rfl (ok_data_Read x5.1 ([102] : Str) 4611686018427387904 4611686018427387904 x17 hx17) rfl) ?_
    refine arun_do rfl rfl rfl (ex_move (eV (v := (Value.tuple #[(S x17.1), (I x17.2)])) rfl)) ?_
    refine arun_do rfl rfl rfl (ex_extract (vx := (Value.tuple #[(S x17.1), (I x17.2)])) (v := (S x17.1)) rfl rfl) ?_
    refine arun_do rfl rfl rfl (ex_extract (vx := (Value.tuple #[(S x17.1), (I x17.2)])) (v := (I x17.2)) rfl rfl) ?_
    refine arun_do rfl rfl rfl (ex_assign (eV (v := (S x17.1)) rfl)) ?_
    refine arun_do rfl rfl rfl (ex_assign (eV (v := (I x17.2)) rfl)) ?_
    refine arun_keepE [1, 4, 6, 8, 9, 10, 12, 14, 16, 18, 20, 22, 24, 25, 26] 0 0 (st' := ⟨236, 0, [(1, (SL 5 c_api_Node x5.1)), (4, (I x6.2)), (6, (I x7.2)), (8, (I x8.2)), (9, (SL 5 c_api_Node x9.1)), (10, (I x9.2)), (12, (I x10.2)), (14, (I x11.2)), (16, (I x12.2)), (18, (I x13.2)), (20, (I x14.2)), (22, (I x15.2)), (24, (I x16.2)), (25, (S x17.1)), (26, (I x17.2))], [], ⟨0, []⟩⟩) (by kernel_rfl) (by kernel_rfl) ?_
    show AWp _ _ _ _
    refine awp_seq ?_
    refine awp_region ?_
    refine arun_do rfl rfl rfl (ex_move (eV (v := (SL 5 c_api_Node x5.1)) rfl)) ?_
    obtain ⟨x18, hx18, h⟩ := bindS h
    refine arun_do rfl rfl rfl (ex_call0 (vs := [(SL 5 c_api_Node x5.1), (S ([100] : Str)), (I (-1)), (I 0)]) (v := (Value.tuple #[(S x18.1), (I x18.2)])) rfl en_15 (cargs (evs rfl (evs rfl (evs rfl (evs rfl evs_nil))))) rfl (ok_data_Read x5.1 ([100] : Str) (-1) 0 x18 hx18) rfl) ?_
    refine arun_do rfl rfl rfl (ex_move (eV (v := (Value.tuple #[(S x18.1), (I x18.2)])) rfl)) ?_
    refine arun_do rfl rfl rfl (ex_extract (vx := (Value.tuple #[(S x18.1), (I x18.2)])) (v := (S x18.1)) rfl rfl) ?_
    refine arun_do rfl rfl rfl (ex_extract (vx := (Value.tuple #[(S x18.1), (I x18.2)])) (v := (I x18.2)) rfl rfl) ?_
    refine arun_do rfl rfl rfl (ex_assign (eV (v := (S x18.1)) rfl)) ?_
    refine arun_do rfl rfl rfl (ex_assign (eV (v := (I x18.2)) rfl)) ?_
    refine arun_keepE [1, 4, 6, 8, 9, 10, 12, 14, 16, 18, 20, 22, 24, 25, 26, 28] 0 0 (st' := ⟨236, 0, [(1, (SL 5 c_api_Node x5.1)), (4, (I x6.2)), (6, (I x7.2)), (8, (I x8.2)), (9, (SL 5 c_api_Node x9.1)), (10, (I x9.2)), (12, (I x10.2)), (14, (I x11.2)), (16, (I x12.2)), (18, (I x13.2)), (20, (I x14.2)), (22, (I x15.2)), (24, (I x16.2)), (25, (S x17.1)), (26, (I x17.2)), (28, (I x18.2))], [], ⟨0, []⟩⟩) (by kernel_rfl) (by kernel_rfl) ?_
    show AWp _ _ _ _
    refine awp_seq ?_
    refine awp_region ?_
    refine arun_do rfl rfl rfl (ex_move (eV (v := (SL 5 c_api_Node x5.1)) rfl)) ?_
    obtain ⟨x19, hx19, h⟩ := bindS h
    refine arun_do rfl rfl rfl (ex_call0 (vs := [(SL 5 c_api_Node x5.1), (S ([102] : Str))]) (v := (Value.tuple #[(SL 1 cS x19.1), (I x19.2)])) rfl en_20 (cargs (evs rfl (evs rfl evs_nil))) rfl (ok_data_List x5.1 ([102] : Str) x19 hx19) rfl) ?_
    refine arun_do rfl rfl rfl (ex_move (eV (v := (Value.tuple #[(SL 1 cS x19.1), (I x19.2)])) rfl)) ?_
    refine arun_do rfl rfl rfl (ex_extract (vx := (Value.tuple #[(SL 1 cS x19.1), (I x19.2)])) (v := (SL 1 cS x19.1)) rfl rfl) ?_
    refine arun_do rfl rfl rfl (ex_extract (vx := (Value.tuple #[(SL 1 cS x19.1), (I x19.2)])) (v := (I x19.2)) rfl rfl) ?_
    refine arun_do rfl rfl rfl (ex_assign (eV (v := (SL 1 cS x19.1)) rfl)) ?_
    refine arun_do rfl rfl rfl (ex_assign (eV (v := (I x19.2)) rfl)) ?_
    refine arun_keepE [1, 4, 6, 8, 9, 10, 12, 14, 16, 18, 20, 22, 24, 25, 26, 28, 30] 0 0 (st' := ⟨236, 0, [(1, (SL 5 c_api_Node x5.1)), (4, (I x6.2)), (6, (I x7.2)), (8, (I x8.2)), (9, (SL 5 c_api_Node x9.1)), (10, (I x9.2)), (12, (I x10.2)), (14, (I x11.2)), (16, (I x12.2)), (18, (I x13.2)), (20, (I x14.2)), (22, (I x15.2)), (24, (I x16.2)), (25, (S x17.1)), (26, (I x17.2)), (28, (I x18.2)), (30, (I x19.2))], [], ⟨0, []⟩⟩) (by kernel_rfl) (by kernel_rfl) ?_
    show AWp _ _ _ _
    refine awp_seq ?_
    refine awp_region ?_
    refine arun_do rfl rfl rfl (ex_move (eV (v := (SL 5 c_api_Node x5.1)) rfl)) ?_
    obtain ⟨x20, hx20, h⟩ := bindS h
    refine arun_do rfl rfl rfl (ex_call0 (vs := [(SL 5 c_api_Node x5.1), (S [])]) (v := (Value.tuple #[(Value.agg (c_api_Stat x20.1).toArray), (I x20.2)])) rfl en_19 (cargs (evs rfl (evs rfl evs_nil))) rfl (ok_data_Stat x5.1 ([] : Str) x20 hx20) rfl) ?_
    refine arun_do rfl rfl rfl (ex_move (eV (v := (Value.tuple #[(Value.agg (c_api_Stat x20.1).toArray), (I x20.2)])) rfl)) ?_
    refine arun_do rfl rfl rfl (ex_extract (vx := (Value.tuple #[(Value.agg (c_api_Stat x20.1).toArray), (I x20.2)])) (v := (Value.agg (c_api_Stat x20.1).toArray)) rfl rfl) ?_
    refine arun_do rfl rfl rfl (ex_extract (vx := (Value.tuple #[(Value.agg (c_api_Stat x20.1).toArray), (I x20.2)])) (v := (I x20.2)) rfl rfl) ?_
    refine arun_do rfl rfl rfl (ex_alloc (k := 0) (zs := (c_api_Stat (G_api_Stat.mk 0 0 0 0))) (L' := [(c_api_Stat (G_api_Stat.mk 0 0 0 0))]) z_41 rfl rfl rfl rfl) ?_
    refine arun_do0 rfl rfl (ex_storeL (vy := (Value.agg (c_api_Stat x20.1).toArray)) (cs := (c_api_Stat (G_api_Stat.mk 0 0 0 0))) (vs := (c_api_Stat x20.1)) (L' := [(c_api_Stat x20.1)]) rfl (eV (v := (Value.agg (c_api_Stat x20.1).toArray)) rfl) rfl s_41 rfl (Nat.le_of_ble_eq_true rfl) (by kernel_rfl)) ?_
    refine arun_do rfl rfl rfl (ex_assign (eV (v := (I x20.2)) rfl)) ?_
    refine arun_keepE [1, 4, 6, 8, 9, 10, 12, 14, 16, 18, 20, 22, 24, 25, 26, 28, 30, 31, 32] 1 0 (st' := ⟨236, 0, [(1, (SL 5 c_api_Node x5.1)), (4, (I x6.2)), (6, (I x7.2)), (8, (I x8.2)), (9, (SL 5 c_api_Node x9.1)), (10, (I x9.2)), (12, (I x10.2)), (14, (I x11.2)), (16, (I x12.2)), (18, (I x13.2)), (20, (I x14.2)), (22, (I x15.2)), (24, (I x16.2)), (25, (S x17.1)), (26, (I x17.2)), (28, (I x18.2)), (30, (I x19.2)), (31, (LP 0 0)), (32, (I x20.2))], [(c_api_Stat x20.1)], ⟨0, []⟩⟩) (by kernel_rfl) (by kernel_rfl) ?_
    show AWp _ _ _ _
    refine awp_seq ?_
    refine awp_region ?_
    refine arun_do rfl rfl rfl (ex_move (eV (v := (SL 5 c_api_Node x5.1)) rfl)) ?_
    obtain ⟨x21, hx21, h⟩ := bindS h
    refine arun_do rfl rfl rfl (ex_call0 (vs := [(SL 5 c_api_Node x5.1), (S ([47] : Str)), (I 0), (I 0)]) (v := (Value.tuple #[(S x21.1), (I x21.2)])) rfl en_15 (cargs (evs rfl (evs rfl (evs rfl (evs rfl evs_nil))))) rfl (ok_data_Read x5.1 ([47] : Str) 0 0 x21 hx21) rfl) ?_
    refine arun_do rfl rfl rfl (ex_move (eV (v := (Value.tuple #[(S x21.1), (I x21.2)])) rfl)) ?_
    refine arun_do rfl rfl rfl (ex_extract (vx := (Value.tuple #[(S x21.1), (I x21.2)])) (v := (S x21.1)) rfl rfl) ?_
    refine arun_do rfl rfl rfl (ex_extract (vx := (Value.tuple #[(S x21.1), (I x21.2)])) (v := (I x21.2)) rfl rfl) ?_
    refine arun_do rfl rfl rfl (ex_assign (eV (v := (S x21.1)) rfl)) ?_
    refine arun_do rfl rfl rfl (ex_assign (eV (v := (I x21.2)) rfl)) ?_
    refine arun_keepE [1, 4, 6, 8, 9, 10, 12, 14, 16, 18, 20, 22, 24, 25, 26, 28, 30, 31, 32, 34] 1 0 (st' := ⟨236, 0, [(1, (SL 5 c_api_Node x5.1)), (4, (I x6.2)), (6, (I x7.2)), (8, (I x8.2)), (9, (SL 5 c_api_Node x9.1)), (10, (I x9.2)), (12, (I x10.2)), (14, (I x11.2)), (16, (I x12.2)), (18, (I x13.2)), (20, (I x14.2)), (22, (I x15.2)), (24, (I x16.2)), (25, (S x17.1)), (26, (I x17.2)), (28, (I x18.2)), (30, (I x19.2)), (31, (LP 0 0)), (32, (I x20.2)), (34, (I x21.2))], [(c_api_Stat x20.1)], ⟨0, []⟩⟩) (by kernel_rfl) (by kernel_rfl) ?_
    show AWp _ _ _ _
    refine awp_seq ?_
    refine awp_region ?_
    refine arun_do rfl rfl rfl (ex_move (eV (v := (SL 5 c_api_Node x5.1)) rfl)) ?_
    obtain ⟨x22, hx22, h⟩ := bindS h
    refine arun_do rfl rfl rfl (ex_call0 (vs := [(SL 5 c_api_Node x5.1), (S ([102, 47, 120] : Str)), (I 0), (I 0)]) (v := (Value.tuple #[(S x22.1), (I x22.2)])) rfl en_15 (cargs (evs rfl (evs rfl (evs rfl (evs rfl evs_nil))))) rfl (ok_data_Read x5.1 ([102, 47, 120] : Str) 0 0 x22 hx22) rfl) ?_
    refine arun_do rfl rfl rfl (ex_move (eV (v := (Value.tuple #[(S x22.1), (I x22.2)])) rfl)) ?_
    refine arun_do rfl rfl rfl (ex_extract (vx := (Value.tuple #[(S x22.1), (I x22.2)])) (v := (S x22.1)) rfl rfl) ?_
    refine arun_do rfl rfl rfl (ex_extract (vx := (Value.tuple #[(S x22.1), (I x22.2)])) (v := (I x22.2)) rfl rfl) ?_
    refine arun_do rfl rfl rfl (ex_assign (eV (v := (S x22.1)) rfl)) ?_
    refine arun_do rfl rfl rfl (ex_assign (eV (v := (I x22.2)) rfl)) ?_
    refine arun_keepE [1, 4, 6, 8, 9, 10, 12, 14, 16, 18, 20, 22, 24, 25, 26, 28, 30, 31, 32, 34, 36] 1 0 (st' := ⟨236, 0, [(1, (SL 5 c_api_Node x5.1)), (4, (I x6.2)), (6, (I x7.2)), (8, (I x8.2)), (9, (SL 5 c_api_Node x9.1)), (10, (I x9.2)), (12, (I x10.2)), (14, (I x11.2)), (16, (I x12.2)), (18, (I x13.2)), (20, (I x14.2)), (22, (I x15.2)), (24, (I x16.2)), (25, (S x17.1)), (26, (I x17.2)), (28, (I x18.2)), (30, (I x19.2)), (31, (LP 0 0)), (32, (I x20.2)), (34, (I x21.2)), (36, (I x22.2))], [(c_api_Stat x20.1)], ⟨0, []⟩⟩) (by kernel_rfl) (by kernel_rfl) ?_
    show AWp _ _ _ _
    refine awp_seq ?_
    refine awp_region ?_
    refine arun_do rfl rfl rfl (ex_move (eV (v := (SL 5 c_api_Node x5.1)) rfl)) ?_
    obtain ⟨x23, hx23, h⟩ := bindS h
    refine arun_do rfl rfl rfl (ex_call0 (vs := [(SL 5 c_api_Node x5.1), (S [])]) (v := (Value.tuple #[(SL 1 cS x23.1), (I x23.2)])) rfl en_20 (cargs (evs rfl (evs rfl evs_nil))) rfl (ok_data_List x5.1 ([] : Str) x23 hx23) rfl) ?_
    refine arun_do rfl rfl rfl (ex_move (eV (v := (Value.tuple #[(SL 1 cS x23.1), (I x23.2)])) rfl)) ?_
    refine arun_do rfl rfl rfl (ex_extract (vx := (Value.tuple #[(SL 1 cS x23.1), (I x23.2)])) (v := (SL 1 cS x23.1)) rfl rfl) ?_
    refine arun_do rfl rfl rfl (ex_extract (vx := (Value.tuple #[(SL 1 cS x23.1), (I x23.2)])) (v := (I x23.2)) rfl rfl) ?_
    refine arun_do rfl rfl rfl (ex_assign (eV (v := (SL 1 cS x23.1)) rfl)) ?_
    refine arun_do rfl rfl rfl (ex_assign (eV (v := (I x23.2)) rfl)) ?_
    refine arun_keepE [1, 4, 6, 8, 9, 10, 12, 14, 16, 18, 20, 22, 24, 25, 26, 28, 30, 31, 32, 34, 36, 37, 38] 1 0 (st' := ⟨236, 0, [(1, (SL 5 c_api_Node x5.1)), (4, (I x6.2)), (6, (I x7.2)), (8, (I x8.2)), (9, (SL 5 c_api_Node x9.1)), (10, (I x9.2)), (12, (I x10.2)), (14, (I x11.2)), (16, (I x12.2)), (18, (I x13.2)), (20, (I x14.2)), (22, (I x15.2)), (24, (I x16.2)), (25, (S x17.1)), (26, (I x17.2)), (28, (I x18.2)), (30, (I x19.2)), (31, (LP 0 0)), (32, (I x20.2)), (34, (I x21.2)), (36, (I x22.2)), (37, (SL 1 cS x23.1)), (38, (I x23.2))], [(c_api_Stat x20.1)], ⟨0, []⟩⟩) (by kernel_rfl) (by kernel_rfl) ?_
    show AWp _ _ _ _
    refine awp_seq ?_
    refine awp_region ?_
    refine arun_do rfl rfl rfl (ex_move (eV (v := (I x6.2)) rfl)) ?_
    refine arun_do rfl rfl rfl (ex_bin (vx := (I x6.2)) (vy := (I 4)) rfl rfl eqlI_ok) ?_
    refine arun_do rfl rfl rfl (ex_move (eV (v := (Bo (x6.2 == 4))) rfl)) ?_
    refine arun_guard (v := (I x7.2)) ((x6.2 == 4) == true) rfl rfl rfl (fun hc => ex_move (eV (v := (I x7.2)) rfl)) ?_
    refine arun_guard (v := (Bo (x7.2 == 1))) ((x6.2 == 4) == true) rfl rfl rfl (fun hc => ex_bin (vx := (I x7.2)) (vy := (I 1)) (cond_of hc) rfl eqlI_ok) ?_
    refine arun_do rfl rfl rfl (ex_pick rfl pkAnd) ?_
    refine arun_do rfl rfl rfl (ex_move (eV (v := (Bo ((x6.2 == 4) && (x7.2 == 1)))) rfl)) ?_
    refine arun_guard (v := (I x8.2)) (((x6.2 == 4) && (x7.2 == 1)) == true) rfl rfl rfl (fun hc => ex_move (eV (v := (I x8.2)) rfl)) ?_
    refine arun_guard (v := (Bo (x8.2 == 8))) (((x6.2 == 4) && (x7.2 == 1)) == true) rfl rfl rfl (fun hc => ex_bin (vx := (I x8.2)) (vy := (I 8)) (cond_of hc) rfl eqlI_ok) ?_
    refine arun_do rfl rfl rfl (ex_pick rfl pkAnd) ?_
    refine arun_do rfl rfl rfl (ex_move (eV (v := (Bo (((x6.2 == 4) && (x7.2 == 1)) && (x8.2 == 8)))) rfl)) ?_
    refine arun_guard (v := (I x9.2)) ((((x6.2 == 4) && (x7.2 == 1)) && (x8.2 == 8)) == true) rfl rfl rfl (fun hc => ex_move (eV (v := (I x9.2)) rfl)) ?_
    refine arun_guard (v := (Bo (x9.2 == 0))) ((((x6.2 == 4) && (x7.2 == 1)) && (x8.2 == 8)) == true) rfl rfl rfl (fun hc => ex_bin (vx := (I x9.2)) (vy := (I 0)) (cond_of hc) rfl eqlI_ok) ?_
    refine arun_do rfl rfl rfl (ex_pick rfl pkAnd) ?_
    refine arun_do rfl rfl rfl (ex_move (eV (v := (Bo ((((x6.2 == 4) && (x7.2 == 1)) && (x8.2 == 8)) && (x9.2 == 0)))) rfl)) ?_
    refine arun_guard (v := (SL 5 c_api_Node x9.1)) (((((x6.2 == 4) && (x7.2 == 1)) && (x8.2 == 8)) && (x9.2 == 0)) == true) rfl rfl rfl (fun hc => ex_move (eV (v := (SL 5 c_api_Node x9.1)) rfl)) ?_
    refine arun_guard (v := (SL 5 c_api_Node x5.1)) (((((x6.2 == 4) && (x7.2 == 1)) && (x8.2 == 8)) && (x9.2 == 0)) == true) rfl rfl rfl (fun hc => ex_move (eV (v := (SL 5 c_api_Node x5.1)) rfl)) ?_
    obtain ⟨x24, hx24, h⟩ := bindS h
    refine arun_guard (v := (Bo x24)) (((((x6.2 == 4) && (x7.2 == 1)) && (x8.2 == 8)) && (x9.2 == 0)) == true) rfl rfl rfl (fun hc => ex_call0 (vs := [(SL 5 c_api_Node x9.1), (SL 5 c_api_Node x5.1)]) (v := (Bo x24)) rfl en_13 (cargs (evs (cond_of hc) (evs (cond_of hc) evs_nil))) rfl (ok_ref11_Same x9.1 x5.1 x24 (gd_of hc hx24)) rfl) ?_
    refine arun_do rfl rfl rfl (ex_pick rfl pkAnd) ?_
    refine arun_do rfl rfl rfl (ex_move (eV (v := (Bo (((((x6.2 == 4) && (x7.2 == 1)) && (x8.2 == 8)) && (x9.2 == 0)) && x24))) rfl)) ?_
    refine arun_guard (v := (I x10.2)) ((((((x6.2 == 4) && (x7.2 == 1)) && (x8.2 == 8)) && (x9.2 == 0)) && x24) == true) rfl rfl rfl (fun hc => ex_move (eV (v := (I x10.2)) rfl)) ?_
    refine arun_guard (v := (Bo (x10.2 == 8))) ((((((x6.2 == 4) && (x7.2 == 1)) && (x8.2 == 8)) && (x9.2 == 0)) && x24) == true) rfl rfl rfl (fun hc => ex_bin (vx := (I x10.2)) (vy := (I 8)) (cond_of hc) rfl eqlI_ok) ?_
    refine arun_do rfl rfl rfl (ex_pick rfl pkAnd) ?_
    refine arun_do rfl rfl rfl (ex_move (eV (v := (Bo ((((((x6.2 == 4) && (x7.2 == 1)) && (x8.2 == 8)) && (x9.2 == 0)) && x24) && (x10.2 == 8)))) rfl)) ?_
    refine arun_guard (v := (I x11.2)) (((((((x6.2 == 4) && (x7.2 == 1)) && (x8.2 == 8)) && (x9.2 == 0)) && x24) && (x10.2 == 8)) == true) rfl rfl rfl (fun hc => ex_move (eV (v := (I x11.2)) rfl)) ?_
    refine arun_guard (v := (Bo (x11.2 == 8))) (((((((x6.2 == 4) && (x7.2 == 1)) && (x8.2 == 8)) && (x9.2 == 0)) && x24) && (x10.2 == 8)) == true) rfl rfl rfl (fun hc => ex_bin (vx := (I x11.2)) (vy := (I 8)) (cond_of hc) rfl eqlI_ok) ?_
    refine arun_do rfl rfl rfl (ex_pick rfl pkAnd) ?_
    refine arun_do rfl rfl rfl (ex_move (eV (v := (Bo (((((((x6.2 == 4) && (x7.2 == 1)) && (x8.2 == 8)) && (x9.2 == 0)) && x24) && (x10.2 == 8)) && (x11.2 == 8)))) rfl)) ?_
    refine arun_guard (v := (I x12.2)) ((((((((x6.2 == 4) && (x7.2 == 1)) && (x8.2 == 8)) && (x9.2 == 0)) && x24) && (x10.2 == 8)) && (x11.2 == 8)) == true) rfl rfl rfl (fun hc => ex_move (eV (v := (I x12.2)) rfl)) ?_
    refine arun_guard (v := (Bo (x12.2 == 1))) ((((((((x6.2 == 4) && (x7.2 == 1)) && (x8.2 == 8)) && (x9.2 == 0)) && x24) && (x10.2 == 8)) && (x11.2 == 8)) == true) rfl rfl rfl (fun hc => ex_bin (vx := (I x12.2)) (vy := (I 1)) (cond_of hc) rfl eqlI_ok) ?_
    refine arun_do rfl rfl rfl (ex_pick rfl pkAnd) ?_
    refine arun_do rfl rfl rfl (ex_move (eV (v := (Bo ((((((((x6.2 == 4) && (x7.2 == 1)) && (x8.2 == 8)) && (x9.2 == 0)) && x24) && (x10.2 == 8)) && (x11.2 == 8)) && (x12.2 == 1)))) rfl)) ?_
    refine arun_guard (v := (I x13.2)) (((((((((x6.2 == 4) && (x7.2 == 1)) && (x8.2 == 8)) && (x9.2 == 0)) && x24) && (x10.2 == 8)) && (x11.2 == 8)) && (x12.2 == 1)) == true) rfl rfl rfl (fun hc => ex_move (eV (v := (I x13.2)) rfl)) ?_
    refine arun_guard (v := (Bo (x13.2 == 8))) (((((((((x6.2 == 4) && (x7.2 == 1)) && (x8.2 == 8)) && (x9.2 == 0)) && x24) && (x10.2 == 8)) && (x11.2 == 8)) && (x12.2 == 1)) == true) rfl rfl rfl (fun hc => ex_bin (vx := (I x13.2)) (vy := (I 8)) (cond_of hc) rfl eqlI_ok) ?_
    refine arun_do rfl rfl rfl (ex_pick rfl pkAnd) ?_
    refine arun_do rfl rfl rfl (ex_move (eV (v := (Bo (((((((((x6.2 == 4) && (x7.2 == 1)) && (x8.2 == 8)) && (x9.2 == 0)) && x24) && (x10.2 == 8)) && (x11.2 == 8)) && (x12.2 == 1)) && (x13.2 == 8)))) rfl)) ?_
    refine arun_guard (v := (I x14.2)) ((((((((((x6.2 == 4) && (x7.2 == 1)) && (x8.2 == 8)) && (x9.2 == 0)) && x24) && (x10.2 == 8)) && (x11.2 == 8)) && (x12.2 == 1)) && (x13.2 == 8)) == true) rfl rfl rfl (fun hc => ex_move (eV (v := (I x14.2)) rfl)) ?_
    refine arun_guard (v := (Bo (x14.2 == 4))) ((((((((((x6.2 == 4) && (x7.2 == 1)) && (x8.2 == 8)) && (x9.2 == 0)) && x24) && (x10.2 == 8)) && (x11.2 == 8)) && (x12.2 == 1)) && (x13.2 == 8)) == true) rfl rfl rfl (fun hc => ex_bin (vx := (I x14.2)) (vy := (I 4)) (cond_of hc) rfl eqlI_ok) ?_
    refine arun_do rfl rfl rfl (ex_pick rfl pkAnd) ?_
    refine arun_do rfl rfl rfl (ex_move (eV (v := (Bo ((((((((((x6.2 == 4) && (x7.2 == 1)) && (x8.2 == 8)) && (x9.2 == 0)) && x24) && (x10.2 == 8)) && (x11.2 == 8)) && (x12.2 == 1)) && (x13.2 == 8)) && (x14.2 == 4)))) rfl)) ?_
    refine arun_guard (v := (I x15.2)) (((((((((((x6.2 == 4) && (x7.2 == 1)) && (x8.2 == 8)) && (x9.2 == 0)) && x24) && (x10.2 == 8)) && (x11.2 == 8)) && (x12.2 == 1)) && (x13.2 == 8)) && (x14.2 == 4)) == true) rfl rfl rfl (fun hc => ex_move (eV (v := (I x15.2)) rfl)) ?_
    refine arun_guard (v := (Bo (x15.2 == 1))) (((((((((((x6.2 == 4) && (x7.2 == 1)) && (x8.2 == 8)) && (x9.2 == 0)) && x24) && (x10.2 == 8)) && (x11.2 == 8)) && (x12.2 == 1)) && (x13.2 == 8)) && (x14.2 == 4)) == true) rfl rfl rfl (fun hc => ex_bin (vx := (I x15.2)) (vy := (I 1)) (cond_of hc) rfl eqlI_ok) ?_
    refine arun_do rfl rfl rfl (ex_pick rfl pkAnd) ?_
    refine arun_do rfl rfl rfl (ex_move (eV (v := (Bo (((((((((((x6.2 == 4) && (x7.2 == 1)) && (x8.2 == 8)) && (x9.2 == 0)) && x24) && (x10.2 == 8)) && (x11.2 == 8)) && (x12.2 == 1)) && (x13.2 == 8)) && (x14.2 == 4)) && (x15.2 == 1)))) rfl)) ?_
    refine arun_guard (v := (I x16.2)) ((((((((((((x6.2 == 4) && (x7.2 == 1)) && (x8.2 == 8)) && (x9.2 == 0)) && x24) && (x10.2 == 8)) && (x11.2 == 8)) && (x12.2 == 1)) && (x13.2 == 8)) && (x14.2 == 4)) && (x15.2 == 1)) == true) rfl rfl rfl (fun hc => ex_move (eV (v := (I x16.2)) rfl)) ?_
    refine arun_guard (v := (Bo (x16.2 == 1))) ((((((((((((x6.2 == 4) && (x7.2 == 1)) && (x8.2 == 8)) && (x9.2 == 0)) && x24) && (x10.2 == 8)) && (x11.2 == 8)) && (x12.2 == 1)) && (x13.2 == 8)) && (x14.2 == 4)) && (x15.2 == 1)) == true) rfl rfl rfl (fun hc => ex_bin (vx := (I x16.2)) (vy := (I 1)) (cond_of hc) rfl eqlI_ok) ?_
    refine arun_do rfl rfl rfl (ex_pick rfl pkAnd) ?_
    refine arun_do rfl rfl rfl (ex_move (eV (v := (Bo ((((((((((((x6.2 == 4) && (x7.2 == 1)) && (x8.2 == 8)) && (x9.2 == 0)) && x24) && (x10.2 == 8)) && (x11.2 == 8)) && (x12.2 == 1)) && (x13.2 == 8)) && (x14.2 == 4)) && (x15.2 == 1)) && (x16.2 == 1)))) rfl)) ?_
    refine arun_guard (v := (S x17.1)) (((((((((((((x6.2 == 4) && (x7.2 == 1)) && (x8.2 == 8)) && (x9.2 == 0)) && x24) && (x10.2 == 8)) && (x11.2 == 8)) && (x12.2 == 1)) && (x13.2 == 8)) && (x14.2 == 4)) && (x15.2 == 1)) && (x16.2 == 1)) == true) rfl rfl rfl (fun hc => ex_move (eV (v := (S x17.1)) rfl)) ?_
    refine arun_guard (v := (Bo (x17.1 == []))) (((((((((((((x6.2 == 4) && (x7.2 == 1)) && (x8.2 == 8)) && (x9.2 == 0)) && x24) && (x10.2 == 8)) && (x11.2 == 8)) && (x12.2 == 1)) && (x13.2 == 8)) && (x14.2 == 4)) && (x15.2 == 1)) && (x16.2 == 1)) == true) rfl rfl rfl (fun hc => ex_bin (vx := (S x17.1)) (vy := (S [])) (cond_of hc) rfl eqlS_ok) ?_
    refine arun_do rfl rfl rfl (ex_pick rfl pkAnd) ?_
    refine arun_do rfl rfl rfl (ex_move (eV (v := (Bo (((((((((((((x6.2 == 4) && (x7.2 == 1)) && (x8.2 == 8)) && (x9.2 == 0)) && x24) && (x10.2 == 8)) && (x11.2 == 8)) && (x12.2 == 1)) && (x13.2 == 8)) && (x14.2 == 4)) && (x15.2 == 1)) && (x16.2 == 1)) && (x17.1 == [])))) rfl)) ?_
    refine arun_guard (v := (I x17.2)) ((((((((((((((x6.2 == 4) && (x7.2 == 1)) && (x8.2 == 8)) && (x9.2 == 0)) && x24) && (x10.2 == 8)) && (x11.2 == 8)) && (x12.2 == 1)) && (x13.2 == 8)) && (x14.2 == 4)) && (x15.2 == 1)) && (x16.2 == 1)) && (x17.1 == [])) == true) rfl rfl rfl (fun hc => ex_move (eV (v := (I x17.2)) rfl)) ?_
    refine arun_guard (v := (Bo (x17.2 == 0))) ((((((((((((((x6.2 == 4) && (x7.2 == 1)) && (x8.2 == 8)) && (x9.2 == 0)) && x24) && (x10.2 == 8)) && (x11.2 == 8)) && (x12.2 == 1)) && (x13.2 == 8)) && (x14.2 == 4)) && (x15.2 == 1)) && (x16.2 == 1)) && (x17.1 == [])) == true) rfl rfl rfl (fun hc => ex_bin (vx := (I x17.2)) (vy := (I 0)) (cond_of hc) rfl eqlI_ok) ?_
    refine arun_do rfl rfl rfl (ex_pick rfl pkAnd) ?_
    refine arun_do rfl rfl rfl (ex_move (eV (v := (Bo ((((((((((((((x6.2 == 4) && (x7.2 == 1)) && (x8.2 == 8)) && (x9.2 == 0)) && x24) && (x10.2 == 8)) && (x11.2 == 8)) && (x12.2 == 1)) && (x13.2 == 8)) && (x14.2 == 4)) && (x15.2 == 1)) && (x16.2 == 1)) && (x17.1 == [])) && (x17.2 == 0)))) rfl)) ?_
    refine arun_guard (v := (I x18.2)) (((((((((((((((x6.2 == 4) && (x7.2 == 1)) && (x8.2 == 8)) && (x9.2 == 0)) && x24) && (x10.2 == 8)) && (x11.2 == 8)) && (x12.2 == 1)) && (x13.2 == 8)) && (x14.2 == 4)) && (x15.2 == 1)) && (x16.2 == 1)) && (x17.1 == [])) && (x17.2 == 0)) == true) rfl rfl rfl (fun hc => ex_move (eV (v := (I x18.2)) rfl)) ?_
    refine arun_guard (v := (Bo (x18.2 == 4))) (((((((((((((((x6.2 == 4) && (x7.2 == 1)) && (x8.2 == 8)) && (x9.2 == 0)) && x24) && (x10.2 == 8)) && (x11.2 == 8)) && (x12.2 == 1)) && (x13.2 == 8)) && (x14.2 == 4)) && (x15.2 == 1)) && (x16.2 == 1)) && (x17.1 == [])) && (x17.2 == 0)) == true) rfl rfl rfl (fun hc => ex_bin (vx := (I x18.2)) (vy := (I 4)) (cond_of hc) rfl eqlI_ok) ?_
    refine arun_do rfl rfl rfl (ex_pick rfl pkAnd) ?_
    refine arun_do rfl rfl rfl (ex_move (eV (v := (Bo (((((((((((((((x6.2 == 4) && (x7.2 == 1)) && (x8.2 == 8)) && (x9.2 == 0)) && x24) && (x10.2 == 8)) && (x11.2 == 8)) && (x12.2 == 1)) && (x13.2 == 8)) && (x14.2 == 4)) && (x15.2 == 1)) && (x16.2 == 1)) && (x17.1 == [])) && (x17.2 == 0)) && (x18.2 == 4)))) rfl)) ?_
    refine arun_guard (v := (I x19.2)) ((((((((((((((((x6.2 == 4) && (x7.2 == 1)) && (x8.2 == 8)) && (x9.2 == 0)) && x24) && (x10.2 == 8)) && (x11.2 == 8)) && (x12.2 == 1)) && (x13.2 == 8)) && (x14.2 == 4)) && (x15.2 == 1)) && (x16.2 == 1)) && (x17.1 == [])) && (x17.2 == 0)) && (x18.2 == 4)) == true) rfl rfl rfl (fun hc => ex_move (eV (v := (I x19.2)) rfl)) ?_
    refine arun_guard (v := (Bo (x19.2 == 5))) ((((((((((((((((x6.2 == 4) && (x7.2 == 1)) && (x8.2 == 8)) && (x9.2 == 0)) && x24) && (x10.2 == 8)) && (x11.2 == 8)) && (x12.2 == 1)) && (x13.2 == 8)) && (x14.2 == 4)) && (x15.2 == 1)) && (x16.2 == 1)) && (x17.1 == [])) && (x17.2 == 0)) && (x18.2 == 4)) == true) rfl rfl rfl (fun hc => ex_bin (vx := (I x19.2)) (vy := (I 5)) (cond_of hc) rfl eqlI_ok) ?_
    refine arun_do rfl rfl rfl (ex_pick rfl pkAnd) ?_
    refine arun_do rfl rfl rfl (ex_move (eV (v := (Bo ((((((((((((((((x6.2 == 4) && (x7.2 == 1)) && (x8.2 == 8)) && (x9.2 == 0)) && x24) && (x10.2 == 8)) && (x11.2 == 8)) && (x12.2 == 1)) && (x13.2 == 8)) && (x14.2 == 4)) && (x15.2 == 1)) && (x16.2 == 1)) && (x17.1 == [])) && (x17.2 == 0)) && (x18.2 == 4)) && (x19.2 == 5)))) rfl)) ?_
    refine arun_guard (v := (Value.agg (c_api_Stat x20.1).toArray)) (((((((((((((((((x6.2 == 4) && (x7.2 == 1)) && (x8.2 == 8)) && (x9.2 == 0)) && x24) && (x10.2 == 8)) && (x11.2 == 8)) && (x12.2 == 1)) && (x13.2 == 8)) && (x14.2 == 4)) && (x15.2 == 1)) && (x16.2 == 1)) && (x17.1 == [])) && (x17.2 == 0)) && (x18.2 == 4)) && (x19.2 == 5)) == true) rfl rfl rfl (fun hc => tx_ldLA (vs := (c_api_Stat x20.1)) Tryd.underlying41 rfl s_41 (by decide) rfl rfl rfl rfl) ?_
    refine arun_guard (v := (Value.agg (c_api_Stat (G_api_Stat.mk 0 2 0 0)).toArray)) (((((((((((((((((x6.2 == 4) && (x7.2 == 1)) && (x8.2 == 8)) && (x9.2 == 0)) && x24) && (x10.2 == 8)) && (x11.2 == 8)) && (x12.2 == 1)) && (x13.2 == 8)) && (x14.2 == 4)) && (x15.2 == 1)) && (x16.2 == 1)) && (x17.1 == [])) && (x17.2 == 0)) && (x18.2 == 4)) && (x19.2 == 5)) == true) rfl rfl rfl (fun hc => ex_build (qs := [(1, (I 2))]) (v := (Value.agg (c_api_Stat (G_api_Stat.mk 0 2 0 0)).toArray)) (evp rfl evp_nil) (by kernel_rfl)) ?_
    refine arun_guard (v := (Bo (decide (x20.1 = (G_api_Stat.mk 0 2 0 0))))) (((((((((((((((((x6.2 == 4) && (x7.2 == 1)) && (x8.2 == 8)) && (x9.2 == 0)) && x24) && (x10.2 == 8)) && (x11.2 == 8)) && (x12.2 == 1)) && (x13.2 == 8)) && (x14.2 == 4)) && (x15.2 == 1)) && (x16.2 == 1)) && (x17.1 == [])) && (x17.2 == 0)) && (x18.2 == 4)) && (x19.2 == 5)) == true) rfl rfl rfl (fun hc => ex_bin (vx := (Value.agg (c_api_Stat x20.1).toArray)) (vy := (Value.agg (c_api_Stat (G_api_Stat.mk 0 2 0 0)).toArray)) (cond_of hc) (cond_of hc) eql_41) ?_
    refine arun_do rfl rfl rfl (ex_pick rfl pkAnd) ?_
    refine arun_do rfl rfl rfl (ex_move (eV (v := (Bo (((((((((((((((((x6.2 == 4) && (x7.2 == 1)) && (x8.2 == 8)) && (x9.2 == 0)) && x24) && (x10.2 == 8)) && (x11.2 == 8)) && (x12.2 == 1)) && (x13.2 == 8)) && (x14.2 == 4)) && (x15.2 == 1)) && (x16.2 == 1)) && (x17.1 == [])) && (x17.2 == 0)) && (x18.2 == 4)) && (x19.2 == 5)) && (decide (x20.1 = (G_api_Stat.mk 0 2 0 0)))))) rfl)) ?_
    refine arun_guard (v := (I x20.2)) ((((((((((((((((((x6.2 == 4) && (x7.2 == 1)) && (x8.2 == 8)) && (x9.2 == 0)) && x24) && (x10.2 == 8)) && (x11.2 == 8)) && (x12.2 == 1)) && (x13.2 == 8)) && (x14.2 == 4)) && (x15.2 == 1)) && (x16.2 == 1)) && (x17.1 == [])) && (x17.2 == 0)) && (x18.2 == 4)) && (x19.2 == 5)) && (decide (x20.1 = (G_api_Stat.mk 0 2 0 0)))) == true) rfl rfl rfl (fun hc => ex_move (eV (v := (I x20.2)) rfl)) ?_
    refine arun_guard (v := (Bo (x20.2 == 0))) ((((((((((((((((((x6.2 == 4) && (x7.2 == 1)) && (x8.2 == 8)) && (x9.2 == 0)) && x24) && (x10.2 == 8)) && (x11.2 == 8)) && (x12.2 == 1)) && (x13.2 == 8)) && (x14.2 == 4)) && (x15.2 == 1)) && (x16.2 == 1)) && (x17.1 == [])) && (x17.2 == 0)) && (x18.2 == 4)) && (x19.2 == 5)) && (decide (x20.1 = (G_api_Stat.mk 0 2 0 0)))) == true) rfl rfl rfl (fun hc => ex_bin (vx := (I x20.2)) (vy := (I 0)) (cond_of hc) rfl eqlI_ok) ?_
    refine arun_do rfl rfl rfl (ex_pick rfl pkAnd) ?_
    refine arun_do rfl rfl rfl (ex_move (eV (v := (Bo ((((((((((((((((((x6.2 == 4) && (x7.2 == 1)) && (x8.2 == 8)) && (x9.2 == 0)) && x24) && (x10.2 == 8)) && (x11.2 == 8)) && (x12.2 == 1)) && (x13.2 == 8)) && (x14.2 == 4)) && (x15.2 == 1)) && (x16.2 == 1)) && (x17.1 == [])) && (x17.2 == 0)) && (x18.2 == 4)) && (x19.2 == 5)) && (decide (x20.1 = (G_api_Stat.mk 0 2 0 0)))) && (x20.2 == 0)))) rfl)) ?_
    refine arun_guard (v := (I x21.2)) (((((((((((((((((((x6.2 == 4) && (x7.2 == 1)) && (x8.2 == 8)) && (x9.2 == 0)) && x24) && (x10.2 == 8)) && (x11.2 == 8)) && (x12.2 == 1)) && (x13.2 == 8)) && (x14.2 == 4)) && (x15.2 == 1)) && (x16.2 == 1)) && (x17.1 == [])) && (x17.2 == 0)) && (x18.2 == 4)) && (x19.2 == 5)) && (decide (x20.1 = (G_api_Stat.mk 0 2 0 0)))) && (x20.2 == 0)) == true) rfl rfl rfl (fun hc => ex_move (eV (v := (I x21.2)) rfl)) ?_
    refine arun_guard (v := (Bo (x21.2 == 1))) (((((((((((((((((((x6.2 == 4) && (x7.2 == 1)) && (x8.2 == 8)) && (x9.2 == 0)) && x24) && (x10.2 == 8)) && (x11.2 == 8)) && (x12.2 == 1)) && (x13.2 == 8)) && (x14.2 == 4)) && (x15.2 == 1)) && (x16.2 == 1)) && (x17.1 == [])) && (x17.2 == 0)) && (x18.2 == 4)) && (x19.2 == 5)) && (decide (x20.1 = (G_api_Stat.mk 0 2 0 0)))) && (x20.2 == 0)) == true) rfl rfl rfl (fun hc => ex_bin (vx := (I x21.2)) (vy := (I 1)) (cond_of hc) rfl eqlI_ok) ?_
    refine arun_do rfl rfl rfl (ex_pick rfl pkAnd) ?_
    refine arun_do rfl rfl rfl (ex_move (eV (v := (Bo (((((((((((((((((((x6.2 == 4) && (x7.2 == 1)) && (x8.2 == 8)) && (x9.2 == 0)) && x24) && (x10.2 == 8)) && (x11.2 == 8)) && (x12.2 == 1)) && (x13.2 == 8)) && (x14.2 == 4)) && (x15.2 == 1)) && (x16.2 == 1)) && (x17.1 == [])) && (x17.2 == 0)) && (x18.2 == 4)) && (x19.2 == 5)) && (decide (x20.1 = (G_api_Stat.mk 0 2 0 0)))) && (x20.2 == 0)) && (x21.2 == 1)))) rfl)) ?_
    refine arun_guard (v := (I x22.2)) ((((((((((((((((((((x6.2 == 4) && (x7.2 == 1)) && (x8.2 == 8)) && (x9.2 == 0)) && x24) && (x10.2 == 8)) && (x11.2 == 8)) && (x12.2 == 1)) && (x13.2 == 8)) && (x14.2 == 4)) && (x15.2 == 1)) && (x16.2 == 1)) && (x17.1 == [])) && (x17.2 == 0)) && (x18.2 == 4)) && (x19.2 == 5)) && (decide (x20.1 = (G_api_Stat.mk 0 2 0 0)))) && (x20.2 == 0)) && (x21.2 == 1)) == true) rfl rfl rfl (fun hc => ex_move (eV (v := (I x22.2)) rfl)) ?_
    refine arun_guard (v := (Bo (x22.2 == 5))) ((((((((((((((((((((x6.2 == 4) && (x7.2 == 1)) && (x8.2 == 8)) && (x9.2 == 0)) && x24) && (x10.2 == 8)) && (x11.2 == 8)) && (x12.2 == 1)) && (x13.2 == 8)) && (x14.2 == 4)) && (x15.2 == 1)) && (x16.2 == 1)) && (x17.1 == [])) && (x17.2 == 0)) && (x18.2 == 4)) && (x19.2 == 5)) && (decide (x20.1 = (G_api_Stat.mk 0 2 0 0)))) && (x20.2 == 0)) && (x21.2 == 1)) == true) rfl rfl rfl (fun hc => ex_bin (vx := (I x22.2)) (vy := (I 5)) (cond_of hc) rfl eqlI_ok) ?_
    refine arun_do rfl rfl rfl (ex_pick rfl pkAnd) ?_
    refine arun_do rfl rfl rfl (ex_move (eV (v := (Bo ((((((((((((((((((((x6.2 == 4) && (x7.2 == 1)) && (x8.2 == 8)) && (x9.2 == 0)) && x24) && (x10.2 == 8)) && (x11.2 == 8)) && (x12.2 == 1)) && (x13.2 == 8)) && (x14.2 == 4)) && (x15.2 == 1)) && (x16.2 == 1)) && (x17.1 == [])) && (x17.2 == 0)) && (x18.2 == 4)) && (x19.2 == 5)) && (decide (x20.1 = (G_api_Stat.mk 0 2 0 0)))) && (x20.2 == 0)) && (x21.2 == 1)) && (x22.2 == 5)))) rfl)) ?_
    refine arun_guard (v := (I x23.2)) (((((((((((((((((((((x6.2 == 4) && (x7.2 == 1)) && (x8.2 == 8)) && (x9.2 == 0)) && x24) && (x10.2 == 8)) && (x11.2 == 8)) && (x12.2 == 1)) && (x13.2 == 8)) && (x14.2 == 4)) && (x15.2 == 1)) && (x16.2 == 1)) && (x17.1 == [])) && (x17.2 == 0)) && (x18.2 == 4)) && (x19.2 == 5)) && (decide (x20.1 = (G_api_Stat.mk 0 2 0 0)))) && (x20.2 == 0)) && (x21.2 == 1)) && (x22.2 == 5)) == true) rfl rfl rfl (fun hc => ex_move (eV (v := (I x23.2)) rfl)) ?_
    refine arun_guard (v := (Bo (x23.2 == 0))) (((((((((((((((((((((x6.2 == 4) && (x7.2 == 1)) && (x8.2 == 8)) && (x9.2 == 0)) && x24) && (x10.2 == 8)) && (x11.2 == 8)) && (x12.2 == 1)) && (x13.2 == 8)) && (x14.2 == 4)) && (x15.2 == 1)) && (x16.2 == 1)) && (x17.1 == [])) && (x17.2 == 0)) && (x18.2 == 4)) && (x19.2 == 5)) && (decide (x20.1 = (G_api_Stat.mk 0 2 0 0)))) && (x20.2 == 0)) && (x21.2 == 1)) && (x22.2 == 5)) == true) rfl rfl rfl (fun hc => ex_bin (vx := (I x23.2)) (vy := (I 0)) (cond_of hc) rfl eqlI_ok) ?_
    refine arun_do rfl rfl rfl (ex_pick rfl pkAnd) ?_
    refine arun_do rfl rfl rfl (ex_move (eV (v := (Bo (((((((((((((((((((((x6.2 == 4) && (x7.2 == 1)) && (x8.2 == 8)) && (x9.2 == 0)) && x24) && (x10.2 == 8)) && (x11.2 == 8)) && (x12.2 == 1)) && (x13.2 == 8)) && (x14.2 == 4)) && (x15.2 == 1)) && (x16.2 == 1)) && (x17.1 == [])) && (x17.2 == 0)) && (x18.2 == 4)) && (x19.2 == 5)) && (decide (x20.1 = (G_api_Stat.mk 0 2 0 0)))) && (x20.2 == 0)) && (x21.2 == 1)) && (x22.2 == 5)) && (x23.2 == 0)))) rfl)) ?_
    refine arun_guard (v := (SL 1 cS x23.1)) ((((((((((((((((((((((x6.2 == 4) && (x7.2 == 1)) && (x8.2 == 8)) && (x9.2 == 0)) && x24) && (x10.2 == 8)) && (x11.2 == 8)) && (x12.2 == 1)) && (x13.2 == 8)) && (x14.2 == 4)) && (x15.2 == 1)) && (x16.2 == 1)) && (x17.1 == [])) && (x17.2 == 0)) && (x18.2 == 4)) && (x19.2 == 5)) && (decide (x20.1 = (G_api_Stat.mk 0 2 0 0)))) && (x20.2 == 0)) && (x21.2 == 1)) && (x22.2 == 5)) && (x23.2 == 0)) == true) rfl rfl rfl (fun hc => ex_move (eV (v := (SL 1 cS x23.1)) rfl)) ?_
    refine arun_guard (v := (I (x23.1.length : Int))) ((((((((((((((((((((((x6.2 == 4) && (x7.2 == 1)) && (x8.2 == 8)) && (x9.2 == 0)) && x24) && (x10.2 == 8)) && (x11.2 == 8)) && (x12.2 == 1)) && (x13.2 == 8)) && (x14.2 == 4)) && (x15.2 == 1)) && (x16.2 == 1)) && (x17.1 == [])) && (x17.2 == 0)) && (x18.2 == 4)) && (x19.2 == 5)) && (decide (x20.1 = (G_api_Stat.mk 0 2 0 0)))) && (x20.2 == 0)) && (x21.2 == 1)) && (x22.2 == 5)) && (x23.2 == 0)) == true) rfl rfl rfl (fun hc => tx_lenD (xs := x23.1) ceS Tryd.underlying45 (cond_of hc)) ?_
    refine arun_guard (v := (Bo ((x23.1.length : Int) == 2))) ((((((((((((((((((((((x6.2 == 4) && (x7.2 == 1)) && (x8.2 == 8)) && (x9.2 == 0)) && x24) && (x10.2 == 8)) && (x11.2 == 8)) && (x12.2 == 1)) && (x13.2 == 8)) && (x14.2 == 4)) && (x15.2 == 1)) && (x16.2 == 1)) && (x17.1 == [])) && (x17.2 == 0)) && (x18.2 == 4)) && (x19.2 == 5)) && (decide (x20.1 = (G_api_Stat.mk 0 2 0 0)))) && (x20.2 == 0)) && (x21.2 == 1)) && (x22.2 == 5)) && (x23.2 == 0)) == true) rfl rfl rfl (fun hc => ex_bin (vx := (I (x23.1.length : Int))) (vy := (I 2)) (cond_of hc) rfl eqlI_ok) ?_
    refine arun_do rfl rfl rfl (ex_pick rfl pkAnd) ?_
    refine arun_do rfl rfl rfl (ex_move (eV (v := (Bo ((((((((((((((((((((((x6.2 == 4) && (x7.2 == 1)) && (x8.2 == 8)) && (x9.2 == 0)) && x24) && (x10.2 == 8)) && (x11.2 == 8)) && (x12.2 == 1)) && (x13.2 == 8)) && (x14.2 == 4)) && (x15.2 == 1)) && (x16.2 == 1)) && (x17.1 == [])) && (x17.2 == 0)) && (x18.2 == 4)) && (x19.2 == 5)) && (decide (x20.1 = (G_api_Stat.mk 0 2 0 0)))) && (x20.2 == 0)) && (x21.2 == 1)) && (x22.2 == 5)) && (x23.2 == 0)) && ((x23.1.length : Int) == 2)))) rfl)) ?_
    refine arun_guard (v := (SL 1 cS x23.1)) (((((((((((((((((((((((x6.2 == 4) && (x7.2 == 1)) && (x8.2 == 8)) && (x9.2 == 0)) && x24) && (x10.2 == 8)) && (x11.2 == 8)) && (x12.2 == 1)) && (x13.2 == 8)) && (x14.2 == 4)) && (x15.2 == 1)) && (x16.2 == 1)) && (x17.1 == [])) && (x17.2 == 0)) && (x18.2 == 4)) && (x19.2 == 5)) && (decide (x20.1 = (G_api_Stat.mk 0 2 0 0)))) && (x20.2 == 0)) && (x21.2 == 1)) && (x22.2 == 5)) && (x23.2 == 0)) && ((x23.1.length : Int) == 2)) == true) rfl rfl rfl (fun hc => ex_move (eV (v := (SL 1 cS x23.1)) rfl)) ?_
    obtain ⟨x25, hx25, h⟩ := bindS h
    refine arun_guard (v := (DP (cS x25))) (((((((((((((((((((((((x6.2 == 4) && (x7.2 == 1)) && (x8.2 == 8)) && (x9.2 == 0)) && x24) && (x10.2 == 8)) && (x11.2 == 8)) && (x12.2 == 1)) && (x13.2 == 8)) && (x14.2 == 4)) && (x15.2 == 1)) && (x16.2 == 1)) && (x17.1 == [])) && (x17.2 == 0)) && (x18.2 == 4)) && (x19.2 == 5)) && (decide (x20.1 = (G_api_Stat.mk 0 2 0 0)))) && (x20.2 == 0)) && (x21.2 == 1)) && (x22.2 == 5)) && (x23.2 == 0)) && ((x23.1.length : Int) == 2)) == true) rfl rfl rfl (fun hc => tx_idxD (c := cS) (xs := x23.1) (i := 0) ceS Tryd.underlying45 s_9 (cond_of hc) rfl (gd_of hc hx25)) ?_
    refine arun_guard (v := (S x25)) (((((((((((((((((((((((x6.2 == 4) && (x7.2 == 1)) && (x8.2 == 8)) && (x9.2 == 0)) && x24) && (x10.2 == 8)) && (x11.2 == 8)) && (x12.2 == 1)) && (x13.2 == 8)) && (x14.2 == 4)) && (x15.2 == 1)) && (x16.2 == 1)) && (x17.1 == [])) && (x17.2 == 0)) && (x18.2 == 4)) && (x19.2 == 5)) && (decide (x20.1 = (G_api_Stat.mk 0 2 0 0)))) && (x20.2 == 0)) && (x21.2 == 1)) && (x22.2 == 5)) && (x23.2 == 0)) && ((x23.1.length : Int) == 2)) == true) rfl rfl rfl (fun hc => tx_ldD1 (v := (S x25)) Tryd.underlying9 rfl (cond_of hc) rfl) ?_
    refine arun_guard (v := (Bo (x25 == ([100] : Str)))) (((((((((((((((((((((((x6.2 == 4) && (x7.2 == 1)) && (x8.2 == 8)) && (x9.2 == 0)) && x24) && (x10.2 == 8)) && (x11.2 == 8)) && (x12.2 == 1)) && (x13.2 == 8)) && (x14.2 == 4)) && (x15.2 == 1)) && (x16.2 == 1)) && (x17.1 == [])) && (x17.2 == 0)) && (x18.2 == 4)) && (x19.2 == 5)) && (decide (x20.1 = (G_api_Stat.mk 0 2 0 0)))) && (x20.2 == 0)) && (x21.2 == 1)) && (x22.2 == 5)) && (x23.2 == 0)) && ((x23.1.length : Int) == 2)) == true) rfl rfl rfl (fun hc => ex_bin (vx := (S x25)) (vy := (S ([100] : Str))) (cond_of hc) rfl eqlS_ok) ?_
    refine arun_do rfl rfl rfl (ex_pick rfl pkAnd) ?_
    refine arun_do rfl rfl rfl (ex_assign (eV (v := (Bo (((((((((((((((((((((((x6.2 == 4) && (x7.2 == 1)) && (x8.2 == 8)) && (x9.2 == 0)) && x24) && (x10.2 == 8)) && (x11.2 == 8)) && (x12.2 == 1)) && (x13.2 == 8)) && (x14.2 == 4)) && (x15.2 == 1)) && (x16.2 == 1)) && (x17.1 == [])) && (x17.2 == 0)) && (x18.2 == 4)) && (x19.2 == 5)) && (decide (x20.1 = (G_api_Stat.mk 0 2 0 0)))) && (x20.2 == 0)) && (x21.2 == 1)) && (x22.2 == 5)) && (x23.2 == 0)) && ((x23.1.length : Int) == 2)) && (x25 == ([100] : Str))))) rfl)) ?_
    refine arun_keepE [0] 0 0 (st' := ⟨236, 0, [(0, (Bo (((((((((((((((((((((((x6.2 == 4) && (x7.2 == 1)) && (x8.2 == 8)) && (x9.2 == 0)) && x24) && (x10.2 == 8)) && (x11.2 == 8)) && (x12.2 == 1)) && (x13.2 == 8)) && (x14.2 == 4)) && (x15.2 == 1)) && (x16.2 == 1)) && (x17.1 == [])) && (x17.2 == 0)) && (x18.2 == 4)) && (x19.2 == 5)) && (decide (x20.1 = (G_api_Stat.mk 0 2 0 0)))) && (x20.2 == 0)) && (x21.2 == 1)) && (x22.2 == 5)) && (x23.2 == 0)) && ((x23.1.length : Int) == 2)) && (x25 == ([100] : Str)))))], [], ⟨0, []⟩⟩) (by kernel_rfl) (by kernel_rfl) ?_
    show AWp _ _ _ _
    refine awp_ret ?_
    cases h
    exact ares1 (rtmp rfl (eV rfl))

end Go.Proofs
