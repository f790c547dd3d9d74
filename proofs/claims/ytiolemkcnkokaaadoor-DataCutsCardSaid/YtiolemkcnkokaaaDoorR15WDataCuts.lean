/- Pure models of functions of the program, and that its code does what they say: palimplaw15 DataCuts. Written by a program. -/
import Derived.Test.YtiolemkcnkokaaaDoorR150
import Derived.Test.YtiolemkcnkokaaaDoorR1510
import Derived.Test.YtiolemkcnkokaaaDoorR1511
import Derived.Test.YtiolemkcnkokaaaDoorR152
import Derived.Test.YtiolemkcnkokaaaDoorR158
import Derived.Test.YtiolemkcnkokaaaDoorR159
import Derived.Test.YtiolemkcnkokaaaDoorR15B
set_option maxRecDepth 20000
set_option maxHeartbeats 4000000
namespace Go.Proofs
open Go Go.Fhl
set_option linter.unusedVariables false
set_option linter.unusedSimpArgs false
noncomputable def M_law15_DataCuts_l1 (t0 : Str) (x7 : Int) (x8 : Int) (x10 : ((List G_api_Node) × Int)) (x11 : ((List G_api_Node) × Int)) (x12 : (Str × Int)) : Nat → Int → Option Bool
  | 0, _ => none
  | n1 + 1, v14 =>
  cond (decide (v14 < x8)) (Option.bind (gd ((decide (v14 < (min x7 (t0.length : Int)))) == true) (getI x12.1 v14)) fun (x16 : UInt8) => Option.bind (gd ((decide (v14 < (min x7 (t0.length : Int)))) == true) (getI t0 v14)) fun (x17 : UInt8) => Option.bind (gd ((((decide (v14 < (min x7 (t0.length : Int)))) && (x16 != x17)) == false) && ((decide (v14 ≥ (min x7 (t0.length : Int)))) == true)) (getI x12.1 v14)) fun (x18 : UInt8) => cond (((decide (v14 < (min x7 (t0.length : Int)))) && (x16 != x17)) || ((decide (v14 ≥ (min x7 (t0.length : Int)))) && (x18 != 0))) (some false) ((M_law15_DataCuts_l1 t0 x7 x8 x10 x11 x12 n1) (w64 (v14 + 1)))) (Option.bind (M_data_Stat x10.1 ([102] : Str)) fun (x20 : (G_api_Stat × Int)) => Option.bind (M_data_Stat x11.1 ([102] : Str)) fun (x21 : (G_api_Stat × Int)) => Option.bind (gd (((((x20.1.Size == x8) && (decide (x20.1.Held ≤ x21.1.Held))) && (decide ((w64 (x20.1.Held * 32)) < (w64 ((min (min x7 x8) (t0.length : Int)) + 32))))) == true) && ((decide (x8 > x7)) == false)) (M_ref11_Same x10.1 x11.1)) fun (x22 : Bool) => some ((((x20.1.Size == x8) && (decide (x20.1.Held ≤ x21.1.Held))) && (decide ((w64 (x20.1.Held * 32)) < (w64 ((min (min x7 x8) (t0.length : Int)) + 32))))) && ((decide (x8 > x7)) || x22)))
noncomputable def M_law15_DataCuts (t0 : Str) (t1 : UInt8) (t2 : UInt8) : Option Bool :=
  Option.bind (M_law15_begun) fun (x1 : Bool) => cond (!x1) (some false) (cond (decide ((t0.length : Int) > 128)) (some true) (Option.bind (M_ref11_New) fun (x4 : (List G_api_Node)) => Option.bind (M_ref11_Make x4 ([102] : Str) 1) fun (x5 : ((List G_api_Node) × Int)) => Option.bind (M_ref11_Write x5.1 ([102] : Str) 0 t0) fun (x6 : ((List G_api_Node) × Int)) => Option.bind (remI (t1.toNat : Int) 129) fun (x7 : Int) => Option.bind (remI (t2.toNat : Int) 129) fun (x8 : Int) => Option.bind (M_data_Cut x6.1 ([102] : Str) x7) fun (x9 : ((List G_api_Node) × Int)) => Option.bind (M_data_Cut x9.1 ([102] : Str) x8) fun (x10 : ((List G_api_Node) × Int)) => Option.bind (M_data_Cut x6.1 ([102] : Str) x8) fun (x11 : ((List G_api_Node) × Int)) => Option.bind (M_data_Read x10.1 ([102] : Str) 0 128) fun (x12 : (Str × Int)) => cond (((((x9.2 != 0) || (x10.2 != 0)) || (x11.2 != 0)) || (x12.2 != 0)) || ((x12.1.length : Int) != x8)) (some false) (M_law15_DataCuts_l1 t0 x7 x8 x10 x11 x12 fuel 0)))
theorem ok_law15_DataCuts (t0 : Str) (t1 : UInt8) (t2 : UInt8) (r : Bool) (h : M_law15_DataCuts t0 t1 t2 = some r) : FFn Tryd.prog 8 [(S t0), (U8 t1), (U8 t2)] (Bo r) := by
  refine FFn.of_body (n := 165) Tryd.func8 rfl Tryd.ntmps8 rfl rfl rfl rfl ?_
  show AWp _ _ _ ⟨165, 0, [(0, (S t0)), (1, (U8 t1)), (2, (U8 t2))], [], ⟨0, []⟩⟩
  unfold M_law15_DataCuts at h
  refine awp_seq ?_
  refine awp_region ?_
  refine arun_do rfl rfl rfl (ex_assign (eV (v := (Bo false)) rfl)) ?_
  refine arun_keepE [0, 1, 2] 0 0 (st' := ⟨165, 0, [(0, (S t0)), (1, (U8 t1)), (2, (U8 t2))], [], ⟨0, []⟩⟩) (by kernel_rfl) (by kernel_rfl) ?_
  show AWp _ _ _ _
  refine awp_seq ?_
  refine awp_seq ?_
  refine awp_region ?_
  obtain ⟨x1, hx1, h⟩ := bindS h
  refine arun_do rfl rfl rfl (ex_call0 (vs := []) (v := (Bo x1)) rfl en_9 (cargs evs_nil) rfl (ok_law15_begun  x1 hx1) rfl) ?_
  refine arun_do rfl rfl rfl (ex_un (vx := (Bo x1)) rfl notB_ok) ?_
  refine arun_keepE [0, 1, 2, 24] 0 0 (st' := ⟨165, 0, [(0, (S t0)), (1, (U8 t1)), (2, (U8 t2)), (24, (Bo (!x1)))], [], ⟨0, []⟩⟩) (by kernel_rfl) (by kernel_rfl) ?_
  show AWp _ _ _ _
  rcases Bool.eq_false_or_eq_true (!x1) with hb2 | hb2
  · rw [condT hb2] at h
    refine awp_condT (boT hb2) ?_
    refine awp_seq ?_
    refine awp_region ?_
    refine arun_do rfl rfl rfl (ex_assign (eV (v := (Bo false)) rfl)) ?_
    refine arun_keepE [6] 0 0 (st' := ⟨165, 0, [(6, (Bo false))], [], ⟨0, []⟩⟩) (by kernel_rfl) (by kernel_rfl) ?_
    show AWp _ _ _ _
    refine awp_ret ?_
    cases h
    exact ares1 (rtmp rfl (eV rfl))
  · rw [condF hb2] at h
    refine awp_condF (boF hb2) ?_
    refine awp_skip ?_
    show AWp _ _ _ _
    refine awp_seq ?_
    refine awp_seq ?_
    refine awp_region ?_
    refine arun_do rfl rfl rfl (ex_move (eV (v := (S t0)) rfl)) ?_
    refine arun_do rfl rfl rfl (tx_lenS Tryd.underlying9 rfl) ?_
    refine arun_do rfl rfl rfl (ex_bin (vx := (I (t0.length : Int))) (vy := (I 128)) rfl rfl gtrI_ok) ?_
    refine arun_keepE [0, 1, 2, 27] 0 0 (st' := ⟨165, 0, [(0, (S t0)), (1, (U8 t1)), (2, (U8 t2)), (27, (Bo (decide ((t0.length : Int) > 128))))], [], ⟨0, []⟩⟩) (by kernel_rfl) (by kernel_rfl) ?_
    show AWp _ _ _ _
    rcases Bool.eq_false_or_eq_true (decide ((t0.length : Int) > 128)) with hb3 | hb3
    · rw [condT hb3] at h
      refine awp_condT (boT hb3) ?_
      refine awp_seq ?_
      refine awp_region ?_
      refine arun_do rfl rfl rfl (ex_assign (eV (v := (Bo true)) rfl)) ?_
      refine arun_keepE [6] 0 0 (st' := ⟨165, 0, [(6, (Bo true))], [], ⟨0, []⟩⟩) (by kernel_rfl) (by kernel_rfl) ?_
      show AWp _ _ _ _
      refine awp_ret ?_
      cases h
      exact ares1 (rtmp rfl (eV rfl))
    · rw [condF hb3] at h
      refine awp_condF (boF hb3) ?_
      refine awp_skip ?_
      show AWp _ _ _ _
      refine awp_seq ?_
      refine awp_region ?_
      obtain ⟨x4, hx4, h⟩ := bindS h
      refine arun_do rfl rfl rfl (ex_call0 (vs := []) (v := (SL 5 c_api_Node x4)) rfl en_11 (cargs evs_nil) rfl (ok_ref11_New  x4 hx4) rfl) ?_
      obtain ⟨x5, hx5, h⟩ := bindS h
      refine arun_do rfl rfl rfl (ex_call0 (vs := [(SL 5 c_api_Node x4), (S ([102] : Str)), (I 1)]) (v := (Value.tuple #[(SL 5 c_api_Node x5.1), (I x5.2)])) rfl en_10 (cargs (evs rfl (evs rfl (evs rfl evs_nil)))) rfl (ok_ref11_Make x4 ([102] : Str) 1 x5 hx5) rfl) ?_
      refine arun_do rfl rfl rfl (ex_move (eV (v := (Value.tuple #[(SL 5 c_api_Node x5.1), (I x5.2)])) rfl)) ?_
      refine arun_do rfl rfl rfl (ex_extract (vx := (Value.tuple #[(SL 5 c_api_Node x5.1), (I x5.2)])) (v := (SL 5 c_api_Node x5.1)) rfl rfl) ?_
      refine arun_do rfl rfl rfl (ex_extract (vx := (Value.tuple #[(SL 5 c_api_Node x5.1), (I x5.2)])) (v := (I x5.2)) rfl rfl) ?_
      refine arun_do rfl rfl rfl (ex_assign (eV (v := (SL 5 c_api_Node x5.1)) rfl)) ?_
      refine arun_do rfl rfl rfl (ex_assign (eV (v := (I x5.2)) rfl)) ?_
      refine arun_keepE [0, 1, 2, 7] 0 0 (st' := ⟨165, 0, [(0, (S t0)), (1, (U8 t1)), (2, (U8 t2)), (7, (SL 5 c_api_Node x5.1))], [], ⟨0, []⟩⟩) (by kernel_rfl) (by kernel_rfl) ?_
      show AWp _ _ _ _
      refine awp_seq ?_
      refine awp_region ?_
      refine arun_do rfl rfl rfl (ex_move (eV (v := (SL 5 c_api_Node x5.1)) rfl)) ?_
      refine arun_do rfl rfl rfl (ex_move (eV (v := (S t0)) rfl)) ?_
      obtain ⟨x6, hx6, h⟩ := bindS h
      refine arun_do rfl rfl rfl (ex_call0 (vs := [(SL 5 c_api_Node x5.1), (S ([102] : Str)), (I 0), (S t0)]) (v := (Value.tuple #[(SL 5 c_api_Node x6.1), (I x6.2)])) rfl en_18 (cargs (evs rfl (evs rfl (evs rfl (evs rfl evs_nil))))) rfl (ok_ref11_Write x5.1 ([102] : Str) 0 t0 x6 hx6) rfl) ?_
      refine arun_do rfl rfl rfl (ex_move (eV (v := (Value.tuple #[(SL 5 c_api_Node x6.1), (I x6.2)])) rfl)) ?_
      refine arun_do rfl rfl rfl (ex_extract (vx := (Value.tuple #[(SL 5 c_api_Node x6.1), (I x6.2)])) (v := (SL 5 c_api_Node x6.1)) rfl rfl) ?_
      refine arun_do rfl rfl rfl (ex_extract (vx := (Value.tuple #[(SL 5 c_api_Node x6.1), (I x6.2)])) (v := (I x6.2)) rfl rfl) ?_
      refine arun_do rfl rfl rfl (ex_assign (eV (v := (SL 5 c_api_Node x6.1)) rfl)) ?_
      refine arun_keepE [0, 1, 2, 7] 0 0 (st' := ⟨165, 0, [(0, (S t0)), (1, (U8 t1)), (2, (U8 t2)), (7, (SL 5 c_api_Node x6.1))], [], ⟨0, []⟩⟩) (by kernel_rfl) (by kernel_rfl) ?_
      show AWp _ _ _ _
      refine awp_seq ?_
      refine awp_region ?_
      refine arun_do rfl rfl rfl (ex_move (eV (v := (U8 t1)) rfl)) ?_
      refine arun_do rfl rfl rfl (tx_8_64 Tryd.underlying5 Tryd.underlying3 rfl) ?_
      obtain ⟨x7, hx7, h⟩ := bindS h
      refine arun_do rfl rfl rfl (ex_bin (vx := (I (t1.toNat : Int))) (vy := (I 129)) rfl rfl (remI_ok hx7)) ?_
      refine arun_do rfl rfl rfl (ex_move (eV (v := (U8 t2)) rfl)) ?_
      refine arun_do rfl rfl rfl (tx_8_64 Tryd.underlying5 Tryd.underlying3 rfl) ?_
      obtain ⟨x8, hx8, h⟩ := bindS h
      refine arun_do rfl rfl rfl (ex_bin (vx := (I (t2.toNat : Int))) (vy := (I 129)) rfl rfl (remI_ok hx8)) ?_
      refine arun_do rfl rfl rfl (ex_assign (eV (v := (I x7)) rfl)) ?_
      refine arun_do rfl rfl rfl (ex_assign (eV (v := (I x8)) rfl)) ?_
      refine arun_keepE [0, 7, 9, 10] 0 0 (st' := ⟨165, 0, [(0, (S t0)), (7, (SL 5 c_api_Node x6.1)), (9, (I x7)), (10, (I x8))], [], ⟨0, []⟩⟩) (by kernel_rfl) (by kernel_rfl) ?_
      show AWp _ _ _ _
      refine awp_seq ?_
      refine awp_region ?_
      refine arun_do rfl rfl rfl (ex_move (eV (v := (SL 5 c_api_Node x6.1)) rfl)) ?_
      refine arun_do rfl rfl rfl (ex_move (eV (v := (I x7)) rfl)) ?_
      obtain ⟨x9, hx9, h⟩ := bindS h
      refine arun_do rfl rfl rfl (ex_call0 (vs := [(SL 5 c_api_Node x6.1), (S ([102] : Str)), (I x7)]) (v := (Value.tuple #[(SL 5 c_api_Node x9.1), (I x9.2)])) rfl en_14 (cargs (evs rfl (evs rfl (evs rfl evs_nil)))) rfl (ok_data_Cut x6.1 ([102] : Str) x7 x9 hx9) rfl) ?_
      refine arun_do rfl rfl rfl (ex_move (eV (v := (Value.tuple #[(SL 5 c_api_Node x9.1), (I x9.2)])) rfl)) ?_
      refine arun_do rfl rfl rfl (ex_extract (vx := (Value.tuple #[(SL 5 c_api_Node x9.1), (I x9.2)])) (v := (SL 5 c_api_Node x9.1)) rfl rfl) ?_
      refine arun_do rfl rfl rfl (ex_extract (vx := (Value.tuple #[(SL 5 c_api_Node x9.1), (I x9.2)])) (v := (I x9.2)) rfl rfl) ?_
      refine arun_do rfl rfl rfl (ex_assign (eV (v := (SL 5 c_api_Node x9.1)) rfl)) ?_
      refine arun_do rfl rfl rfl (ex_assign (eV (v := (I x9.2)) rfl)) ?_
      refine arun_keepE [0, 7, 9, 10, 11, 12] 0 0 (st' := ⟨165, 0, [(0, (S t0)), (7, (SL 5 c_api_Node x6.1)), (9, (I x7)), (10, (I x8)), (11, (SL 5 c_api_Node x9.1)), (12, (I x9.2))], [], ⟨0, []⟩⟩) (by kernel_rfl) (by kernel_rfl) ?_
      show AWp _ _ _ _
      refine awp_seq ?_
      refine awp_region ?_
      refine arun_do rfl rfl rfl (ex_move (eV (v := (SL 5 c_api_Node x9.1)) rfl)) ?_
      refine arun_do rfl rfl rfl (ex_move (eV (v := (I x8)) rfl)) ?_
      obtain ⟨x10, hx10, h⟩ := bindS h
      refine arun_do rfl rfl rfl (ex_call0 (vs := [(SL 5 c_api_Node x9.1), (S ([102] : Str)), (I x8)]) (v := (Value.tuple #[(SL 5 c_api_Node x10.1), (I x10.2)])) rfl en_14 (cargs (evs rfl (evs rfl (evs rfl evs_nil)))) rfl (ok_data_Cut x9.1 ([102] : Str) x8 x10 hx10) rfl) ?_
      refine arun_do rfl rfl rfl (ex_move (eV (v := (Value.tuple #[(SL 5 c_api_Node x10.1), (I x10.2)])) rfl)) ?_
      refine arun_do rfl rfl rfl (ex_extract (vx := (Value.tuple #[(SL 5 c_api_Node x10.1), (I x10.2)])) (v := (SL 5 c_api_Node x10.1)) rfl rfl) ?_
      refine arun_do rfl rfl rfl (ex_extract (vx := (Value.tuple #[(SL 5 c_api_Node x10.1), (I x10.2)])) (v := (I x10.2)) rfl rfl) ?_
      refine arun_do rfl rfl rfl (ex_assign (eV (v := (SL 5 c_api_Node x10.1)) rfl)) ?_
      refine arun_do rfl rfl rfl (ex_assign (eV (v := (I x10.2)) rfl)) ?_
      refine arun_keepE [0, 7, 9, 10, 11, 12, 13] 0 0 (st' := ⟨165, 0, [(0, (S t0)), (7, (SL 5 c_api_Node x6.1)), (9, (I x7)), (10, (I x8)), (11, (SL 5 c_api_Node x10.1)), (12, (I x9.2)), (13, (I x10.2))], [], ⟨0, []⟩⟩) (by kernel_rfl) (by kernel_rfl) ?_
      show AWp _ _ _ _
      refine awp_seq ?_
      refine awp_region ?_
      refine arun_do rfl rfl rfl (ex_move (eV (v := (SL 5 c_api_Node x6.1)) rfl)) ?_
      refine arun_do rfl rfl rfl (ex_move (eV (v := (I x8)) rfl)) ?_
      obtain ⟨x11, hx11, h⟩ := bindS h
      refine arun_do rfl rfl rfl (ex_call0 (vs := [(SL 5 c_api_Node x6.1), (S ([102] : Str)), (I x8)]) (v := (Value.tuple #[(SL 5 c_api_Node x11.1), (I x11.2)])) rfl en_14 (cargs (evs rfl (evs rfl (evs rfl evs_nil)))) rfl (ok_data_Cut x6.1 ([102] : Str) x8 x11 hx11) rfl) ?_
      refine arun_do rfl rfl rfl (ex_move (eV (v := (Value.tuple #[(SL 5 c_api_Node x11.1), (I x11.2)])) rfl)) ?_
      refine arun_do rfl rfl rfl (ex_extract (vx := (Value.tuple #[(SL 5 c_api_Node x11.1), (I x11.2)])) (v := (SL 5 c_api_Node x11.1)) rfl rfl) ?_
      refine arun_do rfl rfl rfl (ex_extract (vx := (Value.tuple #[(SL 5 c_api_Node x11.1), (I x11.2)])) (v := (I x11.2)) rfl rfl) ?_
      refine arun_do rfl rfl rfl (ex_assign (eV (v := (SL 5 c_api_Node x11.1)) rfl)) ?_
      refine arun_do rfl rfl rfl (ex_assign (eV (v := (I x11.2)) rfl)) ?_
      refine arun_keepE [0, 9, 10, 11, 12, 13, 14, 15] 0 0 (st' := ⟨165, 0, [(0, (S t0)), (9, (I x7)), (10, (I x8)), (11, (SL 5 c_api_Node x10.1)), (12, (I x9.2)), (13, (I x10.2)), (14, (SL 5 c_api_Node x11.1)), (15, (I x11.2))], [], ⟨0, []⟩⟩) (by kernel_rfl) (by kernel_rfl) ?_
      show AWp _ _ _ _
      refine awp_seq ?_
      refine awp_region ?_
      refine arun_do rfl rfl rfl (ex_move (eV (v := (SL 5 c_api_Node x10.1)) rfl)) ?_
      obtain ⟨x12, hx12, h⟩ := bindS h
      refine arun_do rfl rfl rfl (ex_call0 (vs := [(SL 5 c_api_Node x10.1), (S ([102] : Str)), (I 0), (I 128)]) (v := (Value.tuple #[(S x12.1), (I x12.2)])) rfl en_15 (cargs (evs rfl (evs rfl (evs rfl (evs rfl evs_nil))))) rfl (ok_data_Read x10.1 ([102] : Str) 0 128 x12 hx12) rfl) ?_
      refine arun_do rfl rfl rfl (ex_move (eV (v := (Value.tuple #[(S x12.1), (I x12.2)])) rfl)) ?_
      refine arun_do rfl rfl rfl (ex_extract (vx := (Value.tuple #[(S x12.1), (I x12.2)])) (v := (S x12.1)) rfl rfl) ?_
      refine arun_do rfl rfl rfl (ex_extract (vx := (Value.tuple #[(S x12.1), (I x12.2)])) (v := (I x12.2)) rfl rfl) ?_
      refine arun_do rfl rfl rfl (ex_assign (eV (v := (S x12.1)) rfl)) ?_
      refine arun_do rfl rfl rfl (ex_assign (eV (v := (I x12.2)) rfl)) ?_
      refine arun_keepE [0, 9, 10, 11, 12, 13, 14, 15, 16, 17] 0 0 (st' := ⟨165, 0, [(0, (S t0)), (9, (I x7)), (10, (I x8)), (11, (SL 5 c_api_Node x10.1)), (12, (I x9.2)), (13, (I x10.2)), (14, (SL 5 c_api_Node x11.1)), (15, (I x11.2)), (16, (S x12.1)), (17, (I x12.2))], [], ⟨0, []⟩⟩) (by kernel_rfl) (by kernel_rfl) ?_
      show AWp _ _ _ _
      refine awp_seq ?_
      refine awp_seq ?_
      refine awp_region ?_
      refine arun_do rfl rfl rfl (ex_move (eV (v := (I x9.2)) rfl)) ?_
      refine arun_do rfl rfl rfl (ex_bin (vx := (I x9.2)) (vy := (I 0)) rfl rfl neqI_ok) ?_
      refine arun_do rfl rfl rfl (ex_move (eV (v := (Bo (x9.2 != 0))) rfl)) ?_
      refine arun_guard (v := (I x10.2)) ((x9.2 != 0) == false) rfl rfl rfl (fun hc => ex_move (eV (v := (I x10.2)) rfl)) ?_
      refine arun_guard (v := (Bo (x10.2 != 0))) ((x9.2 != 0) == false) rfl rfl rfl (fun hc => ex_bin (vx := (I x10.2)) (vy := (I 0)) (cond_of hc) rfl neqI_ok) ?_
      refine arun_do rfl rfl rfl (ex_pick rfl pkOr) ?_
      refine arun_do rfl rfl rfl (ex_move (eV (v := (Bo ((x9.2 != 0) || (x10.2 != 0)))) rfl)) ?_
      refine arun_guard (v := (I x11.2)) (((x9.2 != 0) || (x10.2 != 0)) == false) rfl rfl rfl (fun hc => ex_move (eV (v := (I x11.2)) rfl)) ?_
      refine arun_guard (v := (Bo (x11.2 != 0))) (((x9.2 != 0) || (x10.2 != 0)) == false) rfl rfl rfl (fun hc => ex_bin (vx := (I x11.2)) (vy := (I 0)) (cond_of hc) rfl neqI_ok) ?_
      refine arun_do rfl rfl rfl (ex_pick rfl pkOr) ?_
      refine arun_do rfl rfl rfl (ex_move (eV (v := (Bo (((x9.2 != 0) || (x10.2 != 0)) || (x11.2 != 0)))) rfl)) ?_
      refine arun_guard (v := (I x12.2)) ((((x9.2 != 0) || (x10.2 != 0)) || (x11.2 != 0)) == false) rfl rfl rfl (fun hc => ex_move (eV (v := (I x12.2)) rfl)) ?_
      refine arun_guard (v := (Bo (x12.2 != 0))) ((((x9.2 != 0) || (x10.2 != 0)) || (x11.2 != 0)) == false) rfl rfl rfl (fun hc => ex_bin (vx := (I x12.2)) (vy := (I 0)) (cond_of hc) rfl neqI_ok) ?_
      refine arun_do rfl rfl rfl (ex_pick rfl pkOr) ?_
      refine arun_do rfl rfl rfl (ex_move (eV (v := (Bo ((((x9.2 != 0) || (x10.2 != 0)) || (x11.2 != 0)) || (x12.2 != 0)))) rfl)) ?_
      refine arun_guard (v := (S x12.1)) (((((x9.2 != 0) || (x10.2 != 0)) || (x11.2 != 0)) || (x12.2 != 0)) == false) rfl rfl rfl (fun hc => ex_move (eV (v := (S x12.1)) rfl)) ?_
      refine arun_guard (v := (I (x12.1.length : Int))) (((((x9.2 != 0) || (x10.2 != 0)) || (x11.2 != 0)) || (x12.2 != 0)) == false) rfl rfl rfl (fun hc => tx_lenS Tryd.underlying9 (cond_of hc)) ?_
      refine arun_guard (v := (I x8)) (((((x9.2 != 0) || (x10.2 != 0)) || (x11.2 != 0)) || (x12.2 != 0)) == false) rfl rfl rfl (fun hc => ex_move (eV (v := (I x8)) rfl)) ?_
      refine arun_guard (v := (Bo ((x12.1.length : Int) != x8))) (((((x9.2 != 0) || (x10.2 != 0)) || (x11.2 != 0)) || (x12.2 != 0)) == false) rfl rfl rfl (fun hc => ex_bin (vx := (I (x12.1.length : Int))) (vy := (I x8)) (cond_of hc) (cond_of hc) neqI_ok) ?_
      refine arun_do rfl rfl rfl (ex_pick rfl pkOr) ?_
      refine arun_keepE [0, 9, 10, 11, 14, 16, 87] 0 0 (st' := ⟨165, 0, [(0, (S t0)), (9, (I x7)), (10, (I x8)), (11, (SL 5 c_api_Node x10.1)), (14, (SL 5 c_api_Node x11.1)), (16, (S x12.1)), (87, (Bo (((((x9.2 != 0) || (x10.2 != 0)) || (x11.2 != 0)) || (x12.2 != 0)) || ((x12.1.length : Int) != x8))))], [], ⟨0, []⟩⟩) (by kernel_rfl) (by kernel_rfl) ?_
      show AWp _ _ _ _
      rcases Bool.eq_false_or_eq_true (((((x9.2 != 0) || (x10.2 != 0)) || (x11.2 != 0)) || (x12.2 != 0)) || ((x12.1.length : Int) != x8)) with hb13 | hb13
      · rw [condT hb13] at h
        refine awp_condT (boT hb13) ?_
        refine awp_seq ?_
        refine awp_region ?_
        refine arun_do rfl rfl rfl (ex_assign (eV (v := (Bo false)) rfl)) ?_
        refine arun_keepE [6] 0 0 (st' := ⟨165, 0, [(6, (Bo false))], [], ⟨0, []⟩⟩) (by kernel_rfl) (by kernel_rfl) ?_
        show AWp _ _ _ _
        refine awp_ret ?_
        cases h
        exact ares1 (rtmp rfl (eV rfl))
      · rw [condF hb13] at h
        refine awp_condF (boF hb13) ?_
        refine awp_skip ?_
        show AWp _ _ _ _
        refine awp_seq ?_
        refine awp_seq ?_
        refine awp_region ?_
        refine arun_do rfl rfl rfl (ex_assign (eV (v := (I 0)) rfl)) ?_
        refine arun_keepE [0, 9, 10, 11, 14, 16, 18] 0 0 (st' := ⟨165, 0, [(0, (S t0)), (9, (I x7)), (10, (I x8)), (11, (SL 5 c_api_Node x10.1)), (14, (SL 5 c_api_Node x11.1)), (16, (S x12.1)), (18, (I 0))], [], ⟨0, []⟩⟩) (by kernel_rfl) (by kernel_rfl) ?_
        show AWp _ _ _ _
        refine awp_block ?_
        refine awp_loop (fun n s => ∃ (v14 : Int), s = ⟨165, 0, [(0, (S t0)), (9, (I x7)), (10, (I x8)), (11, (SL 5 c_api_Node x10.1)), (14, (SL 5 c_api_Node x11.1)), (16, (S x12.1)), (18, (I v14))], [], ⟨0, []⟩⟩ ∧ M_law15_DataCuts_l1 t0 x7 x8 x10 x11 x12 n v14 = some r) fuel (Exists.intro 0 (And.intro rfl h)) ?_
        rintro n s ⟨v14, rfl, h⟩ -
        cases n with
        | zero => cases h
        | succ n1 =>
          unfold M_law15_DataCuts_l1 at h
          refine awp_seq ?_
          refine awp_seq ?_
          refine awp_region ?_
          refine arun_do rfl rfl rfl (ex_move (eV (v := (I v14)) rfl)) ?_
          refine arun_do rfl rfl rfl (ex_move (eV (v := (I x8)) rfl)) ?_
          refine arun_do rfl rfl rfl (ex_bin (vx := (I v14)) (vy := (I x8)) rfl rfl lssI_ok) ?_
          refine arun_keepE [0, 9, 10, 11, 14, 16, 18, 90] 0 0 (st' := ⟨165, 0, [(0, (S t0)), (9, (I x7)), (10, (I x8)), (11, (SL 5 c_api_Node x10.1)), (14, (SL 5 c_api_Node x11.1)), (16, (S x12.1)), (18, (I v14)), (90, (Bo (decide (v14 < x8))))], [], ⟨0, []⟩⟩) (by kernel_rfl) (by kernel_rfl) ?_
          show AWp _ _ _ _
          rcases Bool.eq_false_or_eq_true (decide (v14 < x8)) with hb15 | hb15
          · rw [condT hb15] at h
            refine awp_condT (boT hb15) ?_
            refine awp_skip ?_
            show AWp _ _ _ _
            refine awp_seq ?_
            refine awp_block ?_
            refine awp_seq ?_
            obtain ⟨x16, hx16, h⟩ := bindS h
            obtain ⟨x17, hx17, h⟩ := bindS h
            obtain ⟨x18, hx18, h⟩ := bindS h
            refine awp_kn [0, 9, 10, 11, 14, 16, 18, 121] 0 0 (st' := ⟨165, 0, [(0, (S t0)), (9, (I x7)), (10, (I x8)), (11, (SL 5 c_api_Node x10.1)), (14, (SL 5 c_api_Node x11.1)), (16, (S x12.1)), (18, (I v14)), (121, (Bo (((decide (v14 < (min x7 (t0.length : Int)))) && (x16 != x17)) || ((decide (v14 ≥ (min x7 (t0.length : Int)))) && (x18 != 0)))))], [], ⟨0, []⟩⟩) (awp_draw (T := [(I v14), (I x7), (S t0), (I (t0.length : Int)), (I (min x7 (t0.length : Int))), (Bo (decide (v14 < (min x7 (t0.length : Int))))), (Bo (decide (v14 < (min x7 (t0.length : Int))))), (cond ((decide (v14 < (min x7 (t0.length : Int)))) == true) (S x12.1) skipV), (cond ((decide (v14 < (min x7 (t0.length : Int)))) == true) (I v14) skipV), (cond ((decide (v14 < (min x7 (t0.length : Int)))) == true) (U8 x16) skipV), (cond ((decide (v14 < (min x7 (t0.length : Int)))) == true) (S t0) skipV), (cond ((decide (v14 < (min x7 (t0.length : Int)))) == true) (I v14) skipV), (cond ((decide (v14 < (min x7 (t0.length : Int)))) == true) (U8 x17) skipV), (cond ((decide (v14 < (min x7 (t0.length : Int)))) == true) (Bo (x16 != x17)) skipV), (Bo ((decide (v14 < (min x7 (t0.length : Int)))) && (x16 != x17))), (Bo ((decide (v14 < (min x7 (t0.length : Int)))) && (x16 != x17))), (cond (((decide (v14 < (min x7 (t0.length : Int)))) && (x16 != x17)) == false) (I v14) skipV), (cond (((decide (v14 < (min x7 (t0.length : Int)))) && (x16 != x17)) == false) (I x7) skipV), (cond (((decide (v14 < (min x7 (t0.length : Int)))) && (x16 != x17)) == false) (S t0) skipV), (cond (((decide (v14 < (min x7 (t0.length : Int)))) && (x16 != x17)) == false) (I (t0.length : Int)) skipV), (cond (((decide (v14 < (min x7 (t0.length : Int)))) && (x16 != x17)) == false) (I (min x7 (t0.length : Int))) skipV), (cond (((decide (v14 < (min x7 (t0.length : Int)))) && (x16 != x17)) == false) (Bo (decide (v14 ≥ (min x7 (t0.length : Int))))) skipV), (cond (((decide (v14 < (min x7 (t0.length : Int)))) && (x16 != x17)) == false) (Bo (decide (v14 ≥ (min x7 (t0.length : Int))))) skipV), (cond ((((decide (v14 < (min x7 (t0.length : Int)))) && (x16 != x17)) == false) && ((decide (v14 ≥ (min x7 (t0.length : Int)))) == true)) (S x12.1) skipV), (cond ((((decide (v14 < (min x7 (t0.length : Int)))) && (x16 != x17)) == false) && ((decide (v14 ≥ (min x7 (t0.length : Int)))) == true)) (I v14) skipV), (cond ((((decide (v14 < (min x7 (t0.length : Int)))) && (x16 != x17)) == false) && ((decide (v14 ≥ (min x7 (t0.length : Int)))) == true)) (U8 x18) skipV), (cond ((((decide (v14 < (min x7 (t0.length : Int)))) && (x16 != x17)) == false) && ((decide (v14 ≥ (min x7 (t0.length : Int)))) == true)) (Bo (x18 != 0)) skipV), (cond (((decide (v14 < (min x7 (t0.length : Int)))) && (x16 != x17)) == false) (Bo ((decide (v14 ≥ (min x7 (t0.length : Int)))) && (x18 != 0))) skipV), (Bo (((decide (v14 < (min x7 (t0.length : Int)))) && (x16 != x17)) || ((decide (v14 ≥ (min x7 (t0.length : Int)))) && (x18 != 0))))]) (LH := [([], ⟨0, []⟩)]) (D := [⟨[(18, none)], [], [0], false⟩, ⟨[(9, none)], [], [0], false⟩, ⟨[(0, none)], [], [0], false⟩, ⟨[(95, some 2)], [2], [0], false⟩, ⟨[(94, some 1), (96, some 3)], [1, 2, 3], [0], false⟩, ⟨[(93, some 0), (97, some 4)], [0, 1, 2, 3, 4], [0], false⟩, ⟨[(98, some 5)], [0, 1, 2, 3, 4, 5], [0], false⟩, ⟨[(16, none), (99, some 6)], [0, 1, 2, 3, 4, 5, 6], [0], false⟩, ⟨[(18, none), (99, some 6)], [0, 1, 2, 3, 4, 5, 6], [0], false⟩, ⟨[(100, some 7), (101, some 8), (99, some 6)], [0, 1, 2, 3, 4, 5, 6, 7, 8], [0], false⟩, ⟨[(0, none), (99, some 6)], [0, 1, 2, 3, 4, 5, 6], [0], false⟩, ⟨[(18, none), (99, some 6)], [0, 1, 2, 3, 4, 5, 6], [0], false⟩, ⟨[(103, some 10), (104, some 11), (99, some 6)], [0, 1, 2, 3, 4, 5, 6, 10, 11], [0], false⟩, ⟨[(102, some 9), (105, some 12), (99, some 6)], [0, 1, 2, 3, 4, 5, 6, 7, 8, 9, 10, 11, 12], [0], false⟩, ⟨[(99, some 6), (106, some 13)], [0, 1, 2, 3, 4, 5, 6, 7, 8, 9, 10, 11, 12, 13], [0], false⟩, ⟨[(107, some 14)], [0, 1, 2, 3, 4, 5, 6, 7, 8, 9, 10, 11, 12, 13, 14], [0], false⟩, ⟨[(18, none), (108, some 15)], [0, 1, 2, 3, 4, 5, 6, 7, 8, 9, 10, 11, 12, 13, 14, 15], [0], false⟩, ⟨[(9, none), (108, some 15)], [0, 1, 2, 3, 4, 5, 6, 7, 8, 9, 10, 11, 12, 13, 14, 15], [0], false⟩, ⟨[(0, none), (108, some 15)], [0, 1, 2, 3, 4, 5, 6, 7, 8, 9, 10, 11, 12, 13, 14, 15], [0], false⟩, ⟨[(111, some 18), (108, some 15)], [0, 1, 2, 3, 4, 5, 6, 7, 8, 9, 10, 11, 12, 13, 14, 15, 18], [0], false⟩, ⟨[(110, some 17), (112, some 19), (108, some 15)], [0, 1, 2, 3, 4, 5, 6, 7, 8, 9, 10, 11, 12, 13, 14, 15, 17, 18, 19], [0], false⟩, ⟨[(109, some 16), (113, some 20), (108, some 15)], [0, 1, 2, 3, 4, 5, 6, 7, 8, 9, 10, 11, 12, 13, 14, 15, 16, 17, 18, 19, 20], [0], false⟩, ⟨[(114, some 21), (108, some 15)], [0, 1, 2, 3, 4, 5, 6, 7, 8, 9, 10, 11, 12, 13, 14, 15, 16, 17, 18, 19, 20, 21], [0], false⟩, ⟨[(16, none), (115, some 22)], [0, 1, 2, 3, 4, 5, 6, 7, 8, 9, 10, 11, 12, 13, 14, 15, 16, 17, 18, 19, 20, 21, 22], [0], false⟩, ⟨[(18, none), (115, some 22)], [0, 1, 2, 3, 4, 5, 6, 7, 8, 9, 10, 11, 12, 13, 14, 15, 16, 17, 18, 19, 20, 21, 22], [0], false⟩, ⟨[(116, some 23), (117, some 24), (115, some 22)], [0, 1, 2, 3, 4, 5, 6, 7, 8, 9, 10, 11, 12, 13, 14, 15, 16, 17, 18, 19, 20, 21, 22, 23, 24], [0], false⟩, ⟨[(118, some 25), (115, some 22)], [0, 1, 2, 3, 4, 5, 6, 7, 8, 9, 10, 11, 12, 13, 14, 15, 16, 17, 18, 19, 20, 21, 22, 23, 24, 25], [0], false⟩, ⟨[(115, some 22), (119, some 26), (108, some 15)], [0, 1, 2, 3, 4, 5, 6, 7, 8, 9, 10, 11, 12, 13, 14, 15, 16, 17, 18, 19, 20, 21, 22, 23, 24, 25, 26], [0], false⟩, ⟨[(108, some 15), (120, some 27)], [0, 1, 2, 3, 4, 5, 6, 7, 8, 9, 10, 11, 12, 13, 14, 15, 16, 17, 18, 19, 20, 21, 22, 23, 24, 25, 26, 27], [0], false⟩]) (S := []) (plan := [0, 1, 2, 3, 4, 5, 6, 7, 8, 9, 10, 11, 12, 13, 14, 15, 16, 17, 18, 19, 20, 21, 22, 23, 24, 25, 26, 27, 28]) mo (by kernel_rfl) rfl rfl rfl (dcons (dstep1 (Tm := [(18, (I v14))]) (L := []) (H := ⟨0, []⟩) rfl rfl rfl rfl rfl (astep_do rfl (ex_move (eV (v := (I v14)) rfl)))) (dcons (dstep1 (Tm := [(9, (I x7))]) (L := []) (H := ⟨0, []⟩) rfl rfl rfl rfl rfl (astep_do rfl (ex_move (eV (v := (I x7)) rfl)))) (dcons (dstep1 (Tm := [(0, (S t0))]) (L := []) (H := ⟨0, []⟩) rfl rfl rfl rfl rfl (astep_do rfl (ex_move (eV (v := (S t0)) rfl)))) (dcons (dstep1 (Tm := [(95, (S t0))]) (L := []) (H := ⟨0, []⟩) rfl rfl rfl rfl rfl (astep_do rfl (tx_lenS Tryd.underlying9 rfl))) (dcons (dstep1 (Tm := [(94, (I x7)), (96, (I (t0.length : Int)))]) (L := []) (H := ⟨0, []⟩) rfl rfl rfl rfl rfl (astep_do rfl (ex_min (m := x7) (n := (t0.length : Int)) rfl rfl))) (dcons (dstep1 (Tm := [(93, (I v14)), (97, (I (min x7 (t0.length : Int))))]) (L := []) (H := ⟨0, []⟩) rfl rfl rfl rfl rfl (astep_do rfl (ex_bin (vx := (I v14)) (vy := (I (min x7 (t0.length : Int)))) rfl rfl lssI_ok))) (dcons (dstep1 (Tm := [(98, (Bo (decide (v14 < (min x7 (t0.length : Int))))))]) (L := []) (H := ⟨0, []⟩) rfl rfl rfl rfl rfl (astep_do rfl (ex_move (eV (v := (Bo (decide (v14 < (min x7 (t0.length : Int)))))) rfl)))) (dcons (dstep1 (Tm := [(16, (S x12.1)), (99, (Bo (decide (v14 < (min x7 (t0.length : Int))))))]) (L := []) (H := ⟨0, []⟩) rfl rfl rfl rfl rfl (astep_guard (v := (S x12.1)) ((decide (v14 < (min x7 (t0.length : Int)))) == true) rfl (fun hc => ex_move (eV (v := (S x12.1)) rfl)))) (dcons (dstep1 (Tm := [(18, (I v14)), (99, (Bo (decide (v14 < (min x7 (t0.length : Int))))))]) (L := []) (H := ⟨0, []⟩) rfl rfl rfl rfl rfl (astep_guard (v := (I v14)) ((decide (v14 < (min x7 (t0.length : Int)))) == true) rfl (fun hc => ex_move (eV (v := (I v14)) rfl)))) (dcons (dstep1 (Tm := [(100, (cond ((decide (v14 < (min x7 (t0.length : Int)))) == true) (S x12.1) skipV)), (101, (cond ((decide (v14 < (min x7 (t0.length : Int)))) == true) (I v14) skipV)), (99, (Bo (decide (v14 < (min x7 (t0.length : Int))))))]) (L := []) (H := ⟨0, []⟩) rfl rfl rfl rfl rfl (astep_guard (v := (U8 x16)) ((decide (v14 < (min x7 (t0.length : Int)))) == true) rfl (fun hc => tx_idxS (u := x12.1) (i := v14) Tryd.underlying9 (cond_of hc) (cond_of hc) (gd_of hc hx16)))) (dcons (dstep1 (Tm := [(0, (S t0)), (99, (Bo (decide (v14 < (min x7 (t0.length : Int))))))]) (L := []) (H := ⟨0, []⟩) rfl rfl rfl rfl rfl (astep_guard (v := (S t0)) ((decide (v14 < (min x7 (t0.length : Int)))) == true) rfl (fun hc => ex_move (eV (v := (S t0)) rfl)))) (dcons (dstep1 (Tm := [(18, (I v14)), (99, (Bo (decide (v14 < (min x7 (t0.length : Int))))))]) (L := []) (H := ⟨0, []⟩) rfl rfl rfl rfl rfl (astep_guard (v := (I v14)) ((decide (v14 < (min x7 (t0.length : Int)))) == true) rfl (fun hc => ex_move (eV (v := (I v14)) rfl)))) (dcons (dstep1 (Tm := [(103, (cond ((decide (v14 < (min x7 (t0.length : Int)))) == true) (S t0) skipV)), (104, (cond ((decide (v14 < (min x7 (t0.length : Int)))) == true) (I v14) skipV)), (99, (Bo (decide (v14 < (min x7 (t0.length : Int))))))]) (L := []) (H := ⟨0, []⟩) rfl rfl rfl rfl rfl (astep_guard (v := (U8 x17)) ((decide (v14 < (min x7 (t0.length : Int)))) == true) rfl (fun hc => tx_idxS (u := t0) (i := v14) Tryd.underlying9 (cond_of hc) (cond_of hc) (gd_of hc hx17)))) (dcons (dstep1 (Tm := [(102, (cond ((decide (v14 < (min x7 (t0.length : Int)))) == true) (U8 x16) skipV)), (105, (cond ((decide (v14 < (min x7 (t0.length : Int)))) == true) (U8 x17) skipV)), (99, (Bo (decide (v14 < (min x7 (t0.length : Int))))))]) (L := []) (H := ⟨0, []⟩) rfl rfl rfl rfl rfl (astep_guard (v := (Bo (x16 != x17))) ((decide (v14 < (min x7 (t0.length : Int)))) == true) rfl (fun hc => ex_bin (vx := (U8 x16)) (vy := (U8 x17)) (cond_of hc) (cond_of hc) neq8_ok))) (dcons (dstep1 (Tm := [(99, (Bo (decide (v14 < (min x7 (t0.length : Int)))))), (106, (cond ((decide (v14 < (min x7 (t0.length : Int)))) == true) (Bo (x16 != x17)) skipV))]) (L := []) (H := ⟨0, []⟩) rfl rfl rfl rfl rfl (astep_do rfl (ex_pick rfl pkAnd))) (dcons (dstep1 (Tm := [(107, (Bo ((decide (v14 < (min x7 (t0.length : Int)))) && (x16 != x17))))]) (L := []) (H := ⟨0, []⟩) rfl rfl rfl rfl rfl (astep_do rfl (ex_move (eV (v := (Bo ((decide (v14 < (min x7 (t0.length : Int)))) && (x16 != x17)))) rfl)))) (dcons (dstep1 (Tm := [(18, (I v14)), (108, (Bo ((decide (v14 < (min x7 (t0.length : Int)))) && (x16 != x17))))]) (L := []) (H := ⟨0, []⟩) rfl rfl rfl rfl rfl (astep_guard (v := (I v14)) (((decide (v14 < (min x7 (t0.length : Int)))) && (x16 != x17)) == false) rfl (fun hc => ex_move (eV (v := (I v14)) rfl)))) (dcons (dstep1 (Tm := [(9, (I x7)), (108, (Bo ((decide (v14 < (min x7 (t0.length : Int)))) && (x16 != x17))))]) (L := []) (H := ⟨0, []⟩) rfl rfl rfl rfl rfl (astep_guard (v := (I x7)) (((decide (v14 < (min x7 (t0.length : Int)))) && (x16 != x17)) == false) rfl (fun hc => ex_move (eV (v := (I x7)) rfl)))) (dcons (dstep1 (Tm := [(0, (S t0)), (108, (Bo ((decide (v14 < (min x7 (t0.length : Int)))) && (x16 != x17))))]) (L := []) (H := ⟨0, []⟩) rfl rfl rfl rfl rfl (astep_guard (v := (S t0)) (((decide (v14 < (min x7 (t0.length : Int)))) && (x16 != x17)) == false) rfl (fun hc => ex_move (eV (v := (S t0)) rfl)))) (dcons (dstep1 (Tm := [(111, (cond (((decide (v14 < (min x7 (t0.length : Int)))) && (x16 != x17)) == false) (S t0) skipV)), (108, (Bo ((decide (v14 < (min x7 (t0.length : Int)))) && (x16 != x17))))]) (L := []) (H := ⟨0, []⟩) rfl rfl rfl rfl rfl (astep_guard (v := (I (t0.length : Int))) (((decide (v14 < (min x7 (t0.length : Int)))) && (x16 != x17)) == false) rfl (fun hc => tx_lenS Tryd.underlying9 (cond_of hc)))) (dcons (dstep1 (Tm := [(110, (cond (((decide (v14 < (min x7 (t0.length : Int)))) && (x16 != x17)) == false) (I x7) skipV)), (112, (cond (((decide (v14 < (min x7 (t0.length : Int)))) && (x16 != x17)) == false) (I (t0.length : Int)) skipV)), (108, (Bo ((decide (v14 < (min x7 (t0.length : Int)))) && (x16 != x17))))]) (L := []) (H := ⟨0, []⟩) rfl rfl rfl rfl rfl (astep_guard (v := (I (min x7 (t0.length : Int)))) (((decide (v14 < (min x7 (t0.length : Int)))) && (x16 != x17)) == false) rfl (fun hc => ex_min (m := x7) (n := (t0.length : Int)) (cond_of hc) (cond_of hc)))) (dcons (dstep1 (Tm := [(109, (cond (((decide (v14 < (min x7 (t0.length : Int)))) && (x16 != x17)) == false) (I v14) skipV)), (113, (cond (((decide (v14 < (min x7 (t0.length : Int)))) && (x16 != x17)) == false) (I (min x7 (t0.length : Int))) skipV)), (108, (Bo ((decide (v14 < (min x7 (t0.length : Int)))) && (x16 != x17))))]) (L := []) (H := ⟨0, []⟩) rfl rfl rfl rfl rfl (astep_guard (v := (Bo (decide (v14 ≥ (min x7 (t0.length : Int)))))) (((decide (v14 < (min x7 (t0.length : Int)))) && (x16 != x17)) == false) rfl (fun hc => ex_bin (vx := (I v14)) (vy := (I (min x7 (t0.length : Int)))) (cond_of hc) (cond_of hc) geqI_ok))) (dcons (dstep1 (Tm := [(114, (cond (((decide (v14 < (min x7 (t0.length : Int)))) && (x16 != x17)) == false) (Bo (decide (v14 ≥ (min x7 (t0.length : Int))))) skipV)), (108, (Bo ((decide (v14 < (min x7 (t0.length : Int)))) && (x16 != x17))))]) (L := []) (H := ⟨0, []⟩) rfl rfl rfl rfl rfl (astep_guard (v := (Bo (decide (v14 ≥ (min x7 (t0.length : Int)))))) (((decide (v14 < (min x7 (t0.length : Int)))) && (x16 != x17)) == false) rfl (fun hc => ex_move (eV (v := (Bo (decide (v14 ≥ (min x7 (t0.length : Int)))))) (cond_of hc))))) (dcons (dstep1 (Tm := [(16, (S x12.1)), (115, (cond (((decide (v14 < (min x7 (t0.length : Int)))) && (x16 != x17)) == false) (Bo (decide (v14 ≥ (min x7 (t0.length : Int))))) skipV))]) (L := []) (H := ⟨0, []⟩) rfl rfl rfl rfl rfl (astep_guard (v := (S x12.1)) ((((decide (v14 < (min x7 (t0.length : Int)))) && (x16 != x17)) == false) && ((decide (v14 ≥ (min x7 (t0.length : Int)))) == true)) gv_nest (fun hc => ex_move (eV (v := (S x12.1)) rfl)))) (dcons (dstep1 (Tm := [(18, (I v14)), (115, (cond (((decide (v14 < (min x7 (t0.length : Int)))) && (x16 != x17)) == false) (Bo (decide (v14 ≥ (min x7 (t0.length : Int))))) skipV))]) (L := []) (H := ⟨0, []⟩) rfl rfl rfl rfl rfl (astep_guard (v := (I v14)) ((((decide (v14 < (min x7 (t0.length : Int)))) && (x16 != x17)) == false) && ((decide (v14 ≥ (min x7 (t0.length : Int)))) == true)) gv_nest (fun hc => ex_move (eV (v := (I v14)) rfl)))) (dcons (dstep1 (Tm := [(116, (cond ((((decide (v14 < (min x7 (t0.length : Int)))) && (x16 != x17)) == false) && ((decide (v14 ≥ (min x7 (t0.length : Int)))) == true)) (S x12.1) skipV)), (117, (cond ((((decide (v14 < (min x7 (t0.length : Int)))) && (x16 != x17)) == false) && ((decide (v14 ≥ (min x7 (t0.length : Int)))) == true)) (I v14) skipV)), (115, (cond (((decide (v14 < (min x7 (t0.length : Int)))) && (x16 != x17)) == false) (Bo (decide (v14 ≥ (min x7 (t0.length : Int))))) skipV))]) (L := []) (H := ⟨0, []⟩) rfl rfl rfl rfl rfl (astep_guard (v := (U8 x18)) ((((decide (v14 < (min x7 (t0.length : Int)))) && (x16 != x17)) == false) && ((decide (v14 ≥ (min x7 (t0.length : Int)))) == true)) gv_nest (fun hc => tx_idxS (u := x12.1) (i := v14) Tryd.underlying9 (cond_of hc) (cond_of hc) (gd_of hc hx18)))) (dcons (dstep1 (Tm := [(118, (cond ((((decide (v14 < (min x7 (t0.length : Int)))) && (x16 != x17)) == false) && ((decide (v14 ≥ (min x7 (t0.length : Int)))) == true)) (U8 x18) skipV)), (115, (cond (((decide (v14 < (min x7 (t0.length : Int)))) && (x16 != x17)) == false) (Bo (decide (v14 ≥ (min x7 (t0.length : Int))))) skipV))]) (L := []) (H := ⟨0, []⟩) rfl rfl rfl rfl rfl (astep_guard (v := (Bo (x18 != 0))) ((((decide (v14 < (min x7 (t0.length : Int)))) && (x16 != x17)) == false) && ((decide (v14 ≥ (min x7 (t0.length : Int)))) == true)) gv_nest (fun hc => ex_bin (vx := (U8 x18)) (vy := (U8 0)) (cond_of hc) rfl neq8_ok))) (dcons (dstep1 (Tm := [(115, (cond (((decide (v14 < (min x7 (t0.length : Int)))) && (x16 != x17)) == false) (Bo (decide (v14 ≥ (min x7 (t0.length : Int))))) skipV)), (119, (cond ((((decide (v14 < (min x7 (t0.length : Int)))) && (x16 != x17)) == false) && ((decide (v14 ≥ (min x7 (t0.length : Int)))) == true)) (Bo (x18 != 0)) skipV)), (108, (Bo ((decide (v14 < (min x7 (t0.length : Int)))) && (x16 != x17))))]) (L := []) (H := ⟨0, []⟩) rfl rfl rfl rfl rfl (astep_guard (v := (Bo ((decide (v14 ≥ (min x7 (t0.length : Int)))) && (x18 != 0)))) (((decide (v14 < (min x7 (t0.length : Int)))) && (x16 != x17)) == false) rfl (fun hc => ex_pick (cond_of hc) (pkAndN hc)))) (dcons (dstep1 (Tm := [(108, (Bo ((decide (v14 < (min x7 (t0.length : Int)))) && (x16 != x17)))), (120, (cond (((decide (v14 < (min x7 (t0.length : Int)))) && (x16 != x17)) == false) (Bo ((decide (v14 ≥ (min x7 (t0.length : Int)))) && (x18 != 0))) skipV))]) (L := []) (H := ⟨0, []⟩) rfl rfl rfl rfl rfl (astep_do rfl (ex_pick rfl pkOr))) dnil))))))))))))))))))))))))))))) ⟨rfl, rfl⟩) (by kernel_rfl) (by kernel_rfl) ?_
            show AWp _ _ _ _
            rcases Bool.eq_false_or_eq_true (((decide (v14 < (min x7 (t0.length : Int)))) && (x16 != x17)) || ((decide (v14 ≥ (min x7 (t0.length : Int)))) && (x18 != 0))) with hb19 | hb19
            · rw [condT hb19] at h
              refine awp_condT (boT hb19) ?_
              refine awp_seq ?_
              refine awp_region ?_
              refine arun_do rfl rfl rfl (ex_assign (eV (v := (Bo false)) rfl)) ?_
              refine arun_keepE [6] 0 0 (st' := ⟨165, 0, [(6, (Bo false))], [], ⟨0, []⟩⟩) (by kernel_rfl) (by kernel_rfl) ?_
              show AWp _ _ _ _
              refine awp_ret ?_
              cases h
              exact ares1 (rtmp rfl (eV rfl))
            · rw [condF hb19] at h
              refine awp_condF (boF hb19) ?_
              refine awp_skip ?_
              show AWp _ _ _ _
              refine awp_region ?_
              refine arun_do rfl rfl rfl (ex_move (eV (v := (I v14)) rfl)) ?_
              refine arun_do rfl rfl rfl (ex_bin (vx := (I v14)) (vy := (I 1)) rfl rfl addI_ok) ?_
              refine arun_do rfl rfl rfl (ex_assign (eV (v := (I (w64 (v14 + 1)))) rfl)) ?_
              refine arun_keepE [0, 9, 10, 11, 14, 16, 18] 0 0 (st' := ⟨165, 0, [(0, (S t0)), (9, (I x7)), (10, (I x8)), (11, (SL 5 c_api_Node x10.1)), (14, (SL 5 c_api_Node x11.1)), (16, (S x12.1)), (18, (I (w64 (v14 + 1))))], [], ⟨0, []⟩⟩) (by kernel_rfl) (by kernel_rfl) ?_
              exact Exists.intro n1 (And.intro (Nat.lt_succ_self _) (Exists.intro (w64 (v14 + 1)) (And.intro rfl h)))
          · rw [condF hb15] at h
            refine awp_condF (boF hb15) ?_
            refine awp_exit ?_
            show AWp _ _ _ _
            refine awp_seq ?_
            refine awp_region ?_
            refine arun_do rfl rfl rfl (ex_move (eV (v := (SL 5 c_api_Node x10.1)) rfl)) ?_
            obtain ⟨x20, hx20, h⟩ := bindS h
            refine arun_do rfl rfl rfl (ex_call0 (vs := [(SL 5 c_api_Node x10.1), (S ([102] : Str))]) (v := (Value.tuple #[(Value.agg (c_api_Stat x20.1).toArray), (I x20.2)])) rfl en_19 (cargs (evs rfl (evs rfl evs_nil))) rfl (ok_data_Stat x10.1 ([102] : Str) x20 hx20) rfl) ?_
            refine arun_do rfl rfl rfl (ex_move (eV (v := (Value.tuple #[(Value.agg (c_api_Stat x20.1).toArray), (I x20.2)])) rfl)) ?_
            refine arun_do rfl rfl rfl (ex_extract (vx := (Value.tuple #[(Value.agg (c_api_Stat x20.1).toArray), (I x20.2)])) (v := (Value.agg (c_api_Stat x20.1).toArray)) rfl rfl) ?_
            refine arun_do rfl rfl rfl (ex_extract (vx := (Value.tuple #[(Value.agg (c_api_Stat x20.1).toArray), (I x20.2)])) (v := (I x20.2)) rfl rfl) ?_
            refine arun_do rfl rfl rfl (ex_alloc (k := 0) (zs := (c_api_Stat (G_api_Stat.mk 0 0 0 0))) (L' := [(c_api_Stat (G_api_Stat.mk 0 0 0 0))]) z_41 rfl rfl rfl rfl) ?_
            refine arun_do0 rfl rfl (ex_storeL (vy := (Value.agg (c_api_Stat x20.1).toArray)) (cs := (c_api_Stat (G_api_Stat.mk 0 0 0 0))) (vs := (c_api_Stat x20.1)) (L' := [(c_api_Stat x20.1)]) rfl (eV (v := (Value.agg (c_api_Stat x20.1).toArray)) rfl) rfl s_41 rfl (Nat.le_of_ble_eq_true rfl) (by kernel_rfl)) ?_
            refine arun_do rfl rfl rfl (ex_assign (eV (v := (I x20.2)) rfl)) ?_
            refine arun_keepE [0, 9, 10, 11, 14, 19] 1 0 (st' := ⟨165, 0, [(0, (S t0)), (9, (I x7)), (10, (I x8)), (11, (SL 5 c_api_Node x10.1)), (14, (SL 5 c_api_Node x11.1)), (19, (LP 0 0))], [(c_api_Stat x20.1)], ⟨0, []⟩⟩) (by kernel_rfl) (by kernel_rfl) ?_
            show AWp _ _ _ _
            refine awp_seq ?_
            refine awp_region ?_
            refine arun_do rfl rfl rfl (ex_move (eV (v := (SL 5 c_api_Node x11.1)) rfl)) ?_
            obtain ⟨x21, hx21, h⟩ := bindS h
            refine arun_do rfl rfl rfl (ex_call0 (vs := [(SL 5 c_api_Node x11.1), (S ([102] : Str))]) (v := (Value.tuple #[(Value.agg (c_api_Stat x21.1).toArray), (I x21.2)])) rfl en_19 (cargs (evs rfl (evs rfl evs_nil))) rfl (ok_data_Stat x11.1 ([102] : Str) x21 hx21) rfl) ?_
            refine arun_do rfl rfl rfl (ex_move (eV (v := (Value.tuple #[(Value.agg (c_api_Stat x21.1).toArray), (I x21.2)])) rfl)) ?_
            refine arun_do rfl rfl rfl (ex_extract (vx := (Value.tuple #[(Value.agg (c_api_Stat x21.1).toArray), (I x21.2)])) (v := (Value.agg (c_api_Stat x21.1).toArray)) rfl rfl) ?_
            refine arun_do rfl rfl rfl (ex_extract (vx := (Value.tuple #[(Value.agg (c_api_Stat x21.1).toArray), (I x21.2)])) (v := (I x21.2)) rfl rfl) ?_
            refine arun_do rfl rfl rfl (ex_alloc (k := 1) (zs := (c_api_Stat (G_api_Stat.mk 0 0 0 0))) (L' := [(c_api_Stat x20.1), (c_api_Stat (G_api_Stat.mk 0 0 0 0))]) z_41 rfl rfl rfl rfl) ?_
            refine arun_do0 rfl rfl (ex_storeL (vy := (Value.agg (c_api_Stat x21.1).toArray)) (cs := (c_api_Stat (G_api_Stat.mk 0 0 0 0))) (vs := (c_api_Stat x21.1)) (L' := [(c_api_Stat x20.1), (c_api_Stat x21.1)]) rfl (eV (v := (Value.agg (c_api_Stat x21.1).toArray)) rfl) rfl s_41 rfl (Nat.le_of_ble_eq_true rfl) (by kernel_rfl)) ?_
            refine arun_do rfl rfl rfl (ex_assign (eV (v := (I x21.2)) rfl)) ?_
            refine arun_keepE [0, 9, 10, 11, 14, 19, 21] 2 0 (st' := ⟨165, 0, [(0, (S t0)), (9, (I x7)), (10, (I x8)), (11, (SL 5 c_api_Node x10.1)), (14, (SL 5 c_api_Node x11.1)), (19, (LP 0 0)), (21, (LP 1 0))], [(c_api_Stat x20.1), (c_api_Stat x21.1)], ⟨0, []⟩⟩) (by kernel_rfl) (by kernel_rfl) ?_
            show AWp _ _ _ _
            refine awp_seq ?_
            refine awp_region ?_
            refine arun_do rfl rfl rfl (ex_fieldAddr (v := (LP 0 2)) Tryd.underlying41 rfl s_3 (by decide) rfl rfl) ?_
            refine arun_do rfl rfl rfl (tx_ldL1 (v := (I x20.1.Size)) Tryd.underlying3 rfl rfl rfl rfl) ?_
            refine arun_do rfl rfl rfl (ex_move (eV (v := (I x8)) rfl)) ?_
            refine arun_do rfl rfl rfl (ex_bin (vx := (I x20.1.Size)) (vy := (I x8)) rfl rfl eqlI_ok) ?_
            refine arun_do rfl rfl rfl (ex_move (eV (v := (Bo (x20.1.Size == x8))) rfl)) ?_
            refine arun_guard (v := (LP 0 3)) ((x20.1.Size == x8) == true) rfl rfl rfl (fun hc => ex_fieldAddr (v := (LP 0 3)) Tryd.underlying41 rfl s_3 (by decide) rfl rfl) ?_
            refine arun_guard (v := (I x20.1.Held)) ((x20.1.Size == x8) == true) rfl rfl rfl (fun hc => tx_ldL1 (v := (I x20.1.Held)) Tryd.underlying3 rfl (cond_of hc) rfl rfl) ?_
            refine arun_guard (v := (LP 1 3)) ((x20.1.Size == x8) == true) rfl rfl rfl (fun hc => ex_fieldAddr (v := (LP 1 3)) Tryd.underlying41 rfl s_3 (by decide) rfl rfl) ?_
            refine arun_guard (v := (I x21.1.Held)) ((x20.1.Size == x8) == true) rfl rfl rfl (fun hc => tx_ldL1 (v := (I x21.1.Held)) Tryd.underlying3 rfl (cond_of hc) rfl rfl) ?_
            refine arun_guard (v := (Bo (decide (x20.1.Held ≤ x21.1.Held)))) ((x20.1.Size == x8) == true) rfl rfl rfl (fun hc => ex_bin (vx := (I x20.1.Held)) (vy := (I x21.1.Held)) (cond_of hc) (cond_of hc) leqI_ok) ?_
            refine arun_do rfl rfl rfl (ex_pick rfl pkAnd) ?_
            refine arun_do rfl rfl rfl (ex_move (eV (v := (Bo ((x20.1.Size == x8) && (decide (x20.1.Held ≤ x21.1.Held))))) rfl)) ?_
            refine arun_guard (v := (LP 0 3)) (((x20.1.Size == x8) && (decide (x20.1.Held ≤ x21.1.Held))) == true) rfl rfl rfl (fun hc => ex_fieldAddr (v := (LP 0 3)) Tryd.underlying41 rfl s_3 (by decide) rfl rfl) ?_
            refine arun_guard (v := (I x20.1.Held)) (((x20.1.Size == x8) && (decide (x20.1.Held ≤ x21.1.Held))) == true) rfl rfl rfl (fun hc => tx_ldL1 (v := (I x20.1.Held)) Tryd.underlying3 rfl (cond_of hc) rfl rfl) ?_
            refine arun_guard (v := (I (w64 (x20.1.Held * 32)))) (((x20.1.Size == x8) && (decide (x20.1.Held ≤ x21.1.Held))) == true) rfl rfl rfl (fun hc => ex_bin (vx := (I x20.1.Held)) (vy := (I 32)) (cond_of hc) rfl mulI_ok) ?_
            refine arun_guard (v := (I x7)) (((x20.1.Size == x8) && (decide (x20.1.Held ≤ x21.1.Held))) == true) rfl rfl rfl (fun hc => ex_move (eV (v := (I x7)) rfl)) ?_
            refine arun_guard (v := (I x8)) (((x20.1.Size == x8) && (decide (x20.1.Held ≤ x21.1.Held))) == true) rfl rfl rfl (fun hc => ex_move (eV (v := (I x8)) rfl)) ?_
            refine arun_guard (v := (S t0)) (((x20.1.Size == x8) && (decide (x20.1.Held ≤ x21.1.Held))) == true) rfl rfl rfl (fun hc => ex_move (eV (v := (S t0)) rfl)) ?_
            refine arun_guard (v := (I (t0.length : Int))) (((x20.1.Size == x8) && (decide (x20.1.Held ≤ x21.1.Held))) == true) rfl rfl rfl (fun hc => tx_lenS Tryd.underlying9 (cond_of hc)) ?_
            refine arun_guard (v := (I (min (min x7 x8) (t0.length : Int)))) (((x20.1.Size == x8) && (decide (x20.1.Held ≤ x21.1.Held))) == true) rfl rfl rfl (fun hc => ex_min3 (m := x7) (n := x8) (l := (t0.length : Int)) (cond_of hc) (cond_of hc) (cond_of hc)) ?_
            refine arun_guard (v := (I (w64 ((min (min x7 x8) (t0.length : Int)) + 32)))) (((x20.1.Size == x8) && (decide (x20.1.Held ≤ x21.1.Held))) == true) rfl rfl rfl (fun hc => ex_bin (vx := (I (min (min x7 x8) (t0.length : Int)))) (vy := (I 32)) (cond_of hc) rfl addI_ok) ?_
            refine arun_guard (v := (Bo (decide ((w64 (x20.1.Held * 32)) < (w64 ((min (min x7 x8) (t0.length : Int)) + 32)))))) (((x20.1.Size == x8) && (decide (x20.1.Held ≤ x21.1.Held))) == true) rfl rfl rfl (fun hc => ex_bin (vx := (I (w64 (x20.1.Held * 32)))) (vy := (I (w64 ((min (min x7 x8) (t0.length : Int)) + 32)))) (cond_of hc) (cond_of hc) lssI_ok) ?_
            refine arun_do rfl rfl rfl (ex_pick rfl pkAnd) ?_
            refine arun_do rfl rfl rfl (ex_move (eV (v := (Bo (((x20.1.Size == x8) && (decide (x20.1.Held ≤ x21.1.Held))) && (decide ((w64 (x20.1.Held * 32)) < (w64 ((min (min x7 x8) (t0.length : Int)) + 32))))))) rfl)) ?_
            refine arun_guard (v := (I x8)) ((((x20.1.Size == x8) && (decide (x20.1.Held ≤ x21.1.Held))) && (decide ((w64 (x20.1.Held * 32)) < (w64 ((min (min x7 x8) (t0.length : Int)) + 32))))) == true) rfl rfl rfl (fun hc => ex_move (eV (v := (I x8)) rfl)) ?_
            refine arun_guard (v := (I x7)) ((((x20.1.Size == x8) && (decide (x20.1.Held ≤ x21.1.Held))) && (decide ((w64 (x20.1.Held * 32)) < (w64 ((min (min x7 x8) (t0.length : Int)) + 32))))) == true) rfl rfl rfl (fun hc => ex_move (eV (v := (I x7)) rfl)) ?_
            refine arun_guard (v := (Bo (decide (x8 > x7)))) ((((x20.1.Size == x8) && (decide (x20.1.Held ≤ x21.1.Held))) && (decide ((w64 (x20.1.Held * 32)) < (w64 ((min (min x7 x8) (t0.length : Int)) + 32))))) == true) rfl rfl rfl (fun hc => ex_bin (vx := (I x8)) (vy := (I x7)) (cond_of hc) (cond_of hc) gtrI_ok) ?_
            refine arun_guard (v := (Bo (decide (x8 > x7)))) ((((x20.1.Size == x8) && (decide (x20.1.Held ≤ x21.1.Held))) && (decide ((w64 (x20.1.Held * 32)) < (w64 ((min (min x7 x8) (t0.length : Int)) + 32))))) == true) rfl rfl rfl (fun hc => ex_move (eV (v := (Bo (decide (x8 > x7)))) (cond_of hc))) ?_
            refine arun_guard (v := (SL 5 c_api_Node x10.1)) (((((x20.1.Size == x8) && (decide (x20.1.Held ≤ x21.1.Held))) && (decide ((w64 (x20.1.Held * 32)) < (w64 ((min (min x7 x8) (t0.length : Int)) + 32))))) == true) && ((decide (x8 > x7)) == false)) rfl rfl gv_nest (fun hc => ex_move (eV (v := (SL 5 c_api_Node x10.1)) rfl)) ?_
            refine arun_guard (v := (SL 5 c_api_Node x11.1)) (((((x20.1.Size == x8) && (decide (x20.1.Held ≤ x21.1.Held))) && (decide ((w64 (x20.1.Held * 32)) < (w64 ((min (min x7 x8) (t0.length : Int)) + 32))))) == true) && ((decide (x8 > x7)) == false)) rfl rfl gv_nest (fun hc => ex_move (eV (v := (SL 5 c_api_Node x11.1)) rfl)) ?_
            obtain ⟨x22, hx22, h⟩ := bindS h
            refine arun_guard (v := (Bo x22)) (((((x20.1.Size == x8) && (decide (x20.1.Held ≤ x21.1.Held))) && (decide ((w64 (x20.1.Held * 32)) < (w64 ((min (min x7 x8) (t0.length : Int)) + 32))))) == true) && ((decide (x8 > x7)) == false)) rfl rfl gv_nest (fun hc => ex_call0 (vs := [(SL 5 c_api_Node x10.1), (SL 5 c_api_Node x11.1)]) (v := (Bo x22)) rfl en_13 (cargs (evs (cond_of hc) (evs (cond_of hc) evs_nil))) rfl (ok_ref11_Same x10.1 x11.1 x22 (gd_of hc hx22)) rfl) ?_
            refine arun_guard (v := (Bo ((decide (x8 > x7)) || x22))) ((((x20.1.Size == x8) && (decide (x20.1.Held ≤ x21.1.Held))) && (decide ((w64 (x20.1.Held * 32)) < (w64 ((min (min x7 x8) (t0.length : Int)) + 32))))) == true) rfl rfl rfl (fun hc => ex_pick (cond_of hc) (pkOrN hc)) ?_
            refine arun_do rfl rfl rfl (ex_pick rfl pkAnd) ?_
            refine arun_do rfl rfl rfl (ex_assign (eV (v := (Bo ((((x20.1.Size == x8) && (decide (x20.1.Held ≤ x21.1.Held))) && (decide ((w64 (x20.1.Held * 32)) < (w64 ((min (min x7 x8) (t0.length : Int)) + 32))))) && ((decide (x8 > x7)) || x22)))) rfl)) ?_
            refine arun_keepE [6] 0 0 (st' := ⟨165, 0, [(6, (Bo ((((x20.1.Size == x8) && (decide (x20.1.Held ≤ x21.1.Held))) && (decide ((w64 (x20.1.Held * 32)) < (w64 ((min (min x7 x8) (t0.length : Int)) + 32))))) && ((decide (x8 > x7)) || x22))))], [], ⟨0, []⟩⟩) (by kernel_rfl) (by kernel_rfl) ?_
            show AWp _ _ _ _
            refine awp_ret ?_
            cases h
            exact ares1 (rtmp rfl (eV rfl))

end Go.Proofs
