/- Pure models of functions of the program, and that its code does what they say: palimplaw15 DataTorn. Written by a program. -/
import Derived.Test.YtiolemkcnkokaaaDoorR150
import Derived.Test.YtiolemkcnkokaaaDoorR1510
import Derived.Test.YtiolemkcnkokaaaDoorR1511
import Derived.Test.YtiolemkcnkokaaaDoorR152
import Derived.Test.YtiolemkcnkokaaaDoorR158
import Derived.Test.YtiolemkcnkokaaaDoorR159
import Derived.Test.YtiolemkcnkokaaaDoorR15B
set_option maxRecDepth 20000
set_option maxHeartbeats 4000000
namespace Go.Proofs
open Go Go.Fhl
set_option linter.unusedVariables false
set_option linter.unusedSimpArgs false
noncomputable def M_law15_DataTorn_l1 (t0 : Str) (t1 : UInt8) (t2 : UInt8) (t3 : UInt8) (x10 : List G_api_Node) (x11 : (Str × Int)) (x12 : (Str × Int)) : Nat → Bool → Int → Option Bool
  | 0, _, _ => none
  | n1 + 1, v13, v14 =>
  cond ((decide (v14 < (w64 ((t2.toNat : Int) + (t3.toNat : Int))))) && (decide (v14 < (t0.length : Int)))) (Option.bind (gd (v13 == false) (quoI v14 32)) fun (x16 : Int) => Option.bind (gd (v13 == false) (shr8 t1 x16)) fun (x17 : UInt8) => (M_law15_DataTorn_l1 t0 t1 t2 t3 x10 x11 x12 n1) (v13 || ((x17 &&& 1) == 1)) (w64 (v14 + 1))) (Option.bind (M_data_Stat x10 ([102] : Str)) fun (x18 : (G_api_Stat × Int)) => some ((((((x11.2 == 0) && ((x12.2 == 12) == v13)) && ((v13 && (x12.1 == [])) || (((!v13) && (x12.2 == 0)) && (x12.1 == x11.1)))) && (x18.2 == 0)) && (x18.1.Size == (t0.length : Int))) && (x18.1.Kind == 1)))
noncomputable def M_law15_DataTorn (t0 : Str) (t1 : UInt8) (t2 : UInt8) (t3 : UInt8) : Option Bool :=
  Option.bind (M_law15_begun) fun (x1 : Bool) => cond (!x1) (some false) (cond (decide ((t0.length : Int) > 128)) (some true) (Option.bind (M_ref11_New) fun (x4 : (List G_api_Node)) => Option.bind (M_ref11_Make x4 ([102] : Str) 1) fun (x5 : ((List G_api_Node) × Int)) => Option.bind (M_ref11_Write x5.1 ([102] : Str) 0 t0) fun (x6 : ((List G_api_Node) × Int)) => Option.bind (appL 56 ([] : List G_api_Node) x6.1) fun (x7 : List G_api_Node) => Option.bind (rem8 t1 16) fun (x8 : UInt8) => Option.bind (getI x7 1) fun (x9 : G_api_Node) => Option.bind (setI x7 1 (G_api_Node.mk x9.Kind x9.Up x9.Name x9.Body (x8.toNat : Int))) fun (x10 : List G_api_Node) => Option.bind (M_data_Read x6.1 ([102] : Str) (t2.toNat : Int) (t3.toNat : Int)) fun (x11 : (Str × Int)) => Option.bind (M_data_Read x10 ([102] : Str) (t2.toNat : Int) (t3.toNat : Int)) fun (x12 : (Str × Int)) => M_law15_DataTorn_l1 t0 t1 t2 t3 x10 x11 x12 fuel false (t2.toNat : Int)))
theorem ok_law15_DataTorn (t0 : Str) (t1 : UInt8) (t2 : UInt8) (t3 : UInt8) (r : Bool) (h : M_law15_DataTorn t0 t1 t2 t3 = some r) : FFn Tryd.prog 5 [(S t0), (U8 t1), (U8 t2), (U8 t3)] (Bo r) := by
  refine FFn.of_body (n := 138) Tryd.func5 rfl Tryd.ntmps5 rfl rfl rfl rfl ?_
  show AWp _ _ _ ⟨138, 0, [(0, (S t0)), (1, (U8 t1)), (2, (U8 t2)), (3, (U8 t3))], [], ⟨0, []⟩⟩
  unfold M_law15_DataTorn at h
  refine awp_seq ?_
  refine awp_region ?_
  refine arun_do rfl rfl rfl (ex_assign (eV (v := (Bo false)) rfl)) ?_
  refine arun_keepE [0, 1, 2, 3] 0 0 (st' := ⟨138, 0, [(0, (S t0)), (1, (U8 t1)), (2, (U8 t2)), (3, (U8 t3))], [], ⟨0, []⟩⟩) (by kernel_rfl) (by kernel_rfl) ?_
  show AWp _ _ _ _
  refine awp_seq ?_
  refine awp_seq ?_
  refine awp_region ?_
  obtain ⟨x1, hx1, h⟩ := bindS h
  refine arun_do rfl rfl rfl (ex_call0 (vs := []) (v := (Bo x1)) rfl en_9 (cargs evs_nil) rfl (ok_law15_begun  x1 hx1) rfl) ?_
  refine arun_do rfl rfl rfl (ex_un (vx := (Bo x1)) rfl notB_ok) ?_
  refine arun_keepE [0, 1, 2, 3, 21] 0 0 (st' := ⟨138, 0, [(0, (S t0)), (1, (U8 t1)), (2, (U8 t2)), (3, (U8 t3)), (21, (Bo (!x1)))], [], ⟨0, []⟩⟩) (by kernel_rfl) (by kernel_rfl) ?_
  show AWp _ _ _ _
  rcases Bool.eq_false_or_eq_true (!x1) with hb2 | hb2
  · rw [condT hb2] at h
    refine awp_condT (boT hb2) ?_
    refine awp_seq ?_
    refine awp_region ?_
    refine arun_do rfl rfl rfl (ex_assign (eV (v := (Bo false)) rfl)) ?_
    refine arun_keepE [8] 0 0 (st' := ⟨138, 0, [(8, (Bo false))], [], ⟨0, []⟩⟩) (by kernel_rfl) (by kernel_rfl) ?_
    show AWp _ _ _ _
    refine awp_ret ?_
    cases h
    exact ares1 (rtmp rfl (eV rfl))
  · rw [condF hb2] at h
    refine awp_condF (boF hb2) ?_
    refine awp_skip ?_
    show AWp _ _ _ _
    refine awp_seq ?_
    refine awp_seq ?_
    refine awp_region ?_
    refine arun_do rfl rfl rfl (ex_move (eV (v := (S t0)) rfl)) ?_
    refine arun_do rfl rfl rfl (tx_lenS Tryd.underlying9 rfl) ?_
    refine arun_do rfl rfl rfl (ex_bin (vx := (I (t0.length : Int))) (vy := (I 128)) rfl rfl gtrI_ok) ?_
    refine arun_keepE [0, 1, 2, 3, 24] 0 0 (st' := ⟨138, 0, [(0, (S t0)), (1, (U8 t1)), (2, (U8 t2)), (3, (U8 t3)), (24, (Bo (decide ((t0.length : Int) > 128))))], [], ⟨0, []⟩⟩) (by kernel_rfl) (by kernel_rfl) ?_
    show AWp _ _ _ _
    rcases Bool.eq_false_or_eq_true (decide ((t0.length : Int) > 128)) with hb3 | hb3
    · rw [condT hb3] at h
      refine awp_condT (boT hb3) ?_
      refine awp_seq ?_
      refine awp_region ?_
      refine arun_do rfl rfl rfl (ex_assign (eV (v := (Bo true)) rfl)) ?_
      refine arun_keepE [8] 0 0 (st' := ⟨138, 0, [(8, (Bo true))], [], ⟨0, []⟩⟩) (by kernel_rfl) (by kernel_rfl) ?_
      show AWp _ _ _ _
      refine awp_ret ?_
      cases h
      exact ares1 (rtmp rfl (eV rfl))
    · rw [condF hb3] at h
      refine awp_condF (boF hb3) ?_
      refine awp_skip ?_
      show AWp _ _ _ _
      refine awp_seq ?_
      refine awp_region ?_
      obtain ⟨x4, hx4, h⟩ := bindS h
      refine arun_do rfl rfl rfl (ex_call0 (vs := []) (v := (SL 5 c_api_Node x4)) rfl en_11 (cargs evs_nil) rfl (ok_ref11_New  x4 hx4) rfl) ?_
      obtain ⟨x5, hx5, h⟩ := bindS h
      refine arun_do rfl rfl rfl (ex_call0 (vs := [(SL 5 c_api_Node x4), (S ([102] : Str)), (I 1)]) (v := (Value.tuple #[(SL 5 c_api_Node x5.1), (I x5.2)])) rfl en_10 (cargs (evs rfl (evs rfl (evs rfl evs_nil)))) rfl (ok_ref11_Make x4 ([102] : Str) 1 x5 hx5) rfl) ?_
      refine arun_do rfl rfl rfl (ex_move (eV (v := (Value.tuple #[(SL 5 c_api_Node x5.1), (I x5.2)])) rfl)) ?_
      refine arun_do rfl rfl rfl (ex_extract (vx := (Value.tuple #[(SL 5 c_api_Node x5.1), (I x5.2)])) (v := (SL 5 c_api_Node x5.1)) rfl rfl) ?_
      refine arun_do rfl rfl rfl (ex_extract (vx := (Value.tuple #[(SL 5 c_api_Node x5.1), (I x5.2)])) (v := (I x5.2)) rfl rfl) ?_
      refine arun_do rfl rfl rfl (ex_assign (eV (v := (SL 5 c_api_Node x5.1)) rfl)) ?_
      refine arun_do rfl rfl rfl (ex_assign (eV (v := (I x5.2)) rfl)) ?_
      refine arun_keepE [0, 1, 2, 3, 9] 0 0 (st' := ⟨138, 0, [(0, (S t0)), (1, (U8 t1)), (2, (U8 t2)), (3, (U8 t3)), (9, (SL 5 c_api_Node x5.1))], [], ⟨0, []⟩⟩) (by kernel_rfl) (by kernel_rfl) ?_
      show AWp _ _ _ _
      refine awp_seq ?_
      refine awp_region ?_
      refine arun_do rfl rfl rfl (ex_move (eV (v := (SL 5 c_api_Node x5.1)) rfl)) ?_
      refine arun_do rfl rfl rfl (ex_move (eV (v := (S t0)) rfl)) ?_
      obtain ⟨x6, hx6, h⟩ := bindS h
      refine arun_do rfl rfl rfl (ex_call0 (vs := [(SL 5 c_api_Node x5.1), (S ([102] : Str)), (I 0), (S t0)]) (v := (Value.tuple #[(SL 5 c_api_Node x6.1), (I x6.2)])) rfl en_18 (cargs (evs rfl (evs rfl (evs rfl (evs rfl evs_nil))))) rfl (ok_ref11_Write x5.1 ([102] : Str) 0 t0 x6 hx6) rfl) ?_
      refine arun_do rfl rfl rfl (ex_move (eV (v := (Value.tuple #[(SL 5 c_api_Node x6.1), (I x6.2)])) rfl)) ?_
      refine arun_do rfl rfl rfl (ex_extract (vx := (Value.tuple #[(SL 5 c_api_Node x6.1), (I x6.2)])) (v := (SL 5 c_api_Node x6.1)) rfl rfl) ?_
      refine arun_do rfl rfl rfl (ex_extract (vx := (Value.tuple #[(SL 5 c_api_Node x6.1), (I x6.2)])) (v := (I x6.2)) rfl rfl) ?_
      refine arun_do rfl rfl rfl (ex_assign (eV (v := (SL 5 c_api_Node x6.1)) rfl)) ?_
      refine arun_keepE [0, 1, 2, 3, 9] 0 0 (st' := ⟨138, 0, [(0, (S t0)), (1, (U8 t1)), (2, (U8 t2)), (3, (U8 t3)), (9, (SL 5 c_api_Node x6.1))], [], ⟨0, []⟩⟩) (by kernel_rfl) (by kernel_rfl) ?_
      show AWp _ _ _ _
      refine awp_seq ?_
      refine awp_region ?_
      refine arun_do rfl rfl rfl (ex_buildSliceG (k := 0) (qs := []) (cells := (([] : List G_api_Node).flatMap c_api_Node)) (H' := ⟨1, [(0, ⟨5, (([] : List G_api_Node).flatMap c_api_Node), true⟩)]⟩) Tryd.underlying24 s_39 (by decide) (by decide) evp_nil rfl (by kernel_rfl) (by kernel_rfl) (by kernel_rfl) rfl rfl) ?_
      refine arun_do rfl rfl rfl (ex_move (eV (v := (SL 5 c_api_Node x6.1)) rfl)) ?_
      obtain ⟨x7, hx7, h⟩ := bindS h
      refine arun_do rfl rfl rfl (tx_appG (c := c_api_Node) (xs := []) (H' := ⟨1, [(0, ⟨5, ((x7).flatMap c_api_Node), true⟩)]⟩) ce_api_Node e_39 rfl rfl rfl (tsrcD (ys := x6.1) ce_api_Node Tryd.underlying24 s_39 Tryd.underlying24 rfl) hx7 rfl) ?_
      refine arun_do rfl rfl rfl (ex_assign (eV (v := (GV 0 x7.length)) rfl)) ?_
      refine arun_keepE [0, 1, 2, 3, 9, 11] 0 1 (st' := ⟨138, 0, [(0, (S t0)), (1, (U8 t1)), (2, (U8 t2)), (3, (U8 t3)), (9, (SL 5 c_api_Node x6.1)), (11, (GV 0 x7.length))], [], ⟨1, [(0, ⟨5, ((x7).flatMap c_api_Node), true⟩)]⟩⟩) (by kernel_rfl) (by kernel_rfl) ?_
      show AWp _ _ _ _
      refine awp_seq ?_
      refine awp_region ?_
      refine arun_do rfl rfl rfl (ex_move (eV (v := (GV 0 x7.length)) rfl)) ?_
      refine arun_do rfl rfl rfl (ex_move (eV (v := (U8 t1)) rfl)) ?_
      obtain ⟨x8, hx8, h⟩ := bindS h
      refine arun_do rfl rfl rfl (ex_bin (vx := (U8 t1)) (vy := (U8 16)) rfl rfl (rem8_ok hx8)) ?_
      refine arun_do rfl rfl rfl (tx_8_64 Tryd.underlying5 Tryd.underlying3 rfl) ?_
      obtain ⟨x9, hx9, h⟩ := bindS h
      refine arun_do rfl rfl rfl (tx_idxG (c := c_api_Node) (xs := x7) (i := 1) ce_api_Node Tryd.underlying24 s_39 rfl rfl rfl rfl hx9) ?_
      refine arun_do rfl rfl rfl (ex_fieldAddr (v := (GP 0 (((1 : Int).toNat * 5) + 4) (List.flatMap c_api_Node x7).length)) Tryd.underlying39 rfl s_3 (by decide) rfl rfl) ?_
      obtain ⟨x10, hx10, h⟩ := bindS h
      refine arun_do0 rfl rfl (tx_stGp (c := c_api_Node) (xs := x7) (e := x9) (e' := (G_api_Node.mk x9.Kind x9.Up x9.Name x9.Body (x8.toNat : Int))) (off := 4) (vs := [(I (x8.toNat : Int))]) (H' := ⟨1, [(0, ⟨5, ((x10).flatMap c_api_Node), true⟩)]⟩) ce_api_Node s_3 rfl (by first | rfl | omega) (eV (v := (I (x8.toNat : Int))) rfl) rfl rfl hx9 (Nat.le_of_ble_eq_true rfl) (by kernel_rfl) rfl (List.cons_ne_nil _ _) hx10 rfl) ?_
      refine arun_fewer (T' := [(0, (S t0)), (1, (U8 t1)), (2, (U8 t2)), (3, (U8 t3)), (9, (SL 5 c_api_Node x6.1)), (11, (GV 0 x10.length)), (39, (GV 0 x10.length)), (40, (U8 t1)), (41, (U8 x8)), (42, (I (x8.toNat : Int)))]) (ReT.keep (v := (S t0)) rfl (ReT.keep (v := (U8 t1)) rfl (ReT.keep (v := (U8 t2)) rfl (ReT.keep (v := (U8 t3)) rfl (ReT.keep (v := (SL 5 c_api_Node x6.1)) rfl (ReT.gv rfl (setI_len hx10) (ReT.gv rfl (setI_len hx10) (ReT.keep (v := (U8 t1)) rfl (ReT.keep (v := (U8 x8)) rfl (ReT.keep (v := (I (x8.toNat : Int))) rfl ReT.nil)))))))))) ?_
      refine arun_keepE [0, 1, 2, 3, 9, 11] 0 1 (st' := ⟨138, 0, [(0, (S t0)), (1, (U8 t1)), (2, (U8 t2)), (3, (U8 t3)), (9, (SL 5 c_api_Node x6.1)), (11, (GV 0 x10.length))], [], ⟨1, [(0, ⟨5, ((x10).flatMap c_api_Node), true⟩)]⟩⟩) (by kernel_rfl) (by kernel_rfl) ?_
      show AWp _ _ _ _
      refine awp_seq ?_
      refine awp_region ?_
      refine arun_do rfl rfl rfl (ex_move (eV (v := (SL 5 c_api_Node x6.1)) rfl)) ?_
      refine arun_do rfl rfl rfl (ex_move (eV (v := (U8 t2)) rfl)) ?_
      refine arun_do rfl rfl rfl (tx_8_64 Tryd.underlying5 Tryd.underlying3 rfl) ?_
      refine arun_do rfl rfl rfl (ex_move (eV (v := (U8 t3)) rfl)) ?_
      refine arun_do rfl rfl rfl (tx_8_64 Tryd.underlying5 Tryd.underlying3 rfl) ?_
      obtain ⟨x11, hx11, h⟩ := bindS h
      refine arun_do rfl rfl rfl (ex_call0 (vs := [(SL 5 c_api_Node x6.1), (S ([102] : Str)), (I (t2.toNat : Int)), (I (t3.toNat : Int))]) (v := (Value.tuple #[(S x11.1), (I x11.2)])) rfl en_15 (cargs (evs rfl (evs rfl (evs rfl (evs rfl evs_nil))))) rfl (ok_data_Read x6.1 ([102] : Str) (t2.toNat : Int) (t3.toNat : Int) x11 hx11) rfl) ?_
      refine arun_do rfl rfl rfl (ex_move (eV (v := (Value.tuple #[(S x11.1), (I x11.2)])) rfl)) ?_
      refine arun_do rfl rfl rfl (ex_extract (vx := (Value.tuple #[(S x11.1), (I x11.2)])) (v := (S x11.1)) rfl rfl) ?_
      refine arun_do rfl rfl rfl (ex_extract (vx := (Value.tuple #[(S x11.1), (I x11.2)])) (v := (I x11.2)) rfl rfl) ?_
      refine arun_do rfl rfl rfl (ex_assign (eV (v := (S x11.1)) rfl)) ?_
      refine arun_do rfl rfl rfl (ex_assign (eV (v := (I x11.2)) rfl)) ?_
      refine arun_keepE [0, 1, 2, 3, 11, 12, 13] 0 1 (st' := ⟨138, 0, [(0, (S t0)), (1, (U8 t1)), (2, (U8 t2)), (3, (U8 t3)), (11, (GV 0 x10.length)), (12, (S x11.1)), (13, (I x11.2))], [], ⟨1, [(0, ⟨5, ((x10).flatMap c_api_Node), true⟩)]⟩⟩) (by kernel_rfl) (by kernel_rfl) ?_
      show AWp _ _ _ _
      refine awp_seq ?_
      refine awp_region ?_
      refine arun_do rfl rfl rfl (ex_move (eV (v := (GV 0 x10.length)) rfl)) ?_
      refine arun_do rfl rfl rfl (ex_move (eV (v := (U8 t2)) rfl)) ?_
      refine arun_do rfl rfl rfl (tx_8_64 Tryd.underlying5 Tryd.underlying3 rfl) ?_
      refine arun_do rfl rfl rfl (ex_move (eV (v := (U8 t3)) rfl)) ?_
      refine arun_do rfl rfl rfl (tx_8_64 Tryd.underlying5 Tryd.underlying3 rfl) ?_
      refine arun_freeze 0 (bk := ⟨5, ((x10).flatMap c_api_Node), true⟩) (T' := [(0, (S t0)), (1, (U8 t1)), (2, (U8 t2)), (3, (U8 t3)), (11, (SL 5 c_api_Node x10)), (12, (S x11.1)), (13, (I x11.2)), (55, (SL 5 c_api_Node x10)), (56, (U8 t2)), (57, (I (t2.toNat : Int))), (58, (U8 t3)), (59, (I (t3.toNat : Int)))]) (L' := []) rfl (FzT.keep (v := (S t0)) rfl (FzT.keep (v := (U8 t1)) rfl (FzT.keep (v := (U8 t2)) rfl (FzT.keep (v := (U8 t3)) rfl (fzG ce_api_Node rfl rfl (FzT.keep (v := (S x11.1)) rfl (FzT.keep (v := (I x11.2)) rfl (fzG ce_api_Node rfl rfl (FzT.keep (v := (U8 t2)) rfl (FzT.keep (v := (I (t2.toNat : Int))) rfl (FzT.keep (v := (U8 t3)) rfl (FzT.keep (v := (I (t3.toNat : Int))) rfl FzT.nil)))))))))))) (FzL.refl _) ?_
      show ARun _ _ _ _ _ ⟨138, 0, [(0, (S t0)), (1, (U8 t1)), (2, (U8 t2)), (3, (U8 t3)), (11, (SL 5 c_api_Node x10)), (12, (S x11.1)), (13, (I x11.2)), (55, (SL 5 c_api_Node x10)), (56, (U8 t2)), (57, (I (t2.toNat : Int))), (58, (U8 t3)), (59, (I (t3.toNat : Int)))], [], ⟨1, []⟩⟩
      obtain ⟨x12, hx12, h⟩ := bindS h
      refine arun_do rfl rfl rfl (ex_call0 (vs := [(SL 5 c_api_Node x10), (S ([102] : Str)), (I (t2.toNat : Int)), (I (t3.toNat : Int))]) (v := (Value.tuple #[(S x12.1), (I x12.2)])) rfl en_15 (cargs (evs rfl (evs rfl (evs rfl (evs rfl evs_nil))))) rfl (ok_data_Read x10 ([102] : Str) (t2.toNat : Int) (t3.toNat : Int) x12 hx12) rfl) ?_
      refine arun_do rfl rfl rfl (ex_move (eV (v := (Value.tuple #[(S x12.1), (I x12.2)])) rfl)) ?_
      refine arun_do rfl rfl rfl (ex_extract (vx := (Value.tuple #[(S x12.1), (I x12.2)])) (v := (S x12.1)) rfl rfl) ?_
      refine arun_do rfl rfl rfl (ex_extract (vx := (Value.tuple #[(S x12.1), (I x12.2)])) (v := (I x12.2)) rfl rfl) ?_
      refine arun_do rfl rfl rfl (ex_assign (eV (v := (S x12.1)) rfl)) ?_
      refine arun_do rfl rfl rfl (ex_assign (eV (v := (I x12.2)) rfl)) ?_
      refine arun_keepE [0, 1, 2, 3, 11, 12, 13, 14, 15] 0 0 (st' := ⟨138, 0, [(0, (S t0)), (1, (U8 t1)), (2, (U8 t2)), (3, (U8 t3)), (11, (SL 5 c_api_Node x10)), (12, (S x11.1)), (13, (I x11.2)), (14, (S x12.1)), (15, (I x12.2))], [], ⟨0, []⟩⟩) (by kernel_rfl) (by kernel_rfl) ?_
      show AWp _ _ _ _
      refine awp_seq ?_
      refine awp_region ?_
      refine arun_do rfl rfl rfl (ex_assign (eV (v := (Bo false)) rfl)) ?_
      refine arun_keepE [0, 1, 2, 3, 11, 12, 13, 14, 15, 16] 0 0 (st' := ⟨138, 0, [(0, (S t0)), (1, (U8 t1)), (2, (U8 t2)), (3, (U8 t3)), (11, (SL 5 c_api_Node x10)), (12, (S x11.1)), (13, (I x11.2)), (14, (S x12.1)), (15, (I x12.2)), (16, (Bo false))], [], ⟨0, []⟩⟩) (by kernel_rfl) (by kernel_rfl) ?_
      show AWp _ _ _ _
      refine awp_seq ?_
      refine awp_seq ?_
      refine awp_region ?_
      refine arun_do rfl rfl rfl (ex_move (eV (v := (U8 t2)) rfl)) ?_
      refine arun_do rfl rfl rfl (tx_8_64 Tryd.underlying5 Tryd.underlying3 rfl) ?_
      refine arun_do rfl rfl rfl (ex_assign (eV (v := (I (t2.toNat : Int))) rfl)) ?_
      refine arun_keepE [0, 1, 2, 3, 11, 12, 13, 14, 15, 16, 17] 0 0 (st' := ⟨138, 0, [(0, (S t0)), (1, (U8 t1)), (2, (U8 t2)), (3, (U8 t3)), (11, (SL 5 c_api_Node x10)), (12, (S x11.1)), (13, (I x11.2)), (14, (S x12.1)), (15, (I x12.2)), (16, (Bo false)), (17, (I (t2.toNat : Int)))], [], ⟨0, []⟩⟩) (by kernel_rfl) (by kernel_rfl) ?_
      show AWp _ _ _ _
      refine awp_block ?_
      refine awp_loop (fun n s => ∃ (v13 : Bool) (v14 : Int), s = ⟨138, 0, [(0, (S t0)), (1, (U8 t1)), (2, (U8 t2)), (3, (U8 t3)), (11, (SL 5 c_api_Node x10)), (12, (S x11.1)), (13, (I x11.2)), (14, (S x12.1)), (15, (I x12.2)), (16, (Bo v13)), (17, (I v14))], [], ⟨0, []⟩⟩ ∧ M_law15_DataTorn_l1 t0 t1 t2 t3 x10 x11 x12 n v13 v14 = some r) fuel (Exists.intro false (Exists.intro (t2.toNat : Int) (And.intro rfl h))) ?_
      rintro n s ⟨v13, v14, rfl, h⟩ -
      cases n with
      | zero => cases h
      | succ n1 =>
        unfold M_law15_DataTorn_l1 at h
        refine awp_seq ?_
        refine awp_seq ?_
        refine awp_region ?_
        refine arun_do rfl rfl rfl (ex_move (eV (v := (I v14)) rfl)) ?_
        refine arun_do rfl rfl rfl (ex_move (eV (v := (U8 t2)) rfl)) ?_
        refine arun_do rfl rfl rfl (tx_8_64 Tryd.underlying5 Tryd.underlying3 rfl) ?_
        refine arun_do rfl rfl rfl (ex_move (eV (v := (U8 t3)) rfl)) ?_
        refine arun_do rfl rfl rfl (tx_8_64 Tryd.underlying5 Tryd.underlying3 rfl) ?_
        refine arun_do rfl rfl rfl (ex_bin (vx := (I (t2.toNat : Int))) (vy := (I (t3.toNat : Int))) rfl rfl addI_ok) ?_
        refine arun_do rfl rfl rfl (ex_bin (vx := (I v14)) (vy := (I (w64 ((t2.toNat : Int) + (t3.toNat : Int))))) rfl rfl lssI_ok) ?_
        refine arun_do rfl rfl rfl (ex_move (eV (v := (Bo (decide (v14 < (w64 ((t2.toNat : Int) + (t3.toNat : Int))))))) rfl)) ?_
        refine arun_guard (v := (I v14)) ((decide (v14 < (w64 ((t2.toNat : Int) + (t3.toNat : Int))))) == true) rfl rfl rfl (fun hc => ex_move (eV (v := (I v14)) rfl)) ?_
        refine arun_guard (v := (S t0)) ((decide (v14 < (w64 ((t2.toNat : Int) + (t3.toNat : Int))))) == true) rfl rfl rfl (fun hc => ex_move (eV (v := (S t0)) rfl)) ?_
        refine arun_guard (v := (I (t0.length : Int))) ((decide (v14 < (w64 ((t2.toNat : Int) + (t3.toNat : Int))))) == true) rfl rfl rfl (fun hc => tx_lenS Tryd.underlying9 (cond_of hc)) ?_
        refine arun_guard (v := (Bo (decide (v14 < (t0.length : Int))))) ((decide (v14 < (w64 ((t2.toNat : Int) + (t3.toNat : Int))))) == true) rfl rfl rfl (fun hc => ex_bin (vx := (I v14)) (vy := (I (t0.length : Int))) (cond_of hc) (cond_of hc) lssI_ok) ?_
        refine arun_do rfl rfl rfl (ex_pick rfl pkAnd) ?_
        refine arun_keepE [0, 1, 2, 3, 11, 12, 13, 14, 15, 16, 17, 77] 0 0 (st' := ⟨138, 0, [(0, (S t0)), (1, (U8 t1)), (2, (U8 t2)), (3, (U8 t3)), (11, (SL 5 c_api_Node x10)), (12, (S x11.1)), (13, (I x11.2)), (14, (S x12.1)), (15, (I x12.2)), (16, (Bo v13)), (17, (I v14)), (77, (Bo ((decide (v14 < (w64 ((t2.toNat : Int) + (t3.toNat : Int))))) && (decide (v14 < (t0.length : Int))))))], [], ⟨0, []⟩⟩) (by kernel_rfl) (by kernel_rfl) ?_
        show AWp _ _ _ _
        rcases Bool.eq_false_or_eq_true ((decide (v14 < (w64 ((t2.toNat : Int) + (t3.toNat : Int))))) && (decide (v14 < (t0.length : Int)))) with hb15 | hb15
        · rw [condT hb15] at h
          refine awp_condT (boT hb15) ?_
          refine awp_skip ?_
          show AWp _ _ _ _
          refine awp_seq ?_
          refine awp_block ?_
          refine awp_region ?_
          refine arun_do rfl rfl rfl (ex_move (eV (v := (Bo v13)) rfl)) ?_
          refine arun_do rfl rfl rfl (ex_move (eV (v := (Bo v13)) rfl)) ?_
          refine arun_guard (v := (U8 t1)) (v13 == false) rfl rfl rfl (fun hc => ex_move (eV (v := (U8 t1)) rfl)) ?_
          refine arun_guard (v := (I v14)) (v13 == false) rfl rfl rfl (fun hc => ex_move (eV (v := (I v14)) rfl)) ?_
          obtain ⟨x16, hx16, h⟩ := bindS h
          refine arun_guard (v := (I x16)) (v13 == false) rfl rfl rfl (fun hc => ex_bin (vx := (I v14)) (vy := (I 32)) (cond_of hc) rfl (quoI_ok (gd_of hc hx16))) ?_
          obtain ⟨x17, hx17, h⟩ := bindS h
          refine arun_guard (v := (U8 x17)) (v13 == false) rfl rfl rfl (fun hc => ex_bin (vx := (U8 t1)) (vy := (I x16)) (cond_of hc) (cond_of hc) (shr8_ok (gd_of hc hx17))) ?_
          refine arun_guard (v := (U8 (x17 &&& 1))) (v13 == false) rfl rfl rfl (fun hc => ex_bin (vx := (U8 x17)) (vy := (U8 1)) (cond_of hc) rfl and8_ok) ?_
          refine arun_guard (v := (Bo ((x17 &&& 1) == 1))) (v13 == false) rfl rfl rfl (fun hc => ex_bin (vx := (U8 (x17 &&& 1))) (vy := (U8 1)) (cond_of hc) rfl eql8_ok) ?_
          refine arun_do rfl rfl rfl (ex_pick rfl pkOr) ?_
          refine arun_do rfl rfl rfl (ex_assign (eV (v := (Bo (v13 || ((x17 &&& 1) == 1)))) rfl)) ?_
          refine arun_keepE [0, 1, 2, 3, 11, 12, 13, 14, 15, 16, 17] 0 0 (st' := ⟨138, 0, [(0, (S t0)), (1, (U8 t1)), (2, (U8 t2)), (3, (U8 t3)), (11, (SL 5 c_api_Node x10)), (12, (S x11.1)), (13, (I x11.2)), (14, (S x12.1)), (15, (I x12.2)), (16, (Bo (v13 || ((x17 &&& 1) == 1)))), (17, (I v14))], [], ⟨0, []⟩⟩) (by kernel_rfl) (by kernel_rfl) ?_
          show AWp _ _ _ _
          refine awp_region ?_
          refine arun_do rfl rfl rfl (ex_move (eV (v := (I v14)) rfl)) ?_
          refine arun_do rfl rfl rfl (ex_bin (vx := (I v14)) (vy := (I 1)) rfl rfl addI_ok) ?_
          refine arun_do rfl rfl rfl (ex_assign (eV (v := (I (w64 (v14 + 1)))) rfl)) ?_
          refine arun_keepE [0, 1, 2, 3, 11, 12, 13, 14, 15, 16, 17] 0 0 (st' := ⟨138, 0, [(0, (S t0)), (1, (U8 t1)), (2, (U8 t2)), (3, (U8 t3)), (11, (SL 5 c_api_Node x10)), (12, (S x11.1)), (13, (I x11.2)), (14, (S x12.1)), (15, (I x12.2)), (16, (Bo (v13 || ((x17 &&& 1) == 1)))), (17, (I (w64 (v14 + 1))))], [], ⟨0, []⟩⟩) (by kernel_rfl) (by kernel_rfl) ?_
          exact Exists.intro n1 (And.intro (Nat.lt_succ_self _) (Exists.intro (v13 || ((x17 &&& 1) == 1)) (Exists.intro (w64 (v14 + 1)) (And.intro rfl h))))
        · rw [condF hb15] at h
          refine awp_condF (boF hb15) ?_
          refine awp_exit ?_
          show AWp _ _ _ _
          refine awp_seq ?_
          refine awp_region ?_
          refine arun_do rfl rfl rfl (ex_move (eV (v := (SL 5 c_api_Node x10)) rfl)) ?_
          obtain ⟨x18, hx18, h⟩ := bindS h
          refine arun_do rfl rfl rfl (ex_call0 (vs := [(SL 5 c_api_Node x10), (S ([102] : Str))]) (v := (Value.tuple #[(Value.agg (c_api_Stat x18.1).toArray), (I x18.2)])) rfl en_19 (cargs (evs rfl (evs rfl evs_nil))) rfl (ok_data_Stat x10 ([102] : Str) x18 hx18) rfl) ?_
          refine arun_do rfl rfl rfl (ex_move (eV (v := (Value.tuple #[(Value.agg (c_api_Stat x18.1).toArray), (I x18.2)])) rfl)) ?_
          refine arun_do rfl rfl rfl (ex_extract (vx := (Value.tuple #[(Value.agg (c_api_Stat x18.1).toArray), (I x18.2)])) (v := (Value.agg (c_api_Stat x18.1).toArray)) rfl rfl) ?_
          refine arun_do rfl rfl rfl (ex_extract (vx := (Value.tuple #[(Value.agg (c_api_Stat x18.1).toArray), (I x18.2)])) (v := (I x18.2)) rfl rfl) ?_
          refine arun_do rfl rfl rfl (ex_alloc (k := 0) (zs := (c_api_Stat (G_api_Stat.mk 0 0 0 0))) (L' := [(c_api_Stat (G_api_Stat.mk 0 0 0 0))]) z_41 rfl rfl rfl rfl) ?_
          refine arun_do0 rfl rfl (ex_storeL (vy := (Value.agg (c_api_Stat x18.1).toArray)) (cs := (c_api_Stat (G_api_Stat.mk 0 0 0 0))) (vs := (c_api_Stat x18.1)) (L' := [(c_api_Stat x18.1)]) rfl (eV (v := (Value.agg (c_api_Stat x18.1).toArray)) rfl) rfl s_41 rfl (Nat.le_of_ble_eq_true rfl) (by kernel_rfl)) ?_
          refine arun_do rfl rfl rfl (ex_assign (eV (v := (I x18.2)) rfl)) ?_
          refine arun_keepE [0, 12, 13, 14, 15, 16, 18, 19] 1 0 (st' := ⟨138, 0, [(0, (S t0)), (12, (S x11.1)), (13, (I x11.2)), (14, (S x12.1)), (15, (I x12.2)), (16, (Bo v13)), (18, (LP 0 0)), (19, (I x18.2))], [(c_api_Stat x18.1)], ⟨0, []⟩⟩) (by kernel_rfl) (by kernel_rfl) ?_
          show AWp _ _ _ _
          refine awp_seq ?_
          refine awp_region ?_
          refine arun_do rfl rfl rfl (ex_move (eV (v := (I x11.2)) rfl)) ?_
          refine arun_do rfl rfl rfl (ex_bin (vx := (I x11.2)) (vy := (I 0)) rfl rfl eqlI_ok) ?_
          refine arun_do rfl rfl rfl (ex_move (eV (v := (Bo (x11.2 == 0))) rfl)) ?_
          refine arun_guard (v := (I x12.2)) ((x11.2 == 0) == true) rfl rfl rfl (fun hc => ex_move (eV (v := (I x12.2)) rfl)) ?_
          refine arun_guard (v := (Bo (x12.2 == 12))) ((x11.2 == 0) == true) rfl rfl rfl (fun hc => ex_bin (vx := (I x12.2)) (vy := (I 12)) (cond_of hc) rfl eqlI_ok) ?_
          refine arun_guard (v := (Bo v13)) ((x11.2 == 0) == true) rfl rfl rfl (fun hc => ex_move (eV (v := (Bo v13)) rfl)) ?_
          refine arun_guard (v := (Bo ((x12.2 == 12) == v13))) ((x11.2 == 0) == true) rfl rfl rfl (fun hc => ex_bin (vx := (Bo (x12.2 == 12))) (vy := (Bo v13)) (cond_of hc) (cond_of hc) (eqlB_ok Tryd.underlying4)) ?_
          refine arun_do rfl rfl rfl (ex_pick rfl pkAnd) ?_
          refine arun_do rfl rfl rfl (ex_move (eV (v := (Bo ((x11.2 == 0) && ((x12.2 == 12) == v13)))) rfl)) ?_
          refine arun_guard (v := (Bo v13)) (((x11.2 == 0) && ((x12.2 == 12) == v13)) == true) rfl rfl rfl (fun hc => ex_move (eV (v := (Bo v13)) rfl)) ?_
          refine arun_guard (v := (Bo v13)) (((x11.2 == 0) && ((x12.2 == 12) == v13)) == true) rfl rfl rfl (fun hc => ex_move (eV (v := (Bo v13)) (cond_of hc))) ?_
          refine arun_guard (v := (S x12.1)) ((((x11.2 == 0) && ((x12.2 == 12) == v13)) == true) && (v13 == true)) rfl rfl gv_nest (fun hc => ex_move (eV (v := (S x12.1)) rfl)) ?_
          refine arun_guard (v := (Bo (x12.1 == []))) ((((x11.2 == 0) && ((x12.2 == 12) == v13)) == true) && (v13 == true)) rfl rfl gv_nest (fun hc => ex_bin (vx := (S x12.1)) (vy := (S [])) (cond_of hc) rfl eqlS_ok) ?_
          refine arun_guard (v := (Bo (v13 && (x12.1 == [])))) (((x11.2 == 0) && ((x12.2 == 12) == v13)) == true) rfl rfl rfl (fun hc => ex_pick (cond_of hc) (pkAndN hc)) ?_
          refine arun_guard (v := (Bo (v13 && (x12.1 == [])))) (((x11.2 == 0) && ((x12.2 == 12) == v13)) == true) rfl rfl rfl (fun hc => ex_move (eV (v := (Bo (v13 && (x12.1 == [])))) (cond_of hc))) ?_
          refine arun_guard (v := (Bo v13)) ((((x11.2 == 0) && ((x12.2 == 12) == v13)) == true) && ((v13 && (x12.1 == [])) == false)) rfl rfl gv_nest (fun hc => ex_move (eV (v := (Bo v13)) rfl)) ?_
          refine arun_guard (v := (Bo (!v13))) ((((x11.2 == 0) && ((x12.2 == 12) == v13)) == true) && ((v13 && (x12.1 == [])) == false)) rfl rfl gv_nest (fun hc => ex_un (vx := (Bo v13)) (cond_of hc) notB_ok) ?_
          refine arun_guard (v := (Bo (!v13))) ((((x11.2 == 0) && ((x12.2 == 12) == v13)) == true) && ((v13 && (x12.1 == [])) == false)) rfl rfl gv_nest (fun hc => ex_move (eV (v := (Bo (!v13))) (cond_of hc))) ?_
          refine arun_guard (v := (I x12.2)) (((((x11.2 == 0) && ((x12.2 == 12) == v13)) == true) && ((v13 && (x12.1 == [])) == false)) && ((!v13) == true)) rfl rfl gv_nest (fun hc => ex_move (eV (v := (I x12.2)) rfl)) ?_
          refine arun_guard (v := (Bo (x12.2 == 0))) (((((x11.2 == 0) && ((x12.2 == 12) == v13)) == true) && ((v13 && (x12.1 == [])) == false)) && ((!v13) == true)) rfl rfl gv_nest (fun hc => ex_bin (vx := (I x12.2)) (vy := (I 0)) (cond_of hc) rfl eqlI_ok) ?_
          refine arun_guard (v := (Bo ((!v13) && (x12.2 == 0)))) ((((x11.2 == 0) && ((x12.2 == 12) == v13)) == true) && ((v13 && (x12.1 == [])) == false)) rfl rfl gv_nest (fun hc => ex_pick (cond_of hc) (pkAndN hc)) ?_
          refine arun_guard (v := (Bo ((!v13) && (x12.2 == 0)))) ((((x11.2 == 0) && ((x12.2 == 12) == v13)) == true) && ((v13 && (x12.1 == [])) == false)) rfl rfl gv_nest (fun hc => ex_move (eV (v := (Bo ((!v13) && (x12.2 == 0)))) (cond_of hc))) ?_
          refine arun_guard (v := (S x12.1)) (((((x11.2 == 0) && ((x12.2 == 12) == v13)) == true) && ((v13 && (x12.1 == [])) == false)) && (((!v13) && (x12.2 == 0)) == true)) rfl rfl gv_nest (fun hc => ex_move (eV (v := (S x12.1)) rfl)) ?_
          refine arun_guard (v := (S x11.1)) (((((x11.2 == 0) && ((x12.2 == 12) == v13)) == true) && ((v13 && (x12.1 == [])) == false)) && (((!v13) && (x12.2 == 0)) == true)) rfl rfl gv_nest (fun hc => ex_move (eV (v := (S x11.1)) rfl)) ?_
          refine arun_guard (v := (Bo (x12.1 == x11.1))) (((((x11.2 == 0) && ((x12.2 == 12) == v13)) == true) && ((v13 && (x12.1 == [])) == false)) && (((!v13) && (x12.2 == 0)) == true)) rfl rfl gv_nest (fun hc => ex_bin (vx := (S x12.1)) (vy := (S x11.1)) (cond_of hc) (cond_of hc) eqlS_ok) ?_
          refine arun_guard (v := (Bo (((!v13) && (x12.2 == 0)) && (x12.1 == x11.1)))) ((((x11.2 == 0) && ((x12.2 == 12) == v13)) == true) && ((v13 && (x12.1 == [])) == false)) rfl rfl gv_nest (fun hc => ex_pick (cond_of hc) (pkAndN hc)) ?_
          refine arun_guard (v := (Bo ((v13 && (x12.1 == [])) || (((!v13) && (x12.2 == 0)) && (x12.1 == x11.1))))) (((x11.2 == 0) && ((x12.2 == 12) == v13)) == true) rfl rfl rfl (fun hc => ex_pick (cond_of hc) (pkOrN hc)) ?_
          refine arun_do rfl rfl rfl (ex_pick rfl pkAnd) ?_
          refine arun_do rfl rfl rfl (ex_move (eV (v := (Bo (((x11.2 == 0) && ((x12.2 == 12) == v13)) && ((v13 && (x12.1 == [])) || (((!v13) && (x12.2 == 0)) && (x12.1 == x11.1)))))) rfl)) ?_
          refine arun_guard (v := (I x18.2)) ((((x11.2 == 0) && ((x12.2 == 12) == v13)) && ((v13 && (x12.1 == [])) || (((!v13) && (x12.2 == 0)) && (x12.1 == x11.1)))) == true) rfl rfl rfl (fun hc => ex_move (eV (v := (I x18.2)) rfl)) ?_
          refine arun_guard (v := (Bo (x18.2 == 0))) ((((x11.2 == 0) && ((x12.2 == 12) == v13)) && ((v13 && (x12.1 == [])) || (((!v13) && (x12.2 == 0)) && (x12.1 == x11.1)))) == true) rfl rfl rfl (fun hc => ex_bin (vx := (I x18.2)) (vy := (I 0)) (cond_of hc) rfl eqlI_ok) ?_
          refine arun_do rfl rfl rfl (ex_pick rfl pkAnd) ?_
          refine arun_do rfl rfl rfl (ex_move (eV (v := (Bo ((((x11.2 == 0) && ((x12.2 == 12) == v13)) && ((v13 && (x12.1 == [])) || (((!v13) && (x12.2 == 0)) && (x12.1 == x11.1)))) && (x18.2 == 0)))) rfl)) ?_
          refine arun_guard (v := (LP 0 2)) (((((x11.2 == 0) && ((x12.2 == 12) == v13)) && ((v13 && (x12.1 == [])) || (((!v13) && (x12.2 == 0)) && (x12.1 == x11.1)))) && (x18.2 == 0)) == true) rfl rfl rfl (fun hc => ex_fieldAddr (v := (LP 0 2)) Tryd.underlying41 rfl s_3 (by decide) rfl rfl) ?_
          refine arun_guard (v := (I x18.1.Size)) (((((x11.2 == 0) && ((x12.2 == 12) == v13)) && ((v13 && (x12.1 == [])) || (((!v13) && (x12.2 == 0)) && (x12.1 == x11.1)))) && (x18.2 == 0)) == true) rfl rfl rfl (fun hc => tx_ldL1 (v := (I x18.1.Size)) Tryd.underlying3 rfl (cond_of hc) rfl rfl) ?_
          refine arun_guard (v := (S t0)) (((((x11.2 == 0) && ((x12.2 == 12) == v13)) && ((v13 && (x12.1 == [])) || (((!v13) && (x12.2 == 0)) && (x12.1 == x11.1)))) && (x18.2 == 0)) == true) rfl rfl rfl (fun hc => ex_move (eV (v := (S t0)) rfl)) ?_
          refine arun_guard (v := (I (t0.length : Int))) (((((x11.2 == 0) && ((x12.2 == 12) == v13)) && ((v13 && (x12.1 == [])) || (((!v13) && (x12.2 == 0)) && (x12.1 == x11.1)))) && (x18.2 == 0)) == true) rfl rfl rfl (fun hc => tx_lenS Tryd.underlying9 (cond_of hc)) ?_
          refine arun_guard (v := (Bo (x18.1.Size == (t0.length : Int)))) (((((x11.2 == 0) && ((x12.2 == 12) == v13)) && ((v13 && (x12.1 == [])) || (((!v13) && (x12.2 == 0)) && (x12.1 == x11.1)))) && (x18.2 == 0)) == true) rfl rfl rfl (fun hc => ex_bin (vx := (I x18.1.Size)) (vy := (I (t0.length : Int))) (cond_of hc) (cond_of hc) eqlI_ok) ?_
          refine arun_do rfl rfl rfl (ex_pick rfl pkAnd) ?_
          refine arun_do rfl rfl rfl (ex_move (eV (v := (Bo (((((x11.2 == 0) && ((x12.2 == 12) == v13)) && ((v13 && (x12.1 == [])) || (((!v13) && (x12.2 == 0)) && (x12.1 == x11.1)))) && (x18.2 == 0)) && (x18.1.Size == (t0.length : Int))))) rfl)) ?_
          refine arun_guard (v := (LP 0 1)) ((((((x11.2 == 0) && ((x12.2 == 12) == v13)) && ((v13 && (x12.1 == [])) || (((!v13) && (x12.2 == 0)) && (x12.1 == x11.1)))) && (x18.2 == 0)) && (x18.1.Size == (t0.length : Int))) == true) rfl rfl rfl (fun hc => ex_fieldAddr (v := (LP 0 1)) Tryd.underlying41 rfl s_3 (by decide) rfl rfl) ?_
          refine arun_guard (v := (I x18.1.Kind)) ((((((x11.2 == 0) && ((x12.2 == 12) == v13)) && ((v13 && (x12.1 == [])) || (((!v13) && (x12.2 == 0)) && (x12.1 == x11.1)))) && (x18.2 == 0)) && (x18.1.Size == (t0.length : Int))) == true) rfl rfl rfl (fun hc => tx_ldL1 (v := (I x18.1.Kind)) Tryd.underlying3 rfl (cond_of hc) rfl rfl) ?_
          refine arun_guard (v := (Bo (x18.1.Kind == 1))) ((((((x11.2 == 0) && ((x12.2 == 12) == v13)) && ((v13 && (x12.1 == [])) || (((!v13) && (x12.2 == 0)) && (x12.1 == x11.1)))) && (x18.2 == 0)) && (x18.1.Size == (t0.length : Int))) == true) rfl rfl rfl (fun hc => ex_bin (vx := (I x18.1.Kind)) (vy := (I 1)) (cond_of hc) rfl eqlI_ok) ?_
          refine arun_do rfl rfl rfl (ex_pick rfl pkAnd) ?_
          refine arun_do rfl rfl rfl (ex_assign (eV (v := (Bo ((((((x11.2 == 0) && ((x12.2 == 12) == v13)) && ((v13 && (x12.1 == [])) || (((!v13) && (x12.2 == 0)) && (x12.1 == x11.1)))) && (x18.2 == 0)) && (x18.1.Size == (t0.length : Int))) && (x18.1.Kind == 1)))) rfl)) ?_
          refine arun_keepE [8] 0 0 (st' := ⟨138, 0, [(8, (Bo ((((((x11.2 == 0) && ((x12.2 == 12) == v13)) && ((v13 && (x12.1 == [])) || (((!v13) && (x12.2 == 0)) && (x12.1 == x11.1)))) && (x18.2 == 0)) && (x18.1.Size == (t0.length : Int))) && (x18.1.Kind == 1))))], [], ⟨0, []⟩⟩) (by kernel_rfl) (by kernel_rfl) ?_
          show AWp _ _ _ _
          refine awp_ret ?_
          cases h
          exact ares1 (rtmp rfl (eV rfl))

end Go.Proofs
