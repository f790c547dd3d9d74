/- Pure models of functions of the program, and that its code does what they say: palimplaw15 DataHoles. Written by a program. -/
import Derived.Test.YtiolemkcnkokaaaDoorR1510
import Derived.Test.YtiolemkcnkokaaaDoorR159
import Derived.Test.YtiolemkcnkokaaaDoorR15B
set_option maxRecDepth 20000
set_option maxHeartbeats 4000000
namespace Go.Proofs
open Go Go.Fhl
set_option linter.unusedVariables false
set_option linter.unusedSimpArgs false
noncomputable def M_law15_DataHoles_k1 (c_1 : (Int → Str → Int → Option Bool)) (t0 : Str) (v6 : Int) (y8 : Int) (y9 : Str) : Option Bool :=
  c_1 y8 y9 (w64 (v6 + 1))
noncomputable def M_law15_DataHoles_k2 (c_1 : (Int → Str → Int → Option Bool)) (t0 : Str) (v5 : Str) (v6 : Int) (y11 : Int) (y12 : Str) : Option Bool :=
  cond ((y12.length : Int) != 32) (some false) (Option.bind (addS v5 y12) fun (x16 : Str) => M_law15_DataHoles_k1 c_1 t0 v6 y11 x16)
noncomputable def M_law15_DataHoles_l3 (c_1 : (Int → Str → Int → Option Bool)) (c_2 : (Int → Option Bool)) (t0 : Str) (v4 : Int) : Nat → Int → Option Bool
  | 0, _ => none
  | n3 + 1, v23 =>
  cond (decide (v23 < 4)) (Option.bind (M_data_Part t0 v23) fun (x25 : Str) => Option.bind (makeL 1 32 0) fun (x26 : List UInt8) => cond (x25 == x26) (some false) ((M_law15_DataHoles_l3 c_1 c_2 t0 v4 n3) (w64 (v23 + 1)))) (Option.bind (M_data_Parts t0) fun (x28 : Int) => Option.bind (gd ((x28 == v4) == true) (M_data_Part t0 (-1))) fun (x29 : Str) => Option.bind (gd (((x28 == v4) && (x29 == [])) == true) (M_data_Part t0 4)) fun (x30 : Str) => some (((x28 == v4) && (x29 == [])) && (x30 == [])))
noncomputable def M_law15_DataHoles_l2 (c_1 : (Int → Str → Int → Option Bool)) (t0 : Str) (v4 : Int) (v5 : Str) : Nat → Int → Option Bool
  | 0, _ => none
  | n2 + 1, v17 =>
  cond (decide (v17 < (v5.length : Int))) (Option.bind (gd ((decide (v17 < (t0.length : Int))) == true) (getI v5 v17)) fun (x19 : UInt8) => Option.bind (gd ((decide (v17 < (t0.length : Int))) == true) (getI t0 v17)) fun (x20 : UInt8) => Option.bind (gd ((((decide (v17 < (t0.length : Int))) && (x19 != x20)) == false) && ((decide (v17 ≥ (t0.length : Int))) == true)) (getI v5 v17)) fun (x21 : UInt8) => cond (((decide (v17 < (t0.length : Int))) && (x19 != x20)) || ((decide (v17 ≥ (t0.length : Int))) && (x21 != 0))) (some false) ((M_law15_DataHoles_l2 c_1 t0 v4 v5 n2) (w64 (v17 + 1)))) (M_law15_DataHoles_l3 c_1 (M_law15_DataHoles_l2 c_1 t0 v4 v5 n2) t0 v4 fuel 0)
noncomputable def M_law15_DataHoles_l1 (t0 : Str) : Nat → Int → Str → Int → Option Bool
  | 0, _, _, _ => none
  | n1 + 1, v4, v5, v6 =>
  cond (decide (v6 < 4)) (Option.bind (M_data_Part t0 v6) fun (x10 : Str) => cond (x10 == []) (Option.bind (makeL 1 32 0) fun (x14 : List UInt8) => M_law15_DataHoles_k2 (M_law15_DataHoles_l1 t0 n1) t0 v5 v6 v4 x14) (M_law15_DataHoles_k2 (M_law15_DataHoles_l1 t0 n1) t0 v5 v6 (w64 (v4 + 1)) x10)) (M_law15_DataHoles_l2 (M_law15_DataHoles_l1 t0 n1) t0 v4 v5 fuel 0)
noncomputable def M_law15_DataHoles (t0 : Str) : Option Bool :=
  Option.bind (M_law15_begun) fun (x1 : Bool) => cond (!x1) (some false) (cond (decide ((t0.length : Int) > 128)) (some true) (M_law15_DataHoles_l1 t0 fuel 0 ([] : Str) 0))
theorem ok_law15_DataHoles (t0 : Str) (r : Bool) (h : M_law15_DataHoles t0 = some r) : FFn Tryd.prog 4 [(S t0)] (Bo r) := by
  refine FFn.of_body (n := 90) Tryd.func4 rfl Tryd.ntmps4 rfl rfl rfl rfl ?_
  show AWp _ _ _ ⟨90, 0, [(0, (S t0))], [], ⟨0, []⟩⟩
  unfold M_law15_DataHoles at h
  refine awp_seq ?_
  refine awp_region ?_
  refine arun_do rfl rfl rfl (ex_assign (eV (v := (Bo false)) rfl)) ?_
  refine arun_keepE [0] 0 0 (st' := ⟨90, 0, [(0, (S t0))], [], ⟨0, []⟩⟩) (by kernel_rfl) (by kernel_rfl) ?_
  show AWp _ _ _ _
  refine awp_seq ?_
  refine awp_seq ?_
  refine awp_region ?_
  obtain ⟨x1, hx1, h⟩ := bindS h
  refine arun_do rfl rfl rfl (ex_call0 (vs := []) (v := (Bo x1)) rfl en_9 (cargs evs_nil) rfl (ok_law15_begun  x1 hx1) rfl) ?_
  refine arun_do rfl rfl rfl (ex_un (vx := (Bo x1)) rfl notB_ok) ?_
  refine arun_keepE [0, 11] 0 0 (st' := ⟨90, 0, [(0, (S t0)), (11, (Bo (!x1)))], [], ⟨0, []⟩⟩) (by kernel_rfl) (by kernel_rfl) ?_
  show AWp _ _ _ _
  rcases Bool.eq_false_or_eq_true (!x1) with hb2 | hb2
  · rw [condT hb2] at h
    refine awp_condT (boT hb2) ?_
    refine awp_seq ?_
    refine awp_region ?_
    refine arun_do rfl rfl rfl (ex_assign (eV (v := (Bo false)) rfl)) ?_
    refine arun_keepE [2] 0 0 (st' := ⟨90, 0, [(2, (Bo false))], [], ⟨0, []⟩⟩) (by kernel_rfl) (by kernel_rfl) ?_
    show AWp _ _ _ _
    refine awp_ret ?_
    cases h
    exact ares1 (rtmp rfl (eV rfl))
  · rw [condF hb2] at h
    refine awp_condF (boF hb2) ?_
    refine awp_skip ?_
    show AWp _ _ _ _
    refine awp_seq ?_
    refine awp_seq ?_
    refine awp_region ?_
    refine arun_do rfl rfl rfl (ex_move (eV (v := (S t0)) rfl)) ?_
    refine arun_do rfl rfl rfl (tx_lenS Tryd.underlying9 rfl) ?_
    refine arun_do rfl rfl rfl (ex_bin (vx := (I (t0.length : Int))) (vy := (I 128)) rfl rfl gtrI_ok) ?_
    refine arun_keepE [0, 14] 0 0 (st' := ⟨90, 0, [(0, (S t0)), (14, (Bo (decide ((t0.length : Int) > 128))))], [], ⟨0, []⟩⟩) (by kernel_rfl) (by kernel_rfl) ?_
    show AWp _ _ _ _
    rcases Bool.eq_false_or_eq_true (decide ((t0.length : Int) > 128)) with hb3 | hb3
    · rw [condT hb3] at h
      refine awp_condT (boT hb3) ?_
      refine awp_seq ?_
      refine awp_region ?_
      refine arun_do rfl rfl rfl (ex_assign (eV (v := (Bo true)) rfl)) ?_
      refine arun_keepE [2] 0 0 (st' := ⟨90, 0, [(2, (Bo true))], [], ⟨0, []⟩⟩) (by kernel_rfl) (by kernel_rfl) ?_
      show AWp _ _ _ _
      refine awp_ret ?_
      cases h
      exact ares1 (rtmp rfl (eV rfl))
    · rw [condF hb3] at h
      refine awp_condF (boF hb3) ?_
      refine awp_skip ?_
      show AWp _ _ _ _
      refine awp_seq ?_
      refine awp_region ?_
      refine arun_do rfl rfl rfl (ex_assign (eV (v := (I 0)) rfl)) ?_
      refine arun_do rfl rfl rfl (ex_assign (eV (v := (S [])) rfl)) ?_
      refine arun_keepE [0, 3, 4] 0 0 (st' := ⟨90, 0, [(0, (S t0)), (3, (I 0)), (4, (S []))], [], ⟨0, []⟩⟩) (by kernel_rfl) (by kernel_rfl) ?_
      show AWp _ _ _ _
      refine awp_seq ?_
      refine awp_seq ?_
      refine awp_region ?_
      refine arun_do rfl rfl rfl (ex_assign (eV (v := (I 0)) rfl)) ?_
      refine arun_keepE [0, 3, 4, 5] 0 0 (st' := ⟨90, 0, [(0, (S t0)), (3, (I 0)), (4, (S [])), (5, (I 0))], [], ⟨0, []⟩⟩) (by kernel_rfl) (by kernel_rfl) ?_
      show AWp _ _ _ _
      refine awp_block ?_
      refine awp_loop (fun n s => ∃ (v4 : Int) (v5 : Str) (v6 : Int), s = ⟨90, 0, [(0, (S t0)), (3, (I v4)), (4, (S v5)), (5, (I v6))], [], ⟨0, []⟩⟩ ∧ M_law15_DataHoles_l1 t0 n v4 v5 v6 = some r) fuel (Exists.intro 0 (Exists.intro ([] : Str) (Exists.intro 0 (And.intro rfl h)))) ?_
      rintro n s ⟨v4, v5, v6, rfl, h⟩ -
      cases n with
      | zero => cases h
      | succ n1 =>
        unfold M_law15_DataHoles_l1 at h
        refine awp_seq ?_
        refine awp_seq ?_
        refine awp_region ?_
        refine arun_do rfl rfl rfl (ex_move (eV (v := (I v6)) rfl)) ?_
        refine arun_do rfl rfl rfl (ex_bin (vx := (I v6)) (vy := (I 4)) rfl rfl lssI_ok) ?_
        refine arun_keepE [0, 3, 4, 5, 16] 0 0 (st' := ⟨90, 0, [(0, (S t0)), (3, (I v4)), (4, (S v5)), (5, (I v6)), (16, (Bo (decide (v6 < 4))))], [], ⟨0, []⟩⟩) (by kernel_rfl) (by kernel_rfl) ?_
        show AWp _ _ _ _
        rcases Bool.eq_false_or_eq_true (decide (v6 < 4)) with hb7 | hb7
        · rw [condT hb7] at h
          refine awp_condT (boT hb7) ?_
          refine awp_skip ?_
          show AWp _ _ _ _
          refine awp_seqJ (fun s => ∃ (y8 : Int) (y9 : Str), s = ⟨90, 0, [(0, (S t0)), (3, (I y8)), (4, (S y9)), (5, (I v6))], [], ⟨0, []⟩⟩ ∧ M_law15_DataHoles_k1 (M_law15_DataHoles_l1 t0 n1) t0 v6 y8 y9 = some r) ?_ ?_
          · refine awp_block ?_
            refine awp_seq ?_
            refine awp_region ?_
            refine arun_do rfl rfl rfl (ex_move (eV (v := (S t0)) rfl)) ?_
            refine arun_do rfl rfl rfl (ex_move (eV (v := (I v6)) rfl)) ?_
            obtain ⟨x10, hx10, h⟩ := bindS h
            refine arun_do rfl rfl rfl (ex_call0 (vs := [(S t0), (I v6)]) (v := (S x10)) rfl en_16 (cargs (evs rfl (evs rfl evs_nil))) rfl (ok_data_Part t0 v6 x10 hx10) rfl) ?_
            refine arun_do rfl rfl rfl (ex_assign (eV (v := (S x10)) rfl)) ?_
            refine arun_keepE [0, 3, 4, 5, 6] 0 0 (st' := ⟨90, 0, [(0, (S t0)), (3, (I v4)), (4, (S v5)), (5, (I v6)), (6, (S x10))], [], ⟨0, []⟩⟩) (by kernel_rfl) (by kernel_rfl) ?_
            show AWp _ _ _ _
            refine awp_seqJ (fun s => ∃ (y11 : Int) (y12 : Str), s = ⟨90, 0, [(0, (S t0)), (3, (I y11)), (4, (S v5)), (5, (I v6)), (6, (S y12))], [], ⟨0, []⟩⟩ ∧ M_law15_DataHoles_k2 (M_law15_DataHoles_l1 t0 n1) t0 v5 v6 y11 y12 = some r) ?_ ?_
            · refine awp_seq ?_
              refine awp_region ?_
              refine arun_do rfl rfl rfl (ex_move (eV (v := (S x10)) rfl)) ?_
              refine arun_do rfl rfl rfl (ex_bin (vx := (S x10)) (vy := (S [])) rfl rfl eqlS_ok) ?_
              refine arun_keepE [0, 3, 4, 5, 6, 23] 0 0 (st' := ⟨90, 0, [(0, (S t0)), (3, (I v4)), (4, (S v5)), (5, (I v6)), (6, (S x10)), (23, (Bo (x10 == [])))], [], ⟨0, []⟩⟩) (by kernel_rfl) (by kernel_rfl) ?_
              show AWp _ _ _ _
              rcases Bool.eq_false_or_eq_true (x10 == []) with hb13 | hb13
              · rw [condT hb13] at h
                refine awp_condT (boT hb13) ?_
                refine awp_region ?_
                obtain ⟨x14, hx14, h⟩ := bindS h
                refine arun_do rfl rfl rfl (tx_makeD (c := c8) (e := 0) ce8 Tryd.underlying31 s_5 b_5 z_5 rfl rfl rfl rfl hx14) ?_
                refine arun_do rfl rfl rfl (tx_bsD (bs := x14) Tryd.underlying31 Tryd.underlying9 Tryd.underlying5 rfl) ?_
                refine arun_do rfl rfl rfl (ex_assign (eV (v := (S x14)) rfl)) ?_
                refine arun_keepE [0, 3, 4, 5, 6] 0 0 (st' := ⟨90, 0, [(0, (S t0)), (3, (I v4)), (4, (S v5)), (5, (I v6)), (6, (S x14))], [], ⟨0, []⟩⟩) (by kernel_rfl) (by kernel_rfl) ?_
                exact (Exists.intro v4 (Exists.intro x14 (And.intro rfl h)))
              · rw [condF hb13] at h
                refine awp_condF (boF hb13) ?_
                refine awp_region ?_
                refine arun_do rfl rfl rfl (ex_move (eV (v := (I v4)) rfl)) ?_
                refine arun_do rfl rfl rfl (ex_bin (vx := (I v4)) (vy := (I 1)) rfl rfl addI_ok) ?_
                refine arun_do rfl rfl rfl (ex_assign (eV (v := (I (w64 (v4 + 1)))) rfl)) ?_
                refine arun_keepE [0, 3, 4, 5, 6] 0 0 (st' := ⟨90, 0, [(0, (S t0)), (3, (I (w64 (v4 + 1)))), (4, (S v5)), (5, (I v6)), (6, (S x10))], [], ⟨0, []⟩⟩) (by kernel_rfl) (by kernel_rfl) ?_
                exact (Exists.intro (w64 (v4 + 1)) (Exists.intro x10 (And.intro rfl h)))
            · rintro s ⟨y11, y12, rfl, h⟩
              unfold M_law15_DataHoles_k2 at h
              refine awp_seq ?_
              refine awp_seq ?_
              refine awp_region ?_
              refine arun_do rfl rfl rfl (ex_move (eV (v := (S y12)) rfl)) ?_
              refine arun_do rfl rfl rfl (tx_lenS Tryd.underlying9 rfl) ?_
              refine arun_do rfl rfl rfl (ex_bin (vx := (I (y12.length : Int))) (vy := (I 32)) rfl rfl neqI_ok) ?_
              refine arun_keepE [0, 3, 4, 5, 6, 30] 0 0 (st' := ⟨90, 0, [(0, (S t0)), (3, (I y11)), (4, (S v5)), (5, (I v6)), (6, (S y12)), (30, (Bo ((y12.length : Int) != 32)))], [], ⟨0, []⟩⟩) (by kernel_rfl) (by kernel_rfl) ?_
              show AWp _ _ _ _
              rcases Bool.eq_false_or_eq_true ((y12.length : Int) != 32) with hb15 | hb15
              · rw [condT hb15] at h
                refine awp_condT (boT hb15) ?_
                refine awp_seq ?_
                refine awp_region ?_
                refine arun_do rfl rfl rfl (ex_assign (eV (v := (Bo false)) rfl)) ?_
                refine arun_keepE [2] 0 0 (st' := ⟨90, 0, [(2, (Bo false))], [], ⟨0, []⟩⟩) (by kernel_rfl) (by kernel_rfl) ?_
                show AWp _ _ _ _
                refine awp_ret ?_
                cases h
                exact ares1 (rtmp rfl (eV rfl))
              · rw [condF hb15] at h
                refine awp_condF (boF hb15) ?_
                refine awp_skip ?_
                show AWp _ _ _ _
                refine awp_region ?_
                refine arun_do rfl rfl rfl (ex_move (eV (v := (S v5)) rfl)) ?_
                refine arun_do rfl rfl rfl (ex_move (eV (v := (S y12)) rfl)) ?_
                obtain ⟨x16, hx16, h⟩ := bindS h
                refine arun_do rfl rfl rfl (ex_bin (vx := (S v5)) (vy := (S y12)) rfl rfl (addS_ok hx16)) ?_
                refine arun_do rfl rfl rfl (ex_assign (eV (v := (S x16)) rfl)) ?_
                refine arun_keepE [0, 3, 4, 5] 0 0 (st' := ⟨90, 0, [(0, (S t0)), (3, (I y11)), (4, (S x16)), (5, (I v6))], [], ⟨0, []⟩⟩) (by kernel_rfl) (by kernel_rfl) ?_
                exact (Exists.intro y11 (Exists.intro x16 (And.intro rfl h)))
          · rintro s ⟨y8, y9, rfl, h⟩
            unfold M_law15_DataHoles_k1 at h
            refine awp_region ?_
            refine arun_do rfl rfl rfl (ex_move (eV (v := (I v6)) rfl)) ?_
            refine arun_do rfl rfl rfl (ex_bin (vx := (I v6)) (vy := (I 1)) rfl rfl addI_ok) ?_
            refine arun_do rfl rfl rfl (ex_assign (eV (v := (I (w64 (v6 + 1)))) rfl)) ?_
            refine arun_keepE [0, 3, 4, 5] 0 0 (st' := ⟨90, 0, [(0, (S t0)), (3, (I y8)), (4, (S y9)), (5, (I (w64 (v6 + 1))))], [], ⟨0, []⟩⟩) (by kernel_rfl) (by kernel_rfl) ?_
            exact Exists.intro n1 (And.intro (Nat.lt_succ_self _) (Exists.intro y8 (Exists.intro y9 (Exists.intro (w64 (v6 + 1)) (And.intro rfl h)))))
        · rw [condF hb7] at h
          refine awp_condF (boF hb7) ?_
          refine awp_exit ?_
          show AWp _ _ _ _
          refine awp_seq ?_
          refine awp_seq ?_
          refine awp_region ?_
          refine arun_do rfl rfl rfl (ex_assign (eV (v := (I 0)) rfl)) ?_
          refine arun_keepE [0, 3, 4, 7] 0 0 (st' := ⟨90, 0, [(0, (S t0)), (3, (I v4)), (4, (S v5)), (7, (I 0))], [], ⟨0, []⟩⟩) (by kernel_rfl) (by kernel_rfl) ?_
          show AWp _ _ _ _
          refine awp_block ?_
          refine awp_loop (fun n s => ∃ (v17 : Int), s = ⟨90, 0, [(0, (S t0)), (3, (I v4)), (4, (S v5)), (7, (I v17))], [], ⟨0, []⟩⟩ ∧ M_law15_DataHoles_l2 (M_law15_DataHoles_l1 t0 n1) t0 v4 v5 n v17 = some r) fuel (Exists.intro 0 (And.intro rfl h)) ?_
          rintro n s ⟨v17, rfl, h⟩ -
          cases n with
          | zero => cases h
          | succ n2 =>
            unfold M_law15_DataHoles_l2 at h
            refine awp_seq ?_
            refine awp_seq ?_
            refine awp_region ?_
            refine arun_do rfl rfl rfl (ex_move (eV (v := (I v17)) rfl)) ?_
            refine arun_do rfl rfl rfl (ex_move (eV (v := (S v5)) rfl)) ?_
            refine arun_do rfl rfl rfl (tx_lenS Tryd.underlying9 rfl) ?_
            refine arun_do rfl rfl rfl (ex_bin (vx := (I v17)) (vy := (I (v5.length : Int))) rfl rfl lssI_ok) ?_
            refine arun_keepE [0, 3, 4, 7, 37] 0 0 (st' := ⟨90, 0, [(0, (S t0)), (3, (I v4)), (4, (S v5)), (7, (I v17)), (37, (Bo (decide (v17 < (v5.length : Int)))))], [], ⟨0, []⟩⟩) (by kernel_rfl) (by kernel_rfl) ?_
            show AWp _ _ _ _
            rcases Bool.eq_false_or_eq_true (decide (v17 < (v5.length : Int))) with hb18 | hb18
            · rw [condT hb18] at h
              refine awp_condT (boT hb18) ?_
              refine awp_skip ?_
              show AWp _ _ _ _
              refine awp_seq ?_
              refine awp_block ?_
              refine awp_seq ?_
              obtain ⟨x19, hx19, h⟩ := bindS h
              obtain ⟨x20, hx20, h⟩ := bindS h
              obtain ⟨x21, hx21, h⟩ := bindS h
              refine awp_kn [0, 3, 4, 7, 64] 0 0 (st' := ⟨90, 0, [(0, (S t0)), (3, (I v4)), (4, (S v5)), (7, (I v17)), (64, (Bo (((decide (v17 < (t0.length : Int))) && (x19 != x20)) || ((decide (v17 ≥ (t0.length : Int))) && (x21 != 0)))))], [], ⟨0, []⟩⟩) (awp_draw (T := [(I v17), (S t0), (I (t0.length : Int)), (Bo (decide (v17 < (t0.length : Int)))), (Bo (decide (v17 < (t0.length : Int)))), (cond ((decide (v17 < (t0.length : Int))) == true) (S v5) skipV), (cond ((decide (v17 < (t0.length : Int))) == true) (I v17) skipV), (cond ((decide (v17 < (t0.length : Int))) == true) (U8 x19) skipV), (cond ((decide (v17 < (t0.length : Int))) == true) (S t0) skipV), (cond ((decide (v17 < (t0.length : Int))) == true) (I v17) skipV), (cond ((decide (v17 < (t0.length : Int))) == true) (U8 x20) skipV), (cond ((decide (v17 < (t0.length : Int))) == true) (Bo (x19 != x20)) skipV), (Bo ((decide (v17 < (t0.length : Int))) && (x19 != x20))), (Bo ((decide (v17 < (t0.length : Int))) && (x19 != x20))), (cond (((decide (v17 < (t0.length : Int))) && (x19 != x20)) == false) (I v17) skipV), (cond (((decide (v17 < (t0.length : Int))) && (x19 != x20)) == false) (S t0) skipV), (cond (((decide (v17 < (t0.length : Int))) && (x19 != x20)) == false) (I (t0.length : Int)) skipV), (cond (((decide (v17 < (t0.length : Int))) && (x19 != x20)) == false) (Bo (decide (v17 ≥ (t0.length : Int)))) skipV), (cond (((decide (v17 < (t0.length : Int))) && (x19 != x20)) == false) (Bo (decide (v17 ≥ (t0.length : Int)))) skipV), (cond ((((decide (v17 < (t0.length : Int))) && (x19 != x20)) == false) && ((decide (v17 ≥ (t0.length : Int))) == true)) (S v5) skipV), (cond ((((decide (v17 < (t0.length : Int))) && (x19 != x20)) == false) && ((decide (v17 ≥ (t0.length : Int))) == true)) (I v17) skipV), (cond ((((decide (v17 < (t0.length : Int))) && (x19 != x20)) == false) && ((decide (v17 ≥ (t0.length : Int))) == true)) (U8 x21) skipV), (cond ((((decide (v17 < (t0.length : Int))) && (x19 != x20)) == false) && ((decide (v17 ≥ (t0.length : Int))) == true)) (Bo (x21 != 0)) skipV), (cond (((decide (v17 < (t0.length : Int))) && (x19 != x20)) == false) (Bo ((decide (v17 ≥ (t0.length : Int))) && (x21 != 0))) skipV), (Bo (((decide (v17 < (t0.length : Int))) && (x19 != x20)) || ((decide (v17 ≥ (t0.length : Int))) && (x21 != 0))))]) (LH := [([], ⟨0, []⟩)]) (D := [⟨[(7, none)], [], [0], false⟩, ⟨[(0, none)], [], [0], false⟩, ⟨[(41, some 1)], [1], [0], false⟩, ⟨[(40, some 0), (42, some 2)], [0, 1, 2], [0], false⟩, ⟨[(43, some 3)], [0, 1, 2, 3], [0], false⟩, ⟨[(4, none), (44, some 4)], [0, 1, 2, 3, 4], [0], false⟩, ⟨[(7, none), (44, some 4)], [0, 1, 2, 3, 4], [0], false⟩, ⟨[(45, some 5), (46, some 6), (44, some 4)], [0, 1, 2, 3, 4, 5, 6], [0], false⟩, ⟨[(0, none), (44, some 4)], [0, 1, 2, 3, 4], [0], false⟩, ⟨[(7, none), (44, some 4)], [0, 1, 2, 3, 4], [0], false⟩, ⟨[(48, some 8), (49, some 9), (44, some 4)], [0, 1, 2, 3, 4, 8, 9], [0], false⟩, ⟨[(47, some 7), (50, some 10), (44, some 4)], [0, 1, 2, 3, 4, 5, 6, 7, 8, 9, 10], [0], false⟩, ⟨[(44, some 4), (51, some 11)], [0, 1, 2, 3, 4, 5, 6, 7, 8, 9, 10, 11], [0], false⟩, ⟨[(52, some 12)], [0, 1, 2, 3, 4, 5, 6, 7, 8, 9, 10, 11, 12], [0], false⟩, ⟨[(7, none), (53, some 13)], [0, 1, 2, 3, 4, 5, 6, 7, 8, 9, 10, 11, 12, 13], [0], false⟩, ⟨[(0, none), (53, some 13)], [0, 1, 2, 3, 4, 5, 6, 7, 8, 9, 10, 11, 12, 13], [0], false⟩, ⟨[(55, some 15), (53, some 13)], [0, 1, 2, 3, 4, 5, 6, 7, 8, 9, 10, 11, 12, 13, 15], [0], false⟩, ⟨[(54, some 14), (56, some 16), (53, some 13)], [0, 1, 2, 3, 4, 5, 6, 7, 8, 9, 10, 11, 12, 13, 14, 15, 16], [0], false⟩, ⟨[(57, some 17), (53, some 13)], [0, 1, 2, 3, 4, 5, 6, 7, 8, 9, 10, 11, 12, 13, 14, 15, 16, 17], [0], false⟩, ⟨[(4, none), (58, some 18)], [0, 1, 2, 3, 4, 5, 6, 7, 8, 9, 10, 11, 12, 13, 14, 15, 16, 17, 18], [0], false⟩, ⟨[(7, none), (58, some 18)], [0, 1, 2, 3, 4, 5, 6, 7, 8, 9, 10, 11, 12, 13, 14, 15, 16, 17, 18], [0], false⟩, ⟨[(59, some 19), (60, some 20), (58, some 18)], [0, 1, 2, 3, 4, 5, 6, 7, 8, 9, 10, 11, 12, 13, 14, 15, 16, 17, 18, 19, 20], [0], false⟩, ⟨[(61, some 21), (58, some 18)], [0, 1, 2, 3, 4, 5, 6, 7, 8, 9, 10, 11, 12, 13, 14, 15, 16, 17, 18, 19, 20, 21], [0], false⟩, ⟨[(58, some 18), (62, some 22), (53, some 13)], [0, 1, 2, 3, 4, 5, 6, 7, 8, 9, 10, 11, 12, 13, 14, 15, 16, 17, 18, 19, 20, 21, 22], [0], false⟩, ⟨[(53, some 13), (63, some 23)], [0, 1, 2, 3, 4, 5, 6, 7, 8, 9, 10, 11, 12, 13, 14, 15, 16, 17, 18, 19, 20, 21, 22, 23], [0], false⟩]) (S := []) (plan := [0, 1, 2, 3, 4, 5, 6, 7, 8, 9, 10, 11, 12, 13, 14, 15, 16, 17, 18, 19, 20, 21, 22, 23, 24]) mo (by kernel_rfl) rfl rfl rfl (dcons (dstep1 (Tm := [(7, (I v17))]) (L := []) (H := ⟨0, []⟩) rfl rfl rfl rfl rfl (astep_do rfl (ex_move (eV (v := (I v17)) rfl)))) (dcons (dstep1 (Tm := [(0, (S t0))]) (L := []) (H := ⟨0, []⟩) rfl rfl rfl rfl rfl (astep_do rfl (ex_move (eV (v := (S t0)) rfl)))) (dcons (dstep1 (Tm := [(41, (S t0))]) (L := []) (H := ⟨0, []⟩) rfl rfl rfl rfl rfl (astep_do rfl (tx_lenS Tryd.underlying9 rfl))) (dcons (dstep1 (Tm := [(40, (I v17)), (42, (I (t0.length : Int)))]) (L := []) (H := ⟨0, []⟩) rfl rfl rfl rfl rfl (astep_do rfl (ex_bin (vx := (I v17)) (vy := (I (t0.length : Int))) rfl rfl lssI_ok))) (dcons (dstep1 (Tm := [(43, (Bo (decide (v17 < (t0.length : Int)))))]) (L := []) (H := ⟨0, []⟩) rfl rfl rfl rfl rfl (astep_do rfl (ex_move (eV (v := (Bo (decide (v17 < (t0.length : Int))))) rfl)))) (dcons (dstep1 (Tm := [(4, (S v5)), (44, (Bo (decide (v17 < (t0.length : Int)))))]) (L := []) (H := ⟨0, []⟩) rfl rfl rfl rfl rfl (astep_guard (v := (S v5)) ((decide (v17 < (t0.length : Int))) == true) rfl (fun hc => ex_move (eV (v := (S v5)) rfl)))) (dcons (dstep1 (Tm := [(7, (I v17)), (44, (Bo (decide (v17 < (t0.length : Int)))))]) (L := []) (H := ⟨0, []⟩) rfl rfl rfl rfl rfl (astep_guard (v := (I v17)) ((decide (v17 < (t0.length : Int))) == true) rfl (fun hc => ex_move (eV (v := (I v17)) rfl)))) (dcons (dstep1 (Tm := [(45, (cond ((decide (v17 < (t0.length : Int))) == true) (S v5) skipV)), (46, (cond ((decide (v17 < (t0.length : Int))) == true) (I v17) skipV)), (44, (Bo (decide (v17 < (t0.length : Int)))))]) (L := []) (H := ⟨0, []⟩) rfl rfl rfl rfl rfl (astep_guard (v := (U8 x19)) ((decide (v17 < (t0.length : Int))) == true) rfl (fun hc => tx_idxS (u := v5) (i := v17) Tryd.underlying9 (cond_of hc) (cond_of hc) (gd_of hc hx19)))) (dcons (dstep1 (Tm := [(0, (S t0)), (44, (Bo (decide (v17 < (t0.length : Int)))))]) (L := []) (H := ⟨0, []⟩) rfl rfl rfl rfl rfl (astep_guard (v := (S t0)) ((decide (v17 < (t0.length : Int))) == true) rfl (fun hc => ex_move (eV (v := (S t0)) rfl)))) (dcons (dstep1 (Tm := [(7, (I v17)), (44, (Bo (decide (v17 < (t0.length : Int)))))]) (L := []) (H := ⟨0, []⟩) rfl rfl rfl rfl rfl (astep_guard (v := (I v17)) ((decide (v17 < (t0.length : Int))) == true) rfl (fun hc => ex_move (eV (v := (I v17)) rfl)))) (dcons (dstep1 (Tm := [(48, (cond ((decide (v17 < (t0.length : Int))) == true) (S t0) skipV)), (49, (cond ((decide (v17 < (t0.length : Int))) == true) (I v17) skipV)), (44, (Bo (decide (v17 < (t0.length : Int)))))]) (L := []) (H := ⟨0, []⟩) rfl rfl rfl rfl rfl (astep_guard (v := (U8 x20)) ((decide (v17 < (t0.length : Int))) == true) rfl (fun hc => tx_idxS (u := t0) (i := v17) Tryd.underlying9 (cond_of hc) (cond_of hc) (gd_of hc hx20)))) (dcons (dstep1 (Tm := [(47, (cond ((decide (v17 < (t0.length : Int))) == true) (U8 x19) skipV)), (50, (cond ((decide (v17 < (t0.length : Int))) == true) (U8 x20) skipV)), (44, (Bo (decide (v17 < (t0.length : Int)))))]) (L := []) (H := ⟨0, []⟩) rfl rfl rfl rfl rfl (astep_guard (v := (Bo (x19 != x20))) ((decide (v17 < (t0.length : Int))) == true) rfl (fun hc => ex_bin (vx := (U8 x19)) (vy := (U8 x20)) (cond_of hc) (cond_of hc) neq8_ok))) (dcons (dstep1 (Tm := [(44, (Bo (decide (v17 < (t0.length : Int))))), (51, (cond ((decide (v17 < (t0.length : Int))) == true) (Bo (x19 != x20)) skipV))]) (L := []) (H := ⟨0, []⟩) rfl rfl rfl rfl rfl (astep_do rfl (ex_pick rfl pkAnd))) (dcons (dstep1 (Tm := [(52, (Bo ((decide (v17 < (t0.length : Int))) && (x19 != x20))))]) (L := []) (H := ⟨0, []⟩) rfl rfl rfl rfl rfl (astep_do rfl (ex_move (eV (v := (Bo ((decide (v17 < (t0.length : Int))) && (x19 != x20)))) rfl)))) (dcons (dstep1 (Tm := [(7, (I v17)), (53, (Bo ((decide (v17 < (t0.length : Int))) && (x19 != x20))))]) (L := []) (H := ⟨0, []⟩) rfl rfl rfl rfl rfl (astep_guard (v := (I v17)) (((decide (v17 < (t0.length : Int))) && (x19 != x20)) == false) rfl (fun hc => ex_move (eV (v := (I v17)) rfl)))) (dcons (dstep1 (Tm := [(0, (S t0)), (53, (Bo ((decide (v17 < (t0.length : Int))) && (x19 != x20))))]) (L := []) (H := ⟨0, []⟩) rfl rfl rfl rfl rfl (astep_guard (v := (S t0)) (((decide (v17 < (t0.length : Int))) && (x19 != x20)) == false) rfl (fun hc => ex_move (eV (v := (S t0)) rfl)))) (dcons (dstep1 (Tm := [(55, (cond (((decide (v17 < (t0.length : Int))) && (x19 != x20)) == false) (S t0) skipV)), (53, (Bo ((decide (v17 < (t0.length : Int))) && (x19 != x20))))]) (L := []) (H := ⟨0, []⟩) rfl rfl rfl rfl rfl (astep_guard (v := (I (t0.length : Int))) (((decide (v17 < (t0.length : Int))) && (x19 != x20)) == false) rfl (fun hc => tx_lenS Tryd.underlying9 (cond_of hc)))) (dcons (dstep1 (Tm := [(54, (cond (((decide (v17 < (t0.length : Int))) && (x19 != x20)) == false) (I v17) skipV)), (56, (cond (((decide (v17 < (t0.length : Int))) && (x19 != x20)) == false) (I (t0.length : Int)) skipV)), (53, (Bo ((decide (v17 < (t0.length : Int))) && (x19 != x20))))]) (L := []) (H := ⟨0, []⟩) rfl rfl rfl rfl rfl (astep_guard (v := (Bo (decide (v17 ≥ (t0.length : Int))))) (((decide (v17 < (t0.length : Int))) && (x19 != x20)) == false) rfl (fun hc => ex_bin (vx := (I v17)) (vy := (I (t0.length : Int))) (cond_of hc) (cond_of hc) geqI_ok))) (dcons (dstep1 (Tm := [(57, (cond (((decide (v17 < (t0.length : Int))) && (x19 != x20)) == false) (Bo (decide (v17 ≥ (t0.length : Int)))) skipV)), (53, (Bo ((decide (v17 < (t0.length : Int))) && (x19 != x20))))]) (L := []) (H := ⟨0, []⟩) rfl rfl rfl rfl rfl (astep_guard (v := (Bo (decide (v17 ≥ (t0.length : Int))))) (((decide (v17 < (t0.length : Int))) && (x19 != x20)) == false) rfl (fun hc => ex_move (eV (v := (Bo (decide (v17 ≥ (t0.length : Int))))) (cond_of hc))))) (dcons (dstep1 (Tm := [(4, (S v5)), (58, (cond (((decide (v17 < (t0.length : Int))) && (x19 != x20)) == false) (Bo (decide (v17 ≥ (t0.length : Int)))) skipV))]) (L := []) (H := ⟨0, []⟩) rfl rfl rfl rfl rfl (astep_guard (v := (S v5)) ((((decide (v17 < (t0.length : Int))) && (x19 != x20)) == false) && ((decide (v17 ≥ (t0.length : Int))) == true)) gv_nest (fun hc => ex_move (eV (v := (S v5)) rfl)))) (dcons (dstep1 (Tm := [(7, (I v17)), (58, (cond (((decide (v17 < (t0.length : Int))) && (x19 != x20)) == false) (Bo (decide (v17 ≥ (t0.length : Int)))) skipV))]) (L := []) (H := ⟨0, []⟩) rfl rfl rfl rfl rfl (astep_guard (v := (I v17)) ((((decide (v17 < (t0.length : Int))) && (x19 != x20)) == false) && ((decide (v17 ≥ (t0.length : Int))) == true)) gv_nest (fun hc => ex_move (eV (v := (I v17)) rfl)))) (dcons (dstep1 (Tm := [(59, (cond ((((decide (v17 < (t0.length : Int))) && (x19 != x20)) == false) && ((decide (v17 ≥ (t0.length : Int))) == true)) (S v5) skipV)), (60, (cond ((((decide (v17 < (t0.length : Int))) && (x19 != x20)) == false) && ((decide (v17 ≥ (t0.length : Int))) == true)) (I v17) skipV)), (58, (cond (((decide (v17 < (t0.length : Int))) && (x19 != x20)) == false) (Bo (decide (v17 ≥ (t0.length : Int)))) skipV))]) (L := []) (H := ⟨0, []⟩) rfl rfl rfl rfl rfl (astep_guard (v := (U8 x21)) ((((decide (v17 < (t0.length : Int))) && (x19 != x20)) == false) && ((decide (v17 ≥ (t0.length : Int))) == true)) gv_nest (fun hc => tx_idxS (u := v5) (i := v17) Tryd.underlying9 (cond_of hc) (cond_of hc) (gd_of hc hx21)))) (dcons (dstep1 (Tm := [(61, (cond ((((decide (v17 < (t0.length : Int))) && (x19 != x20)) == false) && ((decide (v17 ≥ (t0.length : Int))) == true)) (U8 x21) skipV)), (58, (cond (((decide (v17 < (t0.length : Int))) && (x19 != x20)) == false) (Bo (decide (v17 ≥ (t0.length : Int)))) skipV))]) (L := []) (H := ⟨0, []⟩) rfl rfl rfl rfl rfl (astep_guard (v := (Bo (x21 != 0))) ((((decide (v17 < (t0.length : Int))) && (x19 != x20)) == false) && ((decide (v17 ≥ (t0.length : Int))) == true)) gv_nest (fun hc => ex_bin (vx := (U8 x21)) (vy := (U8 0)) (cond_of hc) rfl neq8_ok))) (dcons (dstep1 (Tm := [(58, (cond (((decide (v17 < (t0.length : Int))) && (x19 != x20)) == false) (Bo (decide (v17 ≥ (t0.length : Int)))) skipV)), (62, (cond ((((decide (v17 < (t0.length : Int))) && (x19 != x20)) == false) && ((decide (v17 ≥ (t0.length : Int))) == true)) (Bo (x21 != 0)) skipV)), (53, (Bo ((decide (v17 < (t0.length : Int))) && (x19 != x20))))]) (L := []) (H := ⟨0, []⟩) rfl rfl rfl rfl rfl (astep_guard (v := (Bo ((decide (v17 ≥ (t0.length : Int))) && (x21 != 0)))) (((decide (v17 < (t0.length : Int))) && (x19 != x20)) == false) rfl (fun hc => ex_pick (cond_of hc) (pkAndN hc)))) (dcons (dstep1 (Tm := [(53, (Bo ((decide (v17 < (t0.length : Int))) && (x19 != x20)))), (63, (cond (((decide (v17 < (t0.length : Int))) && (x19 != x20)) == false) (Bo ((decide (v17 ≥ (t0.length : Int))) && (x21 != 0))) skipV))]) (L := []) (H := ⟨0, []⟩) rfl rfl rfl rfl rfl (astep_do rfl (ex_pick rfl pkOr))) dnil))))))))))))))))))))))))) ⟨rfl, rfl⟩) (by kernel_rfl) (by kernel_rfl) ?_
              show AWp _ _ _ _
              rcases Bool.eq_false_or_eq_true (((decide (v17 < (t0.length : Int))) && (x19 != x20)) || ((decide (v17 ≥ (t0.length : Int))) && (x21 != 0))) with hb22 | hb22
              · rw [condT hb22] at h
                refine awp_condT (boT hb22) ?_
                refine awp_seq ?_
                refine awp_region ?_
                refine arun_do rfl rfl rfl (ex_assign (eV (v := (Bo false)) rfl)) ?_
                refine arun_keepE [2] 0 0 (st' := ⟨90, 0, [(2, (Bo false))], [], ⟨0, []⟩⟩) (by kernel_rfl) (by kernel_rfl) ?_
                show AWp _ _ _ _
                refine awp_ret ?_
                cases h
                exact ares1 (rtmp rfl (eV rfl))
              · rw [condF hb22] at h
                refine awp_condF (boF hb22) ?_
                refine awp_skip ?_
                show AWp _ _ _ _
                refine awp_region ?_
                refine arun_do rfl rfl rfl (ex_move (eV (v := (I v17)) rfl)) ?_
                refine arun_do rfl rfl rfl (ex_bin (vx := (I v17)) (vy := (I 1)) rfl rfl addI_ok) ?_
                refine arun_do rfl rfl rfl (ex_assign (eV (v := (I (w64 (v17 + 1)))) rfl)) ?_
                refine arun_keepE [0, 3, 4, 7] 0 0 (st' := ⟨90, 0, [(0, (S t0)), (3, (I v4)), (4, (S v5)), (7, (I (w64 (v17 + 1))))], [], ⟨0, []⟩⟩) (by kernel_rfl) (by kernel_rfl) ?_
                exact Exists.intro n2 (And.intro (Nat.lt_succ_self _) (Exists.intro (w64 (v17 + 1)) (And.intro rfl h)))
            · rw [condF hb18] at h
              refine awp_condF (boF hb18) ?_
              refine awp_exit ?_
              show AWp _ _ _ _
              refine awp_seq ?_
              refine awp_seq ?_
              refine awp_region ?_
              refine arun_do rfl rfl rfl (ex_assign (eV (v := (I 0)) rfl)) ?_
              refine arun_keepE [0, 3, 8] 0 0 (st' := ⟨90, 0, [(0, (S t0)), (3, (I v4)), (8, (I 0))], [], ⟨0, []⟩⟩) (by kernel_rfl) (by kernel_rfl) ?_
              show AWp _ _ _ _
              refine awp_block ?_
              refine awp_loop (fun n s => ∃ (v23 : Int), s = ⟨90, 0, [(0, (S t0)), (3, (I v4)), (8, (I v23))], [], ⟨0, []⟩⟩ ∧ M_law15_DataHoles_l3 (M_law15_DataHoles_l1 t0 n1) (M_law15_DataHoles_l2 (M_law15_DataHoles_l1 t0 n1) t0 v4 v5 n2) t0 v4 n v23 = some r) fuel (Exists.intro 0 (And.intro rfl h)) ?_
              rintro n s ⟨v23, rfl, h⟩ -
              cases n with
              | zero => cases h
              | succ n3 =>
                unfold M_law15_DataHoles_l3 at h
                refine awp_seq ?_
                refine awp_seq ?_
                refine awp_region ?_
                refine arun_do rfl rfl rfl (ex_move (eV (v := (I v23)) rfl)) ?_
                refine arun_do rfl rfl rfl (ex_bin (vx := (I v23)) (vy := (I 4)) rfl rfl lssI_ok) ?_
                refine arun_keepE [0, 3, 8, 66] 0 0 (st' := ⟨90, 0, [(0, (S t0)), (3, (I v4)), (8, (I v23)), (66, (Bo (decide (v23 < 4))))], [], ⟨0, []⟩⟩) (by kernel_rfl) (by kernel_rfl) ?_
                show AWp _ _ _ _
                rcases Bool.eq_false_or_eq_true (decide (v23 < 4)) with hb24 | hb24
                · rw [condT hb24] at h
                  refine awp_condT (boT hb24) ?_
                  refine awp_skip ?_
                  show AWp _ _ _ _
                  refine awp_seq ?_
                  refine awp_block ?_
                  refine awp_seq ?_
                  refine awp_region ?_
                  refine arun_do rfl rfl rfl (ex_move (eV (v := (S t0)) rfl)) ?_
                  refine arun_do rfl rfl rfl (ex_move (eV (v := (I v23)) rfl)) ?_
                  obtain ⟨x25, hx25, h⟩ := bindS h
                  refine arun_do rfl rfl rfl (ex_call0 (vs := [(S t0), (I v23)]) (v := (S x25)) rfl en_16 (cargs (evs rfl (evs rfl evs_nil))) rfl (ok_data_Part t0 v23 x25 hx25) rfl) ?_
                  refine arun_do rfl rfl rfl (ex_assign (eV (v := (S x25)) rfl)) ?_
                  refine arun_keepE [0, 3, 8, 9] 0 0 (st' := ⟨90, 0, [(0, (S t0)), (3, (I v4)), (8, (I v23)), (9, (S x25))], [], ⟨0, []⟩⟩) (by kernel_rfl) (by kernel_rfl) ?_
                  show AWp _ _ _ _
                  refine awp_seq ?_
                  refine awp_region ?_
                  refine arun_do rfl rfl rfl (ex_move (eV (v := (S x25)) rfl)) ?_
                  obtain ⟨x26, hx26, h⟩ := bindS h
                  refine arun_do rfl rfl rfl (tx_makeD (c := c8) (e := 0) ce8 Tryd.underlying31 s_5 b_5 z_5 rfl rfl rfl rfl hx26) ?_
                  refine arun_do rfl rfl rfl (tx_bsD (bs := x26) Tryd.underlying31 Tryd.underlying9 Tryd.underlying5 rfl) ?_
                  refine arun_do rfl rfl rfl (ex_bin (vx := (S x25)) (vy := (S x26)) rfl rfl eqlS_ok) ?_
                  refine arun_keepE [0, 3, 8, 75] 0 0 (st' := ⟨90, 0, [(0, (S t0)), (3, (I v4)), (8, (I v23)), (75, (Bo (x25 == x26)))], [], ⟨0, []⟩⟩) (by kernel_rfl) (by kernel_rfl) ?_
                  show AWp _ _ _ _
                  rcases Bool.eq_false_or_eq_true (x25 == x26) with hb27 | hb27
                  · rw [condT hb27] at h
                    refine awp_condT (boT hb27) ?_
                    refine awp_seq ?_
                    refine awp_region ?_
                    refine arun_do rfl rfl rfl (ex_assign (eV (v := (Bo false)) rfl)) ?_
                    refine arun_keepE [2] 0 0 (st' := ⟨90, 0, [(2, (Bo false))], [], ⟨0, []⟩⟩) (by kernel_rfl) (by kernel_rfl) ?_
                    show AWp _ _ _ _
                    refine awp_ret ?_
                    cases h
                    exact ares1 (rtmp rfl (eV rfl))
                  · rw [condF hb27] at h
                    refine awp_condF (boF hb27) ?_
                    refine awp_skip ?_
                    show AWp _ _ _ _
                    refine awp_region ?_
                    refine arun_do rfl rfl rfl (ex_move (eV (v := (I v23)) rfl)) ?_
                    refine arun_do rfl rfl rfl (ex_bin (vx := (I v23)) (vy := (I 1)) rfl rfl addI_ok) ?_
                    refine arun_do rfl rfl rfl (ex_assign (eV (v := (I (w64 (v23 + 1)))) rfl)) ?_
                    refine arun_keepE [0, 3, 8] 0 0 (st' := ⟨90, 0, [(0, (S t0)), (3, (I v4)), (8, (I (w64 (v23 + 1))))], [], ⟨0, []⟩⟩) (by kernel_rfl) (by kernel_rfl) ?_
                    exact Exists.intro n3 (And.intro (Nat.lt_succ_self _) (Exists.intro (w64 (v23 + 1)) (And.intro rfl h)))
                · rw [condF hb24] at h
                  refine awp_condF (boF hb24) ?_
                  refine awp_exit ?_
                  show AWp _ _ _ _
                  refine awp_seq ?_
                  refine awp_region ?_
                  refine arun_do rfl rfl rfl (ex_move (eV (v := (S t0)) rfl)) ?_
                  obtain ⟨x28, hx28, h⟩ := bindS h
                  refine arun_do rfl rfl rfl (ex_call0 (vs := [(S t0)]) (v := (I x28)) rfl en_17 (cargs (evs rfl evs_nil)) rfl (ok_data_Parts t0 x28 hx28) rfl) ?_
                  refine arun_do rfl rfl rfl (ex_move (eV (v := (I v4)) rfl)) ?_
                  refine arun_do rfl rfl rfl (ex_bin (vx := (I x28)) (vy := (I v4)) rfl rfl eqlI_ok) ?_
                  refine arun_do rfl rfl rfl (ex_move (eV (v := (Bo (x28 == v4))) rfl)) ?_
                  refine arun_guard (v := (S t0)) ((x28 == v4) == true) rfl rfl rfl (fun hc => ex_move (eV (v := (S t0)) rfl)) ?_
                  obtain ⟨x29, hx29, h⟩ := bindS h
                  refine arun_guard (v := (S x29)) ((x28 == v4) == true) rfl rfl rfl (fun hc => ex_call0 (vs := [(S t0), (I (-1))]) (v := (S x29)) rfl en_16 (cargs (evs (cond_of hc) (evs rfl evs_nil))) rfl (ok_data_Part t0 (-1) x29 (gd_of hc hx29)) rfl) ?_
                  refine arun_guard (v := (Bo (x29 == []))) ((x28 == v4) == true) rfl rfl rfl (fun hc => ex_bin (vx := (S x29)) (vy := (S [])) (cond_of hc) rfl eqlS_ok) ?_
                  refine arun_do rfl rfl rfl (ex_pick rfl pkAnd) ?_
                  refine arun_do rfl rfl rfl (ex_move (eV (v := (Bo ((x28 == v4) && (x29 == [])))) rfl)) ?_
                  refine arun_guard (v := (S t0)) (((x28 == v4) && (x29 == [])) == true) rfl rfl rfl (fun hc => ex_move (eV (v := (S t0)) rfl)) ?_
                  obtain ⟨x30, hx30, h⟩ := bindS h
                  refine arun_guard (v := (S x30)) (((x28 == v4) && (x29 == [])) == true) rfl rfl rfl (fun hc => ex_call0 (vs := [(S t0), (I 4)]) (v := (S x30)) rfl en_16 (cargs (evs (cond_of hc) (evs rfl evs_nil))) rfl (ok_data_Part t0 4 x30 (gd_of hc hx30)) rfl) ?_
                  refine arun_guard (v := (Bo (x30 == []))) (((x28 == v4) && (x29 == [])) == true) rfl rfl rfl (fun hc => ex_bin (vx := (S x30)) (vy := (S [])) (cond_of hc) rfl eqlS_ok) ?_
                  refine arun_do rfl rfl rfl (ex_pick rfl pkAnd) ?_
                  refine arun_do rfl rfl rfl (ex_assign (eV (v := (Bo (((x28 == v4) && (x29 == [])) && (x30 == [])))) rfl)) ?_
                  refine arun_keepE [2] 0 0 (st' := ⟨90, 0, [(2, (Bo (((x28 == v4) && (x29 == [])) && (x30 == []))))], [], ⟨0, []⟩⟩) (by kernel_rfl) (by kernel_rfl) ?_
                  show AWp _ _ _ _
                  refine awp_ret ?_
                  cases h
                  exact ares1 (rtmp rfl (eV rfl))

end Go.Proofs
