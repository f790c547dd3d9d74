/- Pure models of functions of the program, and that its code does what they say: palimplaw7 LabelApart. Written by a program. -/
import Derived.Test.YtmhfodjiefednaaR70
import Derived.Test.YtmhfodjiefednaaR711
import Derived.Test.YtmhfodjiefednaaR7B
set_option maxRecDepth 20000
set_option maxHeartbeats 4000000
namespace Go.Proofs
open Go Go.Fhl
set_option linter.unusedVariables false
set_option linter.unusedSimpArgs false
noncomputable def M_law7_LabelApart_l3 (c_1 : (Int → List Int → Option Bool)) (c_2 : (Int → List Int → Option Bool)) (x3 : Int) (v11 : Int) : Nat → Int → List Int → Option Bool
  | 0, _, _ => none
  | n3 + 1, v19, v20 =>
  cond (decide (v19 < 6)) (Option.bind (M_label_Slot (w64 (40 + x3)) v11 v19) fun (x22 : Int) => cond ((decide (x22 < 0)) || (decide (x22 ≥ ((v20.length : Nat) : Int)))) (some false) (Option.bind (getI v20 x22) fun (x24 : Int) => Option.bind (getI v20 x22) fun (x25 : Int) => Option.bind (setI v20 x22 (w64 (x24 + 1))) fun (x26 : List Int) => (M_law7_LabelApart_l3 c_1 c_2 x3 v11 n3) (w64 (v19 + 1)) x26)) (c_2 (w64 (v11 + 1)) v20)
noncomputable def M_law7_LabelApart_l4 (c_1 : (Int → List Int → Option Bool)) (c_2 : (Int → List Int → Option Bool)) (x3 : Int) (v12 : List Int) : Nat → Int → Option Bool
  | 0, _ => none
  | n4 + 1, v27 =>
  cond (decide (v27 < ((v12.length : Nat) : Int))) (Option.bind (getI v12 v27) fun (x29 : Int) => cond (x29 != 1) (some false) ((M_law7_LabelApart_l4 c_1 c_2 x3 v12 n4) (w64 (v27 + 1)))) (Option.bind (M_label_At (w64 (40 + x3)) 4) fun (x31 : Int) => Option.bind (gd ((x31 == (-1)) == true) (M_label_Slot (w64 (40 + x3)) 0 6)) fun (x32 : Int) => Option.bind (gd (((x31 == (-1)) && (x32 == (-1))) == true) (M_label_Slot (w64 (40 + x3)) 0 (-1))) fun (x33 : Int) => some (((x31 == (-1)) && (x32 == (-1))) && (x33 == (-1))))
noncomputable def M_law7_LabelApart_l2 (c_1 : (Int → List Int → Option Bool)) (x3 : Int) : Nat → Int → List Int → Option Bool
  | 0, _, _ => none
  | n2 + 1, v11, v12 =>
  cond (decide (v11 < 4)) (Option.bind (M_label_At (w64 (40 + x3)) v11) fun (x14 : Int) => cond ((decide (x14 < 0)) || (decide (x14 ≥ ((v12.length : Nat) : Int)))) (some false) (Option.bind (getI v12 x14) fun (x16 : Int) => Option.bind (getI v12 x14) fun (x17 : Int) => Option.bind (setI v12 x14 (w64 (x16 + 1))) fun (x18 : List Int) => M_law7_LabelApart_l3 c_1 (M_law7_LabelApart_l2 c_1 x3 n2) x3 v11 fuel 0 x18)) (M_law7_LabelApart_l4 c_1 (M_law7_LabelApart_l2 c_1 x3 n2) x3 v12 fuel 0)
noncomputable def M_law7_LabelApart_l1 (x3 : Int) : Nat → Int → List Int → Option Bool
  | 0, _, _ => none
  | n1 + 1, v5, v6 =>
  cond (decide (v5 < (w64 (40 + x3)))) (Option.bind (getI v6 (w64 (14 + v5))) fun (x8 : Int) => Option.bind (getI v6 (w64 (14 + v5))) fun (x9 : Int) => Option.bind (setI v6 (w64 (14 + v5)) (w64 (x8 + 1))) fun (x10 : List Int) => (M_law7_LabelApart_l1 x3 n1) (w64 (v5 + 1)) x10) (M_law7_LabelApart_l2 (M_law7_LabelApart_l1 x3 n1) x3 fuel 0 v6)
noncomputable def M_law7_LabelApart (t0 : UInt8) : Option Bool :=
  Option.bind (M_law7_begun) fun (x1 : Bool) => cond (!x1) (some false) (Option.bind (remI (t0.toNat : Int) 201) fun (x3 : Int) => Option.bind (makeL 8 (w64 (28 + (w64 (40 + x3)))) 0) fun (x4 : List Int) => M_law7_LabelApart_l1 x3 fuel 0 x4)
theorem ok_law7_LabelApart (t0 : UInt8) (r : Bool) (h : M_law7_LabelApart t0 = some r) : FFn Try.prog 5 [(U8 t0)] (Bo r) := by
  refine FFn.of_body (n := 99) Try.func5 rfl Try.ntmps5 rfl rfl rfl rfl ?_
  show AWp _ _ _ ⟨99, 0, [(0, (U8 t0))], [], ⟨0, []⟩⟩
  unfold M_law7_LabelApart at h
  refine awp_seq ?_
  refine awr ?_
  refine ado rfl rfl rfl (eas (eV (v := (Bo false)) rfl)) ?_
  refine ake [0] 0 0 (st' := ⟨99, 0, [(0, (U8 t0))], [], ⟨0, []⟩⟩) (by kernel_rfl) (by kernel_rfl) ?_
  show AWp _ _ _ _
  refine awp_seq ?_
  refine awp_seq ?_
  refine awr ?_
  obtain ⟨x1, hx1, h⟩ := bindS h
  refine ado rfl rfl rfl (ex_call0 (vs := []) (v := (Bo x1)) rfl en_9 (cargs evs_nil) rfl (ok_law7_begun  x1 hx1) rfl) ?_
  refine ado rfl rfl rfl (ex_un (vx := (Bo x1)) rfl notB_ok) ?_
  refine ake [0, 12] 0 0 (st' := ⟨99, 0, [(0, (U8 t0)), (12, (Bo (!x1)))], [], ⟨0, []⟩⟩) (by kernel_rfl) (by kernel_rfl) ?_
  show AWp _ _ _ _
  rcases Bool.eq_false_or_eq_true (!x1) with hb2 | hb2
  · rw [condT hb2] at h
    refine awp_condT (boT hb2) ?_
    refine awp_seq ?_
    refine awr ?_
    refine ado rfl rfl rfl (eas (eV (v := (Bo false)) rfl)) ?_
    refine ake [2] 0 0 (st' := ⟨99, 0, [(2, (Bo false))], [], ⟨0, []⟩⟩) (by kernel_rfl) (by kernel_rfl) ?_
    show AWp _ _ _ _
    refine awp_ret ?_
    cases h
    exact ares1 (rtmp rfl (eV rfl))
  · rw [condF hb2] at h
    refine awp_condF (boF hb2) ?_
    refine awp_skip ?_
    show AWp _ _ _ _
    refine awp_seq ?_
    refine awr ?_
    refine ado rfl rfl rfl (emv (eV (v := (U8 t0)) rfl)) ?_
    refine ado rfl rfl rfl (tx_8_64 Try.underlying5 Try.underlying3 rfl) ?_
    obtain ⟨x3, hx3, h⟩ := bindS h
    refine ado rfl rfl rfl (ex_bin (vx := (I (t0.toNat : Int))) (vy := (I 201)) rfl rfl (remI_ok hx3)) ?_
    refine ado rfl rfl rfl (ex_bin (vx := (I 40)) (vy := (I x3)) rfl rfl addI_ok) ?_
    refine ado rfl rfl rfl (eas (eV (v := (I (w64 (40 + x3)))) rfl)) ?_
    refine ake [3] 0 0 (st' := ⟨99, 0, [(3, (I (w64 (40 + x3))))], [], ⟨0, []⟩⟩) (by kernel_rfl) (by kernel_rfl) ?_
    show AWp _ _ _ _
    refine awp_seq ?_
    refine awr ?_
    refine ado rfl rfl rfl (emv (eV (v := (I (w64 (40 + x3)))) rfl)) ?_
    refine ado rfl rfl rfl (ex_bin (vx := (I 28)) (vy := (I (w64 (40 + x3)))) rfl rfl addI_ok) ?_
    obtain ⟨x4, hx4, h⟩ := bindS h
    refine ado rfl rfl rfl (tx_make (c := cI) (e := 0) (k := 0) (H' := ⟨1, [(0, ⟨1, ((x4).flatMap cI), false⟩)]⟩) ceI Try.underlying59 s_3 b_3 z_3 rfl rfl (by decide) rfl rfl hx4 rfl rfl) ?_
    refine ado rfl rfl rfl (eas (eV (v := (FV 0 x4.length)) rfl)) ?_
    refine ake [3, 4] 0 1 (st' := ⟨99, 0, [(3, (I (w64 (40 + x3)))), (4, (FV 0 x4.length))], [], ⟨1, [(0, ⟨1, ((x4).flatMap cI), false⟩)]⟩⟩) (by kernel_rfl) (by kernel_rfl) ?_
    show AWp _ _ _ _
    refine awp_seq ?_
    refine awp_seq ?_
    refine awr ?_
    refine ado rfl rfl rfl (eas (eV (v := (I 0)) rfl)) ?_
    refine ake [3, 4, 5] 0 1 (st' := ⟨99, 0, [(3, (I (w64 (40 + x3)))), (4, (FV 0 x4.length)), (5, (I 0))], [], ⟨1, [(0, ⟨1, ((x4).flatMap cI), false⟩)]⟩⟩) (by kernel_rfl) (by kernel_rfl) ?_
    show AWp _ _ _ _
    refine awp_block ?_
    refine awp_loop (fun n s => ∃ (v5 : Int) (v6 : List Int), s = ⟨99, 0, [(3, (I (w64 (40 + x3)))), (4, (FV 0 v6.length)), (5, (I v5))], [], ⟨1, [(0, ⟨1, ((v6).flatMap cI), false⟩)]⟩⟩ ∧ M_law7_LabelApart_l1 x3 n v5 v6 = some r) fuel (Exists.intro 0 (Exists.intro x4 (And.intro rfl h))) ?_
    rintro n s ⟨v5, v6, rfl, h⟩ -
    cases n with
    | zero => cases h
    | succ n1 =>
      unfold M_law7_LabelApart_l1 at h
      refine awp_seq ?_
      refine awp_seq ?_
      refine awr ?_
      refine ado rfl rfl rfl (emv (eV (v := (I v5)) rfl)) ?_
      refine ado rfl rfl rfl (emv (eV (v := (I (w64 (40 + x3)))) rfl)) ?_
      refine ado rfl rfl rfl (ex_bin (vx := (I v5)) (vy := (I (w64 (40 + x3)))) rfl rfl lssI_ok) ?_
      refine ake [3, 4, 5, 22] 0 1 (st' := ⟨99, 0, [(3, (I (w64 (40 + x3)))), (4, (FV 0 v6.length)), (5, (I v5)), (22, (Bo (decide (v5 < (w64 (40 + x3))))))], [], ⟨1, [(0, ⟨1, ((v6).flatMap cI), false⟩)]⟩⟩) (by kernel_rfl) (by kernel_rfl) ?_
      show AWp _ _ _ _
      rcases Bool.eq_false_or_eq_true (decide (v5 < (w64 (40 + x3)))) with hb7 | hb7
      · rw [condT hb7] at h
        refine awp_condT (boT hb7) ?_
        refine awp_skip ?_
        show AWp _ _ _ _
        refine awp_seq ?_
        refine awp_block ?_
        refine awr ?_
        refine ado rfl rfl rfl (emv (eV (v := (FV 0 v6.length)) rfl)) ?_
        refine ado rfl rfl rfl (emv (eV (v := (I v5)) rfl)) ?_
        refine ado rfl rfl rfl (ex_bin (vx := (I 14)) (vy := (I v5)) rfl rfl addI_ok) ?_
        obtain ⟨x8, hx8, h⟩ := bindS h
        refine ado rfl rfl rfl (tx_idxF (c := cI) (xs := v6) (i := (w64 (14 + v5))) ceI Try.underlying59 s_3 rfl rfl rfl hx8) ?_
        refine ado rfl rfl rfl (tx_ldF (v := (I x8)) (s := 1) rfl rfl (part_elem (off := 0) (v := (I x8)) ceI hx8 Try.underlying3 rfl (by decide) rfl)) ?_
        refine ado rfl rfl rfl (ex_bin (vx := (I x8)) (vy := (I 1)) rfl rfl addI_ok) ?_
        obtain ⟨x9, hx9, h⟩ := bindS h
        refine ado rfl rfl rfl (tx_idxF (c := cI) (xs := v6) (i := (w64 (14 + v5))) ceI Try.underlying59 s_3 rfl rfl rfl hx9) ?_
        obtain ⟨x10, hx10, h⟩ := bindS h
        refine arun_do0 rfl rfl (tx_stF (c := cI) (xs := v6) (e := (w64 (x8 + 1))) (H' := ⟨1, [(0, ⟨1, ((x10).flatMap cI), false⟩)]⟩) ceI s_3 rfl (eV (v := (I (w64 (x8 + 1)))) rfl) rfl rfl hx10 rfl) ?_
        refine arun_fewer (T' := [(3, (I (w64 (40 + x3)))), (4, (FV 0 x10.length)), (5, (I v5)), (22, (Bo (decide (v5 < (w64 (40 + x3)))))), (25, (FV 0 x10.length)), (26, (I v5)), (27, (I (w64 (14 + v5)))), (29, (I x8)), (30, (I (w64 (x8 + 1))))]) (ReT.keep (v := (I (w64 (40 + x3)))) rfl (ReT.fv rfl (setI_len hx10) (ReT.keep (v := (I v5)) rfl (ReT.keep (v := (Bo (decide (v5 < (w64 (40 + x3)))))) rfl (ReT.fv rfl (setI_len hx10) (ReT.keep (v := (I v5)) rfl (ReT.keep (v := (I (w64 (14 + v5)))) rfl (ReT.keep (v := (I x8)) rfl (ReT.keep (v := (I (w64 (x8 + 1)))) rfl ReT.nil))))))))) ?_
        refine ake [3, 4, 5] 0 1 (st' := ⟨99, 0, [(3, (I (w64 (40 + x3)))), (4, (FV 0 x10.length)), (5, (I v5))], [], ⟨1, [(0, ⟨1, ((x10).flatMap cI), false⟩)]⟩⟩) (by kernel_rfl) (by kernel_rfl) ?_
        show AWp _ _ _ _
        refine awr ?_
        refine ado rfl rfl rfl (emv (eV (v := (I v5)) rfl)) ?_
        refine ado rfl rfl rfl (ex_bin (vx := (I v5)) (vy := (I 1)) rfl rfl addI_ok) ?_
        refine ado rfl rfl rfl (eas (eV (v := (I (w64 (v5 + 1)))) rfl)) ?_
        refine ake [3, 4, 5] 0 1 (st' := ⟨99, 0, [(3, (I (w64 (40 + x3)))), (4, (FV 0 x10.length)), (5, (I (w64 (v5 + 1))))], [], ⟨1, [(0, ⟨1, ((x10).flatMap cI), false⟩)]⟩⟩) (by kernel_rfl) (by kernel_rfl) ?_
        exact Exists.intro n1 (And.intro (Nat.lt_succ_self _) (Exists.intro (w64 (v5 + 1)) (Exists.intro x10 (And.intro rfl h))))
      · rw [condF hb7] at h
        refine awp_condF (boF hb7) ?_
        refine awp_exit ?_
        show AWp _ _ _ _
        refine awp_seq ?_
        refine awp_seq ?_
        refine awr ?_
        refine ado rfl rfl rfl (eas (eV (v := (I 0)) rfl)) ?_
        refine ake [3, 4, 6] 0 1 (st' := ⟨99, 0, [(3, (I (w64 (40 + x3)))), (4, (FV 0 v6.length)), (6, (I 0))], [], ⟨1, [(0, ⟨1, ((v6).flatMap cI), false⟩)]⟩⟩) (by kernel_rfl) (by kernel_rfl) ?_
        show AWp _ _ _ _
        refine awp_block ?_
        refine awp_loop (fun n s => ∃ (v11 : Int) (v12 : List Int), s = ⟨99, 0, [(3, (I (w64 (40 + x3)))), (4, (FV 0 v12.length)), (6, (I v11))], [], ⟨1, [(0, ⟨1, ((v12).flatMap cI), false⟩)]⟩⟩ ∧ M_law7_LabelApart_l2 (M_law7_LabelApart_l1 x3 n1) x3 n v11 v12 = some r) fuel (Exists.intro 0 (Exists.intro v6 (And.intro rfl h))) ?_
        rintro n s ⟨v11, v12, rfl, h⟩ -
        cases n with
        | zero => cases h
        | succ n2 =>
          unfold M_law7_LabelApart_l2 at h
          refine awp_seq ?_
          refine awp_seq ?_
          refine awr ?_
          refine ado rfl rfl rfl (emv (eV (v := (I v11)) rfl)) ?_
          refine ado rfl rfl rfl (ex_bin (vx := (I v11)) (vy := (I 4)) rfl rfl lssI_ok) ?_
          refine ake [3, 4, 6, 33] 0 1 (st' := ⟨99, 0, [(3, (I (w64 (40 + x3)))), (4, (FV 0 v12.length)), (6, (I v11)), (33, (Bo (decide (v11 < 4))))], [], ⟨1, [(0, ⟨1, ((v12).flatMap cI), false⟩)]⟩⟩) (by kernel_rfl) (by kernel_rfl) ?_
          show AWp _ _ _ _
          rcases Bool.eq_false_or_eq_true (decide (v11 < 4)) with hb13 | hb13
          · rw [condT hb13] at h
            refine awp_condT (boT hb13) ?_
            refine awp_skip ?_
            show AWp _ _ _ _
            refine awp_seq ?_
            refine awp_block ?_
            refine awp_seq ?_
            refine awr ?_
            refine ado rfl rfl rfl (emv (eV (v := (I (w64 (40 + x3)))) rfl)) ?_
            refine ado rfl rfl rfl (emv (eV (v := (I v11)) rfl)) ?_
            obtain ⟨x14, hx14, h⟩ := bindS h
            refine ado rfl rfl rfl (ex_call0 (vs := [(I (w64 (40 + x3))), (I v11)]) (v := (I x14)) rfl en_10 (cargs (evs rfl (evs rfl evs_nil))) rfl (ok_label_At (w64 (40 + x3)) v11 x14 hx14) rfl) ?_
            refine ado rfl rfl rfl (eas (eV (v := (I x14)) rfl)) ?_
            refine ake [3, 4, 6, 7] 0 1 (st' := ⟨99, 0, [(3, (I (w64 (40 + x3)))), (4, (FV 0 v12.length)), (6, (I v11)), (7, (I x14))], [], ⟨1, [(0, ⟨1, ((v12).flatMap cI), false⟩)]⟩⟩) (by kernel_rfl) (by kernel_rfl) ?_
            show AWp _ _ _ _
            refine awp_seq ?_
            refine awp_seq ?_
            refine awr ?_
            refine ado rfl rfl rfl (emv (eV (v := (I x14)) rfl)) ?_
            refine ado rfl rfl rfl (ex_bin (vx := (I x14)) (vy := (I 0)) rfl rfl lssI_ok) ?_
            refine ado rfl rfl rfl (emv (eV (v := (Bo (decide (x14 < 0)))) rfl)) ?_
            refine arun_guard (v := (I x14)) ((decide (x14 < 0)) == false) rfl rfl rfl (fun hc => emv (eV (v := (I x14)) rfl)) ?_
            refine arun_guard (v := (FV 0 v12.length)) ((decide (x14 < 0)) == false) rfl rfl rfl (fun hc => emv (eV (v := (FV 0 v12.length)) rfl)) ?_
            refine arun_guard (v := (I ((v12.length : Nat) : Int))) ((decide (x14 < 0)) == false) rfl rfl rfl (fun hc => ex_lenN (n := v12.length) Try.underlying59 (cond_of hc)) ?_
            refine arun_guard (v := (Bo (decide (x14 ≥ ((v12.length : Nat) : Int))))) ((decide (x14 < 0)) == false) rfl rfl rfl (fun hc => ex_bin (vx := (I x14)) (vy := (I ((v12.length : Nat) : Int))) (cond_of hc) (cond_of hc) geqI_ok) ?_
            refine ado rfl rfl rfl (ex_pick rfl pkOr) ?_
            refine ake [3, 4, 6, 7, 46] 0 1 (st' := ⟨99, 0, [(3, (I (w64 (40 + x3)))), (4, (FV 0 v12.length)), (6, (I v11)), (7, (I x14)), (46, (Bo ((decide (x14 < 0)) || (decide (x14 ≥ ((v12.length : Nat) : Int))))))], [], ⟨1, [(0, ⟨1, ((v12).flatMap cI), false⟩)]⟩⟩) (by kernel_rfl) (by kernel_rfl) ?_
            show AWp _ _ _ _
            rcases Bool.eq_false_or_eq_true ((decide (x14 < 0)) || (decide (x14 ≥ ((v12.length : Nat) : Int)))) with hb15 | hb15
            · rw [condT hb15] at h
              refine awp_condT (boT hb15) ?_
              refine awp_seq ?_
              refine awr ?_
              refine ado rfl rfl rfl (eas (eV (v := (Bo false)) rfl)) ?_
              refine ake [2] 0 0 (st' := ⟨99, 0, [(2, (Bo false))], [], ⟨0, []⟩⟩) (by kernel_rfl) (by kernel_rfl) ?_
              show AWp _ _ _ _
              refine awp_ret ?_
              cases h
              exact ares1 (rtmp rfl (eV rfl))
            · rw [condF hb15] at h
              refine awp_condF (boF hb15) ?_
              refine awp_skip ?_
              show AWp _ _ _ _
              refine awp_seq ?_
              refine awr ?_
              refine ado rfl rfl rfl (emv (eV (v := (FV 0 v12.length)) rfl)) ?_
              refine ado rfl rfl rfl (emv (eV (v := (I x14)) rfl)) ?_
              obtain ⟨x16, hx16, h⟩ := bindS h
              refine ado rfl rfl rfl (tx_idxF (c := cI) (xs := v12) (i := x14) ceI Try.underlying59 s_3 rfl rfl rfl hx16) ?_
              refine ado rfl rfl rfl (tx_ldF (v := (I x16)) (s := 1) rfl rfl (part_elem (off := 0) (v := (I x16)) ceI hx16 Try.underlying3 rfl (by decide) rfl)) ?_
              refine ado rfl rfl rfl (ex_bin (vx := (I x16)) (vy := (I 1)) rfl rfl addI_ok) ?_
              obtain ⟨x17, hx17, h⟩ := bindS h
              refine ado rfl rfl rfl (tx_idxF (c := cI) (xs := v12) (i := x14) ceI Try.underlying59 s_3 rfl rfl rfl hx17) ?_
              obtain ⟨x18, hx18, h⟩ := bindS h
              refine arun_do0 rfl rfl (tx_stF (c := cI) (xs := v12) (e := (w64 (x16 + 1))) (H' := ⟨1, [(0, ⟨1, ((x18).flatMap cI), false⟩)]⟩) ceI s_3 rfl (eV (v := (I (w64 (x16 + 1)))) rfl) rfl rfl hx18 rfl) ?_
              refine arun_fewer (T' := [(3, (I (w64 (40 + x3)))), (4, (FV 0 x18.length)), (6, (I v11)), (7, (I x14)), (46, (Bo ((decide (x14 < 0)) || (decide (x14 ≥ ((v12.length : Nat) : Int)))))), (47, (FV 0 x18.length)), (48, (I x14)), (50, (I x16)), (51, (I (w64 (x16 + 1))))]) (ReT.keep (v := (I (w64 (40 + x3)))) rfl (ReT.fv rfl (setI_len hx18) (ReT.keep (v := (I v11)) rfl (ReT.keep (v := (I x14)) rfl (ReT.keep (v := (Bo ((decide (x14 < 0)) || (decide (x14 ≥ ((v12.length : Nat) : Int)))))) rfl (ReT.fv rfl (setI_len hx18) (ReT.keep (v := (I x14)) rfl (ReT.keep (v := (I x16)) rfl (ReT.keep (v := (I (w64 (x16 + 1)))) rfl ReT.nil))))))))) ?_
              refine ake [3, 4, 6] 0 1 (st' := ⟨99, 0, [(3, (I (w64 (40 + x3)))), (4, (FV 0 x18.length)), (6, (I v11))], [], ⟨1, [(0, ⟨1, ((x18).flatMap cI), false⟩)]⟩⟩) (by kernel_rfl) (by kernel_rfl) ?_
              show AWp _ _ _ _
              refine awp_seq ?_
              refine awr ?_
              refine ado rfl rfl rfl (eas (eV (v := (I 0)) rfl)) ?_
              refine ake [3, 4, 6, 8] 0 1 (st' := ⟨99, 0, [(3, (I (w64 (40 + x3)))), (4, (FV 0 x18.length)), (6, (I v11)), (8, (I 0))], [], ⟨1, [(0, ⟨1, ((x18).flatMap cI), false⟩)]⟩⟩) (by kernel_rfl) (by kernel_rfl) ?_
              show AWp _ _ _ _
              refine awp_block ?_
              refine awp_loop (fun n s => ∃ (v19 : Int) (v20 : List Int), s = ⟨99, 0, [(3, (I (w64 (40 + x3)))), (4, (FV 0 v20.length)), (6, (I v11)), (8, (I v19))], [], ⟨1, [(0, ⟨1, ((v20).flatMap cI), false⟩)]⟩⟩ ∧ M_law7_LabelApart_l3 (M_law7_LabelApart_l1 x3 n1) (M_law7_LabelApart_l2 (M_law7_LabelApart_l1 x3 n1) x3 n2) x3 v11 n v19 v20 = some r) fuel (Exists.intro 0 (Exists.intro x18 (And.intro rfl h))) ?_
              rintro n s ⟨v19, v20, rfl, h⟩ -
              cases n with
              | zero => cases h
              | succ n3 =>
                unfold M_law7_LabelApart_l3 at h
                refine awp_seq ?_
                refine awp_seq ?_
                refine awr ?_
                refine ado rfl rfl rfl (emv (eV (v := (I v19)) rfl)) ?_
                refine ado rfl rfl rfl (ex_bin (vx := (I v19)) (vy := (I 6)) rfl rfl lssI_ok) ?_
                refine ake [3, 4, 6, 8, 54] 0 1 (st' := ⟨99, 0, [(3, (I (w64 (40 + x3)))), (4, (FV 0 v20.length)), (6, (I v11)), (8, (I v19)), (54, (Bo (decide (v19 < 6))))], [], ⟨1, [(0, ⟨1, ((v20).flatMap cI), false⟩)]⟩⟩) (by kernel_rfl) (by kernel_rfl) ?_
                show AWp _ _ _ _
                rcases Bool.eq_false_or_eq_true (decide (v19 < 6)) with hb21 | hb21
                · rw [condT hb21] at h
                  refine awp_condT (boT hb21) ?_
                  refine awp_skip ?_
                  show AWp _ _ _ _
                  refine awp_seq ?_
                  refine awp_block ?_
                  refine awp_seq ?_
                  refine awr ?_
                  refine ado rfl rfl rfl (emv (eV (v := (I (w64 (40 + x3)))) rfl)) ?_
                  refine ado rfl rfl rfl (emv (eV (v := (I v11)) rfl)) ?_
                  refine ado rfl rfl rfl (emv (eV (v := (I v19)) rfl)) ?_
                  obtain ⟨x22, hx22, h⟩ := bindS h
                  refine ado rfl rfl rfl (ex_call0 (vs := [(I (w64 (40 + x3))), (I v11), (I v19)]) (v := (I x22)) rfl en_12 (cargs (evs rfl (evs rfl (evs rfl evs_nil)))) rfl (ok_label_Slot (w64 (40 + x3)) v11 v19 x22 hx22) rfl) ?_
                  refine ado rfl rfl rfl (eas (eV (v := (I x22)) rfl)) ?_
                  refine ake [3, 4, 6, 8, 9] 0 1 (st' := ⟨99, 0, [(3, (I (w64 (40 + x3)))), (4, (FV 0 v20.length)), (6, (I v11)), (8, (I v19)), (9, (I x22))], [], ⟨1, [(0, ⟨1, ((v20).flatMap cI), false⟩)]⟩⟩) (by kernel_rfl) (by kernel_rfl) ?_
                  show AWp _ _ _ _
                  refine awp_seq ?_
                  refine awp_seq ?_
                  refine awr ?_
                  refine ado rfl rfl rfl (emv (eV (v := (I x22)) rfl)) ?_
                  refine ado rfl rfl rfl (ex_bin (vx := (I x22)) (vy := (I 0)) rfl rfl lssI_ok) ?_
                  refine ado rfl rfl rfl (emv (eV (v := (Bo (decide (x22 < 0)))) rfl)) ?_
                  refine arun_guard (v := (I x22)) ((decide (x22 < 0)) == false) rfl rfl rfl (fun hc => emv (eV (v := (I x22)) rfl)) ?_
                  refine arun_guard (v := (FV 0 v20.length)) ((decide (x22 < 0)) == false) rfl rfl rfl (fun hc => emv (eV (v := (FV 0 v20.length)) rfl)) ?_
                  refine arun_guard (v := (I ((v20.length : Nat) : Int))) ((decide (x22 < 0)) == false) rfl rfl rfl (fun hc => ex_lenN (n := v20.length) Try.underlying59 (cond_of hc)) ?_
                  refine arun_guard (v := (Bo (decide (x22 ≥ ((v20.length : Nat) : Int))))) ((decide (x22 < 0)) == false) rfl rfl rfl (fun hc => ex_bin (vx := (I x22)) (vy := (I ((v20.length : Nat) : Int))) (cond_of hc) (cond_of hc) geqI_ok) ?_
                  refine ado rfl rfl rfl (ex_pick rfl pkOr) ?_
                  refine ake [3, 4, 6, 8, 9, 68] 0 1 (st' := ⟨99, 0, [(3, (I (w64 (40 + x3)))), (4, (FV 0 v20.length)), (6, (I v11)), (8, (I v19)), (9, (I x22)), (68, (Bo ((decide (x22 < 0)) || (decide (x22 ≥ ((v20.length : Nat) : Int))))))], [], ⟨1, [(0, ⟨1, ((v20).flatMap cI), false⟩)]⟩⟩) (by kernel_rfl) (by kernel_rfl) ?_
                  show AWp _ _ _ _
                  rcases Bool.eq_false_or_eq_true ((decide (x22 < 0)) || (decide (x22 ≥ ((v20.length : Nat) : Int)))) with hb23 | hb23
                  · rw [condT hb23] at h
                    refine awp_condT (boT hb23) ?_
                    refine awp_seq ?_
                    refine awr ?_
                    refine ado rfl rfl rfl (eas (eV (v := (Bo false)) rfl)) ?_
                    refine ake [2] 0 0 (st' := ⟨99, 0, [(2, (Bo false))], [], ⟨0, []⟩⟩) (by kernel_rfl) (by kernel_rfl) ?_
                    show AWp _ _ _ _
                    refine awp_ret ?_
                    cases h
                    exact ares1 (rtmp rfl (eV rfl))
                  · rw [condF hb23] at h
                    refine awp_condF (boF hb23) ?_
                    refine awp_skip ?_
                    show AWp _ _ _ _
                    refine awr ?_
                    refine ado rfl rfl rfl (emv (eV (v := (FV 0 v20.length)) rfl)) ?_
                    refine ado rfl rfl rfl (emv (eV (v := (I x22)) rfl)) ?_
                    obtain ⟨x24, hx24, h⟩ := bindS h
                    refine ado rfl rfl rfl (tx_idxF (c := cI) (xs := v20) (i := x22) ceI Try.underlying59 s_3 rfl rfl rfl hx24) ?_
                    refine ado rfl rfl rfl (tx_ldF (v := (I x24)) (s := 1) rfl rfl (part_elem (off := 0) (v := (I x24)) ceI hx24 Try.underlying3 rfl (by decide) rfl)) ?_
                    refine ado rfl rfl rfl (ex_bin (vx := (I x24)) (vy := (I 1)) rfl rfl addI_ok) ?_
                    obtain ⟨x25, hx25, h⟩ := bindS h
                    refine ado rfl rfl rfl (tx_idxF (c := cI) (xs := v20) (i := x22) ceI Try.underlying59 s_3 rfl rfl rfl hx25) ?_
                    obtain ⟨x26, hx26, h⟩ := bindS h
                    refine arun_do0 rfl rfl (tx_stF (c := cI) (xs := v20) (e := (w64 (x24 + 1))) (H' := ⟨1, [(0, ⟨1, ((x26).flatMap cI), false⟩)]⟩) ceI s_3 rfl (eV (v := (I (w64 (x24 + 1)))) rfl) rfl rfl hx26 rfl) ?_
                    refine arun_fewer (T' := [(3, (I (w64 (40 + x3)))), (4, (FV 0 x26.length)), (6, (I v11)), (8, (I v19)), (9, (I x22)), (68, (Bo ((decide (x22 < 0)) || (decide (x22 ≥ ((v20.length : Nat) : Int)))))), (69, (FV 0 x26.length)), (70, (I x22)), (72, (I x24)), (73, (I (w64 (x24 + 1))))]) (ReT.keep (v := (I (w64 (40 + x3)))) rfl (ReT.fv rfl (setI_len hx26) (ReT.keep (v := (I v11)) rfl (ReT.keep (v := (I v19)) rfl (ReT.keep (v := (I x22)) rfl (ReT.keep (v := (Bo ((decide (x22 < 0)) || (decide (x22 ≥ ((v20.length : Nat) : Int)))))) rfl (ReT.fv rfl (setI_len hx26) (ReT.keep (v := (I x22)) rfl (ReT.keep (v := (I x24)) rfl (ReT.keep (v := (I (w64 (x24 + 1)))) rfl ReT.nil)))))))))) ?_
                    refine ake [3, 4, 6, 8] 0 1 (st' := ⟨99, 0, [(3, (I (w64 (40 + x3)))), (4, (FV 0 x26.length)), (6, (I v11)), (8, (I v19))], [], ⟨1, [(0, ⟨1, ((x26).flatMap cI), false⟩)]⟩⟩) (by kernel_rfl) (by kernel_rfl) ?_
                    show AWp _ _ _ _
                    refine awr ?_
                    refine ado rfl rfl rfl (emv (eV (v := (I v19)) rfl)) ?_
                    refine ado rfl rfl rfl (ex_bin (vx := (I v19)) (vy := (I 1)) rfl rfl addI_ok) ?_
                    refine ado rfl rfl rfl (eas (eV (v := (I (w64 (v19 + 1)))) rfl)) ?_
                    refine ake [3, 4, 6, 8] 0 1 (st' := ⟨99, 0, [(3, (I (w64 (40 + x3)))), (4, (FV 0 x26.length)), (6, (I v11)), (8, (I (w64 (v19 + 1))))], [], ⟨1, [(0, ⟨1, ((x26).flatMap cI), false⟩)]⟩⟩) (by kernel_rfl) (by kernel_rfl) ?_
                    exact Exists.intro n3 (And.intro (Nat.lt_succ_self _) (Exists.intro (w64 (v19 + 1)) (Exists.intro x26 (And.intro rfl h))))
                · rw [condF hb21] at h
                  refine awp_condF (boF hb21) ?_
                  refine awp_exit ?_
                  show AWp _ _ _ _
                  refine awr ?_
                  refine ado rfl rfl rfl (emv (eV (v := (I v11)) rfl)) ?_
                  refine ado rfl rfl rfl (ex_bin (vx := (I v11)) (vy := (I 1)) rfl rfl addI_ok) ?_
                  refine ado rfl rfl rfl (eas (eV (v := (I (w64 (v11 + 1)))) rfl)) ?_
                  refine ake [3, 4, 6] 0 1 (st' := ⟨99, 0, [(3, (I (w64 (40 + x3)))), (4, (FV 0 v20.length)), (6, (I (w64 (v11 + 1))))], [], ⟨1, [(0, ⟨1, ((v20).flatMap cI), false⟩)]⟩⟩) (by kernel_rfl) (by kernel_rfl) ?_
                  exact Exists.intro n2 (And.intro (Nat.lt_succ_self _) (Exists.intro (w64 (v11 + 1)) (Exists.intro v20 (And.intro rfl h))))
          · rw [condF hb13] at h
            refine awp_condF (boF hb13) ?_
            refine awp_exit ?_
            show AWp _ _ _ _
            refine awp_seq ?_
            refine awp_seq ?_
            refine awr ?_
            refine ado rfl rfl rfl (eas (eV (v := (I 0)) rfl)) ?_
            refine ake [3, 4, 10] 0 1 (st' := ⟨99, 0, [(3, (I (w64 (40 + x3)))), (4, (FV 0 v12.length)), (10, (I 0))], [], ⟨1, [(0, ⟨1, ((v12).flatMap cI), false⟩)]⟩⟩) (by kernel_rfl) (by kernel_rfl) ?_
            show AWp _ _ _ _
            refine awp_block ?_
            refine awp_loop (fun n s => ∃ (v27 : Int), s = ⟨99, 0, [(3, (I (w64 (40 + x3)))), (4, (FV 0 v12.length)), (10, (I v27))], [], ⟨1, [(0, ⟨1, ((v12).flatMap cI), false⟩)]⟩⟩ ∧ M_law7_LabelApart_l4 (M_law7_LabelApart_l1 x3 n1) (M_law7_LabelApart_l2 (M_law7_LabelApart_l1 x3 n1) x3 n2) x3 v12 n v27 = some r) fuel (Exists.intro 0 (And.intro rfl h)) ?_
            rintro n s ⟨v27, rfl, h⟩ -
            cases n with
            | zero => cases h
            | succ n4 =>
              unfold M_law7_LabelApart_l4 at h
              refine awp_seq ?_
              refine awp_seq ?_
              refine awr ?_
              refine ado rfl rfl rfl (emv (eV (v := (I v27)) rfl)) ?_
              refine ado rfl rfl rfl (emv (eV (v := (FV 0 v12.length)) rfl)) ?_
              refine ado rfl rfl rfl (ex_lenN (n := v12.length) Try.underlying59 rfl) ?_
              refine ado rfl rfl rfl (ex_bin (vx := (I v27)) (vy := (I ((v12.length : Nat) : Int))) rfl rfl lssI_ok) ?_
              refine ake [3, 4, 10, 78] 0 1 (st' := ⟨99, 0, [(3, (I (w64 (40 + x3)))), (4, (FV 0 v12.length)), (10, (I v27)), (78, (Bo (decide (v27 < ((v12.length : Nat) : Int)))))], [], ⟨1, [(0, ⟨1, ((v12).flatMap cI), false⟩)]⟩⟩) (by kernel_rfl) (by kernel_rfl) ?_
              show AWp _ _ _ _
              rcases Bool.eq_false_or_eq_true (decide (v27 < ((v12.length : Nat) : Int))) with hb28 | hb28
              · rw [condT hb28] at h
                refine awp_condT (boT hb28) ?_
                refine awp_skip ?_
                show AWp _ _ _ _
                refine awp_seq ?_
                refine awp_block ?_
                refine awp_seq ?_
                refine awr ?_
                refine ado rfl rfl rfl (emv (eV (v := (FV 0 v12.length)) rfl)) ?_
                refine ado rfl rfl rfl (emv (eV (v := (I v27)) rfl)) ?_
                obtain ⟨x29, hx29, h⟩ := bindS h
                refine ado rfl rfl rfl (tx_idxF (c := cI) (xs := v12) (i := v27) ceI Try.underlying59 s_3 rfl rfl rfl hx29) ?_
                refine ado rfl rfl rfl (tx_ldF (v := (I x29)) (s := 1) rfl rfl (part_elem (off := 0) (v := (I x29)) ceI hx29 Try.underlying3 rfl (by decide) rfl)) ?_
                refine ado rfl rfl rfl (ex_bin (vx := (I x29)) (vy := (I 1)) rfl rfl neqI_ok) ?_
                refine ake [3, 4, 10, 85] 0 1 (st' := ⟨99, 0, [(3, (I (w64 (40 + x3)))), (4, (FV 0 v12.length)), (10, (I v27)), (85, (Bo (x29 != 1)))], [], ⟨1, [(0, ⟨1, ((v12).flatMap cI), false⟩)]⟩⟩) (by kernel_rfl) (by kernel_rfl) ?_
                show AWp _ _ _ _
                rcases Bool.eq_false_or_eq_true (x29 != 1) with hb30 | hb30
                · rw [condT hb30] at h
                  refine awp_condT (boT hb30) ?_
                  refine awp_seq ?_
                  refine awr ?_
                  refine ado rfl rfl rfl (eas (eV (v := (Bo false)) rfl)) ?_
                  refine ake [2] 0 0 (st' := ⟨99, 0, [(2, (Bo false))], [], ⟨0, []⟩⟩) (by kernel_rfl) (by kernel_rfl) ?_
                  show AWp _ _ _ _
                  refine awp_ret ?_
                  cases h
                  exact ares1 (rtmp rfl (eV rfl))
                · rw [condF hb30] at h
                  refine awp_condF (boF hb30) ?_
                  refine awp_skip ?_
                  show AWp _ _ _ _
                  refine awr ?_
                  refine ado rfl rfl rfl (emv (eV (v := (I v27)) rfl)) ?_
                  refine ado rfl rfl rfl (ex_bin (vx := (I v27)) (vy := (I 1)) rfl rfl addI_ok) ?_
                  refine ado rfl rfl rfl (eas (eV (v := (I (w64 (v27 + 1)))) rfl)) ?_
                  refine ake [3, 4, 10] 0 1 (st' := ⟨99, 0, [(3, (I (w64 (40 + x3)))), (4, (FV 0 v12.length)), (10, (I (w64 (v27 + 1))))], [], ⟨1, [(0, ⟨1, ((v12).flatMap cI), false⟩)]⟩⟩) (by kernel_rfl) (by kernel_rfl) ?_
                  exact Exists.intro n4 (And.intro (Nat.lt_succ_self _) (Exists.intro (w64 (v27 + 1)) (And.intro rfl h)))
              · rw [condF hb28] at h
                refine awp_condF (boF hb28) ?_
                refine awp_exit ?_
                show AWp _ _ _ _
                refine awp_seq ?_
                refine awr ?_
                refine ado rfl rfl rfl (emv (eV (v := (I (w64 (40 + x3)))) rfl)) ?_
                obtain ⟨x31, hx31, h⟩ := bindS h
                refine ado rfl rfl rfl (ex_call0 (vs := [(I (w64 (40 + x3))), (I 4)]) (v := (I x31)) rfl en_10 (cargs (evs rfl (evs rfl evs_nil))) rfl (ok_label_At (w64 (40 + x3)) 4 x31 hx31) rfl) ?_
                refine ado rfl rfl rfl (ex_bin (vx := (I x31)) (vy := (I (-1))) rfl rfl eqlI_ok) ?_
                refine ado rfl rfl rfl (emv (eV (v := (Bo (x31 == (-1)))) rfl)) ?_
                refine arun_guard (v := (I (w64 (40 + x3)))) ((x31 == (-1)) == true) rfl rfl rfl (fun hc => emv (eV (v := (I (w64 (40 + x3)))) rfl)) ?_
                obtain ⟨x32, hx32, h⟩ := bindS h
                refine arun_guard (v := (I x32)) ((x31 == (-1)) == true) rfl rfl rfl (fun hc => ex_call0 (vs := [(I (w64 (40 + x3))), (I 0), (I 6)]) (v := (I x32)) rfl en_12 (cargs (evs (cond_of hc) (evs rfl (evs rfl evs_nil)))) rfl (ok_label_Slot (w64 (40 + x3)) 0 6 x32 (gd_of hc hx32)) rfl) ?_
                refine arun_guard (v := (Bo (x32 == (-1)))) ((x31 == (-1)) == true) rfl rfl rfl (fun hc => ex_bin (vx := (I x32)) (vy := (I (-1))) (cond_of hc) rfl eqlI_ok) ?_
                refine ado rfl rfl rfl (ex_pick rfl pkAnd) ?_
                refine ado rfl rfl rfl (emv (eV (v := (Bo ((x31 == (-1)) && (x32 == (-1))))) rfl)) ?_
                refine arun_guard (v := (I (w64 (40 + x3)))) (((x31 == (-1)) && (x32 == (-1))) == true) rfl rfl rfl (fun hc => emv (eV (v := (I (w64 (40 + x3)))) rfl)) ?_
                obtain ⟨x33, hx33, h⟩ := bindS h
                refine arun_guard (v := (I x33)) (((x31 == (-1)) && (x32 == (-1))) == true) rfl rfl rfl (fun hc => ex_call0 (vs := [(I (w64 (40 + x3))), (I 0), (I (-1))]) (v := (I x33)) rfl en_12 (cargs (evs (cond_of hc) (evs rfl (evs rfl evs_nil)))) rfl (ok_label_Slot (w64 (40 + x3)) 0 (-1) x33 (gd_of hc hx33)) rfl) ?_
                refine arun_guard (v := (Bo (x33 == (-1)))) (((x31 == (-1)) && (x32 == (-1))) == true) rfl rfl rfl (fun hc => ex_bin (vx := (I x33)) (vy := (I (-1))) (cond_of hc) rfl eqlI_ok) ?_
                refine ado rfl rfl rfl (ex_pick rfl pkAnd) ?_
                refine ado rfl rfl rfl (eas (eV (v := (Bo (((x31 == (-1)) && (x32 == (-1))) && (x33 == (-1))))) rfl)) ?_
                refine ake [2] 0 0 (st' := ⟨99, 0, [(2, (Bo (((x31 == (-1)) && (x32 == (-1))) && (x33 == (-1)))))], [], ⟨0, []⟩⟩) (by kernel_rfl) (by kernel_rfl) ?_
                show AWp _ _ _ _
                refine awp_ret ?_
                cases h
                exact ares1 (rtmp rfl (eV rfl))

end Go.Proofs
