/- Pure models of functions of the program, and that its code does what they say: pack sizes, pack Put, ptr pointer numbers. Written by a program. -/
import Derived.Test.YtmhfodjiefednaaR7B
set_option maxRecDepth 20000
set_option maxHeartbeats 4000000
namespace Go.Proofs
open Go Go.Fhl
set_option linter.unusedVariables false
set_option linter.unusedSimpArgs false
noncomputable def M_pack_sizes_l1 (t0 : Str) : Nat → Int → Int → List Int → Option ((List Int) × Int × Bool)
  | 0, _, _, _ => none
  | n1 + 1, v1, v2, v3 =>
  cond (decide (v2 < (t0.length : Int))) (Option.bind (getI t0 v2) fun (x5 : UInt8) => cond ((decide ((w64 ((x5.toNat : Int) - 48)) < 1)) || (decide ((w64 ((x5.toNat : Int) - 48)) > 4))) (some ([], 0, false)) (Option.bind (appL 8 v3 ([(w64 ((x5.toNat : Int) - 48))] : List Int)) fun (x7 : List Int) => (M_pack_sizes_l1 t0 n1) (w64 (v1 + (w64 ((x5.toNat : Int) - 48)))) (w64 (v2 + 1)) x7)) (some (v3, v1, true))
noncomputable def M_pack_sizes (t0 : Str) : Option ((List Int) × Int × Bool) :=
  M_pack_sizes_l1 t0 fuel 0 0 ([] : List Int)
theorem ok_pack_sizes (t0 : Str) (r : ((List Int) × Int × Bool)) (h : M_pack_sizes t0 = some r) : FFn Try.prog 71 [(S t0)] (Value.tuple #[(SL 1 cI r.1), (I r.2.1), (Bo r.2.2)]) := by
  refine FFn.of_body (n := 34) Try.func71 rfl Try.ntmps71 rfl rfl rfl rfl ?_
  show AWp _ _ _ ⟨34, 0, [(0, (S t0))], [], ⟨0, []⟩⟩
  unfold M_pack_sizes at h
  refine aws ?_
  refine awr ?_
  refine ado rfl rfl rfl (eas (eV (v := (Value.slice none 0 0)) rfl)) ?_
  refine ado rfl rfl rfl (eas (eV (v := (I 0)) rfl)) ?_
  refine ado rfl rfl rfl (eas (eV (v := (Bo false)) rfl)) ?_
  refine ake [0, 2, 3] 0 0 (st' := ⟨34, 0, [(0, (S t0)), (2, (Value.slice none 0 0)), (3, (I 0))], [], ⟨0, []⟩⟩) (by kernel_rfl) (by kernel_rfl) ?_
  show AWp _ _ _ _
  refine aws ?_
  refine aws ?_
  refine awr ?_
  refine ado rfl rfl rfl (emv (eV (v := (S t0)) rfl)) ?_
  refine ado rfl rfl rfl (tx_sbD Try.underlying9 Try.underlying72 Try.underlying5 rfl) ?_
  refine ado rfl rfl rfl (tx_lenD (xs := t0) ce8 Try.underlying72 rfl) ?_
  refine ado rfl rfl rfl (emv (eV (v := (I 0)) rfl)) ?_
  refine ake [2, 3, 9, 10, 11] 0 0 (st' := ⟨34, 0, [(2, (Value.slice none 0 0)), (3, (I 0)), (9, (SL 1 c8 t0)), (10, (I (t0.length : Int))), (11, (I 0))], [], ⟨0, []⟩⟩) (by kernel_rfl) (by kernel_rfl) ?_
  show AWp _ _ _ _
  refine awp_block ?_
  refine awp_nilGro 2 1 rfl (by decide) ?_
  refine awp_keepE [2, 3, 9, 10, 11] 0 1 (st' := ⟨34, 0, [(2, (GV 0 0)), (3, (I 0)), (9, (SL 1 c8 t0)), (10, (I (t0.length : Int))), (11, (I 0))], [], ⟨1, [(0, ⟨1, (([] : List Int).flatMap cI), true⟩)]⟩⟩) (by kernel_rfl) (by kernel_rfl) ?_
  refine awp_loop (fun n s => ∃ (v1 : Int) (v2 : Int) (v3 : List Int), s = ⟨34, 0, [(2, (GV 0 v3.length)), (3, (I v1)), (9, (SL 1 c8 t0)), (10, (I (t0.length : Int))), (11, (I v2))], [], ⟨1, [(0, ⟨1, ((v3).flatMap cI), true⟩)]⟩⟩ ∧ M_pack_sizes_l1 t0 n v1 v2 v3 = some r) fuel (Exists.intro 0 (Exists.intro 0 (Exists.intro ([] : List Int) (And.intro rfl h)))) ?_
  rintro n s ⟨v1, v2, v3, rfl, h⟩ -
  cases n with
  | zero => cases h
  | succ n1 =>
    unfold M_pack_sizes_l1 at h
    refine aws ?_
    refine awr ?_
    refine ado rfl rfl rfl (ex_bin (vx := (I v2)) (vy := (I (t0.length : Int))) rfl rfl lssI_ok) ?_
    refine ake [2, 3, 9, 10, 11, 12] 0 1 (st' := ⟨34, 0, [(2, (GV 0 v3.length)), (3, (I v1)), (9, (SL 1 c8 t0)), (10, (I (t0.length : Int))), (11, (I v2)), (12, (Bo (decide (v2 < (t0.length : Int)))))], [], ⟨1, [(0, ⟨1, ((v3).flatMap cI), true⟩)]⟩⟩) (by kernel_rfl) (by kernel_rfl) ?_
    show AWp _ _ _ _
    refine aws ?_
    rcases Bool.eq_false_or_eq_true (decide (v2 < (t0.length : Int))) with hb4 | hb4
    · rw [condT hb4] at h
      refine awp_condT (boT hb4) ?_
      refine awp_skip ?_
      show AWp _ _ _ _
      refine aws ?_
      refine awp_block ?_
      refine aws ?_
      refine awr ?_
      obtain ⟨x5, hx5, h⟩ := bindS h
      refine ado rfl rfl rfl (tx_idxD (c := c8) (xs := t0) (i := v2) ce8 Try.underlying72 s_5 rfl rfl hx5) ?_
      refine ado rfl rfl rfl (tx_ldD1 (v := (U8 x5)) Try.underlying5 rfl rfl rfl) ?_
      refine ado rfl rfl rfl (eas (eV (v := (U8 x5)) rfl)) ?_
      refine ake [2, 3, 6, 9, 10, 11] 0 1 (st' := ⟨34, 0, [(2, (GV 0 v3.length)), (3, (I v1)), (6, (U8 x5)), (9, (SL 1 c8 t0)), (10, (I (t0.length : Int))), (11, (I v2))], [], ⟨1, [(0, ⟨1, ((v3).flatMap cI), true⟩)]⟩⟩) (by kernel_rfl) (by kernel_rfl) ?_
      show AWp _ _ _ _
      refine aws ?_
      refine awr ?_
      refine ado rfl rfl rfl (emv (eV (v := (U8 x5)) rfl)) ?_
      refine ado rfl rfl rfl (tx_8_64 Try.underlying5 Try.underlying3 rfl) ?_
      refine ado rfl rfl rfl (ex_bin (vx := (I (x5.toNat : Int))) (vy := (I 48)) rfl rfl subI_ok) ?_
      refine ado rfl rfl rfl (eas (eV (v := (I (w64 ((x5.toNat : Int) - 48)))) rfl)) ?_
      refine ake [2, 3, 7, 9, 10, 11] 0 1 (st' := ⟨34, 0, [(2, (GV 0 v3.length)), (3, (I v1)), (7, (I (w64 ((x5.toNat : Int) - 48)))), (9, (SL 1 c8 t0)), (10, (I (t0.length : Int))), (11, (I v2))], [], ⟨1, [(0, ⟨1, ((v3).flatMap cI), true⟩)]⟩⟩) (by kernel_rfl) (by kernel_rfl) ?_
      show AWp _ _ _ _
      refine aws ?_
      refine aws ?_
      refine awr ?_
      refine ado rfl rfl rfl (emv (eV (v := (I (w64 ((x5.toNat : Int) - 48)))) rfl)) ?_
      refine ado rfl rfl rfl (ex_bin (vx := (I (w64 ((x5.toNat : Int) - 48)))) (vy := (I 1)) rfl rfl lssI_ok) ?_
      refine ado rfl rfl rfl (emv (eV (v := (Bo (decide ((w64 ((x5.toNat : Int) - 48)) < 1)))) rfl)) ?_
      refine agu (v := (I (w64 ((x5.toNat : Int) - 48)))) ((decide ((w64 ((x5.toNat : Int) - 48)) < 1)) == false) rfl rfl rfl (fun hc => emv (eV (v := (I (w64 ((x5.toNat : Int) - 48)))) rfl)) ?_
      refine agu (v := (Bo (decide ((w64 ((x5.toNat : Int) - 48)) > 4)))) ((decide ((w64 ((x5.toNat : Int) - 48)) < 1)) == false) rfl rfl rfl (fun hc => ex_bin (vx := (I (w64 ((x5.toNat : Int) - 48)))) (vy := (I 4)) (cdo hc) rfl gtrI_ok) ?_
      refine ado rfl rfl rfl (ex_pick rfl pkOr) ?_
      refine ake [2, 3, 7, 9, 10, 11, 23] 0 1 (st' := ⟨34, 0, [(2, (GV 0 v3.length)), (3, (I v1)), (7, (I (w64 ((x5.toNat : Int) - 48)))), (9, (SL 1 c8 t0)), (10, (I (t0.length : Int))), (11, (I v2)), (23, (Bo ((decide ((w64 ((x5.toNat : Int) - 48)) < 1)) || (decide ((w64 ((x5.toNat : Int) - 48)) > 4)))))], [], ⟨1, [(0, ⟨1, ((v3).flatMap cI), true⟩)]⟩⟩) (by kernel_rfl) (by kernel_rfl) ?_
      show AWp _ _ _ _
      rcases Bool.eq_false_or_eq_true ((decide ((w64 ((x5.toNat : Int) - 48)) < 1)) || (decide ((w64 ((x5.toNat : Int) - 48)) > 4))) with hb6 | hb6
      · rw [condT hb6] at h
        refine awp_condT (boT hb6) ?_
        refine aws ?_
        refine awr ?_
        refine ado rfl rfl rfl (eas (eV (v := (Value.slice none 0 0)) rfl)) ?_
        refine ado rfl rfl rfl (eas (eV (v := (I 0)) rfl)) ?_
        refine ado rfl rfl rfl (eas (eV (v := (Bo false)) rfl)) ?_
        refine ake [2, 3, 4] 0 0 (st' := ⟨34, 0, [(2, (Value.slice none 0 0)), (3, (I 0)), (4, (Bo false))], [], ⟨0, []⟩⟩) (by kernel_rfl) (by kernel_rfl) ?_
        show AWp _ _ _ _
        refine awp_ret ?_
        cases h
        exact aresN rfl (L2.cons (rtmp rfl (eN rfl)) (L2.cons (rtmp rfl (eV rfl)) (L2.cons (rtmp rfl (eV rfl)) L2.nil))) rfl
      · rw [condF hb6] at h
        refine awp_condF (boF hb6) ?_
        refine awp_skip ?_
        show AWp _ _ _ _
        refine awr ?_
        refine ado rfl rfl rfl (emv (eV (v := (GV 0 v3.length)) rfl)) ?_
        refine ado rfl rfl rfl (emv (eV (v := (I (w64 ((x5.toNat : Int) - 48)))) rfl)) ?_
        refine ado rfl rfl rfl (ex_buildSliceD (qs := [(0, (I (w64 ((x5.toNat : Int) - 48))))]) (cells := (([(w64 ((x5.toNat : Int) - 48))] : List Int).flatMap cI)) Try.underlying59 s_3 (by decide) (evp rfl evp_nil) rfl (by kernel_rfl) (by kernel_rfl) (by kernel_rfl)) ?_
        obtain ⟨x7, hx7, h⟩ := bindS h
        refine ado rfl rfl rfl (tx_appG (c := cI) (xs := v3) (H' := ⟨1, [(0, ⟨1, ((x7).flatMap cI), true⟩)]⟩) ceI e_3 rfl rfl rfl (tsrcD (ys := ([(w64 ((x5.toNat : Int) - 48))] : List Int)) ceI Try.underlying59 s_3 Try.underlying59 rfl) hx7 rfl) ?_
        refine ado rfl rfl rfl (emv (eV (v := (I v1)) rfl)) ?_
        refine ado rfl rfl rfl (emv (eV (v := (I (w64 ((x5.toNat : Int) - 48)))) rfl)) ?_
        refine ado rfl rfl rfl (ex_bin (vx := (I v1)) (vy := (I (w64 ((x5.toNat : Int) - 48)))) rfl rfl addI_ok) ?_
        refine ado rfl rfl rfl (eas (eV (v := (GV 0 x7.length)) rfl)) ?_
        refine ado rfl rfl rfl (eas (eV (v := (I (w64 (v1 + (w64 ((x5.toNat : Int) - 48)))))) rfl)) ?_
        refine ake [2, 3, 9, 10, 11] 0 1 (st' := ⟨34, 0, [(2, (GV 0 x7.length)), (3, (I (w64 (v1 + (w64 ((x5.toNat : Int) - 48)))))), (9, (SL 1 c8 t0)), (10, (I (t0.length : Int))), (11, (I v2))], [], ⟨1, [(0, ⟨1, ((x7).flatMap cI), true⟩)]⟩⟩) (by kernel_rfl) (by kernel_rfl) ?_
        show AWp _ _ _ _
        refine awr ?_
        refine ado rfl rfl rfl (ex_bin (vx := (I v2)) (vy := (I 1)) rfl rfl addI_ok) ?_
        refine ado rfl rfl rfl (emv (eV (v := (I (w64 (v2 + 1)))) rfl)) ?_
        refine ake [2, 3, 9, 10, 11] 0 1 (st' := ⟨34, 0, [(2, (GV 0 x7.length)), (3, (I (w64 (v1 + (w64 ((x5.toNat : Int) - 48)))))), (9, (SL 1 c8 t0)), (10, (I (t0.length : Int))), (11, (I (w64 (v2 + 1))))], [], ⟨1, [(0, ⟨1, ((x7).flatMap cI), true⟩)]⟩⟩) (by kernel_rfl) (by kernel_rfl) ?_
        exact Exists.intro n1 (And.intro (Nat.lt_succ_self _) (Exists.intro (w64 (v1 + (w64 ((x5.toNat : Int) - 48)))) (Exists.intro (w64 (v2 + 1)) (Exists.intro x7 (And.intro rfl h)))))
    · rw [condF hb4] at h
      refine awp_condF (boF hb4) ?_
      refine awp_exit ?_
      show AWp _ _ _ _
      refine aws ?_
      refine awr ?_
      refine ado rfl rfl rfl (emv (eV (v := (GV 0 v3.length)) rfl)) ?_
      refine ado rfl rfl rfl (emv (eV (v := (I v1)) rfl)) ?_
      refine ado rfl rfl rfl (eas (eV (v := (GV 0 v3.length)) rfl)) ?_
      refine ado rfl rfl rfl (eas (eV (v := (I v1)) rfl)) ?_
      refine ado rfl rfl rfl (eas (eV (v := (Bo true)) rfl)) ?_
      refine ake [2, 3, 4] 0 1 (st' := ⟨34, 0, [(2, (GV 0 v3.length)), (3, (I v1)), (4, (Bo true))], [], ⟨1, [(0, ⟨1, ((v3).flatMap cI), true⟩)]⟩⟩) (by kernel_rfl) (by kernel_rfl) ?_
      show AWp _ _ _ _
      refine awp_freeze 0 (bk := ⟨1, ((v3).flatMap cI), true⟩) (T' := [(2, (SL 1 cI v3)), (3, (I v1)), (4, (Bo true))]) (L' := []) rfl (fzG ceI rfl rfl (FzT.keep (v := (I v1)) rfl (FzT.keep (v := (Bo true)) rfl FzT.nil))) (FzL.refl _) ?_
      show AWp _ _ _ ⟨34, 0, [(2, (SL 1 cI v3)), (3, (I v1)), (4, (Bo true))], [], ⟨1, []⟩⟩
      refine awp_ret ?_
      cases h
      exact aresN rfl (L2.cons (rtmp rfl (eV rfl)) (L2.cons (rtmp rfl (eV rfl)) (L2.cons (rtmp rfl (eV rfl)) L2.nil))) rfl

noncomputable def M_pack_Put_l2 (c_1 : (Int → List UInt8 → Option Str)) (t1 : (List Int)) (x1 : ((List Int) × Int × Bool)) (v3 : Int) (x6 : Int) : Nat → Int → List UInt8 → Option Str
  | 0, _, _ => none
  | n2 + 1, v8, v9 =>
  cond (decide (v8 ≥ 0)) (Option.bind (shrI x6 (w64 (8 * v8))) fun (x11 : Int) => Option.bind (appL 1 v9 ([(UInt8.ofInt x11)] : List UInt8)) fun (x12 : List UInt8) => (M_pack_Put_l2 c_1 t1 x1 v3 x6 n2) (w64 (v8 - 1)) x12) (c_1 (w64 (v3 + 1)) v9)
noncomputable def M_pack_Put_l1 (t1 : (List Int)) (x1 : ((List Int) × Int × Bool)) : Nat → Int → List UInt8 → Option Str
  | 0, _, _ => none
  | n1 + 1, v3, v4 =>
  cond (decide (v3 < (t1.length : Int))) (Option.bind (getI t1 v3) fun (x6 : Int) => Option.bind (getI x1.1 v3) fun (x7 : Int) => M_pack_Put_l2 (M_pack_Put_l1 t1 x1 n1) t1 x1 v3 x6 fuel (w64 (x7 - 1)) v4) (some v4)
noncomputable def M_pack_Put (t0 : Str) (t1 : (List Int)) : Option Str :=
  Option.bind (M_pack_sizes t0) fun (x1 : ((List Int) × Int × Bool)) => cond ((!x1.2.2) || ((x1.1.length : Int) != (t1.length : Int))) (some []) (M_pack_Put_l1 t1 x1 fuel 0 ([] : List UInt8))
theorem ok_pack_Put (t0 : Str) (t1 : (List Int)) (r : Str) (h : M_pack_Put t0 t1 = some r) : FFn Try.prog 67 [(S t0), (SL 1 cI t1)] (S r) := by
  refine FFn.of_body (n := 54) Try.func67 rfl Try.ntmps67 rfl rfl rfl rfl ?_
  show AWp _ _ _ ⟨54, 0, [(0, (S t0)), (1, (SL 1 cI t1))], [], ⟨0, []⟩⟩
  unfold M_pack_Put at h
  refine aws ?_
  refine awr ?_
  refine ado rfl rfl rfl (eas (eV (v := (S [])) rfl)) ?_
  refine ake [0, 1] 0 0 (st' := ⟨54, 0, [(0, (S t0)), (1, (SL 1 cI t1))], [], ⟨0, []⟩⟩) (by kernel_rfl) (by kernel_rfl) ?_
  show AWp _ _ _ _
  refine aws ?_
  refine awr ?_
  refine ado rfl rfl rfl (emv (eV (v := (S t0)) rfl)) ?_
  obtain ⟨x1, hx1, h⟩ := bindS h
  refine ado rfl rfl rfl (ex_call0 (vs := [(S t0)]) (v := (Value.tuple #[(SL 1 cI x1.1), (I x1.2.1), (Bo x1.2.2)])) rfl en_71 (cargs (evs rfl evs_nil)) rfl (ok_pack_sizes t0 x1 hx1) rfl) ?_
  refine ado rfl rfl rfl (emv (eV (v := (Value.tuple #[(SL 1 cI x1.1), (I x1.2.1), (Bo x1.2.2)])) rfl)) ?_
  refine ado rfl rfl rfl (ex_extract (vx := (Value.tuple #[(SL 1 cI x1.1), (I x1.2.1), (Bo x1.2.2)])) (v := (SL 1 cI x1.1)) rfl rfl) ?_
  refine ado rfl rfl rfl (ex_extract (vx := (Value.tuple #[(SL 1 cI x1.1), (I x1.2.1), (Bo x1.2.2)])) (v := (I x1.2.1)) rfl rfl) ?_
  refine ado rfl rfl rfl (ex_extract (vx := (Value.tuple #[(SL 1 cI x1.1), (I x1.2.1), (Bo x1.2.2)])) (v := (Bo x1.2.2)) rfl rfl) ?_
  refine ado rfl rfl rfl (eas (eV (v := (SL 1 cI x1.1)) rfl)) ?_
  refine ado rfl rfl rfl (eas (eV (v := (I x1.2.1)) rfl)) ?_
  refine ado rfl rfl rfl (eas (eV (v := (Bo x1.2.2)) rfl)) ?_
  refine ake [1, 5, 7] 0 0 (st' := ⟨54, 0, [(1, (SL 1 cI t1)), (5, (SL 1 cI x1.1)), (7, (Bo x1.2.2))], [], ⟨0, []⟩⟩) (by kernel_rfl) (by kernel_rfl) ?_
  show AWp _ _ _ _
  refine aws ?_
  refine aws ?_
  refine awr ?_
  refine ado rfl rfl rfl (emv (eV (v := (Bo x1.2.2)) rfl)) ?_
  refine ado rfl rfl rfl (ex_un (vx := (Bo x1.2.2)) rfl notB_ok) ?_
  refine ado rfl rfl rfl (emv (eV (v := (Bo (!x1.2.2))) rfl)) ?_
  refine agu (v := (SL 1 cI x1.1)) ((!x1.2.2) == false) rfl rfl rfl (fun hc => emv (eV (v := (SL 1 cI x1.1)) rfl)) ?_
  refine agu (v := (I (x1.1.length : Int))) ((!x1.2.2) == false) rfl rfl rfl (fun hc => tx_lenD (xs := x1.1) ceI Try.underlying59 (cdo hc)) ?_
  refine agu (v := (SL 1 cI t1)) ((!x1.2.2) == false) rfl rfl rfl (fun hc => emv (eV (v := (SL 1 cI t1)) rfl)) ?_
  refine agu (v := (I (t1.length : Int))) ((!x1.2.2) == false) rfl rfl rfl (fun hc => tx_lenD (xs := t1) ceI Try.underlying59 (cdo hc)) ?_
  refine agu (v := (Bo ((x1.1.length : Int) != (t1.length : Int)))) ((!x1.2.2) == false) rfl rfl rfl (fun hc => ex_bin (vx := (I (x1.1.length : Int))) (vy := (I (t1.length : Int))) (cdo hc) (cdo hc) neqI_ok) ?_
  refine ado rfl rfl rfl (ex_pick rfl pkOr) ?_
  refine ake [1, 5, 26] 0 0 (st' := ⟨54, 0, [(1, (SL 1 cI t1)), (5, (SL 1 cI x1.1)), (26, (Bo ((!x1.2.2) || ((x1.1.length : Int) != (t1.length : Int)))))], [], ⟨0, []⟩⟩) (by kernel_rfl) (by kernel_rfl) ?_
  show AWp _ _ _ _
  rcases Bool.eq_false_or_eq_true ((!x1.2.2) || ((x1.1.length : Int) != (t1.length : Int))) with hb2 | hb2
  · rw [condT hb2] at h
    refine awp_condT (boT hb2) ?_
    refine aws ?_
    refine awr ?_
    refine ado rfl rfl rfl (eas (eV (v := (S [])) rfl)) ?_
    refine ake [4] 0 0 (st' := ⟨54, 0, [(4, (S []))], [], ⟨0, []⟩⟩) (by kernel_rfl) (by kernel_rfl) ?_
    show AWp _ _ _ _
    refine awp_ret ?_
    cases h
    exact ares1 (rtmp rfl (eV rfl))
  · rw [condF hb2] at h
    refine awp_condF (boF hb2) ?_
    refine awp_skip ?_
    show AWp _ _ _ _
    refine aws ?_
    refine awr ?_
    refine ado rfl rfl rfl (eas (eV (v := (Value.slice none 0 0)) rfl)) ?_
    refine ake [1, 5, 8] 0 0 (st' := ⟨54, 0, [(1, (SL 1 cI t1)), (5, (SL 1 cI x1.1)), (8, (Value.slice none 0 0))], [], ⟨0, []⟩⟩) (by kernel_rfl) (by kernel_rfl) ?_
    show AWp _ _ _ _
    refine aws ?_
    refine aws ?_
    refine awr ?_
    refine ado rfl rfl rfl (emv (eV (v := (SL 1 cI t1)) rfl)) ?_
    refine ado rfl rfl rfl (tx_lenD (xs := t1) ceI Try.underlying59 rfl) ?_
    refine ado rfl rfl rfl (emv (eV (v := (I 0)) rfl)) ?_
    refine ake [5, 8, 27, 28, 29] 0 0 (st' := ⟨54, 0, [(5, (SL 1 cI x1.1)), (8, (Value.slice none 0 0)), (27, (SL 1 cI t1)), (28, (I (t1.length : Int))), (29, (I 0))], [], ⟨0, []⟩⟩) (by kernel_rfl) (by kernel_rfl) ?_
    show AWp _ _ _ _
    refine awp_block ?_
    refine awp_nilGro 8 1 rfl (by decide) ?_
    refine awp_keepE [5, 8, 27, 28, 29] 0 1 (st' := ⟨54, 0, [(5, (SL 1 cI x1.1)), (8, (GV 0 0)), (27, (SL 1 cI t1)), (28, (I (t1.length : Int))), (29, (I 0))], [], ⟨1, [(0, ⟨1, (([] : List UInt8).flatMap c8), true⟩)]⟩⟩) (by kernel_rfl) (by kernel_rfl) ?_
    refine awp_loop (fun n s => ∃ (v3 : Int) (v4 : List UInt8), s = ⟨54, 0, [(5, (SL 1 cI x1.1)), (8, (GV 0 v4.length)), (27, (SL 1 cI t1)), (28, (I (t1.length : Int))), (29, (I v3))], [], ⟨1, [(0, ⟨1, ((v4).flatMap c8), true⟩)]⟩⟩ ∧ M_pack_Put_l1 t1 x1 n v3 v4 = some r) fuel (Exists.intro 0 (Exists.intro ([] : List UInt8) (And.intro rfl h))) ?_
    rintro n s ⟨v3, v4, rfl, h⟩ -
    cases n with
    | zero => cases h
    | succ n1 =>
      unfold M_pack_Put_l1 at h
      refine aws ?_
      refine awr ?_
      refine ado rfl rfl rfl (ex_bin (vx := (I v3)) (vy := (I (t1.length : Int))) rfl rfl lssI_ok) ?_
      refine ake [5, 8, 27, 28, 29, 30] 0 1 (st' := ⟨54, 0, [(5, (SL 1 cI x1.1)), (8, (GV 0 v4.length)), (27, (SL 1 cI t1)), (28, (I (t1.length : Int))), (29, (I v3)), (30, (Bo (decide (v3 < (t1.length : Int)))))], [], ⟨1, [(0, ⟨1, ((v4).flatMap c8), true⟩)]⟩⟩) (by kernel_rfl) (by kernel_rfl) ?_
      show AWp _ _ _ _
      refine aws ?_
      rcases Bool.eq_false_or_eq_true (decide (v3 < (t1.length : Int))) with hb5 | hb5
      · rw [condT hb5] at h
        refine awp_condT (boT hb5) ?_
        refine awp_skip ?_
        show AWp _ _ _ _
        refine aws ?_
        refine awp_block ?_
        refine aws ?_
        refine awr ?_
        refine ado rfl rfl rfl (emv (eV (v := (I v3)) rfl)) ?_
        obtain ⟨x6, hx6, h⟩ := bindS h
        refine ado rfl rfl rfl (tx_idxD (c := cI) (xs := t1) (i := v3) ceI Try.underlying59 s_3 rfl rfl hx6) ?_
        refine ado rfl rfl rfl (tx_ldD1 (v := (I x6)) Try.underlying3 rfl rfl rfl) ?_
        refine ado rfl rfl rfl (eas (eV (v := (I v3)) rfl)) ?_
        refine ado rfl rfl rfl (eas (eV (v := (I x6)) rfl)) ?_
        refine ake [5, 8, 9, 10, 27, 28, 29] 0 1 (st' := ⟨54, 0, [(5, (SL 1 cI x1.1)), (8, (GV 0 v4.length)), (9, (I v3)), (10, (I x6)), (27, (SL 1 cI t1)), (28, (I (t1.length : Int))), (29, (I v3))], [], ⟨1, [(0, ⟨1, ((v4).flatMap c8), true⟩)]⟩⟩) (by kernel_rfl) (by kernel_rfl) ?_
        show AWp _ _ _ _
        refine aws ?_
        refine awr ?_
        refine ado rfl rfl rfl (emv (eV (v := (SL 1 cI x1.1)) rfl)) ?_
        refine ado rfl rfl rfl (emv (eV (v := (I v3)) rfl)) ?_
        obtain ⟨x7, hx7, h⟩ := bindS h
        refine ado rfl rfl rfl (tx_idxD (c := cI) (xs := x1.1) (i := v3) ceI Try.underlying59 s_3 rfl rfl hx7) ?_
        refine ado rfl rfl rfl (tx_ldD1 (v := (I x7)) Try.underlying3 rfl rfl rfl) ?_
        refine ado rfl rfl rfl (ex_bin (vx := (I x7)) (vy := (I 1)) rfl rfl subI_ok) ?_
        refine ado rfl rfl rfl (eas (eV (v := (I (w64 (x7 - 1)))) rfl)) ?_
        refine ake [5, 8, 10, 11, 27, 28, 29] 0 1 (st' := ⟨54, 0, [(5, (SL 1 cI x1.1)), (8, (GV 0 v4.length)), (10, (I x6)), (11, (I (w64 (x7 - 1)))), (27, (SL 1 cI t1)), (28, (I (t1.length : Int))), (29, (I v3))], [], ⟨1, [(0, ⟨1, ((v4).flatMap c8), true⟩)]⟩⟩) (by kernel_rfl) (by kernel_rfl) ?_
        show AWp _ _ _ _
        refine awp_block ?_
        refine awp_loop (fun n s => ∃ (v8 : Int) (v9 : List UInt8), s = ⟨54, 0, [(5, (SL 1 cI x1.1)), (8, (GV 0 v9.length)), (10, (I x6)), (11, (I v8)), (27, (SL 1 cI t1)), (28, (I (t1.length : Int))), (29, (I v3))], [], ⟨1, [(0, ⟨1, ((v9).flatMap c8), true⟩)]⟩⟩ ∧ M_pack_Put_l2 (M_pack_Put_l1 t1 x1 n1) t1 x1 v3 x6 n v8 v9 = some r) fuel (Exists.intro (w64 (x7 - 1)) (Exists.intro v4 (And.intro rfl h))) ?_
        rintro n s ⟨v8, v9, rfl, h⟩ -
        cases n with
        | zero => cases h
        | succ n2 =>
          unfold M_pack_Put_l2 at h
          refine aws ?_
          refine aws ?_
          refine awr ?_
          refine ado rfl rfl rfl (emv (eV (v := (I v8)) rfl)) ?_
          refine ado rfl rfl rfl (ex_bin (vx := (I v8)) (vy := (I 0)) rfl rfl geqI_ok) ?_
          refine ake [5, 8, 10, 11, 27, 28, 29, 40] 0 1 (st' := ⟨54, 0, [(5, (SL 1 cI x1.1)), (8, (GV 0 v9.length)), (10, (I x6)), (11, (I v8)), (27, (SL 1 cI t1)), (28, (I (t1.length : Int))), (29, (I v3)), (40, (Bo (decide (v8 ≥ 0))))], [], ⟨1, [(0, ⟨1, ((v9).flatMap c8), true⟩)]⟩⟩) (by kernel_rfl) (by kernel_rfl) ?_
          show AWp _ _ _ _
          rcases Bool.eq_false_or_eq_true (decide (v8 ≥ 0)) with hb10 | hb10
          · rw [condT hb10] at h
            refine awp_condT (boT hb10) ?_
            refine awp_skip ?_
            show AWp _ _ _ _
            refine aws ?_
            refine awp_block ?_
            refine awr ?_
            refine ado rfl rfl rfl (emv (eV (v := (GV 0 v9.length)) rfl)) ?_
            refine ado rfl rfl rfl (emv (eV (v := (I x6)) rfl)) ?_
            refine ado rfl rfl rfl (emv (eV (v := (I v8)) rfl)) ?_
            refine ado rfl rfl rfl (ex_bin (vx := (I 8)) (vy := (I v8)) rfl rfl mulI_ok) ?_
            obtain ⟨x11, hx11, h⟩ := bindS h
            refine ado rfl rfl rfl (ex_bin (vx := (I x6)) (vy := (I (w64 (8 * v8)))) rfl rfl (shrI_ok hx11)) ?_
            refine ado rfl rfl rfl (tx_64_8 Try.underlying3 Try.underlying5 rfl) ?_
            refine ado rfl rfl rfl (ex_buildSliceD (qs := [(0, (U8 (UInt8.ofInt x11)))]) (cells := (([(UInt8.ofInt x11)] : List UInt8).flatMap c8)) Try.underlying72 s_5 (by decide) (evp rfl evp_nil) rfl (by kernel_rfl) (by kernel_rfl) (by kernel_rfl)) ?_
            obtain ⟨x12, hx12, h⟩ := bindS h
            refine ado rfl rfl rfl (tx_appG (c := c8) (xs := v9) (H' := ⟨1, [(0, ⟨1, ((x12).flatMap c8), true⟩)]⟩) ce8 e_5 rfl rfl rfl (tsrcD (ys := ([(UInt8.ofInt x11)] : List UInt8)) ce8 Try.underlying72 s_5 Try.underlying72 rfl) hx12 rfl) ?_
            refine ado rfl rfl rfl (eas (eV (v := (GV 0 x12.length)) rfl)) ?_
            refine ake [5, 8, 10, 11, 27, 28, 29] 0 1 (st' := ⟨54, 0, [(5, (SL 1 cI x1.1)), (8, (GV 0 x12.length)), (10, (I x6)), (11, (I v8)), (27, (SL 1 cI t1)), (28, (I (t1.length : Int))), (29, (I v3))], [], ⟨1, [(0, ⟨1, ((x12).flatMap c8), true⟩)]⟩⟩) (by kernel_rfl) (by kernel_rfl) ?_
            show AWp _ _ _ _
            refine awr ?_
            refine ado rfl rfl rfl (emv (eV (v := (I v8)) rfl)) ?_
            refine ado rfl rfl rfl (ex_bin (vx := (I v8)) (vy := (I 1)) rfl rfl subI_ok) ?_
            refine ado rfl rfl rfl (eas (eV (v := (I (w64 (v8 - 1)))) rfl)) ?_
            refine ake [5, 8, 10, 11, 27, 28, 29] 0 1 (st' := ⟨54, 0, [(5, (SL 1 cI x1.1)), (8, (GV 0 x12.length)), (10, (I x6)), (11, (I (w64 (v8 - 1)))), (27, (SL 1 cI t1)), (28, (I (t1.length : Int))), (29, (I v3))], [], ⟨1, [(0, ⟨1, ((x12).flatMap c8), true⟩)]⟩⟩) (by kernel_rfl) (by kernel_rfl) ?_
            exact Exists.intro n2 (And.intro (Nat.lt_succ_self _) (Exists.intro (w64 (v8 - 1)) (Exists.intro x12 (And.intro rfl h))))
          · rw [condF hb10] at h
            refine awp_condF (boF hb10) ?_
            refine awp_exit ?_
            show AWp _ _ _ _
            refine awr ?_
            refine ado rfl rfl rfl (ex_bin (vx := (I v3)) (vy := (I 1)) rfl rfl addI_ok) ?_
            refine ado rfl rfl rfl (emv (eV (v := (I (w64 (v3 + 1)))) rfl)) ?_
            refine ake [5, 8, 27, 28, 29] 0 1 (st' := ⟨54, 0, [(5, (SL 1 cI x1.1)), (8, (GV 0 v9.length)), (27, (SL 1 cI t1)), (28, (I (t1.length : Int))), (29, (I (w64 (v3 + 1))))], [], ⟨1, [(0, ⟨1, ((v9).flatMap c8), true⟩)]⟩⟩) (by kernel_rfl) (by kernel_rfl) ?_
            exact Exists.intro n1 (And.intro (Nat.lt_succ_self _) (Exists.intro (w64 (v3 + 1)) (Exists.intro v9 (And.intro rfl h))))
      · rw [condF hb5] at h
        refine awp_condF (boF hb5) ?_
        refine awp_exit ?_
        show AWp _ _ _ _
        refine aws ?_
        refine awr ?_
        refine ado rfl rfl rfl (emv (eV (v := (GV 0 v4.length)) rfl)) ?_
        refine ado rfl rfl rfl (tx_bsG (bs := v4) Try.underlying72 Try.underlying9 Try.underlying5 rfl rfl rfl) ?_
        refine ado rfl rfl rfl (eas (eV (v := (S v4)) rfl)) ?_
        refine ake [4] 0 0 (st' := ⟨54, 0, [(4, (S v4))], [], ⟨0, []⟩⟩) (by kernel_rfl) (by kernel_rfl) ?_
        show AWp _ _ _ _
        refine awp_ret ?_
        cases h
        exact ares1 (rtmp rfl (eV rfl))

noncomputable def M_ptr_pointer_numbers_l1 (t0 : G_ptr_pointer) : Nat → Int → List Int → Option (List Int)
  | 0, _, _ => none
  | n1 + 1, v1, v2 =>
  cond (decide (v1 < 4)) (Option.bind (A4.get t0.Ptr.Sum v1) fun (x4 : UInt32) => Option.bind (appL 8 v2 ([(x4.toNat : Int)] : List Int)) fun (x5 : List Int) => (M_ptr_pointer_numbers_l1 t0 n1) (w64 (v1 + 1)) x5) (some v2)
noncomputable def M_ptr_pointer_numbers (t0 : G_ptr_pointer) : Option (List Int) :=
  M_ptr_pointer_numbers_l1 t0 fuel 0 ([t0.Ptr.Addr, t0.Ptr.Birth] : List Int)
theorem ok_ptr_pointer_numbers (t0 : G_ptr_pointer) (r : (List Int)) (h : M_ptr_pointer_numbers t0 = some r) : FFn Try.prog 85 [(Value.agg (c_ptr_pointer t0).toArray)] (SL 1 cI r) := by
  refine FFn.of_body (n := 26) Try.func85 rfl Try.ntmps85 rfl rfl rfl rfl ?_
  show AWp _ _ _ ⟨26, 0, [(0, (Value.agg (c_ptr_pointer t0).toArray))], [], ⟨0, []⟩⟩
  unfold M_ptr_pointer_numbers at h
  refine aws ?_
  refine awr ?_
  refine ado rfl rfl rfl (ex_box (vx := (Value.agg (c_ptr_pointer t0).toArray)) (cs := (c_ptr_pointer t0)) (k := 0) (L' := [(c_ptr_pointer t0)]) (eV (v := (Value.agg (c_ptr_pointer t0).toArray)) rfl) rfl rfl rfl) ?_
  refine ado rfl rfl rfl (eas (eV (v := (Value.slice none 0 0)) rfl)) ?_
  refine ake [1] 1 0 (st' := ⟨26, 0, [(1, (LP 0 0))], [(c_ptr_pointer t0)], ⟨0, []⟩⟩) (by kernel_rfl) (by kernel_rfl) ?_
  show AWp _ _ _ _
  refine aws ?_
  refine awr ?_
  refine ado rfl rfl rfl (efa (v := (LP 0 0)) Try.underlying105 rfl s_35 (by decide) rfl rfl) ?_
  refine ado rfl rfl rfl (efa (v := (LP 0 0)) Try.underlying35 rfl s_3 (by decide) rfl rfl) ?_
  refine ado rfl rfl rfl (tx_ldL1 (v := (I t0.Ptr.Addr)) Try.underlying3 rfl rfl rfl rfl) ?_
  refine ado rfl rfl rfl (efa (v := (LP 0 0)) Try.underlying105 rfl s_35 (by decide) rfl rfl) ?_
  refine ado rfl rfl rfl (efa (v := (LP 0 1)) Try.underlying35 rfl s_3 (by decide) rfl rfl) ?_
  refine ado rfl rfl rfl (tx_ldL1 (v := (I t0.Ptr.Birth)) Try.underlying3 rfl rfl rfl rfl) ?_
  refine ado rfl rfl rfl (ex_buildSliceG (k := 0) (qs := [(0, (I t0.Ptr.Addr)), (1, (I t0.Ptr.Birth))]) (cells := (([t0.Ptr.Addr, t0.Ptr.Birth] : List Int).flatMap cI)) (H' := ⟨1, [(0, ⟨1, (([t0.Ptr.Addr, t0.Ptr.Birth] : List Int).flatMap cI), true⟩)]⟩) Try.underlying59 s_3 (by decide) (by decide) (evp rfl (evp rfl evp_nil)) rfl (by kernel_rfl) (by kernel_rfl) (by kernel_rfl) rfl rfl) ?_
  refine ado rfl rfl rfl (eas (eV (v := (GV 0 2)) rfl)) ?_
  refine ake [1, 3] 1 1 (st' := ⟨26, 0, [(1, (LP 0 0)), (3, (GV 0 2))], [(c_ptr_pointer t0)], ⟨1, [(0, ⟨1, (([t0.Ptr.Addr, t0.Ptr.Birth] : List Int).flatMap cI), true⟩)]⟩⟩) (by kernel_rfl) (by kernel_rfl) ?_
  show AWp _ _ _ _
  refine aws ?_
  refine aws ?_
  refine awr ?_
  refine ado rfl rfl rfl (efa (v := (LP 0 0)) Try.underlying105 rfl s_35 (by decide) rfl rfl) ?_
  refine ado rfl rfl rfl (efa (v := (LP 0 2)) Try.underlying35 rfl s_33 (by decide) rfl rfl) ?_
  refine ado rfl rfl rfl (tx_ldLA (vs := ((cA4 c32) t0.Ptr.Sum)) Try.underlying33 rfl s_33 (by decide) rfl rfl rfl rfl) ?_
  refine ado rfl rfl rfl (emv (eV (v := (I 0)) rfl)) ?_
  refine ake [3, 15, 16] 0 1 (st' := ⟨26, 0, [(3, (GV 0 2)), (15, (Value.agg ((cA4 c32) t0.Ptr.Sum).toArray)), (16, (I 0))], [], ⟨1, [(0, ⟨1, (([t0.Ptr.Addr, t0.Ptr.Birth] : List Int).flatMap cI), true⟩)]⟩⟩) (by kernel_rfl) (by kernel_rfl) ?_
  show AWp _ _ _ _
  refine awp_block ?_
  refine awp_loop (fun n s => ∃ (v1 : Int) (v2 : List Int), s = ⟨26, 0, [(3, (GV 0 v2.length)), (15, (Value.agg ((cA4 c32) t0.Ptr.Sum).toArray)), (16, (I v1))], [], ⟨1, [(0, ⟨1, ((v2).flatMap cI), true⟩)]⟩⟩ ∧ M_ptr_pointer_numbers_l1 t0 n v1 v2 = some r) fuel (Exists.intro 0 (Exists.intro ([t0.Ptr.Addr, t0.Ptr.Birth] : List Int) (And.intro rfl h))) ?_
  rintro n s ⟨v1, v2, rfl, h⟩ -
  cases n with
  | zero => cases h
  | succ n1 =>
    unfold M_ptr_pointer_numbers_l1 at h
    refine aws ?_
    refine awr ?_
    refine ado rfl rfl rfl (ex_bin (vx := (I v1)) (vy := (I 4)) rfl rfl lssI_ok) ?_
    refine ake [3, 15, 16, 17] 0 1 (st' := ⟨26, 0, [(3, (GV 0 v2.length)), (15, (Value.agg ((cA4 c32) t0.Ptr.Sum).toArray)), (16, (I v1)), (17, (Bo (decide (v1 < 4))))], [], ⟨1, [(0, ⟨1, ((v2).flatMap cI), true⟩)]⟩⟩) (by kernel_rfl) (by kernel_rfl) ?_
    show AWp _ _ _ _
    refine aws ?_
    rcases Bool.eq_false_or_eq_true (decide (v1 < 4)) with hb3 | hb3
    · rw [condT hb3] at h
      refine awp_condT (boT hb3) ?_
      refine awp_skip ?_
      show AWp _ _ _ _
      refine aws ?_
      refine awp_block ?_
      refine aws ?_
      refine awr ?_
      obtain ⟨x4, hx4, h⟩ := bindS h
      refine ado rfl rfl rfl (ex_index (vx := (Value.agg ((cA4 c32) t0.Ptr.Sum).toArray)) (vy := (I v1)) (v := (U32 x4)) rfl rfl (by obtain ⟨hi, hz⟩ | ⟨hi, hz⟩ | ⟨hi, hz⟩ | ⟨hi, hz⟩ := A4.get_some hx4 <;> (subst hz; simp only [hi]; kernel_rfl))) ?_
      refine ado rfl rfl rfl (eas (eV (v := (U32 x4)) rfl)) ?_
      refine ake [3, 5, 15, 16] 0 1 (st' := ⟨26, 0, [(3, (GV 0 v2.length)), (5, (U32 x4)), (15, (Value.agg ((cA4 c32) t0.Ptr.Sum).toArray)), (16, (I v1))], [], ⟨1, [(0, ⟨1, ((v2).flatMap cI), true⟩)]⟩⟩) (by kernel_rfl) (by kernel_rfl) ?_
      show AWp _ _ _ _
      refine awr ?_
      refine ado rfl rfl rfl (emv (eV (v := (GV 0 v2.length)) rfl)) ?_
      refine ado rfl rfl rfl (emv (eV (v := (U32 x4)) rfl)) ?_
      refine ado rfl rfl rfl (tx_32_64 Try.underlying31 Try.underlying3 rfl) ?_
      refine ado rfl rfl rfl (ex_buildSliceD (qs := [(0, (I (x4.toNat : Int)))]) (cells := (([(x4.toNat : Int)] : List Int).flatMap cI)) Try.underlying59 s_3 (by decide) (evp rfl evp_nil) rfl (by kernel_rfl) (by kernel_rfl) (by kernel_rfl)) ?_
      obtain ⟨x5, hx5, h⟩ := bindS h
      refine ado rfl rfl rfl (tx_appG (c := cI) (xs := v2) (H' := ⟨1, [(0, ⟨1, ((x5).flatMap cI), true⟩)]⟩) ceI e_3 rfl rfl rfl (tsrcD (ys := ([(x4.toNat : Int)] : List Int)) ceI Try.underlying59 s_3 Try.underlying59 rfl) hx5 rfl) ?_
      refine ado rfl rfl rfl (eas (eV (v := (GV 0 x5.length)) rfl)) ?_
      refine ake [3, 15, 16] 0 1 (st' := ⟨26, 0, [(3, (GV 0 x5.length)), (15, (Value.agg ((cA4 c32) t0.Ptr.Sum).toArray)), (16, (I v1))], [], ⟨1, [(0, ⟨1, ((x5).flatMap cI), true⟩)]⟩⟩) (by kernel_rfl) (by kernel_rfl) ?_
      show AWp _ _ _ _
      refine awr ?_
      refine ado rfl rfl rfl (ex_bin (vx := (I v1)) (vy := (I 1)) rfl rfl addI_ok) ?_
      refine ado rfl rfl rfl (emv (eV (v := (I (w64 (v1 + 1)))) rfl)) ?_
      refine ake [3, 15, 16] 0 1 (st' := ⟨26, 0, [(3, (GV 0 x5.length)), (15, (Value.agg ((cA4 c32) t0.Ptr.Sum).toArray)), (16, (I (w64 (v1 + 1))))], [], ⟨1, [(0, ⟨1, ((x5).flatMap cI), true⟩)]⟩⟩) (by kernel_rfl) (by kernel_rfl) ?_
      exact Exists.intro n1 (And.intro (Nat.lt_succ_self _) (Exists.intro (w64 (v1 + 1)) (Exists.intro x5 (And.intro rfl h))))
    · rw [condF hb3] at h
      refine awp_condF (boF hb3) ?_
      refine awp_exit ?_
      show AWp _ _ _ _
      refine aws ?_
      refine awr ?_
      refine ado rfl rfl rfl (emv (eV (v := (GV 0 v2.length)) rfl)) ?_
      refine ado rfl rfl rfl (eas (eV (v := (GV 0 v2.length)) rfl)) ?_
      refine ake [2] 0 1 (st' := ⟨26, 0, [(2, (GV 0 v2.length))], [], ⟨1, [(0, ⟨1, ((v2).flatMap cI), true⟩)]⟩⟩) (by kernel_rfl) (by kernel_rfl) ?_
      show AWp _ _ _ _
      refine awp_freeze 0 (bk := ⟨1, ((v2).flatMap cI), true⟩) (T' := [(2, (SL 1 cI v2))]) (L' := []) rfl (fzG ceI rfl rfl FzT.nil) (FzL.refl _) ?_
      show AWp _ _ _ ⟨26, 0, [(2, (SL 1 cI v2))], [], ⟨1, []⟩⟩
      refine awp_ret ?_
      cases h
      exact ares1 (rtmp rfl (eV rfl))

end Go.Proofs
