/- Pure models of functions of the program, and that its code does what they say: palimpref1 Read, palimpref1 Take. Written by a program. -/
import Derived.Test.YtmhfodjiefednaaR7B
set_option maxRecDepth 20000
set_option maxHeartbeats 4000000
namespace Go.Proofs
open Go Go.Fhl
set_option linter.unusedVariables false
set_option linter.unusedSimpArgs false
noncomputable def M_ref1_Read_k1 (c_1 : (Str → Int → Option (Str × Bool))) (t0 : GDv) (t1 : Int) (v4 : Int) (y6 : Str) : Option (Str × Bool) :=
  c_1 y6 (w64 (v4 + 1))
noncomputable def M_ref1_Read_l1 (t0 : GDv) (t1 : Int) : Nat → Str → Int → Option (Str × Bool)
  | 0, _, _ => none
  | n1 + 1, v3, v4 =>
  cond (decide (v4 < (t0.Wait.length : Int))) (Option.bind (getI t0.Wait v4) fun (x7 : GPu) => cond (x7.At == t1) (Option.bind (getI t0.Wait v4) fun (x9 : GPu) => M_ref1_Read_k1 (M_ref1_Read_l1 t0 t1 n1) t0 t1 v4 x9.B) (M_ref1_Read_k1 (M_ref1_Read_l1 t0 t1 n1) t0 t1 v4 v3)) (some (v3, true))
noncomputable def M_ref1_Read (t0 : GDv) (t1 : Int) : Option (Str × Bool) :=
  cond ((t0.Down || (decide (t1 < 0))) || (decide (t1 ≥ (t0.Last.length : Int)))) (some ([], false)) (Option.bind (getI t0.Last t1) fun (x2 : Str) => M_ref1_Read_l1 t0 t1 fuel x2 0)
theorem ok_ref1_Read (t0 : GDv) (t1 : Int) (r : (Str × Bool)) (h : M_ref1_Read t0 t1 = some r) : FFn Try.prog 42 [(Value.agg (cDv t0).toArray), (I t1)] (Value.tuple #[(S r.1), (Bo r.2)]) := by
  refine FFn.of_body (n := 48) Try.func42 rfl Try.ntmps42 rfl rfl rfl rfl ?_
  show AWp _ _ _ ⟨48, 0, [(0, (Value.agg (cDv t0).toArray)), (1, (I t1))], [], ⟨0, []⟩⟩
  unfold M_ref1_Read at h
  refine aws ?_
  refine awr ?_
  refine ado rfl rfl rfl (ex_box (vx := (Value.agg (cDv t0).toArray)) (cs := (cDv t0)) (k := 0) (L' := [(cDv t0)]) (eV (v := (Value.agg (cDv t0).toArray)) rfl) rfl rfl rfl) ?_
  refine ado rfl rfl rfl (eas (eV (v := (S [])) rfl)) ?_
  refine ado rfl rfl rfl (eas (eV (v := (Bo false)) rfl)) ?_
  refine ake [1, 2] 1 0 (st' := ⟨48, 0, [(1, (I t1)), (2, (LP 0 0))], [(cDv t0)], ⟨0, []⟩⟩) (by kernel_rfl) (by kernel_rfl) ?_
  show AWp _ _ _ _
  refine aws ?_
  refine aws ?_
  refine awr ?_
  refine ado rfl rfl rfl (efa (v := (LP 0 4)) Try.underlying29 rfl s_4 (by decide) rfl rfl) ?_
  refine ado rfl rfl rfl (tx_ldL1 (v := (Bo t0.Down)) Try.underlying4 rfl rfl rfl rfl) ?_
  refine ado rfl rfl rfl (emv (eV (v := (Bo t0.Down)) rfl)) ?_
  refine agu (v := (I t1)) (t0.Down == false) rfl rfl rfl (fun hc => emv (eV (v := (I t1)) rfl)) ?_
  refine agu (v := (Bo (decide (t1 < 0)))) (t0.Down == false) rfl rfl rfl (fun hc => ex_bin (vx := (I t1)) (vy := (I 0)) (cdo hc) rfl lssI_ok) ?_
  refine ado rfl rfl rfl (ex_pick rfl pkOr) ?_
  refine ado rfl rfl rfl (emv (eV (v := (Bo (t0.Down || (decide (t1 < 0))))) rfl)) ?_
  refine agu (v := (I t1)) ((t0.Down || (decide (t1 < 0))) == false) rfl rfl rfl (fun hc => emv (eV (v := (I t1)) rfl)) ?_
  refine agu (v := (LP 0 0)) ((t0.Down || (decide (t1 < 0))) == false) rfl rfl rfl (fun hc => efa (v := (LP 0 0)) Try.underlying29 rfl s_26 (by decide) rfl rfl) ?_
  refine agu (v := (SL 1 cS t0.Last)) ((t0.Down || (decide (t1 < 0))) == false) rfl rfl rfl (fun hc => tx_ldL1 (v := (SL 1 cS t0.Last)) Try.underlying26 rfl (cdo hc) rfl rfl) ?_
  refine agu (v := (I (t0.Last.length : Int))) ((t0.Down || (decide (t1 < 0))) == false) rfl rfl rfl (fun hc => tx_lenD (xs := t0.Last) ceS Try.underlying26 (cdo hc)) ?_
  refine agu (v := (Bo (decide (t1 ≥ (t0.Last.length : Int))))) ((t0.Down || (decide (t1 < 0))) == false) rfl rfl rfl (fun hc => ex_bin (vx := (I t1)) (vy := (I (t0.Last.length : Int))) (cdo hc) (cdo hc) geqI_ok) ?_
  refine ado rfl rfl rfl (ex_pick rfl pkOr) ?_
  refine ake [1, 2, 20] 1 0 (st' := ⟨48, 0, [(1, (I t1)), (2, (LP 0 0)), (20, (Bo ((t0.Down || (decide (t1 < 0))) || (decide (t1 ≥ (t0.Last.length : Int))))))], [(cDv t0)], ⟨0, []⟩⟩) (by kernel_rfl) (by kernel_rfl) ?_
  show AWp _ _ _ _
  rcases Bool.eq_false_or_eq_true ((t0.Down || (decide (t1 < 0))) || (decide (t1 ≥ (t0.Last.length : Int)))) with hb1 | hb1
  · rw [condT hb1] at h
    refine awp_condT (boT hb1) ?_
    refine aws ?_
    refine awr ?_
    refine ado rfl rfl rfl (eas (eV (v := (S [])) rfl)) ?_
    refine ado rfl rfl rfl (eas (eV (v := (Bo false)) rfl)) ?_
    refine ake [4, 5] 0 0 (st' := ⟨48, 0, [(4, (S [])), (5, (Bo false))], [], ⟨0, []⟩⟩) (by kernel_rfl) (by kernel_rfl) ?_
    show AWp _ _ _ _
    refine awp_ret ?_
    cases h
    exact aresN rfl (L2.cons (rtmp rfl (eV rfl)) (L2.cons (rtmp rfl (eV rfl)) L2.nil)) rfl
  · rw [condF hb1] at h
    refine awp_condF (boF hb1) ?_
    refine awp_skip ?_
    show AWp _ _ _ _
    refine aws ?_
    refine awr ?_
    refine ado rfl rfl rfl (efa (v := (LP 0 0)) Try.underlying29 rfl s_26 (by decide) rfl rfl) ?_
    refine ado rfl rfl rfl (tx_ldL1 (v := (SL 1 cS t0.Last)) Try.underlying26 rfl rfl rfl rfl) ?_
    refine ado rfl rfl rfl (emv (eV (v := (I t1)) rfl)) ?_
    obtain ⟨x2, hx2, h⟩ := bindS h
    refine ado rfl rfl rfl (tx_idxD (c := cS) (xs := t0.Last) (i := t1) ceS Try.underlying26 s_9 rfl rfl hx2) ?_
    refine ado rfl rfl rfl (tx_ldD1 (v := (S x2)) Try.underlying9 rfl rfl rfl) ?_
    refine ado rfl rfl rfl (eas (eV (v := (S x2)) rfl)) ?_
    refine ake [1, 2, 6] 1 0 (st' := ⟨48, 0, [(1, (I t1)), (2, (LP 0 0)), (6, (S x2))], [(cDv t0)], ⟨0, []⟩⟩) (by kernel_rfl) (by kernel_rfl) ?_
    show AWp _ _ _ _
    refine aws ?_
    refine aws ?_
    refine awr ?_
    refine ado rfl rfl rfl (eas (eV (v := (I 0)) rfl)) ?_
    refine ake [1, 2, 6, 7] 1 0 (st' := ⟨48, 0, [(1, (I t1)), (2, (LP 0 0)), (6, (S x2)), (7, (I 0))], [(cDv t0)], ⟨0, []⟩⟩) (by kernel_rfl) (by kernel_rfl) ?_
    show AWp _ _ _ _
    refine awp_block ?_
    refine awp_loop (fun n s => ∃ (v3 : Str) (v4 : Int), s = ⟨48, 0, [(1, (I t1)), (2, (LP 0 0)), (6, (S v3)), (7, (I v4))], [(cDv t0)], ⟨0, []⟩⟩ ∧ M_ref1_Read_l1 t0 t1 n v3 v4 = some r) fuel (Exists.intro x2 (Exists.intro 0 (And.intro rfl h))) ?_
    rintro n s ⟨v3, v4, rfl, h⟩ -
    cases n with
    | zero => cases h
    | succ n1 =>
      unfold M_ref1_Read_l1 at h
      refine aws ?_
      refine aws ?_
      refine awr ?_
      refine ado rfl rfl rfl (emv (eV (v := (I v4)) rfl)) ?_
      refine ado rfl rfl rfl (efa (v := (LP 0 1)) Try.underlying29 rfl s_27 (by decide) rfl rfl) ?_
      refine ado rfl rfl rfl (tx_ldL1 (v := (SL 2 cPu t0.Wait)) Try.underlying27 rfl rfl rfl rfl) ?_
      refine ado rfl rfl rfl (tx_lenD (xs := t0.Wait) ce_api_Put Try.underlying27 rfl) ?_
      refine ado rfl rfl rfl (ex_bin (vx := (I v4)) (vy := (I (t0.Wait.length : Int))) rfl rfl lssI_ok) ?_
      refine ake [1, 2, 6, 7, 30] 1 0 (st' := ⟨48, 0, [(1, (I t1)), (2, (LP 0 0)), (6, (S v3)), (7, (I v4)), (30, (Bo (decide (v4 < (t0.Wait.length : Int)))))], [(cDv t0)], ⟨0, []⟩⟩) (by kernel_rfl) (by kernel_rfl) ?_
      show AWp _ _ _ _
      rcases Bool.eq_false_or_eq_true (decide (v4 < (t0.Wait.length : Int))) with hb5 | hb5
      · rw [condT hb5] at h
        refine awp_condT (boT hb5) ?_
        refine awp_skip ?_
        show AWp _ _ _ _
        refine awp_seqJ (fun s => ∃ (y6 : Str), s = ⟨48, 0, [(1, (I t1)), (2, (LP 0 0)), (6, (S y6)), (7, (I v4))], [(cDv t0)], ⟨0, []⟩⟩ ∧ M_ref1_Read_k1 (M_ref1_Read_l1 t0 t1 n1) t0 t1 v4 y6 = some r) ?_ ?_
        · refine awp_block ?_
          refine aws ?_
          refine awr ?_
          refine ado rfl rfl rfl (efa (v := (LP 0 1)) Try.underlying29 rfl s_27 (by decide) rfl rfl) ?_
          refine ado rfl rfl rfl (tx_ldL1 (v := (SL 2 cPu t0.Wait)) Try.underlying27 rfl rfl rfl rfl) ?_
          refine ado rfl rfl rfl (emv (eV (v := (I v4)) rfl)) ?_
          obtain ⟨x7, hx7, h⟩ := bindS h
          refine ado rfl rfl rfl (tx_idxD (c := cPu) (xs := t0.Wait) (i := v4) ce_api_Put Try.underlying27 s_44 rfl rfl hx7) ?_
          refine ado rfl rfl rfl (ex_fieldAddrD (vs := (List.drop 0 (cPu x7))) Try.underlying44 rfl s_3 (by decide) rfl rfl) ?_
          refine ado rfl rfl rfl (tx_ldD1 (v := (I x7.At)) Try.underlying3 rfl rfl rfl) ?_
          refine ado rfl rfl rfl (emv (eV (v := (I t1)) rfl)) ?_
          refine ado rfl rfl rfl (ex_bin (vx := (I x7.At)) (vy := (I t1)) rfl rfl eqlI_ok) ?_
          refine ake [1, 2, 6, 7, 40] 1 0 (st' := ⟨48, 0, [(1, (I t1)), (2, (LP 0 0)), (6, (S v3)), (7, (I v4)), (40, (Bo (x7.At == t1)))], [(cDv t0)], ⟨0, []⟩⟩) (by kernel_rfl) (by kernel_rfl) ?_
          show AWp _ _ _ _
          rcases Bool.eq_false_or_eq_true (x7.At == t1) with hb8 | hb8
          · rw [condT hb8] at h
            refine awp_condT (boT hb8) ?_
            refine awr ?_
            refine ado rfl rfl rfl (efa (v := (LP 0 1)) Try.underlying29 rfl s_27 (by decide) rfl rfl) ?_
            refine ado rfl rfl rfl (tx_ldL1 (v := (SL 2 cPu t0.Wait)) Try.underlying27 rfl rfl rfl rfl) ?_
            refine ado rfl rfl rfl (emv (eV (v := (I v4)) rfl)) ?_
            obtain ⟨x9, hx9, h⟩ := bindS h
            refine ado rfl rfl rfl (tx_idxD (c := cPu) (xs := t0.Wait) (i := v4) ce_api_Put Try.underlying27 s_44 rfl rfl hx9) ?_
            refine ado rfl rfl rfl (ex_fieldAddrD (vs := (List.drop 1 (cPu x9))) Try.underlying44 rfl s_9 (by decide) rfl rfl) ?_
            refine ado rfl rfl rfl (tx_ldD1 (v := (S x9.B)) Try.underlying9 rfl rfl rfl) ?_
            refine ado rfl rfl rfl (eas (eV (v := (S x9.B)) rfl)) ?_
            refine ake [1, 2, 6, 7] 1 0 (st' := ⟨48, 0, [(1, (I t1)), (2, (LP 0 0)), (6, (S x9.B)), (7, (I v4))], [(cDv t0)], ⟨0, []⟩⟩) (by kernel_rfl) (by kernel_rfl) ?_
            exact (Exists.intro x9.B (And.intro rfl h))
          · rw [condF hb8] at h
            refine awp_condF (boF hb8) ?_
            refine awp_keepE [1, 2, 6, 7] 1 0 (st' := ⟨48, 0, [(1, (I t1)), (2, (LP 0 0)), (6, (S v3)), (7, (I v4))], [(cDv t0)], ⟨0, []⟩⟩) (by kernel_rfl) (by kernel_rfl) ?_
            refine awp_skip ?_
            exact (Exists.intro v3 (And.intro rfl h))
        · rintro s ⟨y6, rfl, h⟩
          unfold M_ref1_Read_k1 at h
          refine awr ?_
          refine ado rfl rfl rfl (emv (eV (v := (I v4)) rfl)) ?_
          refine ado rfl rfl rfl (ex_bin (vx := (I v4)) (vy := (I 1)) rfl rfl addI_ok) ?_
          refine ado rfl rfl rfl (eas (eV (v := (I (w64 (v4 + 1)))) rfl)) ?_
          refine ake [1, 2, 6, 7] 1 0 (st' := ⟨48, 0, [(1, (I t1)), (2, (LP 0 0)), (6, (S y6)), (7, (I (w64 (v4 + 1))))], [(cDv t0)], ⟨0, []⟩⟩) (by kernel_rfl) (by kernel_rfl) ?_
          exact Exists.intro n1 (And.intro (Nat.lt_succ_self _) (Exists.intro y6 (Exists.intro (w64 (v4 + 1)) (And.intro rfl h))))
      · rw [condF hb5] at h
        refine awp_condF (boF hb5) ?_
        refine awp_exit ?_
        show AWp _ _ _ _
        refine aws ?_
        refine awr ?_
        refine ado rfl rfl rfl (emv (eV (v := (S v3)) rfl)) ?_
        refine ado rfl rfl rfl (eas (eV (v := (S v3)) rfl)) ?_
        refine ado rfl rfl rfl (eas (eV (v := (Bo true)) rfl)) ?_
        refine ake [4, 5] 0 0 (st' := ⟨48, 0, [(4, (S v3)), (5, (Bo true))], [], ⟨0, []⟩⟩) (by kernel_rfl) (by kernel_rfl) ?_
        show AWp _ _ _ _
        refine awp_ret ?_
        cases h
        exact aresN rfl (L2.cons (rtmp rfl (eV rfl)) (L2.cons (rtmp rfl (eV rfl)) L2.nil)) rfl

noncomputable def M_ref1_Take_l2 (c_1 : (Str → Int → List Int → Option ((List Int) × Str × Bool))) (t0 : Str) (v1 : Str) (v2 : Int) (v3 : List Int) (x5 : UInt8) : Nat → Int → Int → Option ((List Int) × Str × Bool)
  | 0, _, _ => none
  | n2 + 1, v7, v8 =>
  cond (decide (v8 < (w64 ((x5.toNat : Int) - 48)))) (Option.bind (getI v1 v8) fun (x10 : UInt8) => (M_ref1_Take_l2 c_1 t0 v1 v2 v3 x5 n2) (w64 ((w64 (v7 * 256)) + (x10.toNat : Int))) (w64 (v8 + 1))) (Option.bind (appL 8 v3 ([v7] : List Int)) fun (x11 : List Int) => Option.bind (slL v1 (w64 ((x5.toNat : Int) - 48)) (v1.length : Int)) fun (x12 : Str) => c_1 x12 (w64 (v2 + 1)) x11)
noncomputable def M_ref1_Take_l1 (t0 : Str) : Nat → Str → Int → List Int → Option ((List Int) × Str × Bool)
  | 0, _, _, _ => none
  | n1 + 1, v1, v2, v3 =>
  cond (decide (v2 < (t0.length : Int))) (Option.bind (getI t0 v2) fun (x5 : UInt8) => cond (((decide ((w64 ((x5.toNat : Int) - 48)) < 1)) || (decide ((w64 ((x5.toNat : Int) - 48)) > 4))) || (decide ((v1.length : Int) < (w64 ((x5.toNat : Int) - 48))))) (some ([], [], false)) (M_ref1_Take_l2 (M_ref1_Take_l1 t0 n1) t0 v1 v2 v3 x5 fuel 0 0)) (some (v3, v1, true))
noncomputable def M_ref1_Take (t0 : Str) (t1 : Str) : Option ((List Int) × Str × Bool) :=
  M_ref1_Take_l1 t0 fuel t1 0 ([] : List Int)
theorem ok_ref1_Take (t0 : Str) (t1 : Str) (r : ((List Int) × Str × Bool)) (h : M_ref1_Take t0 t1 = some r) : FFn Try.prog 59 [(S t0), (S t1)] (Value.tuple #[(SL 1 cI r.1), (S r.2.1), (Bo r.2.2)]) := by
  refine FFn.of_body (n := 56) Try.func59 rfl Try.ntmps59 rfl rfl rfl rfl ?_
  show AWp _ _ _ ⟨56, 0, [(0, (S t0)), (1, (S t1))], [], ⟨0, []⟩⟩
  unfold M_ref1_Take at h
  refine aws ?_
  refine awr ?_
  refine ado rfl rfl rfl (eas (eV (v := (Value.slice none 0 0)) rfl)) ?_
  refine ado rfl rfl rfl (eas (eV (v := (S [])) rfl)) ?_
  refine ado rfl rfl rfl (eas (eV (v := (Bo false)) rfl)) ?_
  refine ake [0, 1] 0 0 (st' := ⟨56, 0, [(0, (S t0)), (1, (S t1))], [], ⟨0, []⟩⟩) (by kernel_rfl) (by kernel_rfl) ?_
  show AWp _ _ _ _
  refine aws ?_
  refine awr ?_
  refine ado rfl rfl rfl (eas (eV (v := (Value.slice none 0 0)) rfl)) ?_
  refine ake [0, 1, 7] 0 0 (st' := ⟨56, 0, [(0, (S t0)), (1, (S t1)), (7, (Value.slice none 0 0))], [], ⟨0, []⟩⟩) (by kernel_rfl) (by kernel_rfl) ?_
  show AWp _ _ _ _
  refine aws ?_
  refine aws ?_
  refine awr ?_
  refine ado rfl rfl rfl (eas (eV (v := (I 0)) rfl)) ?_
  refine ake [0, 1, 7, 8] 0 0 (st' := ⟨56, 0, [(0, (S t0)), (1, (S t1)), (7, (Value.slice none 0 0)), (8, (I 0))], [], ⟨0, []⟩⟩) (by kernel_rfl) (by kernel_rfl) ?_
  show AWp _ _ _ _
  refine awp_block ?_
  refine awp_nilGro 7 1 rfl (by decide) ?_
  refine awp_keepE [0, 1, 7, 8] 0 1 (st' := ⟨56, 0, [(0, (S t0)), (1, (S t1)), (7, (GV 0 0)), (8, (I 0))], [], ⟨1, [(0, ⟨1, (([] : List Int).flatMap cI), true⟩)]⟩⟩) (by kernel_rfl) (by kernel_rfl) ?_
  refine awp_loop (fun n s => ∃ (v1 : Str) (v2 : Int) (v3 : List Int), s = ⟨56, 0, [(0, (S t0)), (1, (S v1)), (7, (GV 0 v3.length)), (8, (I v2))], [], ⟨1, [(0, ⟨1, ((v3).flatMap cI), true⟩)]⟩⟩ ∧ M_ref1_Take_l1 t0 n v1 v2 v3 = some r) fuel (Exists.intro t1 (Exists.intro 0 (Exists.intro ([] : List Int) (And.intro rfl h)))) ?_
  rintro n s ⟨v1, v2, v3, rfl, h⟩ -
  cases n with
  | zero => cases h
  | succ n1 =>
    unfold M_ref1_Take_l1 at h
    refine aws ?_
    refine aws ?_
    refine awr ?_
    refine ado rfl rfl rfl (emv (eV (v := (I v2)) rfl)) ?_
    refine ado rfl rfl rfl (emv (eV (v := (S t0)) rfl)) ?_
    refine ado rfl rfl rfl (tx_lenS Try.underlying9 rfl) ?_
    refine ado rfl rfl rfl (ex_bin (vx := (I v2)) (vy := (I (t0.length : Int))) rfl rfl lssI_ok) ?_
    refine ake [0, 1, 7, 8, 15] 0 1 (st' := ⟨56, 0, [(0, (S t0)), (1, (S v1)), (7, (GV 0 v3.length)), (8, (I v2)), (15, (Bo (decide (v2 < (t0.length : Int)))))], [], ⟨1, [(0, ⟨1, ((v3).flatMap cI), true⟩)]⟩⟩) (by kernel_rfl) (by kernel_rfl) ?_
    show AWp _ _ _ _
    rcases Bool.eq_false_or_eq_true (decide (v2 < (t0.length : Int))) with hb4 | hb4
    · rw [condT hb4] at h
      refine awp_condT (boT hb4) ?_
      refine awp_skip ?_
      show AWp _ _ _ _
      refine aws ?_
      refine awp_block ?_
      refine aws ?_
      refine awr ?_
      refine ado rfl rfl rfl (emv (eV (v := (S t0)) rfl)) ?_
      refine ado rfl rfl rfl (emv (eV (v := (I v2)) rfl)) ?_
      obtain ⟨x5, hx5, h⟩ := bindS h
      refine ado rfl rfl rfl (tx_idxS (u := t0) (i := v2) Try.underlying9 rfl rfl hx5) ?_
      refine ado rfl rfl rfl (tx_8_64 Try.underlying5 Try.underlying3 rfl) ?_
      refine ado rfl rfl rfl (ex_bin (vx := (I (x5.toNat : Int))) (vy := (I 48)) rfl rfl subI_ok) ?_
      refine ado rfl rfl rfl (eas (eV (v := (I (w64 ((x5.toNat : Int) - 48)))) rfl)) ?_
      refine ake [0, 1, 7, 8, 9] 0 1 (st' := ⟨56, 0, [(0, (S t0)), (1, (S v1)), (7, (GV 0 v3.length)), (8, (I v2)), (9, (I (w64 ((x5.toNat : Int) - 48))))], [], ⟨1, [(0, ⟨1, ((v3).flatMap cI), true⟩)]⟩⟩) (by kernel_rfl) (by kernel_rfl) ?_
      show AWp _ _ _ _
      refine aws ?_
      refine aws ?_
      refine awr ?_
      refine ado rfl rfl rfl (emv (eV (v := (I (w64 ((x5.toNat : Int) - 48)))) rfl)) ?_
      refine ado rfl rfl rfl (ex_bin (vx := (I (w64 ((x5.toNat : Int) - 48)))) (vy := (I 1)) rfl rfl lssI_ok) ?_
      refine ado rfl rfl rfl (emv (eV (v := (Bo (decide ((w64 ((x5.toNat : Int) - 48)) < 1)))) rfl)) ?_
      refine agu (v := (I (w64 ((x5.toNat : Int) - 48)))) ((decide ((w64 ((x5.toNat : Int) - 48)) < 1)) == false) rfl rfl rfl (fun hc => emv (eV (v := (I (w64 ((x5.toNat : Int) - 48)))) rfl)) ?_
      refine agu (v := (Bo (decide ((w64 ((x5.toNat : Int) - 48)) > 4)))) ((decide ((w64 ((x5.toNat : Int) - 48)) < 1)) == false) rfl rfl rfl (fun hc => ex_bin (vx := (I (w64 ((x5.toNat : Int) - 48)))) (vy := (I 4)) (cdo hc) rfl gtrI_ok) ?_
      refine ado rfl rfl rfl (ex_pick rfl pkOr) ?_
      refine ado rfl rfl rfl (emv (eV (v := (Bo ((decide ((w64 ((x5.toNat : Int) - 48)) < 1)) || (decide ((w64 ((x5.toNat : Int) - 48)) > 4))))) rfl)) ?_
      refine agu (v := (S v1)) (((decide ((w64 ((x5.toNat : Int) - 48)) < 1)) || (decide ((w64 ((x5.toNat : Int) - 48)) > 4))) == false) rfl rfl rfl (fun hc => emv (eV (v := (S v1)) rfl)) ?_
      refine agu (v := (I (v1.length : Int))) (((decide ((w64 ((x5.toNat : Int) - 48)) < 1)) || (decide ((w64 ((x5.toNat : Int) - 48)) > 4))) == false) rfl rfl rfl (fun hc => tx_lenS Try.underlying9 (cdo hc)) ?_
      refine agu (v := (I (w64 ((x5.toNat : Int) - 48)))) (((decide ((w64 ((x5.toNat : Int) - 48)) < 1)) || (decide ((w64 ((x5.toNat : Int) - 48)) > 4))) == false) rfl rfl rfl (fun hc => emv (eV (v := (I (w64 ((x5.toNat : Int) - 48)))) rfl)) ?_
      refine agu (v := (Bo (decide ((v1.length : Int) < (w64 ((x5.toNat : Int) - 48)))))) (((decide ((w64 ((x5.toNat : Int) - 48)) < 1)) || (decide ((w64 ((x5.toNat : Int) - 48)) > 4))) == false) rfl rfl rfl (fun hc => ex_bin (vx := (I (v1.length : Int))) (vy := (I (w64 ((x5.toNat : Int) - 48)))) (cdo hc) (cdo hc) lssI_ok) ?_
      refine ado rfl rfl rfl (ex_pick rfl pkOr) ?_
      refine ake [0, 1, 7, 8, 9, 34] 0 1 (st' := ⟨56, 0, [(0, (S t0)), (1, (S v1)), (7, (GV 0 v3.length)), (8, (I v2)), (9, (I (w64 ((x5.toNat : Int) - 48)))), (34, (Bo (((decide ((w64 ((x5.toNat : Int) - 48)) < 1)) || (decide ((w64 ((x5.toNat : Int) - 48)) > 4))) || (decide ((v1.length : Int) < (w64 ((x5.toNat : Int) - 48)))))))], [], ⟨1, [(0, ⟨1, ((v3).flatMap cI), true⟩)]⟩⟩) (by kernel_rfl) (by kernel_rfl) ?_
      show AWp _ _ _ _
      rcases Bool.eq_false_or_eq_true (((decide ((w64 ((x5.toNat : Int) - 48)) < 1)) || (decide ((w64 ((x5.toNat : Int) - 48)) > 4))) || (decide ((v1.length : Int) < (w64 ((x5.toNat : Int) - 48))))) with hb6 | hb6
      · rw [condT hb6] at h
        refine awp_condT (boT hb6) ?_
        refine aws ?_
        refine awr ?_
        refine ado rfl rfl rfl (eas (eV (v := (Value.slice none 0 0)) rfl)) ?_
        refine ado rfl rfl rfl (eas (eV (v := (S [])) rfl)) ?_
        refine ado rfl rfl rfl (eas (eV (v := (Bo false)) rfl)) ?_
        refine ake [4, 5, 6] 0 0 (st' := ⟨56, 0, [(4, (Value.slice none 0 0)), (5, (S [])), (6, (Bo false))], [], ⟨0, []⟩⟩) (by kernel_rfl) (by kernel_rfl) ?_
        show AWp _ _ _ _
        refine awp_ret ?_
        cases h
        exact aresN rfl (L2.cons (rtmp rfl (eN rfl)) (L2.cons (rtmp rfl (eV rfl)) (L2.cons (rtmp rfl (eV rfl)) L2.nil))) rfl
      · rw [condF hb6] at h
        refine awp_condF (boF hb6) ?_
        refine awp_skip ?_
        show AWp _ _ _ _
        refine aws ?_
        refine awr ?_
        refine ado rfl rfl rfl (eas (eV (v := (I 0)) rfl)) ?_
        refine ake [0, 1, 7, 8, 9, 10] 0 1 (st' := ⟨56, 0, [(0, (S t0)), (1, (S v1)), (7, (GV 0 v3.length)), (8, (I v2)), (9, (I (w64 ((x5.toNat : Int) - 48)))), (10, (I 0))], [], ⟨1, [(0, ⟨1, ((v3).flatMap cI), true⟩)]⟩⟩) (by kernel_rfl) (by kernel_rfl) ?_
        show AWp _ _ _ _
        refine aws ?_
        refine aws ?_
        refine awr ?_
        refine ado rfl rfl rfl (eas (eV (v := (I 0)) rfl)) ?_
        refine ake [0, 1, 7, 8, 9, 10, 11] 0 1 (st' := ⟨56, 0, [(0, (S t0)), (1, (S v1)), (7, (GV 0 v3.length)), (8, (I v2)), (9, (I (w64 ((x5.toNat : Int) - 48)))), (10, (I 0)), (11, (I 0))], [], ⟨1, [(0, ⟨1, ((v3).flatMap cI), true⟩)]⟩⟩) (by kernel_rfl) (by kernel_rfl) ?_
        show AWp _ _ _ _
        refine awp_block ?_
        refine awp_loop (fun n s => ∃ (v7 : Int) (v8 : Int), s = ⟨56, 0, [(0, (S t0)), (1, (S v1)), (7, (GV 0 v3.length)), (8, (I v2)), (9, (I (w64 ((x5.toNat : Int) - 48)))), (10, (I v7)), (11, (I v8))], [], ⟨1, [(0, ⟨1, ((v3).flatMap cI), true⟩)]⟩⟩ ∧ M_ref1_Take_l2 (M_ref1_Take_l1 t0 n1) t0 v1 v2 v3 x5 n v7 v8 = some r) fuel (Exists.intro 0 (Exists.intro 0 (And.intro rfl h))) ?_
        rintro n s ⟨v7, v8, rfl, h⟩ -
        cases n with
        | zero => cases h
        | succ n2 =>
          unfold M_ref1_Take_l2 at h
          refine aws ?_
          refine aws ?_
          refine awr ?_
          refine ado rfl rfl rfl (emv (eV (v := (I v8)) rfl)) ?_
          refine ado rfl rfl rfl (emv (eV (v := (I (w64 ((x5.toNat : Int) - 48)))) rfl)) ?_
          refine ado rfl rfl rfl (ex_bin (vx := (I v8)) (vy := (I (w64 ((x5.toNat : Int) - 48)))) rfl rfl lssI_ok) ?_
          refine ake [0, 1, 7, 8, 9, 10, 11, 37] 0 1 (st' := ⟨56, 0, [(0, (S t0)), (1, (S v1)), (7, (GV 0 v3.length)), (8, (I v2)), (9, (I (w64 ((x5.toNat : Int) - 48)))), (10, (I v7)), (11, (I v8)), (37, (Bo (decide (v8 < (w64 ((x5.toNat : Int) - 48))))))], [], ⟨1, [(0, ⟨1, ((v3).flatMap cI), true⟩)]⟩⟩) (by kernel_rfl) (by kernel_rfl) ?_
          show AWp _ _ _ _
          rcases Bool.eq_false_or_eq_true (decide (v8 < (w64 ((x5.toNat : Int) - 48)))) with hb9 | hb9
          · rw [condT hb9] at h
            refine awp_condT (boT hb9) ?_
            refine awp_skip ?_
            show AWp _ _ _ _
            refine aws ?_
            refine awp_block ?_
            refine awr ?_
            refine ado rfl rfl rfl (emv (eV (v := (I v7)) rfl)) ?_
            refine ado rfl rfl rfl (ex_bin (vx := (I v7)) (vy := (I 256)) rfl rfl mulI_ok) ?_
            refine ado rfl rfl rfl (emv (eV (v := (S v1)) rfl)) ?_
            refine ado rfl rfl rfl (emv (eV (v := (I v8)) rfl)) ?_
            obtain ⟨x10, hx10, h⟩ := bindS h
            refine ado rfl rfl rfl (tx_idxS (u := v1) (i := v8) Try.underlying9 rfl rfl hx10) ?_
            refine ado rfl rfl rfl (tx_8_64 Try.underlying5 Try.underlying3 rfl) ?_
            refine ado rfl rfl rfl (ex_bin (vx := (I (w64 (v7 * 256)))) (vy := (I (x10.toNat : Int))) rfl rfl addI_ok) ?_
            refine ado rfl rfl rfl (eas (eV (v := (I (w64 ((w64 (v7 * 256)) + (x10.toNat : Int))))) rfl)) ?_
            refine ake [0, 1, 7, 8, 9, 10, 11] 0 1 (st' := ⟨56, 0, [(0, (S t0)), (1, (S v1)), (7, (GV 0 v3.length)), (8, (I v2)), (9, (I (w64 ((x5.toNat : Int) - 48)))), (10, (I (w64 ((w64 (v7 * 256)) + (x10.toNat : Int))))), (11, (I v8))], [], ⟨1, [(0, ⟨1, ((v3).flatMap cI), true⟩)]⟩⟩) (by kernel_rfl) (by kernel_rfl) ?_
            show AWp _ _ _ _
            refine awr ?_
            refine ado rfl rfl rfl (emv (eV (v := (I v8)) rfl)) ?_
            refine ado rfl rfl rfl (ex_bin (vx := (I v8)) (vy := (I 1)) rfl rfl addI_ok) ?_
            refine ado rfl rfl rfl (eas (eV (v := (I (w64 (v8 + 1)))) rfl)) ?_
            refine ake [0, 1, 7, 8, 9, 10, 11] 0 1 (st' := ⟨56, 0, [(0, (S t0)), (1, (S v1)), (7, (GV 0 v3.length)), (8, (I v2)), (9, (I (w64 ((x5.toNat : Int) - 48)))), (10, (I (w64 ((w64 (v7 * 256)) + (x10.toNat : Int))))), (11, (I (w64 (v8 + 1))))], [], ⟨1, [(0, ⟨1, ((v3).flatMap cI), true⟩)]⟩⟩) (by kernel_rfl) (by kernel_rfl) ?_
            exact Exists.intro n2 (And.intro (Nat.lt_succ_self _) (Exists.intro (w64 ((w64 (v7 * 256)) + (x10.toNat : Int))) (Exists.intro (w64 (v8 + 1)) (And.intro rfl h))))
          · rw [condF hb9] at h
            refine awp_condF (boF hb9) ?_
            refine awp_exit ?_
            show AWp _ _ _ _
            obtain ⟨x11, hx11, h⟩ := bindS h
            obtain ⟨x12, hx12, h⟩ := bindS h
            refine awp_kn [0, 1, 7, 8] 0 1 (st' := ⟨56, 0, [(0, (S t0)), (1, (S x12)), (7, (GV 0 x11.length)), (8, (I v2))], [], ⟨1, [(0, ⟨1, ((x11).flatMap cI), true⟩)]⟩⟩) (awp_draw (T := [(GV 0 v3.length), (I v7), (SL 1 cI ([v7] : List Int)), (GV 0 x11.length), (S v1), (I (w64 ((x5.toNat : Int) - 48))), (S x12), (GV 0 x11.length), (S x12)]) (LH := [([], ⟨1, [(0, ⟨1, ((v3).flatMap cI), true⟩)]⟩), ([], ⟨1, [(0, ⟨1, ((x11).flatMap cI), true⟩)]⟩)]) (D := [⟨[(7, none)], [], [0], false⟩, ⟨[(10, none)], [], [0], false⟩, ⟨[(48, some 1)], [1], [0], false⟩, ⟨[(47, some 0), (49, some 2)], [0, 1, 2], [0], true⟩, ⟨[(1, none)], [], [0, 1], false⟩, ⟨[(9, none)], [], [0, 1], false⟩, ⟨[(51, some 4), (52, some 5)], [4, 5], [0, 1], false⟩, ⟨[(50, some 3)], [0, 1, 2, 3], [1], false⟩, ⟨[(53, some 6)], [0, 1, 2, 3, 4, 5, 6, 7], [1], false⟩]) (S := [3]) (plan := [0, 1, 2, 3, 4, 5, 6, 7, 8]) mo (by kernel_rfl) rfl rfl rfl (dcons (dst1 (Tm := [(7, (GV 0 v3.length))]) (L := []) (H := ⟨1, [(0, ⟨1, ((v3).flatMap cI), true⟩)]⟩) rfl rfl rfl rfl rfl (asd rfl (emv (eV (v := (GV 0 v3.length)) rfl)))) (dcons (dst1 (Tm := [(10, (I v7))]) (L := []) (H := ⟨1, [(0, ⟨1, ((v3).flatMap cI), true⟩)]⟩) rfl rfl rfl rfl rfl (asd rfl (emv (eV (v := (I v7)) rfl)))) (dcons (dst1 (Tm := [(48, (I v7))]) (L := []) (H := ⟨1, [(0, ⟨1, ((v3).flatMap cI), true⟩)]⟩) rfl rfl rfl rfl rfl (asd rfl (ex_buildSliceD (qs := [(0, (I v7))]) (cells := (([v7] : List Int).flatMap cI)) Try.underlying59 s_3 (by decide) (evp rfl evp_nil) rfl (by kernel_rfl) (by kernel_rfl) (by kernel_rfl)))) (dcons (dst1 (Tm := [(47, (GV 0 v3.length)), (49, (SL 1 cI ([v7] : List Int)))]) (L := []) (H := ⟨1, [(0, ⟨1, ((v3).flatMap cI), true⟩)]⟩) rfl rfl rfl rfl rfl (asd rfl (tx_appG (c := cI) (xs := v3) (H' := ⟨1, [(0, ⟨1, ((x11).flatMap cI), true⟩)]⟩) ceI e_3 rfl rfl rfl (tsrcD (ys := ([v7] : List Int)) ceI Try.underlying59 s_3 Try.underlying59 rfl) hx11 rfl))) (dcons (dstepN (by intro k hk; simp only [List.mem_cons, List.not_mem_nil, or_false] at hk; rcases hk with rfl | rfl <;> exact ⟨[(1, (S v1))], _, _, _, _, _, rfl, rfl, rfl, rfl, asd rfl (emv (eV (v := (S v1)) rfl))⟩)) (dcons (dstepN (by intro k hk; simp only [List.mem_cons, List.not_mem_nil, or_false] at hk; rcases hk with rfl | rfl <;> exact ⟨[(9, (I (w64 ((x5.toNat : Int) - 48))))], _, _, _, _, _, rfl, rfl, rfl, rfl, asd rfl (emv (eV (v := (I (w64 ((x5.toNat : Int) - 48)))) rfl))⟩)) (dcons (dstepN (by intro k hk; simp only [List.mem_cons, List.not_mem_nil, or_false] at hk; rcases hk with rfl | rfl <;> exact ⟨[(51, (S v1)), (52, (I (w64 ((x5.toNat : Int) - 48))))], _, _, _, _, _, rfl, rfl, rfl, rfl, asd rfl (tx_slS (u := v1) Try.underlying9 rfl (loX (l := (w64 ((x5.toNat : Int) - 48))) rfl) hiN hx12)⟩)) (dcons (dst1 (Tm := [(50, (GV 0 x11.length))]) (L := []) (H := ⟨1, [(0, ⟨1, ((x11).flatMap cI), true⟩)]⟩) rfl rfl rfl rfl rfl (asd rfl (eas (eV (v := (GV 0 x11.length)) rfl)))) (dcons (dst1 (Tm := [(53, (S x12))]) (L := []) (H := ⟨1, [(0, ⟨1, ((x11).flatMap cI), true⟩)]⟩) rfl rfl rfl rfl rfl (asd rfl (eas (eV (v := (S x12)) rfl)))) dnil))))))))) ⟨rfl, rfl⟩) (by kernel_rfl) (by kernel_rfl) ?_
            show AWp _ _ _ _
            refine awr ?_
            refine ado rfl rfl rfl (emv (eV (v := (I v2)) rfl)) ?_
            refine ado rfl rfl rfl (ex_bin (vx := (I v2)) (vy := (I 1)) rfl rfl addI_ok) ?_
            refine ado rfl rfl rfl (eas (eV (v := (I (w64 (v2 + 1)))) rfl)) ?_
            refine ake [0, 1, 7, 8] 0 1 (st' := ⟨56, 0, [(0, (S t0)), (1, (S x12)), (7, (GV 0 x11.length)), (8, (I (w64 (v2 + 1))))], [], ⟨1, [(0, ⟨1, ((x11).flatMap cI), true⟩)]⟩⟩) (by kernel_rfl) (by kernel_rfl) ?_
            exact Exists.intro n1 (And.intro (Nat.lt_succ_self _) (Exists.intro x12 (Exists.intro (w64 (v2 + 1)) (Exists.intro x11 (And.intro rfl h)))))
    · rw [condF hb4] at h
      refine awp_condF (boF hb4) ?_
      refine awp_exit ?_
      show AWp _ _ _ _
      refine aws ?_
      refine awr ?_
      refine ado rfl rfl rfl (emv (eV (v := (GV 0 v3.length)) rfl)) ?_
      refine ado rfl rfl rfl (emv (eV (v := (S v1)) rfl)) ?_
      refine ado rfl rfl rfl (eas (eV (v := (GV 0 v3.length)) rfl)) ?_
      refine ado rfl rfl rfl (eas (eV (v := (S v1)) rfl)) ?_
      refine ado rfl rfl rfl (eas (eV (v := (Bo true)) rfl)) ?_
      refine ake [4, 5, 6] 0 1 (st' := ⟨56, 0, [(4, (GV 0 v3.length)), (5, (S v1)), (6, (Bo true))], [], ⟨1, [(0, ⟨1, ((v3).flatMap cI), true⟩)]⟩⟩) (by kernel_rfl) (by kernel_rfl) ?_
      show AWp _ _ _ _
      refine awp_freeze 0 (bk := ⟨1, ((v3).flatMap cI), true⟩) (T' := [(4, (SL 1 cI v3)), (5, (S v1)), (6, (Bo true))]) (L' := []) rfl (fzG ceI rfl rfl (FzT.keep (v := (S v1)) rfl (FzT.keep (v := (Bo true)) rfl FzT.nil))) (FzL.refl _) ?_
      show AWp _ _ _ ⟨56, 0, [(4, (SL 1 cI v3)), (5, (S v1)), (6, (Bo true))], [], ⟨1, []⟩⟩
      refine awp_ret ?_
      cases h
      exact aresN rfl (L2.cons (rtmp rfl (eV rfl)) (L2.cons (rtmp rfl (eV rfl)) (L2.cons (rtmp rfl (eV rfl)) L2.nil))) rfl

end Go.Proofs
