/- Pure models of functions of the program, and that its code does what they say: palimpref1 Flush, palimpref1 Crash, palimplaw5 BlockReads. Written by a program. -/
import Derived.Test.YtjpgcfniahaelaaR51
import Derived.Test.YtjpgcfniahaelaaR510
import Derived.Test.YtjpgcfniahaelaaR52
import Derived.Test.YtjpgcfniahaelaaR53
import Derived.Test.YtjpgcfniahaelaaR54
import Derived.Test.YtjpgcfniahaelaaR55
import Derived.Test.YtjpgcfniahaelaaR56
import Derived.Test.YtjpgcfniahaelaaR57
import Derived.Test.YtjpgcfniahaelaaR59
import Derived.Test.YtjpgcfniahaelaaR5B
set_option maxRecDepth 20000
set_option maxHeartbeats 4000000
namespace Go.Proofs
open Go Go.Fhl
set_option linter.unusedVariables false
set_option linter.unusedSimpArgs false
noncomputable def M_ref1_Flush_l1 (t0 : G_api_Dev) : Nat → Int → List Int → Option (G_api_Dev × Bool)
  | 0, _, _ => none
  | n1 + 1, v4, v5 =>
  cond (decide (v4 < ((v5.length : Nat) : Int))) (Option.bind (getI v5 v4) fun (x7 : Int) => Option.bind (setI v5 v4 3) fun (x8 : List Int) => (M_ref1_Flush_l1 t0 n1) (w64 (v4 + 1)) x8) (Option.bind (M_ref1_lasting t0 v5) fun (x9 : (List Str)) => some ((G_api_Dev.mk x9 [] t0.Lies t0.Arm t0.Down), true))
noncomputable def M_ref1_Flush (t0 : G_api_Dev) : Option (G_api_Dev × Bool) :=
  cond t0.Down (some (t0, false)) (cond (decide (t0.Lies > 0)) (some ((G_api_Dev.mk t0.Last t0.Wait (w64 (t0.Lies - 1)) t0.Arm t0.Down), true)) (Option.bind (makeL 8 (t0.Wait.length : Int) 0) fun (x3 : List Int) => M_ref1_Flush_l1 t0 fuel 0 x3))
theorem ok_ref1_Flush (t0 : G_api_Dev) (r : (G_api_Dev × Bool)) (h : M_ref1_Flush t0 = some r) : FFn Try.prog 23 [(Value.agg (c_api_Dev t0).toArray)] (Value.tuple #[(Value.agg (c_api_Dev r.1).toArray), (Bo r.2)]) := by
  refine FFn.of_body (n := 36) Try.func23 rfl Try.ntmps23 rfl rfl rfl rfl ?_
  show AWp _ _ _ ⟨36, 0, [(0, (Value.agg (c_api_Dev t0).toArray))], [], ⟨0, []⟩⟩
  unfold M_ref1_Flush at h
  refine awp_seq ?_
  refine awp_region ?_
  refine arun_do rfl rfl rfl (ex_box (vx := (Value.agg (c_api_Dev t0).toArray)) (cs := (c_api_Dev t0)) (k := 0) (L' := [(c_api_Dev t0)]) (eV (v := (Value.agg (c_api_Dev t0).toArray)) rfl) rfl rfl rfl) ?_
  refine arun_do rfl rfl rfl (ex_allocW (k := 1) (zs := (c_api_Dev (G_api_Dev.mk [] [] 0 0 false))) (L' := [(c_api_Dev t0), (c_api_Dev (G_api_Dev.mk [] [] 0 0 false))]) z_40 rfl (by repeat (first | exact trivial | refine ⟨.inl rfl, ?_⟩ | refine ⟨.inr ⟨rfl, _, rfl⟩, ?_⟩)) rfl rfl) ?_
  refine arun_do rfl rfl rfl (ex_assign (eV (v := (Bo false)) rfl)) ?_
  refine arun_keepE [1, 2] 2 0 (st' := ⟨36, 0, [(1, (LP 0 0)), (2, (LP 1 0))], [(c_api_Dev t0), (c_api_Dev (G_api_Dev.mk [] [] 0 0 false))], ⟨0, []⟩⟩) (by kernel_rfl) (by kernel_rfl) ?_
  show AWp _ _ _ _
  refine awp_seq ?_
  refine awp_seq ?_
  refine awp_region ?_
  refine arun_do rfl rfl rfl (ex_fieldAddr (v := (LP 0 4)) Try.underlying40 rfl s_4 (by decide) rfl rfl) ?_
  refine arun_do rfl rfl rfl (tx_ldL1 (v := (Bo t0.Down)) Try.underlying4 rfl rfl rfl rfl) ?_
  refine arun_keepE [1, 2, 7] 2 0 (st' := ⟨36, 0, [(1, (LP 0 0)), (2, (LP 1 0)), (7, (Bo t0.Down))], [(c_api_Dev t0), (c_api_Dev (G_api_Dev.mk [] [] 0 0 false))], ⟨0, []⟩⟩) (by kernel_rfl) (by kernel_rfl) ?_
  show AWp _ _ _ _
  rcases Bool.eq_false_or_eq_true t0.Down with hb1 | hb1
  · rw [condT hb1] at h
    refine awp_condT (boT hb1) ?_
    refine awp_seq ?_
    refine awp_region ?_
    refine arun_do rfl rfl rfl (tx_ldLA (vs := (c_api_Dev t0)) Try.underlying40 rfl s_40 (by decide) rfl rfl rfl rfl) ?_
    refine arun_do0 rfl rfl (ex_storeL (vy := (Value.agg (c_api_Dev t0).toArray)) (cs := (c_api_Dev (G_api_Dev.mk [] [] 0 0 false))) (vs := (c_api_Dev t0)) (L' := [(c_api_Dev t0), (c_api_Dev t0)]) rfl (eV (v := (Value.agg (c_api_Dev t0).toArray)) rfl) rfl s_40 rfl (Nat.le_of_ble_eq_true rfl) (by kernel_rfl)) ?_
    refine arun_do rfl rfl rfl (ex_assign (eV (v := (Bo false)) rfl)) ?_
    refine arun_keepE [2, 3] 2 0 (st' := ⟨36, 0, [(2, (LP 1 0)), (3, (Bo false))], [(c_api_Dev t0), (c_api_Dev t0)], ⟨0, []⟩⟩) (by kernel_rfl) (by kernel_rfl) ?_
    show AWp _ _ _ _
    refine awp_ret ?_
    cases h
    exact aresN rfl (L2.cons (rcellL rfl rfl rfl (partA Try.underlying40 rfl s_40 (by decide) (Nat.le_of_ble_eq_true rfl) rfl)) (L2.cons (rtmp rfl (eV rfl)) L2.nil)) rfl
  · rw [condF hb1] at h
    refine awp_condF (boF hb1) ?_
    refine awp_skip ?_
    show AWp _ _ _ _
    refine awp_seq ?_
    refine awp_seq ?_
    refine awp_region ?_
    refine arun_do rfl rfl rfl (ex_fieldAddr (v := (LP 0 2)) Try.underlying40 rfl s_3 (by decide) rfl rfl) ?_
    refine arun_do rfl rfl rfl (tx_ldL1 (v := (I t0.Lies)) Try.underlying3 rfl rfl rfl rfl) ?_
    refine arun_do rfl rfl rfl (ex_bin (vx := (I t0.Lies)) (vy := (I 0)) rfl rfl gtrI_ok) ?_
    refine arun_keepE [1, 2, 11] 2 0 (st' := ⟨36, 0, [(1, (LP 0 0)), (2, (LP 1 0)), (11, (Bo (decide (t0.Lies > 0))))], [(c_api_Dev t0), (c_api_Dev (G_api_Dev.mk [] [] 0 0 false))], ⟨0, []⟩⟩) (by kernel_rfl) (by kernel_rfl) ?_
    show AWp _ _ _ _
    rcases Bool.eq_false_or_eq_true (decide (t0.Lies > 0)) with hb2 | hb2
    · rw [condT hb2] at h
      refine awp_condT (boT hb2) ?_
      refine awp_seq ?_
      refine awp_region ?_
      refine arun_do rfl rfl rfl (ex_fieldAddr (v := (LP 0 2)) Try.underlying40 rfl s_3 (by decide) rfl rfl) ?_
      refine arun_do rfl rfl rfl (tx_ldL1 (v := (I t0.Lies)) Try.underlying3 rfl rfl rfl rfl) ?_
      refine arun_do rfl rfl rfl (ex_bin (vx := (I t0.Lies)) (vy := (I 1)) rfl rfl subI_ok) ?_
      refine arun_do rfl rfl rfl (ex_fieldAddr (v := (LP 0 2)) Try.underlying40 rfl s_3 (by decide) rfl rfl) ?_
      refine arun_do0 rfl rfl (ex_storeL (vy := (I (w64 (t0.Lies - 1)))) (cs := (c_api_Dev t0)) (vs := [(I (w64 (t0.Lies - 1)))]) (L' := [(c_api_Dev (G_api_Dev.mk t0.Last t0.Wait (w64 (t0.Lies - 1)) t0.Arm t0.Down)), (c_api_Dev (G_api_Dev.mk [] [] 0 0 false))]) rfl (eV (v := (I (w64 (t0.Lies - 1)))) rfl) rfl s_3 rfl (Nat.le_of_ble_eq_true rfl) (by kernel_rfl)) ?_
      refine arun_keepE [1, 2] 2 0 (st' := ⟨36, 0, [(1, (LP 0 0)), (2, (LP 1 0))], [(c_api_Dev (G_api_Dev.mk t0.Last t0.Wait (w64 (t0.Lies - 1)) t0.Arm t0.Down)), (c_api_Dev (G_api_Dev.mk [] [] 0 0 false))], ⟨0, []⟩⟩) (by kernel_rfl) (by kernel_rfl) ?_
      show AWp _ _ _ _
      refine awp_seq ?_
      refine awp_region ?_
      refine arun_do rfl rfl rfl (tx_ldLA (vs := (c_api_Dev (G_api_Dev.mk t0.Last t0.Wait (w64 (t0.Lies - 1)) t0.Arm t0.Down))) Try.underlying40 rfl s_40 (by decide) rfl rfl rfl rfl) ?_
      refine arun_do0 rfl rfl (ex_storeL (vy := (Value.agg (c_api_Dev (G_api_Dev.mk t0.Last t0.Wait (w64 (t0.Lies - 1)) t0.Arm t0.Down)).toArray)) (cs := (c_api_Dev (G_api_Dev.mk [] [] 0 0 false))) (vs := (c_api_Dev (G_api_Dev.mk t0.Last t0.Wait (w64 (t0.Lies - 1)) t0.Arm t0.Down))) (L' := [(c_api_Dev (G_api_Dev.mk t0.Last t0.Wait (w64 (t0.Lies - 1)) t0.Arm t0.Down)), (c_api_Dev (G_api_Dev.mk t0.Last t0.Wait (w64 (t0.Lies - 1)) t0.Arm t0.Down))]) rfl (eV (v := (Value.agg (c_api_Dev (G_api_Dev.mk t0.Last t0.Wait (w64 (t0.Lies - 1)) t0.Arm t0.Down)).toArray)) rfl) rfl s_40 rfl (Nat.le_of_ble_eq_true rfl) (by kernel_rfl)) ?_
      refine arun_do rfl rfl rfl (ex_assign (eV (v := (Bo true)) rfl)) ?_
      refine arun_keepE [2, 3] 2 0 (st' := ⟨36, 0, [(2, (LP 1 0)), (3, (Bo true))], [(c_api_Dev (G_api_Dev.mk t0.Last t0.Wait (w64 (t0.Lies - 1)) t0.Arm t0.Down)), (c_api_Dev (G_api_Dev.mk t0.Last t0.Wait (w64 (t0.Lies - 1)) t0.Arm t0.Down))], ⟨0, []⟩⟩) (by kernel_rfl) (by kernel_rfl) ?_
      show AWp _ _ _ _
      refine awp_ret ?_
      cases h
      exact aresN rfl (L2.cons (rcellL rfl rfl rfl (partA Try.underlying40 rfl s_40 (by decide) (Nat.le_of_ble_eq_true rfl) rfl)) (L2.cons (rtmp rfl (eV rfl)) L2.nil)) rfl
    · rw [condF hb2] at h
      refine awp_condF (boF hb2) ?_
      refine awp_skip ?_
      show AWp _ _ _ _
      refine awp_seq ?_
      refine awp_region ?_
      refine arun_do rfl rfl rfl (ex_fieldAddr (v := (LP 0 1)) Try.underlying40 rfl s_38 (by decide) rfl rfl) ?_
      refine arun_do rfl rfl rfl (tx_ldL1 (v := (SL 2 c_api_Put t0.Wait)) Try.underlying38 rfl rfl rfl rfl) ?_
      refine arun_do rfl rfl rfl (tx_lenD (xs := t0.Wait) ce_api_Put Try.underlying38 rfl) ?_
      obtain ⟨x3, hx3, h⟩ := bindS h
      refine arun_do rfl rfl rfl (tx_make (c := cI) (e := 0) (k := 0) (H' := ⟨1, [(0, ⟨1, ((x3).flatMap cI), false⟩)]⟩) ceI Try.underlying48 s_3 b_3 z_3 rfl rfl (by decide) rfl rfl hx3 rfl rfl) ?_
      refine arun_do rfl rfl rfl (ex_assign (eV (v := (FV 0 x3.length)) rfl)) ?_
      refine arun_keepE [1, 2, 4] 2 1 (st' := ⟨36, 0, [(1, (LP 0 0)), (2, (LP 1 0)), (4, (FV 0 x3.length))], [(c_api_Dev t0), (c_api_Dev (G_api_Dev.mk [] [] 0 0 false))], ⟨1, [(0, ⟨1, ((x3).flatMap cI), false⟩)]⟩⟩) (by kernel_rfl) (by kernel_rfl) ?_
      show AWp _ _ _ _
      refine awp_seq ?_
      refine awp_seq ?_
      refine awp_region ?_
      refine arun_do rfl rfl rfl (ex_assign (eV (v := (I 0)) rfl)) ?_
      refine arun_keepE [1, 2, 4, 5] 2 1 (st' := ⟨36, 0, [(1, (LP 0 0)), (2, (LP 1 0)), (4, (FV 0 x3.length)), (5, (I 0))], [(c_api_Dev t0), (c_api_Dev (G_api_Dev.mk [] [] 0 0 false))], ⟨1, [(0, ⟨1, ((x3).flatMap cI), false⟩)]⟩⟩) (by kernel_rfl) (by kernel_rfl) ?_
      show AWp _ _ _ _
      refine awp_block ?_
      refine awp_loop (fun n s => ∃ (v4 : Int) (v5 : List Int), s = ⟨36, 0, [(1, (LP 0 0)), (2, (LP 1 0)), (4, (FV 0 v5.length)), (5, (I v4))], [(c_api_Dev t0), (c_api_Dev (G_api_Dev.mk [] [] 0 0 false))], ⟨1, [(0, ⟨1, ((v5).flatMap cI), false⟩)]⟩⟩ ∧ M_ref1_Flush_l1 t0 n v4 v5 = some r) fuel (Exists.intro 0 (Exists.intro x3 (And.intro rfl h))) ?_
      rintro n s ⟨v4, v5, rfl, h⟩ -
      cases n with
      | zero => cases h
      | succ n1 =>
        unfold M_ref1_Flush_l1 at h
        refine awp_seq ?_
        refine awp_seq ?_
        refine awp_region ?_
        refine arun_do rfl rfl rfl (ex_move (eV (v := (I v4)) rfl)) ?_
        refine arun_do rfl rfl rfl (ex_move (eV (v := (FV 0 v5.length)) rfl)) ?_
        refine arun_do rfl rfl rfl (ex_lenN (n := v5.length) Try.underlying48 rfl) ?_
        refine arun_do rfl rfl rfl (ex_bin (vx := (I v4)) (vy := (I ((v5.length : Nat) : Int))) rfl rfl lssI_ok) ?_
        refine arun_keepE [1, 2, 4, 5, 24] 2 1 (st' := ⟨36, 0, [(1, (LP 0 0)), (2, (LP 1 0)), (4, (FV 0 v5.length)), (5, (I v4)), (24, (Bo (decide (v4 < ((v5.length : Nat) : Int)))))], [(c_api_Dev t0), (c_api_Dev (G_api_Dev.mk [] [] 0 0 false))], ⟨1, [(0, ⟨1, ((v5).flatMap cI), false⟩)]⟩⟩) (by kernel_rfl) (by kernel_rfl) ?_
        show AWp _ _ _ _
        rcases Bool.eq_false_or_eq_true (decide (v4 < ((v5.length : Nat) : Int))) with hb6 | hb6
        · rw [condT hb6] at h
          refine awp_condT (boT hb6) ?_
          refine awp_skip ?_
          show AWp _ _ _ _
          refine awp_seq ?_
          refine awp_block ?_
          refine awp_region ?_
          refine arun_do rfl rfl rfl (ex_move (eV (v := (FV 0 v5.length)) rfl)) ?_
          refine arun_do rfl rfl rfl (ex_move (eV (v := (I v4)) rfl)) ?_
          obtain ⟨x7, hx7, h⟩ := bindS h
          refine arun_do rfl rfl rfl (tx_idxF (c := cI) (xs := v5) (i := v4) ceI Try.underlying48 s_3 rfl rfl rfl hx7) ?_
          obtain ⟨x8, hx8, h⟩ := bindS h
          refine arun_do0 rfl rfl (tx_stF (c := cI) (xs := v5) (e := 3) (H' := ⟨1, [(0, ⟨1, ((x8).flatMap cI), false⟩)]⟩) ceI s_3 rfl (eV (v := (I 3)) rfl) rfl rfl hx8 rfl) ?_
          refine arun_fewer (T' := [(1, (LP 0 0)), (2, (LP 1 0)), (4, (FV 0 x8.length)), (5, (I v4)), (24, (Bo (decide (v4 < ((v5.length : Nat) : Int))))), (27, (FV 0 x8.length)), (28, (I v4))]) (ReT.keep (v := (LP 0 0)) rfl (ReT.keep (v := (LP 1 0)) rfl (ReT.fv rfl (setI_len hx8) (ReT.keep (v := (I v4)) rfl (ReT.keep (v := (Bo (decide (v4 < ((v5.length : Nat) : Int))))) rfl (ReT.fv rfl (setI_len hx8) (ReT.keep (v := (I v4)) rfl ReT.nil))))))) ?_
          refine arun_keepE [1, 2, 4, 5] 2 1 (st' := ⟨36, 0, [(1, (LP 0 0)), (2, (LP 1 0)), (4, (FV 0 x8.length)), (5, (I v4))], [(c_api_Dev t0), (c_api_Dev (G_api_Dev.mk [] [] 0 0 false))], ⟨1, [(0, ⟨1, ((x8).flatMap cI), false⟩)]⟩⟩) (by kernel_rfl) (by kernel_rfl) ?_
          show AWp _ _ _ _
          refine awp_region ?_
          refine arun_do rfl rfl rfl (ex_move (eV (v := (I v4)) rfl)) ?_
          refine arun_do rfl rfl rfl (ex_bin (vx := (I v4)) (vy := (I 1)) rfl rfl addI_ok) ?_
          refine arun_do rfl rfl rfl (ex_assign (eV (v := (I (w64 (v4 + 1)))) rfl)) ?_
          refine arun_keepE [1, 2, 4, 5] 2 1 (st' := ⟨36, 0, [(1, (LP 0 0)), (2, (LP 1 0)), (4, (FV 0 x8.length)), (5, (I (w64 (v4 + 1))))], [(c_api_Dev t0), (c_api_Dev (G_api_Dev.mk [] [] 0 0 false))], ⟨1, [(0, ⟨1, ((x8).flatMap cI), false⟩)]⟩⟩) (by kernel_rfl) (by kernel_rfl) ?_
          exact Exists.intro n1 (And.intro (Nat.lt_succ_self _) (Exists.intro (w64 (v4 + 1)) (Exists.intro x8 (And.intro rfl h))))
        · rw [condF hb6] at h
          refine awp_condF (boF hb6) ?_
          refine awp_exit ?_
          show AWp _ _ _ _
          refine awp_seq ?_
          refine awp_region ?_
          refine arun_do rfl rfl rfl (tx_ldLA (vs := (c_api_Dev t0)) Try.underlying40 rfl s_40 (by decide) rfl rfl rfl rfl) ?_
          refine arun_do rfl rfl rfl (ex_move (eV (v := (FV 0 v5.length)) rfl)) ?_
          refine arun_freeze 0 (bk := ⟨1, ((v5).flatMap cI), false⟩) (T' := [(1, (LP 0 0)), (2, (LP 1 0)), (4, (SL 1 cI v5)), (5, (I v4)), (24, (Bo (decide (v4 < ((v5.length : Nat) : Int))))), (30, (Value.agg (c_api_Dev t0).toArray)), (31, (SL 1 cI v5))]) (L' := [(c_api_Dev t0), (c_api_Dev (G_api_Dev.mk [] [] 0 0 false))]) rfl (FzT.keep (v := (LP 0 0)) rfl (FzT.keep (v := (LP 1 0)) rfl (fzF ceI rfl rfl (FzT.keep (v := (I v4)) rfl (FzT.keep (v := (Bo (decide (v4 < ((v5.length : Nat) : Int))))) rfl (FzT.keep (v := (Value.agg (c_api_Dev t0).toArray)) rfl (fzF ceI rfl rfl FzT.nil))))))) (FzL.refl _) ?_
          show ARun _ _ _ _ _ ⟨36, 0, [(1, (LP 0 0)), (2, (LP 1 0)), (4, (SL 1 cI v5)), (5, (I v4)), (24, (Bo (decide (v4 < ((v5.length : Nat) : Int))))), (30, (Value.agg (c_api_Dev t0).toArray)), (31, (SL 1 cI v5))], [(c_api_Dev t0), (c_api_Dev (G_api_Dev.mk [] [] 0 0 false))], ⟨1, []⟩⟩
          obtain ⟨x9, hx9, h⟩ := bindS h
          refine arun_do rfl rfl rfl (ex_call0 (vs := [(Value.agg (c_api_Dev t0).toArray), (SL 1 cI v5)]) (v := (SL 1 cS x9)) rfl en_37 (cargs (evs rfl (evs rfl evs_nil))) rfl (ok_ref1_lasting t0 v5 x9 hx9) rfl) ?_
          refine arun_do rfl rfl rfl (ex_fieldAddr (v := (LP 0 0)) Try.underlying40 rfl s_35 (by decide) rfl rfl) ?_
          refine arun_do0 rfl rfl (ex_storeL (vy := (SL 1 cS x9)) (cs := (c_api_Dev t0)) (vs := [(SL 1 cS x9)]) (L' := [(c_api_Dev (G_api_Dev.mk x9 t0.Wait t0.Lies t0.Arm t0.Down)), (c_api_Dev (G_api_Dev.mk [] [] 0 0 false))]) rfl (eV (v := (SL 1 cS x9)) rfl) rfl s_35 rfl (Nat.le_of_ble_eq_true rfl) (by kernel_rfl)) ?_
          refine arun_do rfl rfl rfl (ex_fieldAddr (v := (LP 0 1)) Try.underlying40 rfl s_38 (by decide) rfl rfl) ?_
          refine arun_do0 rfl rfl (ex_storeL (vy := (SL 2 c_api_Put [])) (cs := (c_api_Dev (G_api_Dev.mk x9 t0.Wait t0.Lies t0.Arm t0.Down))) (vs := [(SL 2 c_api_Put [])]) (L' := [(c_api_Dev (G_api_Dev.mk x9 [] t0.Lies t0.Arm t0.Down)), (c_api_Dev (G_api_Dev.mk [] [] 0 0 false))]) rfl (eN (s := 1) rfl) rfl s_38 rfl (Nat.le_of_ble_eq_true rfl) (by kernel_rfl)) ?_
          refine arun_keepE [1, 2] 2 0 (st' := ⟨36, 0, [(1, (LP 0 0)), (2, (LP 1 0))], [(c_api_Dev (G_api_Dev.mk x9 [] t0.Lies t0.Arm t0.Down)), (c_api_Dev (G_api_Dev.mk [] [] 0 0 false))], ⟨0, []⟩⟩) (by kernel_rfl) (by kernel_rfl) ?_
          show AWp _ _ _ _
          refine awp_seq ?_
          refine awp_region ?_
          refine arun_do rfl rfl rfl (tx_ldLA (vs := (c_api_Dev (G_api_Dev.mk x9 [] t0.Lies t0.Arm t0.Down))) Try.underlying40 rfl s_40 (by decide) rfl rfl rfl rfl) ?_
          refine arun_do0 rfl rfl (ex_storeL (vy := (Value.agg (c_api_Dev (G_api_Dev.mk x9 [] t0.Lies t0.Arm t0.Down)).toArray)) (cs := (c_api_Dev (G_api_Dev.mk [] [] 0 0 false))) (vs := (c_api_Dev (G_api_Dev.mk x9 [] t0.Lies t0.Arm t0.Down))) (L' := [(c_api_Dev (G_api_Dev.mk x9 [] t0.Lies t0.Arm t0.Down)), (c_api_Dev (G_api_Dev.mk x9 [] t0.Lies t0.Arm t0.Down))]) rfl (eV (v := (Value.agg (c_api_Dev (G_api_Dev.mk x9 [] t0.Lies t0.Arm t0.Down)).toArray)) rfl) rfl s_40 rfl (Nat.le_of_ble_eq_true rfl) (by kernel_rfl)) ?_
          refine arun_do rfl rfl rfl (ex_assign (eV (v := (Bo true)) rfl)) ?_
          refine arun_keepE [2, 3] 2 0 (st' := ⟨36, 0, [(2, (LP 1 0)), (3, (Bo true))], [(c_api_Dev (G_api_Dev.mk x9 [] t0.Lies t0.Arm t0.Down)), (c_api_Dev (G_api_Dev.mk x9 [] t0.Lies t0.Arm t0.Down))], ⟨0, []⟩⟩) (by kernel_rfl) (by kernel_rfl) ?_
          show AWp _ _ _ _
          refine awp_ret ?_
          cases h
          exact aresN rfl (L2.cons (rcellL rfl rfl rfl (partA Try.underlying40 rfl s_40 (by decide) (Nat.le_of_ble_eq_true rfl) rfl)) (L2.cons (rtmp rfl (eV rfl)) L2.nil)) rfl

noncomputable def M_ref1_Crash (t0 : G_api_Dev) (t1 : (List Int)) : Option G_api_Dev :=
  Option.bind (M_ref1_lasting t0 t1) fun (x1 : (List Str)) => some (G_api_Dev.mk x1 [] 0 0 false)
theorem ok_ref1_Crash (t0 : G_api_Dev) (t1 : (List Int)) (r : G_api_Dev) (h : M_ref1_Crash t0 t1 = some r) : FFn Try.prog 24 [(Value.agg (c_api_Dev t0).toArray), (SL 1 cI t1)] (Value.agg (c_api_Dev r).toArray) := by
  refine FFn.of_body (n := 9) Try.func24 rfl Try.ntmps24 rfl rfl rfl rfl ?_
  show AWp _ _ _ ⟨9, 0, [(0, (Value.agg (c_api_Dev t0).toArray)), (1, (SL 1 cI t1))], [], ⟨0, []⟩⟩
  unfold M_ref1_Crash at h
  refine awp_seq ?_
  refine awp_region ?_
  refine arun_do rfl rfl rfl (ex_box (vx := (Value.agg (c_api_Dev t0).toArray)) (cs := (c_api_Dev t0)) (k := 0) (L' := [(c_api_Dev t0)]) (eV (v := (Value.agg (c_api_Dev t0).toArray)) rfl) rfl rfl rfl) ?_
  refine arun_do rfl rfl rfl (ex_allocW (k := 1) (zs := (c_api_Dev (G_api_Dev.mk [] [] 0 0 false))) (L' := [(c_api_Dev t0), (c_api_Dev (G_api_Dev.mk [] [] 0 0 false))]) z_40 rfl (by repeat (first | exact trivial | refine ⟨.inl rfl, ?_⟩ | refine ⟨.inr ⟨rfl, _, rfl⟩, ?_⟩)) rfl rfl) ?_
  refine arun_keepE [1, 2, 4] 2 0 (st' := ⟨9, 0, [(1, (SL 1 cI t1)), (2, (LP 0 0)), (4, (LP 1 0))], [(c_api_Dev t0), (c_api_Dev (G_api_Dev.mk [] [] 0 0 false))], ⟨0, []⟩⟩) (by kernel_rfl) (by kernel_rfl) ?_
  show AWp _ _ _ _
  refine awp_seq ?_
  refine awp_region ?_
  refine arun_do rfl rfl rfl (tx_ldLA (vs := (c_api_Dev t0)) Try.underlying40 rfl s_40 (by decide) rfl rfl rfl rfl) ?_
  refine arun_do rfl rfl rfl (ex_move (eV (v := (SL 1 cI t1)) rfl)) ?_
  obtain ⟨x1, hx1, h⟩ := bindS h
  refine arun_do rfl rfl rfl (ex_call0 (vs := [(Value.agg (c_api_Dev t0).toArray), (SL 1 cI t1)]) (v := (SL 1 cS x1)) rfl en_37 (cargs (evs rfl (evs rfl evs_nil))) rfl (ok_ref1_lasting t0 t1 x1 hx1) rfl) ?_
  refine arun_do rfl rfl rfl (ex_buildW (vs := ([(SL 1 cS x1)] ++ ([(Value.slice none 0 0)] ++ ([(I 0)] ++ ([(I 0)] ++ ([(Bo false)]))))).toArray) (qs := [(0, (SL 1 cS x1))]) (ws := (c_api_Dev (G_api_Dev.mk x1 [] 0 0 false))) (evp rfl evp_nil) (by kernel_rfl) (by repeat (first | exact trivial | refine ⟨.inl rfl, ?_⟩ | refine ⟨.inr ⟨rfl, _, rfl⟩, ?_⟩))) ?_
  refine arun_do0 rfl rfl (ex_storeL (vy := (Value.agg (c_api_Dev (G_api_Dev.mk x1 [] 0 0 false)).toArray)) (cs := (c_api_Dev (G_api_Dev.mk [] [] 0 0 false))) (vs := (c_api_Dev (G_api_Dev.mk x1 [] 0 0 false))) (L' := [(c_api_Dev t0), (c_api_Dev (G_api_Dev.mk x1 [] 0 0 false))]) rfl (eV (v := (Value.agg (c_api_Dev (G_api_Dev.mk x1 [] 0 0 false)).toArray)) rfl) rfl s_40 rfl (Nat.le_of_ble_eq_true rfl) (by kernel_rfl)) ?_
  refine arun_keepE [4] 2 0 (st' := ⟨9, 0, [(4, (LP 1 0))], [(c_api_Dev t0), (c_api_Dev (G_api_Dev.mk x1 [] 0 0 false))], ⟨0, []⟩⟩) (by kernel_rfl) (by kernel_rfl) ?_
  show AWp _ _ _ _
  refine awp_ret ?_
  cases h
  exact ares1 (rcellL rfl rfl rfl (partA Try.underlying40 rfl s_40 (by decide) (Nat.le_of_ble_eq_true rfl) rfl))

noncomputable def M_law5_BlockReads (t0 : UInt8) (t1 : UInt8) (t2 : Str) (t3 : UInt8) (t4 : Str) (t5 : UInt8) (t6 : UInt8) : Option Bool :=
  Option.bind (M_law5_begun) fun (x1 : Bool) => cond (!x1) (some false) (cond ((decide ((t2.length : Int) > 249)) || (decide ((t4.length : Int) > 249))) (some true) (Option.bind (M_law5_made t0 t1 t2) fun (x4 : G_api_Block) => Option.bind (M_law5_made t0 t3 t4) fun (x5 : G_api_Block) => Option.bind (rem8 t5 20) fun (x6 : UInt8) => Option.bind (M_ref1_New 60) fun (x7 : G_api_Dev) => Option.bind (M_block_Put x4) fun (x8 : Str) => Option.bind (M_ref1_Write x7 ([(G_api_Put.mk (w64 (14 + (x6.toNat : Int))) x8)] : List G_api_Put)) fun (x9 : (G_api_Dev × Bool)) => Option.bind (M_ref1_Flush x9.1) fun (x10 : (G_api_Dev × Bool)) => Option.bind (M_block_Ptr (w64 (14 + (x6.toNat : Int))) x4) fun (x11 : G_api_Ptr) => Option.bind (M_block_Read x10.1 x11 x4.Kind) fun (x12 : (Str × Bool)) => Option.bind (M_block_Read x10.1 (G_api_Ptr.mk x11.Addr (w64 (x11.Birth + 1)) x11.Sum) x4.Kind) fun (x13 : (Str × Bool)) => Option.bind (M_block_Read x10.1 (G_api_Ptr.mk (w64 (x11.Addr + 1)) x11.Birth x11.Sum) x4.Kind) fun (x14 : (Str × Bool)) => Option.bind (M_block_Put x5) fun (x15 : Str) => Option.bind (M_ref1_Write x10.1 ([(G_api_Put.mk (w64 (14 + (x6.toNat : Int))) x15)] : List G_api_Put)) fun (x16 : (G_api_Dev × Bool)) => Option.bind (rem8 t6 4) fun (x17 : UInt8) => Option.bind (M_ref1_Crash x16.1 ([(x17.toNat : Int)] : List Int)) fun (x18 : G_api_Dev) => Option.bind (M_ref1_Read x18 (w64 (14 + (x6.toNat : Int)))) fun (x19 : (Str × Bool)) => Option.bind (M_block_Read x18 x11 x4.Kind) fun (x20 : (Str × Bool)) => Option.bind (M_ref1_Of x19.1) fun (x21 : (A4 UInt32)) => Option.bind (gd ((decide (x21 = x11.Sum)) == true) (M_block_Put x4)) fun (x22 : Str) => cond ((decide (x21 = x11.Sum)) && (x19.1 != x22)) (some true) (Option.bind (gd ((((x12.2 && (x12.1 == x4.Load)) && (!x13.2)) && (!x14.2)) == true) (M_block_Put x4)) fun (x24 : Str) => some (((((x12.2 && (x12.1 == x4.Load)) && (!x13.2)) && (!x14.2)) && (x20.2 == (x19.1 == x24))) && ((!x20.2) || (x20.1 == x4.Load))))))
theorem ok_law5_BlockReads (t0 : UInt8) (t1 : UInt8) (t2 : Str) (t3 : UInt8) (t4 : Str) (t5 : UInt8) (t6 : UInt8) (r : Bool) (h : M_law5_BlockReads t0 t1 t2 t3 t4 t5 t6 = some r) : FFn Try.prog 4 [(U8 t0), (U8 t1), (S t2), (U8 t3), (S t4), (U8 t5), (U8 t6)] (Bo r) := by
  refine FFn.of_body (n := 180) Try.func4 rfl Try.ntmps4 rfl rfl rfl rfl ?_
  show AWp _ _ _ ⟨180, 0, [(0, (U8 t0)), (1, (U8 t1)), (2, (S t2)), (3, (U8 t3)), (4, (S t4)), (5, (U8 t5)), (6, (U8 t6))], [], ⟨0, []⟩⟩
  unfold M_law5_BlockReads at h
  refine awp_seq ?_
  refine awp_region ?_
  refine arun_do rfl rfl rfl (ex_assign (eV (v := (Bo false)) rfl)) ?_
  refine arun_keepE [0, 1, 2, 3, 4, 5, 6] 0 0 (st' := ⟨180, 0, [(0, (U8 t0)), (1, (U8 t1)), (2, (S t2)), (3, (U8 t3)), (4, (S t4)), (5, (U8 t5)), (6, (U8 t6))], [], ⟨0, []⟩⟩) (by kernel_rfl) (by kernel_rfl) ?_
  show AWp _ _ _ _
  refine awp_seq ?_
  refine awp_seq ?_
  refine awp_region ?_
  obtain ⟨x1, hx1, h⟩ := bindS h
  refine arun_do rfl rfl rfl (ex_call0 (vs := []) (v := (Bo x1)) rfl en_8 (cargs evs_nil) rfl (ok_law5_begun  x1 hx1) rfl) ?_
  refine arun_do rfl rfl rfl (ex_un (vx := (Bo x1)) rfl notB_ok) ?_
  refine arun_keepE [0, 1, 2, 3, 4, 5, 6, 33] 0 0 (st' := ⟨180, 0, [(0, (U8 t0)), (1, (U8 t1)), (2, (S t2)), (3, (U8 t3)), (4, (S t4)), (5, (U8 t5)), (6, (U8 t6)), (33, (Bo (!x1)))], [], ⟨0, []⟩⟩) (by kernel_rfl) (by kernel_rfl) ?_
  show AWp _ _ _ _
  rcases Bool.eq_false_or_eq_true (!x1) with hb2 | hb2
  · rw [condT hb2] at h
    refine awp_condT (boT hb2) ?_
    refine awp_seq ?_
    refine awp_region ?_
    refine arun_do rfl rfl rfl (ex_assign (eV (v := (Bo false)) rfl)) ?_
    refine arun_keepE [14] 0 0 (st' := ⟨180, 0, [(14, (Bo false))], [], ⟨0, []⟩⟩) (by kernel_rfl) (by kernel_rfl) ?_
    show AWp _ _ _ _
    refine awp_ret ?_
    cases h
    exact ares1 (rtmp rfl (eV rfl))
  · rw [condF hb2] at h
    refine awp_condF (boF hb2) ?_
    refine awp_skip ?_
    show AWp _ _ _ _
    refine awp_seq ?_
    refine awp_seq ?_
    refine awp_region ?_
    refine arun_do rfl rfl rfl (ex_move (eV (v := (S t2)) rfl)) ?_
    refine arun_do rfl rfl rfl (tx_lenS Try.underlying9 rfl) ?_
    refine arun_do rfl rfl rfl (ex_bin (vx := (I (t2.length : Int))) (vy := (I 249)) rfl rfl gtrI_ok) ?_
    refine arun_do rfl rfl rfl (ex_move (eV (v := (Bo (decide ((t2.length : Int) > 249)))) rfl)) ?_
    refine arun_guard (v := (S t4)) ((decide ((t2.length : Int) > 249)) == false) rfl rfl rfl (fun hc => ex_move (eV (v := (S t4)) rfl)) ?_
    refine arun_guard (v := (I (t4.length : Int))) ((decide ((t2.length : Int) > 249)) == false) rfl rfl rfl (fun hc => tx_lenS Try.underlying9 (cond_of hc)) ?_
    refine arun_guard (v := (Bo (decide ((t4.length : Int) > 249)))) ((decide ((t2.length : Int) > 249)) == false) rfl rfl rfl (fun hc => ex_bin (vx := (I (t4.length : Int))) (vy := (I 249)) (cond_of hc) rfl gtrI_ok) ?_
    refine arun_do rfl rfl rfl (ex_pick rfl pkOr) ?_
    refine arun_keepE [0, 1, 2, 3, 4, 5, 6, 41] 0 0 (st' := ⟨180, 0, [(0, (U8 t0)), (1, (U8 t1)), (2, (S t2)), (3, (U8 t3)), (4, (S t4)), (5, (U8 t5)), (6, (U8 t6)), (41, (Bo ((decide ((t2.length : Int) > 249)) || (decide ((t4.length : Int) > 249)))))], [], ⟨0, []⟩⟩) (by kernel_rfl) (by kernel_rfl) ?_
    show AWp _ _ _ _
    rcases Bool.eq_false_or_eq_true ((decide ((t2.length : Int) > 249)) || (decide ((t4.length : Int) > 249))) with hb3 | hb3
    · rw [condT hb3] at h
      refine awp_condT (boT hb3) ?_
      refine awp_seq ?_
      refine awp_region ?_
      refine arun_do rfl rfl rfl (ex_assign (eV (v := (Bo true)) rfl)) ?_
      refine arun_keepE [14] 0 0 (st' := ⟨180, 0, [(14, (Bo true))], [], ⟨0, []⟩⟩) (by kernel_rfl) (by kernel_rfl) ?_
      show AWp _ _ _ _
      refine awp_ret ?_
      cases h
      exact ares1 (rtmp rfl (eV rfl))
    · rw [condF hb3] at h
      refine awp_condF (boF hb3) ?_
      refine awp_skip ?_
      show AWp _ _ _ _
      refine awp_seq ?_
      refine awp_region ?_
      refine arun_do rfl rfl rfl (ex_move (eV (v := (U8 t0)) rfl)) ?_
      refine arun_do rfl rfl rfl (ex_move (eV (v := (U8 t1)) rfl)) ?_
      refine arun_do rfl rfl rfl (ex_move (eV (v := (S t2)) rfl)) ?_
      obtain ⟨x4, hx4, h⟩ := bindS h
      refine arun_do rfl rfl rfl (ex_call0 (vs := [(U8 t0), (U8 t1), (S t2)]) (v := (Value.agg (c_api_Block x4).toArray)) rfl en_9 (cargs (evs rfl (evs rfl (evs rfl evs_nil)))) rfl (ok_law5_made t0 t1 t2 x4 hx4) rfl) ?_
      refine arun_do rfl rfl rfl (ex_move (eV (v := (U8 t0)) rfl)) ?_
      refine arun_do rfl rfl rfl (ex_move (eV (v := (U8 t3)) rfl)) ?_
      refine arun_do rfl rfl rfl (ex_move (eV (v := (S t4)) rfl)) ?_
      obtain ⟨x5, hx5, h⟩ := bindS h
      refine arun_do rfl rfl rfl (ex_call0 (vs := [(U8 t0), (U8 t3), (S t4)]) (v := (Value.agg (c_api_Block x5).toArray)) rfl en_9 (cargs (evs rfl (evs rfl (evs rfl evs_nil)))) rfl (ok_law5_made t0 t3 t4 x5 hx5) rfl) ?_
      refine arun_do rfl rfl rfl (ex_alloc (k := 0) (zs := (c_api_Block (G_api_Block.mk 0 0 []))) (L' := [(c_api_Block (G_api_Block.mk 0 0 []))]) z_23 rfl rfl rfl rfl) ?_
      refine arun_do rfl rfl rfl (ex_alloc (k := 1) (zs := (c_api_Block (G_api_Block.mk 0 0 []))) (L' := [(c_api_Block (G_api_Block.mk 0 0 [])), (c_api_Block (G_api_Block.mk 0 0 []))]) z_23 rfl rfl rfl rfl) ?_
      refine arun_do0 rfl rfl (ex_storeL (vy := (Value.agg (c_api_Block x4).toArray)) (cs := (c_api_Block (G_api_Block.mk 0 0 []))) (vs := (c_api_Block x4)) (L' := [(c_api_Block x4), (c_api_Block (G_api_Block.mk 0 0 []))]) rfl (eV (v := (Value.agg (c_api_Block x4).toArray)) rfl) rfl s_23 rfl (Nat.le_of_ble_eq_true rfl) (by kernel_rfl)) ?_
      refine arun_do0 rfl rfl (ex_storeL (vy := (Value.agg (c_api_Block x5).toArray)) (cs := (c_api_Block (G_api_Block.mk 0 0 []))) (vs := (c_api_Block x5)) (L' := [(c_api_Block x4), (c_api_Block x5)]) rfl (eV (v := (Value.agg (c_api_Block x5).toArray)) rfl) rfl s_23 rfl (Nat.le_of_ble_eq_true rfl) (by kernel_rfl)) ?_
      refine arun_keepE [5, 6, 15, 16] 2 0 (st' := ⟨180, 0, [(5, (U8 t5)), (6, (U8 t6)), (15, (LP 0 0)), (16, (LP 1 0))], [(c_api_Block x4), (c_api_Block x5)], ⟨0, []⟩⟩) (by kernel_rfl) (by kernel_rfl) ?_
      show AWp _ _ _ _
      refine awp_seq ?_
      refine awp_region ?_
      refine arun_do rfl rfl rfl (ex_move (eV (v := (U8 t5)) rfl)) ?_
      obtain ⟨x6, hx6, h⟩ := bindS h
      refine arun_do rfl rfl rfl (ex_bin (vx := (U8 t5)) (vy := (U8 20)) rfl rfl (rem8_ok hx6)) ?_
      refine arun_do rfl rfl rfl (tx_8_64 Try.underlying5 Try.underlying3 rfl) ?_
      refine arun_do rfl rfl rfl (ex_bin (vx := (I 14)) (vy := (I (x6.toNat : Int))) rfl rfl addI_ok) ?_
      refine arun_do rfl rfl rfl (ex_assign (eV (v := (I (w64 (14 + (x6.toNat : Int))))) rfl)) ?_
      refine arun_keepE [6, 15, 16, 17] 2 0 (st' := ⟨180, 0, [(6, (U8 t6)), (15, (LP 0 0)), (16, (LP 1 0)), (17, (I (w64 (14 + (x6.toNat : Int)))))], [(c_api_Block x4), (c_api_Block x5)], ⟨0, []⟩⟩) (by kernel_rfl) (by kernel_rfl) ?_
      show AWp _ _ _ _
      refine awp_seq ?_
      obtain ⟨x7, hx7, h⟩ := bindS h
      obtain ⟨x8, hx8, h⟩ := bindS h
      obtain ⟨x9, hx9, h⟩ := bindS h
      refine awp_kn [6, 15, 16, 17, 18] 3 0 (st' := ⟨180, 0, [(6, (U8 t6)), (15, (LP 0 0)), (16, (LP 1 0)), (17, (I (w64 (14 + (x6.toNat : Int))))), (18, (LP 2 0))], [(c_api_Block x4), (c_api_Block x5), (c_api_Dev x9.1)], ⟨0, []⟩⟩) (awp_draw (T := [(Value.agg (c_api_Dev x7).toArray), (I (w64 (14 + (x6.toNat : Int)))), (Value.agg (c_api_Block x4).toArray), (S x8), (Value.agg (c_api_Put (G_api_Put.mk (w64 (14 + (x6.toNat : Int))) x8)).toArray), (SL 2 c_api_Put ([(G_api_Put.mk (w64 (14 + (x6.toNat : Int))) x8)] : List G_api_Put)), (Value.tuple #[(Value.agg (c_api_Dev x9.1).toArray), (Bo x9.2)]), (Value.tuple #[(Value.agg (c_api_Dev x9.1).toArray), (Bo x9.2)]), (Value.agg (c_api_Dev x9.1).toArray), (Bo x9.2), (LP 2 0), undef, (Bo x9.2)]) (LH := [([(c_api_Block x4), (c_api_Block x5)], ⟨0, []⟩), ([(c_api_Block x4), (c_api_Block x5), (c_api_Dev (G_api_Dev.mk [] [] 0 0 false))], ⟨0, []⟩), ([(c_api_Block x4), (c_api_Block x5), (c_api_Dev x9.1)], ⟨0, []⟩)]) (D := [⟨[], [], [0, 1], false⟩, ⟨[(17, none)], [], [0, 1], false⟩, ⟨[(15, none)], [], [0, 1], false⟩, ⟨[(57, some 2)], [0, 2], [0, 1], false⟩, ⟨[(56, some 1), (58, some 3)], [0, 1, 2, 3], [0, 1], false⟩, ⟨[(59, some 4)], [0, 1, 2, 3, 4], [0, 1], false⟩, ⟨[(55, some 0), (60, some 5)], [0, 1, 2, 3, 4, 5], [0, 1], false⟩, ⟨[(61, some 6)], [0, 1, 2, 3, 4, 5, 6], [0, 1], false⟩, ⟨[(54, some 7)], [0, 1, 2, 3, 4, 5, 6, 7], [0, 1], false⟩, ⟨[(54, some 7)], [0, 1, 2, 3, 4, 5, 6, 7], [0, 1, 2], false⟩, ⟨[], [], [0], true⟩, ⟨[(18, some 10), (62, some 8)], [0, 1, 2, 3, 4, 5, 6, 7, 8, 10], [1], true⟩, ⟨[(63, some 9)], [0, 1, 2, 3, 4, 5, 6, 7, 8, 9, 10, 11], [2], false⟩]) (S := [10, 11]) (plan := [0, 1, 2, 3, 4, 5, 6, 7, 8, 9, 10, 11, 12]) mo (by kernel_rfl) rfl rfl rfl (dcons (dstepN (by intro k hk; simp only [List.mem_cons, List.not_mem_nil, or_false] at hk; rcases hk with rfl | rfl <;> exact ⟨[], _, _, _, _, _, rfl, rfl, rfl, rfl, astep_do rfl (ex_call0 (vs := [(I 60)]) (v := (Value.agg (c_api_Dev x7).toArray)) rfl en_18 (cargs (evs rfl evs_nil)) rfl (ok_ref1_New 60 x7 hx7) rfl)⟩)) (dcons (dstepN (by intro k hk; simp only [List.mem_cons, List.not_mem_nil, or_false] at hk; rcases hk with rfl | rfl <;> exact ⟨[(17, (I (w64 (14 + (x6.toNat : Int)))))], _, _, _, _, _, rfl, rfl, rfl, rfl, astep_do rfl (ex_move (eV (v := (I (w64 (14 + (x6.toNat : Int))))) rfl))⟩)) (dcons (dstepN (by intro k hk; simp only [List.mem_cons, List.not_mem_nil, or_false] at hk; rcases hk with rfl | rfl <;> exact ⟨[(15, (LP 0 0))], _, _, _, _, _, rfl, rfl, rfl, rfl, astep_do rfl (tx_ldLA (vs := (c_api_Block x4)) Try.underlying23 rfl s_23 (by decide) rfl rfl rfl rfl)⟩)) (dcons (dstepN (by intro k hk; simp only [List.mem_cons, List.not_mem_nil, or_false] at hk; rcases hk with rfl | rfl <;> exact ⟨[(57, (Value.agg (c_api_Block x4).toArray))], _, _, _, _, _, rfl, rfl, rfl, rfl, astep_do rfl (ex_call0 (vs := [(Value.agg (c_api_Block x4).toArray)]) (v := (S x8)) rfl en_12 (cargs (evs rfl evs_nil)) rfl (ok_block_Put x4 x8 hx8) rfl)⟩)) (dcons (dstepN (by intro k hk; simp only [List.mem_cons, List.not_mem_nil, or_false] at hk; rcases hk with rfl | rfl <;> exact ⟨[(56, (I (w64 (14 + (x6.toNat : Int))))), (58, (S x8))], _, _, _, _, _, rfl, rfl, rfl, rfl, astep_do rfl (ex_build (qs := [(0, (I (w64 (14 + (x6.toNat : Int))))), (1, (S x8))]) (v := (Value.agg (c_api_Put (G_api_Put.mk (w64 (14 + (x6.toNat : Int))) x8)).toArray)) (evp rfl (evp rfl evp_nil)) (by kernel_rfl))⟩)) (dcons (dstepN (by intro k hk; simp only [List.mem_cons, List.not_mem_nil, or_false] at hk; rcases hk with rfl | rfl <;> exact ⟨[(59, (Value.agg (c_api_Put (G_api_Put.mk (w64 (14 + (x6.toNat : Int))) x8)).toArray))], _, _, _, _, _, rfl, rfl, rfl, rfl, astep_do rfl (ex_buildSliceD (qs := [(0, (Value.agg (c_api_Put (G_api_Put.mk (w64 (14 + (x6.toNat : Int))) x8)).toArray))]) (cells := (([(G_api_Put.mk (w64 (14 + (x6.toNat : Int))) x8)] : List G_api_Put).flatMap c_api_Put)) Try.underlying38 s_45 (by decide) (evp rfl evp_nil) rfl (by kernel_rfl) (by kernel_rfl) (by kernel_rfl))⟩)) (dcons (dstepN (by intro k hk; simp only [List.mem_cons, List.not_mem_nil, or_false] at hk; rcases hk with rfl | rfl <;> exact ⟨[(55, (Value.agg (c_api_Dev x7).toArray)), (60, (SL 2 c_api_Put ([(G_api_Put.mk (w64 (14 + (x6.toNat : Int))) x8)] : List G_api_Put)))], _, _, _, _, _, rfl, rfl, rfl, rfl, astep_do rfl (ex_call0 (vs := [(Value.agg (c_api_Dev x7).toArray), (SL 2 c_api_Put ([(G_api_Put.mk (w64 (14 + (x6.toNat : Int))) x8)] : List G_api_Put))]) (v := (Value.tuple #[(Value.agg (c_api_Dev x9.1).toArray), (Bo x9.2)])) rfl en_19 (cargs (evs rfl (evs rfl evs_nil))) rfl (ok_ref1_Write x7 ([(G_api_Put.mk (w64 (14 + (x6.toNat : Int))) x8)] : List G_api_Put) x9 hx9) rfl)⟩)) (dcons (dstepN (by intro k hk; simp only [List.mem_cons, List.not_mem_nil, or_false] at hk; rcases hk with rfl | rfl <;> exact ⟨[(61, (Value.tuple #[(Value.agg (c_api_Dev x9.1).toArray), (Bo x9.2)]))], _, _, _, _, _, rfl, rfl, rfl, rfl, astep_do rfl (ex_move (eV (v := (Value.tuple #[(Value.agg (c_api_Dev x9.1).toArray), (Bo x9.2)])) rfl))⟩)) (dcons (dstepN (by intro k hk; simp only [List.mem_cons, List.not_mem_nil, or_false] at hk; rcases hk with rfl | rfl <;> exact ⟨[(54, (Value.tuple #[(Value.agg (c_api_Dev x9.1).toArray), (Bo x9.2)]))], _, _, _, _, _, rfl, rfl, rfl, rfl, astep_do rfl (ex_extract (vx := (Value.tuple #[(Value.agg (c_api_Dev x9.1).toArray), (Bo x9.2)])) (v := (Value.agg (c_api_Dev x9.1).toArray)) rfl rfl)⟩)) (dcons (dstepN (by intro k hk; simp only [List.mem_cons, List.not_mem_nil, or_false] at hk; rcases hk with rfl | rfl | rfl <;> exact ⟨[(54, (Value.tuple #[(Value.agg (c_api_Dev x9.1).toArray), (Bo x9.2)]))], _, _, _, _, _, rfl, rfl, rfl, rfl, astep_do rfl (ex_extract (vx := (Value.tuple #[(Value.agg (c_api_Dev x9.1).toArray), (Bo x9.2)])) (v := (Bo x9.2)) rfl rfl)⟩)) (dcons (dstep1 (Tm := []) (L := [(c_api_Block x4), (c_api_Block x5)]) (H := ⟨0, []⟩) rfl rfl rfl rfl rfl (astep_do rfl (ex_allocW (k := 2) (zs := (c_api_Dev (G_api_Dev.mk [] [] 0 0 false))) (L' := [(c_api_Block x4), (c_api_Block x5), (c_api_Dev (G_api_Dev.mk [] [] 0 0 false))]) z_40 rfl (by repeat (first | exact trivial | refine ⟨.inl rfl, ?_⟩ | refine ⟨.inr ⟨rfl, _, rfl⟩, ?_⟩)) rfl rfl))) (dcons (dstep1 (Tm := [(18, (LP 2 0)), (62, (Value.agg (c_api_Dev x9.1).toArray))]) (L := [(c_api_Block x4), (c_api_Block x5), (c_api_Dev (G_api_Dev.mk [] [] 0 0 false))]) (H := ⟨0, []⟩) rfl rfl rfl rfl rfl (astep_do rfl (ex_storeL (vy := (Value.agg (c_api_Dev x9.1).toArray)) (cs := (c_api_Dev (G_api_Dev.mk [] [] 0 0 false))) (vs := (c_api_Dev x9.1)) (L' := [(c_api_Block x4), (c_api_Block x5), (c_api_Dev x9.1)]) rfl (eV (v := (Value.agg (c_api_Dev x9.1).toArray)) rfl) rfl s_40 rfl (Nat.le_of_ble_eq_true rfl) (by kernel_rfl)))) (dcons (dstep1 (Tm := [(63, (Bo x9.2))]) (L := [(c_api_Block x4), (c_api_Block x5), (c_api_Dev x9.1)]) (H := ⟨0, []⟩) rfl rfl rfl rfl rfl (astep_do rfl (ex_assign (eV (v := (Bo x9.2)) rfl)))) dnil))))))))))))) ⟨rfl, rfl⟩) (by kernel_rfl) (by kernel_rfl) ?_
      show AWp _ _ _ _
      refine awp_seq ?_
      refine awp_region ?_
      refine arun_do rfl rfl rfl (tx_ldLA (vs := (c_api_Dev x9.1)) Try.underlying40 rfl s_40 (by decide) rfl rfl rfl rfl) ?_
      obtain ⟨x10, hx10, h⟩ := bindS h
      refine arun_do rfl rfl rfl (ex_call0 (vs := [(Value.agg (c_api_Dev x9.1).toArray)]) (v := (Value.tuple #[(Value.agg (c_api_Dev x10.1).toArray), (Bo x10.2)])) rfl en_23 (cargs (evs rfl evs_nil)) rfl (ok_ref1_Flush x9.1 x10 hx10) rfl) ?_
      refine arun_do rfl rfl rfl (ex_move (eV (v := (Value.tuple #[(Value.agg (c_api_Dev x10.1).toArray), (Bo x10.2)])) rfl)) ?_
      refine arun_do rfl rfl rfl (ex_extract (vx := (Value.tuple #[(Value.agg (c_api_Dev x10.1).toArray), (Bo x10.2)])) (v := (Value.agg (c_api_Dev x10.1).toArray)) rfl rfl) ?_
      refine arun_do rfl rfl rfl (ex_extract (vx := (Value.tuple #[(Value.agg (c_api_Dev x10.1).toArray), (Bo x10.2)])) (v := (Bo x10.2)) rfl rfl) ?_
      refine arun_do0 rfl rfl (ex_storeL (vy := (Value.agg (c_api_Dev x10.1).toArray)) (cs := (c_api_Dev x9.1)) (vs := (c_api_Dev x10.1)) (L' := [(c_api_Block x4), (c_api_Block x5), (c_api_Dev x10.1)]) rfl (eV (v := (Value.agg (c_api_Dev x10.1).toArray)) rfl) rfl s_40 rfl (Nat.le_of_ble_eq_true rfl) (by kernel_rfl)) ?_
      refine arun_keepE [6, 15, 16, 17, 18] 3 0 (st' := ⟨180, 0, [(6, (U8 t6)), (15, (LP 0 0)), (16, (LP 1 0)), (17, (I (w64 (14 + (x6.toNat : Int))))), (18, (LP 2 0))], [(c_api_Block x4), (c_api_Block x5), (c_api_Dev x10.1)], ⟨0, []⟩⟩) (by kernel_rfl) (by kernel_rfl) ?_
      show AWp _ _ _ _
      refine awp_seq ?_
      refine awp_region ?_
      refine arun_do rfl rfl rfl (ex_move (eV (v := (I (w64 (14 + (x6.toNat : Int))))) rfl)) ?_
      refine arun_do rfl rfl rfl (tx_ldLA (vs := (c_api_Block x4)) Try.underlying23 rfl s_23 (by decide) rfl rfl rfl rfl) ?_
      obtain ⟨x11, hx11, h⟩ := bindS h
      refine arun_do rfl rfl rfl (ex_call0 (vs := [(I (w64 (14 + (x6.toNat : Int)))), (Value.agg (c_api_Block x4).toArray)]) (v := (Value.agg (c_api_Ptr x11).toArray)) rfl en_14 (cargs (evs rfl (evs rfl evs_nil))) rfl (ok_block_Ptr (w64 (14 + (x6.toNat : Int))) x4 x11 hx11) rfl) ?_
      refine arun_do rfl rfl rfl (ex_alloc (k := 3) (zs := (c_api_Ptr (G_api_Ptr.mk 0 0 (A4.mk 0 0 0 0)))) (L' := [(c_api_Block x4), (c_api_Block x5), (c_api_Dev x10.1), (c_api_Ptr (G_api_Ptr.mk 0 0 (A4.mk 0 0 0 0)))]) z_32 rfl rfl rfl rfl) ?_
      refine arun_do0 rfl rfl (ex_storeL (vy := (Value.agg (c_api_Ptr x11).toArray)) (cs := (c_api_Ptr (G_api_Ptr.mk 0 0 (A4.mk 0 0 0 0)))) (vs := (c_api_Ptr x11)) (L' := [(c_api_Block x4), (c_api_Block x5), (c_api_Dev x10.1), (c_api_Ptr x11)]) rfl (eV (v := (Value.agg (c_api_Ptr x11).toArray)) rfl) rfl s_32 rfl (Nat.le_of_ble_eq_true rfl) (by kernel_rfl)) ?_
      refine arun_keepE [6, 15, 16, 17, 18, 20] 4 0 (st' := ⟨180, 0, [(6, (U8 t6)), (15, (LP 0 0)), (16, (LP 1 0)), (17, (I (w64 (14 + (x6.toNat : Int))))), (18, (LP 2 0)), (20, (LP 3 0))], [(c_api_Block x4), (c_api_Block x5), (c_api_Dev x10.1), (c_api_Ptr x11)], ⟨0, []⟩⟩) (by kernel_rfl) (by kernel_rfl) ?_
      show AWp _ _ _ _
      refine awp_seq ?_
      refine awp_region ?_
      refine arun_do rfl rfl rfl (tx_ldLA (vs := (c_api_Dev x10.1)) Try.underlying40 rfl s_40 (by decide) rfl rfl rfl rfl) ?_
      refine arun_do rfl rfl rfl (tx_ldLA (vs := (c_api_Ptr x11)) Try.underlying32 rfl s_32 (by decide) rfl rfl rfl rfl) ?_
      refine arun_do rfl rfl rfl (ex_fieldAddr (v := (LP 0 0)) Try.underlying23 rfl s_3 (by decide) rfl rfl) ?_
      refine arun_do rfl rfl rfl (tx_ldL1 (v := (I x4.Kind)) Try.underlying3 rfl rfl rfl rfl) ?_
      obtain ⟨x12, hx12, h⟩ := bindS h
      refine arun_do rfl rfl rfl (ex_call0 (vs := [(Value.agg (c_api_Dev x10.1).toArray), (Value.agg (c_api_Ptr x11).toArray), (I x4.Kind)]) (v := (Value.tuple #[(S x12.1), (Bo x12.2)])) rfl en_21 (cargs (evs rfl (evs rfl (evs rfl evs_nil)))) rfl (ok_block_Read x10.1 x11 x4.Kind x12 hx12) rfl) ?_
      refine arun_do rfl rfl rfl (ex_move (eV (v := (Value.tuple #[(S x12.1), (Bo x12.2)])) rfl)) ?_
      refine arun_do rfl rfl rfl (ex_extract (vx := (Value.tuple #[(S x12.1), (Bo x12.2)])) (v := (S x12.1)) rfl rfl) ?_
      refine arun_do rfl rfl rfl (ex_extract (vx := (Value.tuple #[(S x12.1), (Bo x12.2)])) (v := (Bo x12.2)) rfl rfl) ?_
      refine arun_do rfl rfl rfl (ex_assign (eV (v := (S x12.1)) rfl)) ?_
      refine arun_do rfl rfl rfl (ex_assign (eV (v := (Bo x12.2)) rfl)) ?_
      refine arun_keepE [6, 15, 16, 17, 18, 20, 21, 22] 4 0 (st' := ⟨180, 0, [(6, (U8 t6)), (15, (LP 0 0)), (16, (LP 1 0)), (17, (I (w64 (14 + (x6.toNat : Int))))), (18, (LP 2 0)), (20, (LP 3 0)), (21, (S x12.1)), (22, (Bo x12.2))], [(c_api_Block x4), (c_api_Block x5), (c_api_Dev x10.1), (c_api_Ptr x11)], ⟨0, []⟩⟩) (by kernel_rfl) (by kernel_rfl) ?_
      show AWp _ _ _ _
      refine awp_seq ?_
      refine awp_region ?_
      refine arun_do rfl rfl rfl (tx_ldLA (vs := (c_api_Ptr x11)) Try.underlying32 rfl s_32 (by decide) rfl rfl rfl rfl) ?_
      refine arun_do rfl rfl rfl (ex_alloc (k := 4) (zs := (c_api_Ptr (G_api_Ptr.mk 0 0 (A4.mk 0 0 0 0)))) (L' := [(c_api_Block x4), (c_api_Block x5), (c_api_Dev x10.1), (c_api_Ptr x11), (c_api_Ptr (G_api_Ptr.mk 0 0 (A4.mk 0 0 0 0)))]) z_32 rfl rfl rfl rfl) ?_
      refine arun_do0 rfl rfl (ex_storeL (vy := (Value.agg (c_api_Ptr x11).toArray)) (cs := (c_api_Ptr (G_api_Ptr.mk 0 0 (A4.mk 0 0 0 0)))) (vs := (c_api_Ptr x11)) (L' := [(c_api_Block x4), (c_api_Block x5), (c_api_Dev x10.1), (c_api_Ptr x11), (c_api_Ptr x11)]) rfl (eV (v := (Value.agg (c_api_Ptr x11).toArray)) rfl) rfl s_32 rfl (Nat.le_of_ble_eq_true rfl) (by kernel_rfl)) ?_
      refine arun_keepE [6, 15, 16, 17, 18, 20, 21, 22, 23] 5 0 (st' := ⟨180, 0, [(6, (U8 t6)), (15, (LP 0 0)), (16, (LP 1 0)), (17, (I (w64 (14 + (x6.toNat : Int))))), (18, (LP 2 0)), (20, (LP 3 0)), (21, (S x12.1)), (22, (Bo x12.2)), (23, (LP 4 0))], [(c_api_Block x4), (c_api_Block x5), (c_api_Dev x10.1), (c_api_Ptr x11), (c_api_Ptr x11)], ⟨0, []⟩⟩) (by kernel_rfl) (by kernel_rfl) ?_
      show AWp _ _ _ _
      refine awp_seq ?_
      refine awp_region ?_
      refine arun_do rfl rfl rfl (ex_fieldAddr (v := (LP 4 1)) Try.underlying32 rfl s_3 (by decide) rfl rfl) ?_
      refine arun_do rfl rfl rfl (tx_ldL1 (v := (I x11.Birth)) Try.underlying3 rfl rfl rfl rfl) ?_
      refine arun_do rfl rfl rfl (ex_bin (vx := (I x11.Birth)) (vy := (I 1)) rfl rfl addI_ok) ?_
      refine arun_do rfl rfl rfl (ex_fieldAddr (v := (LP 4 1)) Try.underlying32 rfl s_3 (by decide) rfl rfl) ?_
      refine arun_do0 rfl rfl (ex_storeL (vy := (I (w64 (x11.Birth + 1)))) (cs := (c_api_Ptr x11)) (vs := [(I (w64 (x11.Birth + 1)))]) (L' := [(c_api_Block x4), (c_api_Block x5), (c_api_Dev x10.1), (c_api_Ptr x11), (c_api_Ptr (G_api_Ptr.mk x11.Addr (w64 (x11.Birth + 1)) x11.Sum))]) rfl (eV (v := (I (w64 (x11.Birth + 1)))) rfl) rfl s_3 rfl (Nat.le_of_ble_eq_true rfl) (by kernel_rfl)) ?_
      refine arun_keepE [6, 15, 16, 17, 18, 20, 21, 22, 23] 5 0 (st' := ⟨180, 0, [(6, (U8 t6)), (15, (LP 0 0)), (16, (LP 1 0)), (17, (I (w64 (14 + (x6.toNat : Int))))), (18, (LP 2 0)), (20, (LP 3 0)), (21, (S x12.1)), (22, (Bo x12.2)), (23, (LP 4 0))], [(c_api_Block x4), (c_api_Block x5), (c_api_Dev x10.1), (c_api_Ptr x11), (c_api_Ptr (G_api_Ptr.mk x11.Addr (w64 (x11.Birth + 1)) x11.Sum))], ⟨0, []⟩⟩) (by kernel_rfl) (by kernel_rfl) ?_
      show AWp _ _ _ _
      refine awp_seq ?_
      refine awp_region ?_
      refine arun_do rfl rfl rfl (tx_ldLA (vs := (c_api_Dev x10.1)) Try.underlying40 rfl s_40 (by decide) rfl rfl rfl rfl) ?_
      refine arun_do rfl rfl rfl (tx_ldLA (vs := (c_api_Ptr (G_api_Ptr.mk x11.Addr (w64 (x11.Birth + 1)) x11.Sum))) Try.underlying32 rfl s_32 (by decide) rfl rfl rfl rfl) ?_
      refine arun_do rfl rfl rfl (ex_fieldAddr (v := (LP 0 0)) Try.underlying23 rfl s_3 (by decide) rfl rfl) ?_
      refine arun_do rfl rfl rfl (tx_ldL1 (v := (I x4.Kind)) Try.underlying3 rfl rfl rfl rfl) ?_
      obtain ⟨x13, hx13, h⟩ := bindS h
      refine arun_do rfl rfl rfl (ex_call0 (vs := [(Value.agg (c_api_Dev x10.1).toArray), (Value.agg (c_api_Ptr (G_api_Ptr.mk x11.Addr (w64 (x11.Birth + 1)) x11.Sum)).toArray), (I x4.Kind)]) (v := (Value.tuple #[(S x13.1), (Bo x13.2)])) rfl en_21 (cargs (evs rfl (evs rfl (evs rfl evs_nil)))) rfl (ok_block_Read x10.1 (G_api_Ptr.mk x11.Addr (w64 (x11.Birth + 1)) x11.Sum) x4.Kind x13 hx13) rfl) ?_
      refine arun_do rfl rfl rfl (ex_move (eV (v := (Value.tuple #[(S x13.1), (Bo x13.2)])) rfl)) ?_
      refine arun_do rfl rfl rfl (ex_extract (vx := (Value.tuple #[(S x13.1), (Bo x13.2)])) (v := (S x13.1)) rfl rfl) ?_
      refine arun_do rfl rfl rfl (ex_extract (vx := (Value.tuple #[(S x13.1), (Bo x13.2)])) (v := (Bo x13.2)) rfl rfl) ?_
      refine arun_do rfl rfl rfl (ex_assign (eV (v := (S x13.1)) rfl)) ?_
      refine arun_do rfl rfl rfl (ex_assign (eV (v := (Bo x13.2)) rfl)) ?_
      refine arun_keepE [6, 15, 16, 17, 18, 20, 21, 22, 23, 25] 5 0 (st' := ⟨180, 0, [(6, (U8 t6)), (15, (LP 0 0)), (16, (LP 1 0)), (17, (I (w64 (14 + (x6.toNat : Int))))), (18, (LP 2 0)), (20, (LP 3 0)), (21, (S x12.1)), (22, (Bo x12.2)), (23, (LP 4 0)), (25, (Bo x13.2))], [(c_api_Block x4), (c_api_Block x5), (c_api_Dev x10.1), (c_api_Ptr x11), (c_api_Ptr (G_api_Ptr.mk x11.Addr (w64 (x11.Birth + 1)) x11.Sum))], ⟨0, []⟩⟩) (by kernel_rfl) (by kernel_rfl) ?_
      show AWp _ _ _ _
      refine awp_seq ?_
      refine awp_region ?_
      refine arun_do rfl rfl rfl (tx_ldLA (vs := (c_api_Ptr x11)) Try.underlying32 rfl s_32 (by decide) rfl rfl rfl rfl) ?_
      refine arun_do0 rfl rfl (ex_storeL (vy := (Value.agg (c_api_Ptr x11).toArray)) (cs := (c_api_Ptr (G_api_Ptr.mk x11.Addr (w64 (x11.Birth + 1)) x11.Sum))) (vs := (c_api_Ptr x11)) (L' := [(c_api_Block x4), (c_api_Block x5), (c_api_Dev x10.1), (c_api_Ptr x11), (c_api_Ptr x11)]) rfl (eV (v := (Value.agg (c_api_Ptr x11).toArray)) rfl) rfl s_32 rfl (Nat.le_of_ble_eq_true rfl) (by kernel_rfl)) ?_
      refine arun_keepE [6, 15, 16, 17, 18, 20, 21, 22, 23, 25] 5 0 (st' := ⟨180, 0, [(6, (U8 t6)), (15, (LP 0 0)), (16, (LP 1 0)), (17, (I (w64 (14 + (x6.toNat : Int))))), (18, (LP 2 0)), (20, (LP 3 0)), (21, (S x12.1)), (22, (Bo x12.2)), (23, (LP 4 0)), (25, (Bo x13.2))], [(c_api_Block x4), (c_api_Block x5), (c_api_Dev x10.1), (c_api_Ptr x11), (c_api_Ptr x11)], ⟨0, []⟩⟩) (by kernel_rfl) (by kernel_rfl) ?_
      show AWp _ _ _ _
      refine awp_seq ?_
      refine awp_region ?_
      refine arun_do rfl rfl rfl (ex_fieldAddr (v := (LP 4 0)) Try.underlying32 rfl s_3 (by decide) rfl rfl) ?_
      refine arun_do rfl rfl rfl (tx_ldL1 (v := (I x11.Addr)) Try.underlying3 rfl rfl rfl rfl) ?_
      refine arun_do rfl rfl rfl (ex_bin (vx := (I x11.Addr)) (vy := (I 1)) rfl rfl addI_ok) ?_
      refine arun_do rfl rfl rfl (ex_fieldAddr (v := (LP 4 0)) Try.underlying32 rfl s_3 (by decide) rfl rfl) ?_
      refine arun_do0 rfl rfl (ex_storeL (vy := (I (w64 (x11.Addr + 1)))) (cs := (c_api_Ptr x11)) (vs := [(I (w64 (x11.Addr + 1)))]) (L' := [(c_api_Block x4), (c_api_Block x5), (c_api_Dev x10.1), (c_api_Ptr x11), (c_api_Ptr (G_api_Ptr.mk (w64 (x11.Addr + 1)) x11.Birth x11.Sum))]) rfl (eV (v := (I (w64 (x11.Addr + 1)))) rfl) rfl s_3 rfl (Nat.le_of_ble_eq_true rfl) (by kernel_rfl)) ?_
      refine arun_keepE [6, 15, 16, 17, 18, 20, 21, 22, 23, 25] 5 0 (st' := ⟨180, 0, [(6, (U8 t6)), (15, (LP 0 0)), (16, (LP 1 0)), (17, (I (w64 (14 + (x6.toNat : Int))))), (18, (LP 2 0)), (20, (LP 3 0)), (21, (S x12.1)), (22, (Bo x12.2)), (23, (LP 4 0)), (25, (Bo x13.2))], [(c_api_Block x4), (c_api_Block x5), (c_api_Dev x10.1), (c_api_Ptr x11), (c_api_Ptr (G_api_Ptr.mk (w64 (x11.Addr + 1)) x11.Birth x11.Sum))], ⟨0, []⟩⟩) (by kernel_rfl) (by kernel_rfl) ?_
      show AWp _ _ _ _
      refine awp_seq ?_
      refine awp_region ?_
      refine arun_do rfl rfl rfl (tx_ldLA (vs := (c_api_Dev x10.1)) Try.underlying40 rfl s_40 (by decide) rfl rfl rfl rfl) ?_
      refine arun_do rfl rfl rfl (tx_ldLA (vs := (c_api_Ptr (G_api_Ptr.mk (w64 (x11.Addr + 1)) x11.Birth x11.Sum))) Try.underlying32 rfl s_32 (by decide) rfl rfl rfl rfl) ?_
      refine arun_do rfl rfl rfl (ex_fieldAddr (v := (LP 0 0)) Try.underlying23 rfl s_3 (by decide) rfl rfl) ?_
      refine arun_do rfl rfl rfl (tx_ldL1 (v := (I x4.Kind)) Try.underlying3 rfl rfl rfl rfl) ?_
      obtain ⟨x14, hx14, h⟩ := bindS h
      refine arun_do rfl rfl rfl (ex_call0 (vs := [(Value.agg (c_api_Dev x10.1).toArray), (Value.agg (c_api_Ptr (G_api_Ptr.mk (w64 (x11.Addr + 1)) x11.Birth x11.Sum)).toArray), (I x4.Kind)]) (v := (Value.tuple #[(S x14.1), (Bo x14.2)])) rfl en_21 (cargs (evs rfl (evs rfl (evs rfl evs_nil)))) rfl (ok_block_Read x10.1 (G_api_Ptr.mk (w64 (x11.Addr + 1)) x11.Birth x11.Sum) x4.Kind x14 hx14) rfl) ?_
      refine arun_do rfl rfl rfl (ex_move (eV (v := (Value.tuple #[(S x14.1), (Bo x14.2)])) rfl)) ?_
      refine arun_do rfl rfl rfl (ex_extract (vx := (Value.tuple #[(S x14.1), (Bo x14.2)])) (v := (S x14.1)) rfl rfl) ?_
      refine arun_do rfl rfl rfl (ex_extract (vx := (Value.tuple #[(S x14.1), (Bo x14.2)])) (v := (Bo x14.2)) rfl rfl) ?_
      refine arun_do rfl rfl rfl (ex_assign (eV (v := (S x14.1)) rfl)) ?_
      refine arun_do rfl rfl rfl (ex_assign (eV (v := (Bo x14.2)) rfl)) ?_
      refine arun_keepE [6, 15, 16, 17, 18, 20, 21, 22, 25, 27] 4 0 (st' := ⟨180, 0, [(6, (U8 t6)), (15, (LP 0 0)), (16, (LP 1 0)), (17, (I (w64 (14 + (x6.toNat : Int))))), (18, (LP 2 0)), (20, (LP 3 0)), (21, (S x12.1)), (22, (Bo x12.2)), (25, (Bo x13.2)), (27, (Bo x14.2))], [(c_api_Block x4), (c_api_Block x5), (c_api_Dev x10.1), (c_api_Ptr x11)], ⟨0, []⟩⟩) (by kernel_rfl) (by kernel_rfl) ?_
      show AWp _ _ _ _
      refine awp_seq ?_
      obtain ⟨x15, hx15, h⟩ := bindS h
      obtain ⟨x16, hx16, h⟩ := bindS h
      refine awp_kn [6, 15, 17, 18, 20, 21, 22, 25, 27] 4 0 (st' := ⟨180, 0, [(6, (U8 t6)), (15, (LP 0 0)), (17, (I (w64 (14 + (x6.toNat : Int))))), (18, (LP 2 0)), (20, (LP 3 0)), (21, (S x12.1)), (22, (Bo x12.2)), (25, (Bo x13.2)), (27, (Bo x14.2))], [(c_api_Block x4), (c_api_Block x5), (c_api_Dev x16.1), (c_api_Ptr x11)], ⟨0, []⟩⟩) (awp_draw (T := [(Value.agg (c_api_Dev x10.1).toArray), (I (w64 (14 + (x6.toNat : Int)))), (Value.agg (c_api_Block x5).toArray), (S x15), (Value.agg (c_api_Put (G_api_Put.mk (w64 (14 + (x6.toNat : Int))) x15)).toArray), (SL 2 c_api_Put ([(G_api_Put.mk (w64 (14 + (x6.toNat : Int))) x15)] : List G_api_Put)), (Value.tuple #[(Value.agg (c_api_Dev x16.1).toArray), (Bo x16.2)]), (Value.tuple #[(Value.agg (c_api_Dev x16.1).toArray), (Bo x16.2)]), (Value.agg (c_api_Dev x16.1).toArray), (Bo x16.2), undef]) (LH := [([(c_api_Block x4), (c_api_Block x5), (c_api_Dev x10.1), (c_api_Ptr x11)], ⟨0, []⟩), ([(c_api_Block x4), (c_api_Block x5), (c_api_Dev x16.1), (c_api_Ptr x11)], ⟨0, []⟩)]) (D := [⟨[(18, none)], [], [0], false⟩, ⟨[(17, none)], [], [0], false⟩, ⟨[(16, none)], [], [0], false⟩, ⟨[(109, some 2)], [2], [0], false⟩, ⟨[(108, some 1), (110, some 3)], [1, 2, 3], [0], false⟩, ⟨[(111, some 4)], [1, 2, 3, 4], [0], false⟩, ⟨[(107, some 0), (112, some 5)], [0, 1, 2, 3, 4, 5], [0], false⟩, ⟨[(113, some 6)], [0, 1, 2, 3, 4, 5, 6], [0], false⟩, ⟨[(106, some 7)], [0, 1, 2, 3, 4, 5, 6, 7], [0], false⟩, ⟨[(106, some 7)], [0, 1, 2, 3, 4, 5, 6, 7], [0, 1], false⟩, ⟨[(18, none), (114, some 8)], [0, 1, 2, 3, 4, 5, 6, 7, 8], [0], true⟩]) (S := [10]) (plan := [0, 1, 2, 3, 4, 5, 6, 7, 8, 9, 10]) mo (by kernel_rfl) rfl rfl rfl (dcons (dstep1 (Tm := [(18, (LP 2 0))]) (L := [(c_api_Block x4), (c_api_Block x5), (c_api_Dev x10.1), (c_api_Ptr x11)]) (H := ⟨0, []⟩) rfl rfl rfl rfl rfl (astep_do rfl (tx_ldLA (vs := (c_api_Dev x10.1)) Try.underlying40 rfl s_40 (by decide) rfl rfl rfl rfl))) (dcons (dstep1 (Tm := [(17, (I (w64 (14 + (x6.toNat : Int)))))]) (L := [(c_api_Block x4), (c_api_Block x5), (c_api_Dev x10.1), (c_api_Ptr x11)]) (H := ⟨0, []⟩) rfl rfl rfl rfl rfl (astep_do rfl (ex_move (eV (v := (I (w64 (14 + (x6.toNat : Int))))) rfl)))) (dcons (dstep1 (Tm := [(16, (LP 1 0))]) (L := [(c_api_Block x4), (c_api_Block x5), (c_api_Dev x10.1), (c_api_Ptr x11)]) (H := ⟨0, []⟩) rfl rfl rfl rfl rfl (astep_do rfl (tx_ldLA (vs := (c_api_Block x5)) Try.underlying23 rfl s_23 (by decide) rfl rfl rfl rfl))) (dcons (dstep1 (Tm := [(109, (Value.agg (c_api_Block x5).toArray))]) (L := [(c_api_Block x4), (c_api_Block x5), (c_api_Dev x10.1), (c_api_Ptr x11)]) (H := ⟨0, []⟩) rfl rfl rfl rfl rfl (astep_do rfl (ex_call0 (vs := [(Value.agg (c_api_Block x5).toArray)]) (v := (S x15)) rfl en_12 (cargs (evs rfl evs_nil)) rfl (ok_block_Put x5 x15 hx15) rfl))) (dcons (dstep1 (Tm := [(108, (I (w64 (14 + (x6.toNat : Int))))), (110, (S x15))]) (L := [(c_api_Block x4), (c_api_Block x5), (c_api_Dev x10.1), (c_api_Ptr x11)]) (H := ⟨0, []⟩) rfl rfl rfl rfl rfl (astep_do rfl (ex_build (qs := [(0, (I (w64 (14 + (x6.toNat : Int))))), (1, (S x15))]) (v := (Value.agg (c_api_Put (G_api_Put.mk (w64 (14 + (x6.toNat : Int))) x15)).toArray)) (evp rfl (evp rfl evp_nil)) (by kernel_rfl)))) (dcons (dstep1 (Tm := [(111, (Value.agg (c_api_Put (G_api_Put.mk (w64 (14 + (x6.toNat : Int))) x15)).toArray))]) (L := [(c_api_Block x4), (c_api_Block x5), (c_api_Dev x10.1), (c_api_Ptr x11)]) (H := ⟨0, []⟩) rfl rfl rfl rfl rfl (astep_do rfl (ex_buildSliceD (qs := [(0, (Value.agg (c_api_Put (G_api_Put.mk (w64 (14 + (x6.toNat : Int))) x15)).toArray))]) (cells := (([(G_api_Put.mk (w64 (14 + (x6.toNat : Int))) x15)] : List G_api_Put).flatMap c_api_Put)) Try.underlying38 s_45 (by decide) (evp rfl evp_nil) rfl (by kernel_rfl) (by kernel_rfl) (by kernel_rfl)))) (dcons (dstep1 (Tm := [(107, (Value.agg (c_api_Dev x10.1).toArray)), (112, (SL 2 c_api_Put ([(G_api_Put.mk (w64 (14 + (x6.toNat : Int))) x15)] : List G_api_Put)))]) (L := [(c_api_Block x4), (c_api_Block x5), (c_api_Dev x10.1), (c_api_Ptr x11)]) (H := ⟨0, []⟩) rfl rfl rfl rfl rfl (astep_do rfl (ex_call0 (vs := [(Value.agg (c_api_Dev x10.1).toArray), (SL 2 c_api_Put ([(G_api_Put.mk (w64 (14 + (x6.toNat : Int))) x15)] : List G_api_Put))]) (v := (Value.tuple #[(Value.agg (c_api_Dev x16.1).toArray), (Bo x16.2)])) rfl en_19 (cargs (evs rfl (evs rfl evs_nil))) rfl (ok_ref1_Write x10.1 ([(G_api_Put.mk (w64 (14 + (x6.toNat : Int))) x15)] : List G_api_Put) x16 hx16) rfl))) (dcons (dstep1 (Tm := [(113, (Value.tuple #[(Value.agg (c_api_Dev x16.1).toArray), (Bo x16.2)]))]) (L := [(c_api_Block x4), (c_api_Block x5), (c_api_Dev x10.1), (c_api_Ptr x11)]) (H := ⟨0, []⟩) rfl rfl rfl rfl rfl (astep_do rfl (ex_move (eV (v := (Value.tuple #[(Value.agg (c_api_Dev x16.1).toArray), (Bo x16.2)])) rfl)))) (dcons (dstep1 (Tm := [(106, (Value.tuple #[(Value.agg (c_api_Dev x16.1).toArray), (Bo x16.2)]))]) (L := [(c_api_Block x4), (c_api_Block x5), (c_api_Dev x10.1), (c_api_Ptr x11)]) (H := ⟨0, []⟩) rfl rfl rfl rfl rfl (astep_do rfl (ex_extract (vx := (Value.tuple #[(Value.agg (c_api_Dev x16.1).toArray), (Bo x16.2)])) (v := (Value.agg (c_api_Dev x16.1).toArray)) rfl rfl))) (dcons (dstepN (by intro k hk; simp only [List.mem_cons, List.not_mem_nil, or_false] at hk; rcases hk with rfl | rfl <;> exact ⟨[(106, (Value.tuple #[(Value.agg (c_api_Dev x16.1).toArray), (Bo x16.2)]))], _, _, _, _, _, rfl, rfl, rfl, rfl, astep_do rfl (ex_extract (vx := (Value.tuple #[(Value.agg (c_api_Dev x16.1).toArray), (Bo x16.2)])) (v := (Bo x16.2)) rfl rfl)⟩)) (dcons (dstep1 (Tm := [(18, (LP 2 0)), (114, (Value.agg (c_api_Dev x16.1).toArray))]) (L := [(c_api_Block x4), (c_api_Block x5), (c_api_Dev x10.1), (c_api_Ptr x11)]) (H := ⟨0, []⟩) rfl rfl rfl rfl rfl (astep_do rfl (ex_storeL (vy := (Value.agg (c_api_Dev x16.1).toArray)) (cs := (c_api_Dev x10.1)) (vs := (c_api_Dev x16.1)) (L' := [(c_api_Block x4), (c_api_Block x5), (c_api_Dev x16.1), (c_api_Ptr x11)]) rfl (eV (v := (Value.agg (c_api_Dev x16.1).toArray)) rfl) rfl s_40 rfl (Nat.le_of_ble_eq_true rfl) (by kernel_rfl)))) dnil))))))))))) ⟨rfl, rfl⟩) (by kernel_rfl) (by kernel_rfl) ?_
      show AWp _ _ _ _
      refine awp_seq ?_
      refine awp_region ?_
      refine arun_do rfl rfl rfl (tx_ldLA (vs := (c_api_Dev x16.1)) Try.underlying40 rfl s_40 (by decide) rfl rfl rfl rfl) ?_
      refine arun_do rfl rfl rfl (ex_move (eV (v := (U8 t6)) rfl)) ?_
      obtain ⟨x17, hx17, h⟩ := bindS h
      refine arun_do rfl rfl rfl (ex_bin (vx := (U8 t6)) (vy := (U8 4)) rfl rfl (rem8_ok hx17)) ?_
      refine arun_do rfl rfl rfl (tx_8_64 Try.underlying5 Try.underlying3 rfl) ?_
      refine arun_do rfl rfl rfl (ex_buildSliceD (qs := [(0, (I (x17.toNat : Int)))]) (cells := (([(x17.toNat : Int)] : List Int).flatMap cI)) Try.underlying48 s_3 (by decide) (evp rfl evp_nil) rfl (by kernel_rfl) (by kernel_rfl) (by kernel_rfl)) ?_
      obtain ⟨x18, hx18, h⟩ := bindS h
      refine arun_do rfl rfl rfl (ex_call0 (vs := [(Value.agg (c_api_Dev x16.1).toArray), (SL 1 cI ([(x17.toNat : Int)] : List Int))]) (v := (Value.agg (c_api_Dev x18).toArray)) rfl en_24 (cargs (evs rfl (evs rfl evs_nil))) rfl (ok_ref1_Crash x16.1 ([(x17.toNat : Int)] : List Int) x18 hx18) rfl) ?_
      refine arun_do0 rfl rfl (ex_storeL (vy := (Value.agg (c_api_Dev x18).toArray)) (cs := (c_api_Dev x16.1)) (vs := (c_api_Dev x18)) (L' := [(c_api_Block x4), (c_api_Block x5), (c_api_Dev x18), (c_api_Ptr x11)]) rfl (eV (v := (Value.agg (c_api_Dev x18).toArray)) rfl) rfl s_40 rfl (Nat.le_of_ble_eq_true rfl) (by kernel_rfl)) ?_
      refine arun_keepE [15, 17, 18, 20, 21, 22, 25, 27] 4 0 (st' := ⟨180, 0, [(15, (LP 0 0)), (17, (I (w64 (14 + (x6.toNat : Int))))), (18, (LP 2 0)), (20, (LP 3 0)), (21, (S x12.1)), (22, (Bo x12.2)), (25, (Bo x13.2)), (27, (Bo x14.2))], [(c_api_Block x4), (c_api_Block x5), (c_api_Dev x18), (c_api_Ptr x11)], ⟨0, []⟩⟩) (by kernel_rfl) (by kernel_rfl) ?_
      show AWp _ _ _ _
      refine awp_seq ?_
      refine awp_region ?_
      refine arun_do rfl rfl rfl (tx_ldLA (vs := (c_api_Dev x18)) Try.underlying40 rfl s_40 (by decide) rfl rfl rfl rfl) ?_
      refine arun_do rfl rfl rfl (ex_move (eV (v := (I (w64 (14 + (x6.toNat : Int))))) rfl)) ?_
      obtain ⟨x19, hx19, h⟩ := bindS h
      refine arun_do rfl rfl rfl (ex_call0 (vs := [(Value.agg (c_api_Dev x18).toArray), (I (w64 (14 + (x6.toNat : Int))))]) (v := (Value.tuple #[(S x19.1), (Bo x19.2)])) rfl en_25 (cargs (evs rfl (evs rfl evs_nil))) rfl (ok_ref1_Read x18 (w64 (14 + (x6.toNat : Int))) x19 hx19) rfl) ?_
      refine arun_do rfl rfl rfl (ex_move (eV (v := (Value.tuple #[(S x19.1), (Bo x19.2)])) rfl)) ?_
      refine arun_do rfl rfl rfl (ex_extract (vx := (Value.tuple #[(S x19.1), (Bo x19.2)])) (v := (S x19.1)) rfl rfl) ?_
      refine arun_do rfl rfl rfl (ex_extract (vx := (Value.tuple #[(S x19.1), (Bo x19.2)])) (v := (Bo x19.2)) rfl rfl) ?_
      refine arun_do rfl rfl rfl (ex_assign (eV (v := (S x19.1)) rfl)) ?_
      refine arun_do rfl rfl rfl (ex_assign (eV (v := (Bo x19.2)) rfl)) ?_
      refine arun_keepE [15, 18, 20, 21, 22, 25, 27, 28] 4 0 (st' := ⟨180, 0, [(15, (LP 0 0)), (18, (LP 2 0)), (20, (LP 3 0)), (21, (S x12.1)), (22, (Bo x12.2)), (25, (Bo x13.2)), (27, (Bo x14.2)), (28, (S x19.1))], [(c_api_Block x4), (c_api_Block x5), (c_api_Dev x18), (c_api_Ptr x11)], ⟨0, []⟩⟩) (by kernel_rfl) (by kernel_rfl) ?_
      show AWp _ _ _ _
      refine awp_seq ?_
      refine awp_region ?_
      refine arun_do rfl rfl rfl (tx_ldLA (vs := (c_api_Dev x18)) Try.underlying40 rfl s_40 (by decide) rfl rfl rfl rfl) ?_
      refine arun_do rfl rfl rfl (tx_ldLA (vs := (c_api_Ptr x11)) Try.underlying32 rfl s_32 (by decide) rfl rfl rfl rfl) ?_
      refine arun_do rfl rfl rfl (ex_fieldAddr (v := (LP 0 0)) Try.underlying23 rfl s_3 (by decide) rfl rfl) ?_
      refine arun_do rfl rfl rfl (tx_ldL1 (v := (I x4.Kind)) Try.underlying3 rfl rfl rfl rfl) ?_
      obtain ⟨x20, hx20, h⟩ := bindS h
      refine arun_do rfl rfl rfl (ex_call0 (vs := [(Value.agg (c_api_Dev x18).toArray), (Value.agg (c_api_Ptr x11).toArray), (I x4.Kind)]) (v := (Value.tuple #[(S x20.1), (Bo x20.2)])) rfl en_21 (cargs (evs rfl (evs rfl (evs rfl evs_nil)))) rfl (ok_block_Read x18 x11 x4.Kind x20 hx20) rfl) ?_
      refine arun_do rfl rfl rfl (ex_move (eV (v := (Value.tuple #[(S x20.1), (Bo x20.2)])) rfl)) ?_
      refine arun_do rfl rfl rfl (ex_extract (vx := (Value.tuple #[(S x20.1), (Bo x20.2)])) (v := (S x20.1)) rfl rfl) ?_
      refine arun_do rfl rfl rfl (ex_extract (vx := (Value.tuple #[(S x20.1), (Bo x20.2)])) (v := (Bo x20.2)) rfl rfl) ?_
      refine arun_do rfl rfl rfl (ex_assign (eV (v := (S x20.1)) rfl)) ?_
      refine arun_do rfl rfl rfl (ex_assign (eV (v := (Bo x20.2)) rfl)) ?_
      refine arun_keepE [15, 20, 21, 22, 25, 27, 28, 30, 31] 4 0 (st' := ⟨180, 0, [(15, (LP 0 0)), (20, (LP 3 0)), (21, (S x12.1)), (22, (Bo x12.2)), (25, (Bo x13.2)), (27, (Bo x14.2)), (28, (S x19.1)), (30, (S x20.1)), (31, (Bo x20.2))], [(c_api_Block x4), (c_api_Block x5), (c_api_Dev x18), (c_api_Ptr x11)], ⟨0, []⟩⟩) (by kernel_rfl) (by kernel_rfl) ?_
      show AWp _ _ _ _
      refine awp_seq ?_
      refine awp_seq ?_
      obtain ⟨x21, hx21, h⟩ := bindS h
      obtain ⟨x22, hx22, h⟩ := bindS h
      refine awp_kn [15, 21, 22, 25, 27, 28, 30, 31, 146] 1 0 (st' := ⟨180, 0, [(15, (LP 0 0)), (21, (S x12.1)), (22, (Bo x12.2)), (25, (Bo x13.2)), (27, (Bo x14.2)), (28, (S x19.1)), (30, (S x20.1)), (31, (Bo x20.2)), (146, (Bo ((decide (x21 = x11.Sum)) && (x19.1 != x22))))], [(c_api_Block x4)], ⟨0, []⟩⟩) (awp_draw (T := [(S x19.1), (Value.agg ((cA4 c32) x21).toArray), (LP 3 2), (Value.agg ((cA4 c32) x11.Sum).toArray), (Bo (decide (x21 = x11.Sum))), (Bo (decide (x21 = x11.Sum))), (cond ((decide (x21 = x11.Sum)) == true) (S x19.1) skipV), (cond ((decide (x21 = x11.Sum)) == true) (Value.agg (c_api_Block x4).toArray) skipV), (cond ((decide (x21 = x11.Sum)) == true) (S x22) skipV), (cond ((decide (x21 = x11.Sum)) == true) (Bo (x19.1 != x22)) skipV), (Bo ((decide (x21 = x11.Sum)) && (x19.1 != x22)))]) (LH := [([(c_api_Block x4), (c_api_Block x5), (c_api_Dev x18), (c_api_Ptr x11)], ⟨0, []⟩)]) (D := [⟨[(28, none)], [], [0], false⟩, ⟨[(136, some 0)], [0], [0], false⟩, ⟨[(20, none)], [], [0], false⟩, ⟨[(138, some 2)], [2], [0], false⟩, ⟨[(137, some 1), (139, some 3)], [0, 1, 2, 3], [0], false⟩, ⟨[(140, some 4)], [0, 1, 2, 3, 4], [0], false⟩, ⟨[(28, none), (141, some 5)], [0, 1, 2, 3, 4, 5], [0], false⟩, ⟨[(15, none), (141, some 5)], [0, 1, 2, 3, 4, 5], [0], false⟩, ⟨[(143, some 7), (141, some 5)], [0, 1, 2, 3, 4, 5, 7], [0], false⟩, ⟨[(142, some 6), (144, some 8), (141, some 5)], [0, 1, 2, 3, 4, 5, 6, 7, 8], [0], false⟩, ⟨[(141, some 5), (145, some 9)], [0, 1, 2, 3, 4, 5, 6, 7, 8, 9], [0], false⟩]) (S := []) (plan := [0, 1, 2, 3, 4, 5, 6, 7, 8, 9, 10]) mo (by kernel_rfl) rfl rfl rfl (dcons (dstep1 (Tm := [(28, (S x19.1))]) (L := [(c_api_Block x4), (c_api_Block x5), (c_api_Dev x18), (c_api_Ptr x11)]) (H := ⟨0, []⟩) rfl rfl rfl rfl rfl (astep_do rfl (ex_move (eV (v := (S x19.1)) rfl)))) (dcons (dstep1 (Tm := [(136, (S x19.1))]) (L := [(c_api_Block x4), (c_api_Block x5), (c_api_Dev x18), (c_api_Ptr x11)]) (H := ⟨0, []⟩) rfl rfl rfl rfl rfl (astep_do rfl (ex_call0 (vs := [(S x19.1)]) (v := (Value.agg ((cA4 c32) x21).toArray)) rfl en_26 (cargs (evs rfl evs_nil)) rfl (ok_ref1_Of x19.1 x21 hx21) rfl))) (dcons (dstep1 (Tm := [(20, (LP 3 0))]) (L := [(c_api_Block x4), (c_api_Block x5), (c_api_Dev x18), (c_api_Ptr x11)]) (H := ⟨0, []⟩) rfl rfl rfl rfl rfl (astep_do rfl (ex_fieldAddr (v := (LP 3 2)) Try.underlying32 rfl s_30 (by decide) rfl rfl))) (dcons (dstep1 (Tm := [(138, (LP 3 2))]) (L := [(c_api_Block x4), (c_api_Block x5), (c_api_Dev x18), (c_api_Ptr x11)]) (H := ⟨0, []⟩) rfl rfl rfl rfl rfl (astep_do rfl (tx_ldLA (vs := ((cA4 c32) x11.Sum)) Try.underlying30 rfl s_30 (by decide) rfl rfl rfl rfl))) (dcons (dstep1 (Tm := [(137, (Value.agg ((cA4 c32) x21).toArray)), (139, (Value.agg ((cA4 c32) x11.Sum).toArray))]) (L := [(c_api_Block x4), (c_api_Block x5), (c_api_Dev x18), (c_api_Ptr x11)]) (H := ⟨0, []⟩) rfl rfl rfl rfl rfl (astep_do rfl (ex_bin (vx := (Value.agg ((cA4 c32) x21).toArray)) (vy := (Value.agg ((cA4 c32) x11.Sum).toArray)) rfl rfl eql_30))) (dcons (dstep1 (Tm := [(140, (Bo (decide (x21 = x11.Sum))))]) (L := [(c_api_Block x4), (c_api_Block x5), (c_api_Dev x18), (c_api_Ptr x11)]) (H := ⟨0, []⟩) rfl rfl rfl rfl rfl (astep_do rfl (ex_move (eV (v := (Bo (decide (x21 = x11.Sum)))) rfl)))) (dcons (dstep1 (Tm := [(28, (S x19.1)), (141, (Bo (decide (x21 = x11.Sum))))]) (L := [(c_api_Block x4), (c_api_Block x5), (c_api_Dev x18), (c_api_Ptr x11)]) (H := ⟨0, []⟩) rfl rfl rfl rfl rfl (astep_guard (v := (S x19.1)) ((decide (x21 = x11.Sum)) == true) rfl (fun hc => ex_move (eV (v := (S x19.1)) rfl)))) (dcons (dstep1 (Tm := [(15, (LP 0 0)), (141, (Bo (decide (x21 = x11.Sum))))]) (L := [(c_api_Block x4), (c_api_Block x5), (c_api_Dev x18), (c_api_Ptr x11)]) (H := ⟨0, []⟩) rfl rfl rfl rfl rfl (astep_guard (v := (Value.agg (c_api_Block x4).toArray)) ((decide (x21 = x11.Sum)) == true) rfl (fun hc => tx_ldLA (vs := (c_api_Block x4)) Try.underlying23 rfl s_23 (by decide) rfl rfl rfl rfl))) (dcons (dstep1 (Tm := [(143, (cond ((decide (x21 = x11.Sum)) == true) (Value.agg (c_api_Block x4).toArray) skipV)), (141, (Bo (decide (x21 = x11.Sum))))]) (L := [(c_api_Block x4), (c_api_Block x5), (c_api_Dev x18), (c_api_Ptr x11)]) (H := ⟨0, []⟩) rfl rfl rfl rfl rfl (astep_guard (v := (S x22)) ((decide (x21 = x11.Sum)) == true) rfl (fun hc => ex_call0 (vs := [(Value.agg (c_api_Block x4).toArray)]) (v := (S x22)) rfl en_12 (cargs (evs (cond_of hc) evs_nil)) rfl (ok_block_Put x4 x22 (gd_of hc hx22)) rfl))) (dcons (dstep1 (Tm := [(142, (cond ((decide (x21 = x11.Sum)) == true) (S x19.1) skipV)), (144, (cond ((decide (x21 = x11.Sum)) == true) (S x22) skipV)), (141, (Bo (decide (x21 = x11.Sum))))]) (L := [(c_api_Block x4), (c_api_Block x5), (c_api_Dev x18), (c_api_Ptr x11)]) (H := ⟨0, []⟩) rfl rfl rfl rfl rfl (astep_guard (v := (Bo (x19.1 != x22))) ((decide (x21 = x11.Sum)) == true) rfl (fun hc => ex_bin (vx := (S x19.1)) (vy := (S x22)) (cond_of hc) (cond_of hc) neqS_ok))) (dcons (dstep1 (Tm := [(141, (Bo (decide (x21 = x11.Sum)))), (145, (cond ((decide (x21 = x11.Sum)) == true) (Bo (x19.1 != x22)) skipV))]) (L := [(c_api_Block x4), (c_api_Block x5), (c_api_Dev x18), (c_api_Ptr x11)]) (H := ⟨0, []⟩) rfl rfl rfl rfl rfl (astep_do rfl (ex_pick rfl pkAnd))) dnil))))))))))) ⟨rfl, rfl⟩) (by kernel_rfl) (by kernel_rfl) ?_
      show AWp _ _ _ _
      rcases Bool.eq_false_or_eq_true ((decide (x21 = x11.Sum)) && (x19.1 != x22)) with hb23 | hb23
      · rw [condT hb23] at h
        refine awp_condT (boT hb23) ?_
        refine awp_seq ?_
        refine awp_region ?_
        refine arun_do rfl rfl rfl (ex_assign (eV (v := (Bo true)) rfl)) ?_
        refine arun_keepE [14] 0 0 (st' := ⟨180, 0, [(14, (Bo true))], [], ⟨0, []⟩⟩) (by kernel_rfl) (by kernel_rfl) ?_
        show AWp _ _ _ _
        refine awp_ret ?_
        cases h
        exact ares1 (rtmp rfl (eV rfl))
      · rw [condF hb23] at h
        refine awp_condF (boF hb23) ?_
        refine awp_skip ?_
        show AWp _ _ _ _
        refine awp_seq ?_
        refine awp_region ?_
        refine arun_do rfl rfl rfl (ex_move (eV (v := (Bo x12.2)) rfl)) ?_
        refine arun_do rfl rfl rfl (ex_move (eV (v := (Bo x12.2)) rfl)) ?_
        refine arun_guard (v := (S x12.1)) (x12.2 == true) rfl rfl rfl (fun hc => ex_move (eV (v := (S x12.1)) rfl)) ?_
        refine arun_guard (v := (LP 0 2)) (x12.2 == true) rfl rfl rfl (fun hc => ex_fieldAddr (v := (LP 0 2)) Try.underlying23 rfl s_9 (by decide) rfl rfl) ?_
        refine arun_guard (v := (S x4.Load)) (x12.2 == true) rfl rfl rfl (fun hc => tx_ldL1 (v := (S x4.Load)) Try.underlying9 rfl (cond_of hc) rfl rfl) ?_
        refine arun_guard (v := (Bo (x12.1 == x4.Load))) (x12.2 == true) rfl rfl rfl (fun hc => ex_bin (vx := (S x12.1)) (vy := (S x4.Load)) (cond_of hc) (cond_of hc) eqlS_ok) ?_
        refine arun_do rfl rfl rfl (ex_pick rfl pkAnd) ?_
        refine arun_do rfl rfl rfl (ex_move (eV (v := (Bo (x12.2 && (x12.1 == x4.Load)))) rfl)) ?_
        refine arun_guard (v := (Bo x13.2)) ((x12.2 && (x12.1 == x4.Load)) == true) rfl rfl rfl (fun hc => ex_move (eV (v := (Bo x13.2)) rfl)) ?_
        refine arun_guard (v := (Bo (!x13.2))) ((x12.2 && (x12.1 == x4.Load)) == true) rfl rfl rfl (fun hc => ex_un (vx := (Bo x13.2)) (cond_of hc) notB_ok) ?_
        refine arun_do rfl rfl rfl (ex_pick rfl pkAnd) ?_
        refine arun_do rfl rfl rfl (ex_move (eV (v := (Bo ((x12.2 && (x12.1 == x4.Load)) && (!x13.2)))) rfl)) ?_
        refine arun_guard (v := (Bo x14.2)) (((x12.2 && (x12.1 == x4.Load)) && (!x13.2)) == true) rfl rfl rfl (fun hc => ex_move (eV (v := (Bo x14.2)) rfl)) ?_
        refine arun_guard (v := (Bo (!x14.2))) (((x12.2 && (x12.1 == x4.Load)) && (!x13.2)) == true) rfl rfl rfl (fun hc => ex_un (vx := (Bo x14.2)) (cond_of hc) notB_ok) ?_
        refine arun_do rfl rfl rfl (ex_pick rfl pkAnd) ?_
        refine arun_do rfl rfl rfl (ex_move (eV (v := (Bo (((x12.2 && (x12.1 == x4.Load)) && (!x13.2)) && (!x14.2)))) rfl)) ?_
        refine arun_guard (v := (Bo x20.2)) ((((x12.2 && (x12.1 == x4.Load)) && (!x13.2)) && (!x14.2)) == true) rfl rfl rfl (fun hc => ex_move (eV (v := (Bo x20.2)) rfl)) ?_
        refine arun_guard (v := (S x19.1)) ((((x12.2 && (x12.1 == x4.Load)) && (!x13.2)) && (!x14.2)) == true) rfl rfl rfl (fun hc => ex_move (eV (v := (S x19.1)) rfl)) ?_
        refine arun_guard (v := (Value.agg (c_api_Block x4).toArray)) ((((x12.2 && (x12.1 == x4.Load)) && (!x13.2)) && (!x14.2)) == true) rfl rfl rfl (fun hc => tx_ldLA (vs := (c_api_Block x4)) Try.underlying23 rfl s_23 (by decide) rfl rfl rfl rfl) ?_
        obtain ⟨x24, hx24, h⟩ := bindS h
        refine arun_guard (v := (S x24)) ((((x12.2 && (x12.1 == x4.Load)) && (!x13.2)) && (!x14.2)) == true) rfl rfl rfl (fun hc => ex_call0 (vs := [(Value.agg (c_api_Block x4).toArray)]) (v := (S x24)) rfl en_12 (cargs (evs (cond_of hc) evs_nil)) rfl (ok_block_Put x4 x24 (gd_of hc hx24)) rfl) ?_
        refine arun_guard (v := (Bo (x19.1 == x24))) ((((x12.2 && (x12.1 == x4.Load)) && (!x13.2)) && (!x14.2)) == true) rfl rfl rfl (fun hc => ex_bin (vx := (S x19.1)) (vy := (S x24)) (cond_of hc) (cond_of hc) eqlS_ok) ?_
        refine arun_guard (v := (Bo (x20.2 == (x19.1 == x24)))) ((((x12.2 && (x12.1 == x4.Load)) && (!x13.2)) && (!x14.2)) == true) rfl rfl rfl (fun hc => ex_bin (vx := (Bo x20.2)) (vy := (Bo (x19.1 == x24))) (cond_of hc) (cond_of hc) (eqlB_ok Try.underlying4)) ?_
        refine arun_do rfl rfl rfl (ex_pick rfl pkAnd) ?_
        refine arun_do rfl rfl rfl (ex_move (eV (v := (Bo ((((x12.2 && (x12.1 == x4.Load)) && (!x13.2)) && (!x14.2)) && (x20.2 == (x19.1 == x24))))) rfl)) ?_
        refine arun_guard (v := (Bo x20.2)) (((((x12.2 && (x12.1 == x4.Load)) && (!x13.2)) && (!x14.2)) && (x20.2 == (x19.1 == x24))) == true) rfl rfl rfl (fun hc => ex_move (eV (v := (Bo x20.2)) rfl)) ?_
        refine arun_guard (v := (Bo (!x20.2))) (((((x12.2 && (x12.1 == x4.Load)) && (!x13.2)) && (!x14.2)) && (x20.2 == (x19.1 == x24))) == true) rfl rfl rfl (fun hc => ex_un (vx := (Bo x20.2)) (cond_of hc) notB_ok) ?_
        refine arun_guard (v := (Bo (!x20.2))) (((((x12.2 && (x12.1 == x4.Load)) && (!x13.2)) && (!x14.2)) && (x20.2 == (x19.1 == x24))) == true) rfl rfl rfl (fun hc => ex_move (eV (v := (Bo (!x20.2))) (cond_of hc))) ?_
        refine arun_guard (v := (S x20.1)) ((((((x12.2 && (x12.1 == x4.Load)) && (!x13.2)) && (!x14.2)) && (x20.2 == (x19.1 == x24))) == true) && ((!x20.2) == false)) rfl rfl gv_nest (fun hc => ex_move (eV (v := (S x20.1)) rfl)) ?_
        refine arun_guard (v := (LP 0 2)) ((((((x12.2 && (x12.1 == x4.Load)) && (!x13.2)) && (!x14.2)) && (x20.2 == (x19.1 == x24))) == true) && ((!x20.2) == false)) rfl rfl gv_nest (fun hc => ex_fieldAddr (v := (LP 0 2)) Try.underlying23 rfl s_9 (by decide) rfl rfl) ?_
        refine arun_guard (v := (S x4.Load)) ((((((x12.2 && (x12.1 == x4.Load)) && (!x13.2)) && (!x14.2)) && (x20.2 == (x19.1 == x24))) == true) && ((!x20.2) == false)) rfl rfl gv_nest (fun hc => tx_ldL1 (v := (S x4.Load)) Try.underlying9 rfl (cond_of hc) rfl rfl) ?_
        refine arun_guard (v := (Bo (x20.1 == x4.Load))) ((((((x12.2 && (x12.1 == x4.Load)) && (!x13.2)) && (!x14.2)) && (x20.2 == (x19.1 == x24))) == true) && ((!x20.2) == false)) rfl rfl gv_nest (fun hc => ex_bin (vx := (S x20.1)) (vy := (S x4.Load)) (cond_of hc) (cond_of hc) eqlS_ok) ?_
        refine arun_guard (v := (Bo ((!x20.2) || (x20.1 == x4.Load)))) (((((x12.2 && (x12.1 == x4.Load)) && (!x13.2)) && (!x14.2)) && (x20.2 == (x19.1 == x24))) == true) rfl rfl rfl (fun hc => ex_pick (cond_of hc) (pkOrN hc)) ?_
        refine arun_do rfl rfl rfl (ex_pick rfl pkAnd) ?_
        refine arun_do rfl rfl rfl (ex_assign (eV (v := (Bo (((((x12.2 && (x12.1 == x4.Load)) && (!x13.2)) && (!x14.2)) && (x20.2 == (x19.1 == x24))) && ((!x20.2) || (x20.1 == x4.Load))))) rfl)) ?_
        refine arun_keepE [14] 0 0 (st' := ⟨180, 0, [(14, (Bo (((((x12.2 && (x12.1 == x4.Load)) && (!x13.2)) && (!x14.2)) && (x20.2 == (x19.1 == x24))) && ((!x20.2) || (x20.1 == x4.Load)))))], [], ⟨0, []⟩⟩) (by kernel_rfl) (by kernel_rfl) ?_
        show AWp _ _ _ _
        refine awp_ret ?_
        cases h
        exact ares1 (rtmp rfl (eV rfl))

end Go.Proofs
