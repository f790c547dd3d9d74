/- Pure models of functions of the program, and that its code does what they say: palimpref1 Flush, palimpref1 Turn. Written by a program. -/
import Derived.Test.YtmhfodjiefednaaR713
import Derived.Test.YtmhfodjiefednaaR7B
set_option maxRecDepth 20000
set_option maxHeartbeats 4000000
namespace Go.Proofs
open Go Go.Fhl
set_option linter.unusedVariables false
set_option linter.unusedSimpArgs false
noncomputable def M_ref1_Flush_l1 (t0 : GDv) : Nat → Int → List Int → Option (GDv × Bool)
  | 0, _, _ => none
  | n1 + 1, v4, v5 =>
  cond (decide (v4 < ((v5.length : Nat) : Int))) (Option.bind (getI v5 v4) fun (x7 : Int) => Option.bind (setI v5 v4 3) fun (x8 : List Int) => (M_ref1_Flush_l1 t0 n1) (w64 (v4 + 1)) x8) (Option.bind (M_ref1_lasting t0 v5) fun (x9 : (List Str)) => some ((GDv.mk x9 [] t0.Lies t0.Arm t0.Down), true))
noncomputable def M_ref1_Flush (t0 : GDv) : Option (GDv × Bool) :=
  cond t0.Down (some (t0, false)) (cond (decide (t0.Lies > 0)) (some ((GDv.mk t0.Last t0.Wait (w64 (t0.Lies - 1)) t0.Arm t0.Down), true)) (Option.bind (makeL 8 (t0.Wait.length : Int) 0) fun (x3 : List Int) => M_ref1_Flush_l1 t0 fuel 0 x3))
theorem ok_ref1_Flush (t0 : GDv) (r : (GDv × Bool)) (h : M_ref1_Flush t0 = some r) : FFn Try.prog 22 [(Value.agg (cDv t0).toArray)] (Value.tuple #[(Value.agg (cDv r.1).toArray), (Bo r.2)]) := by
  refine FFn.of_body (n := 36) Try.func22 rfl Try.ntmps22 rfl rfl rfl rfl ?_
  show AWp _ _ _ ⟨36, 0, [(0, (Value.agg (cDv t0).toArray))], [], ⟨0, []⟩⟩
  unfold M_ref1_Flush at h
  refine aws ?_
  refine awr ?_
  refine ado rfl rfl rfl (ex_box (vx := (Value.agg (cDv t0).toArray)) (cs := (cDv t0)) (k := 0) (L' := [(cDv t0)]) (eV (v := (Value.agg (cDv t0).toArray)) rfl) rfl rfl rfl) ?_
  refine ado rfl rfl rfl (ex_allocW (k := 1) (zs := (cDv (GDv.mk [] [] 0 0 false))) (L' := [(cDv t0), (cDv (GDv.mk [] [] 0 0 false))]) z_29 rfl (by repeat (first | exact trivial | refine ⟨.inl rfl, ?_⟩ | refine ⟨.inr ⟨rfl, _, rfl⟩, ?_⟩)) rfl rfl) ?_
  refine ado rfl rfl rfl (eas (eV (v := (Bo false)) rfl)) ?_
  refine ake [1, 2] 2 0 (st' := ⟨36, 0, [(1, (LP 0 0)), (2, (LP 1 0))], [(cDv t0), (cDv (GDv.mk [] [] 0 0 false))], ⟨0, []⟩⟩) (by kernel_rfl) (by kernel_rfl) ?_
  show AWp _ _ _ _
  refine aws ?_
  refine aws ?_
  refine awr ?_
  refine ado rfl rfl rfl (efa (v := (LP 0 4)) Try.underlying29 rfl s_4 (by decide) rfl rfl) ?_
  refine ado rfl rfl rfl (tx_ldL1 (v := (Bo t0.Down)) Try.underlying4 rfl rfl rfl rfl) ?_
  refine ake [1, 2, 7] 2 0 (st' := ⟨36, 0, [(1, (LP 0 0)), (2, (LP 1 0)), (7, (Bo t0.Down))], [(cDv t0), (cDv (GDv.mk [] [] 0 0 false))], ⟨0, []⟩⟩) (by kernel_rfl) (by kernel_rfl) ?_
  show AWp _ _ _ _
  rcases Bool.eq_false_or_eq_true t0.Down with hb1 | hb1
  · rw [condT hb1] at h
    refine awp_condT (boT hb1) ?_
    refine aws ?_
    refine awr ?_
    refine ado rfl rfl rfl (tx_ldLA (vs := (cDv t0)) Try.underlying29 rfl s_29 (by decide) rfl rfl rfl rfl) ?_
    refine arun_do0 rfl rfl (ex_storeL (vy := (Value.agg (cDv t0).toArray)) (cs := (cDv (GDv.mk [] [] 0 0 false))) (vs := (cDv t0)) (L' := [(cDv t0), (cDv t0)]) rfl (eV (v := (Value.agg (cDv t0).toArray)) rfl) rfl s_29 rfl (Nat.le_of_ble_eq_true rfl) (by kernel_rfl)) ?_
    refine ado rfl rfl rfl (eas (eV (v := (Bo false)) rfl)) ?_
    refine ake [2, 3] 2 0 (st' := ⟨36, 0, [(2, (LP 1 0)), (3, (Bo false))], [(cDv t0), (cDv t0)], ⟨0, []⟩⟩) (by kernel_rfl) (by kernel_rfl) ?_
    show AWp _ _ _ _
    refine awp_ret ?_
    cases h
    exact aresN rfl (L2.cons (rcellL rfl rfl rfl (partA Try.underlying29 rfl s_29 (by decide) (Nat.le_of_ble_eq_true rfl) rfl)) (L2.cons (rtmp rfl (eV rfl)) L2.nil)) rfl
  · rw [condF hb1] at h
    refine awp_condF (boF hb1) ?_
    refine awp_skip ?_
    show AWp _ _ _ _
    refine aws ?_
    refine aws ?_
    refine awr ?_
    refine ado rfl rfl rfl (efa (v := (LP 0 2)) Try.underlying29 rfl s_3 (by decide) rfl rfl) ?_
    refine ado rfl rfl rfl (tx_ldL1 (v := (I t0.Lies)) Try.underlying3 rfl rfl rfl rfl) ?_
    refine ado rfl rfl rfl (ex_bin (vx := (I t0.Lies)) (vy := (I 0)) rfl rfl gtrI_ok) ?_
    refine ake [1, 2, 11] 2 0 (st' := ⟨36, 0, [(1, (LP 0 0)), (2, (LP 1 0)), (11, (Bo (decide (t0.Lies > 0))))], [(cDv t0), (cDv (GDv.mk [] [] 0 0 false))], ⟨0, []⟩⟩) (by kernel_rfl) (by kernel_rfl) ?_
    show AWp _ _ _ _
    rcases Bool.eq_false_or_eq_true (decide (t0.Lies > 0)) with hb2 | hb2
    · rw [condT hb2] at h
      refine awp_condT (boT hb2) ?_
      refine aws ?_
      refine awr ?_
      refine ado rfl rfl rfl (efa (v := (LP 0 2)) Try.underlying29 rfl s_3 (by decide) rfl rfl) ?_
      refine ado rfl rfl rfl (tx_ldL1 (v := (I t0.Lies)) Try.underlying3 rfl rfl rfl rfl) ?_
      refine ado rfl rfl rfl (ex_bin (vx := (I t0.Lies)) (vy := (I 1)) rfl rfl subI_ok) ?_
      refine ado rfl rfl rfl (efa (v := (LP 0 2)) Try.underlying29 rfl s_3 (by decide) rfl rfl) ?_
      refine arun_do0 rfl rfl (ex_storeL (vy := (I (w64 (t0.Lies - 1)))) (cs := (cDv t0)) (vs := [(I (w64 (t0.Lies - 1)))]) (L' := [(cDv (GDv.mk t0.Last t0.Wait (w64 (t0.Lies - 1)) t0.Arm t0.Down)), (cDv (GDv.mk [] [] 0 0 false))]) rfl (eV (v := (I (w64 (t0.Lies - 1)))) rfl) rfl s_3 rfl (Nat.le_of_ble_eq_true rfl) (by kernel_rfl)) ?_
      refine ake [1, 2] 2 0 (st' := ⟨36, 0, [(1, (LP 0 0)), (2, (LP 1 0))], [(cDv (GDv.mk t0.Last t0.Wait (w64 (t0.Lies - 1)) t0.Arm t0.Down)), (cDv (GDv.mk [] [] 0 0 false))], ⟨0, []⟩⟩) (by kernel_rfl) (by kernel_rfl) ?_
      show AWp _ _ _ _
      refine aws ?_
      refine awr ?_
      refine ado rfl rfl rfl (tx_ldLA (vs := (cDv (GDv.mk t0.Last t0.Wait (w64 (t0.Lies - 1)) t0.Arm t0.Down))) Try.underlying29 rfl s_29 (by decide) rfl rfl rfl rfl) ?_
      refine arun_do0 rfl rfl (ex_storeL (vy := (Value.agg (cDv (GDv.mk t0.Last t0.Wait (w64 (t0.Lies - 1)) t0.Arm t0.Down)).toArray)) (cs := (cDv (GDv.mk [] [] 0 0 false))) (vs := (cDv (GDv.mk t0.Last t0.Wait (w64 (t0.Lies - 1)) t0.Arm t0.Down))) (L' := [(cDv (GDv.mk t0.Last t0.Wait (w64 (t0.Lies - 1)) t0.Arm t0.Down)), (cDv (GDv.mk t0.Last t0.Wait (w64 (t0.Lies - 1)) t0.Arm t0.Down))]) rfl (eV (v := (Value.agg (cDv (GDv.mk t0.Last t0.Wait (w64 (t0.Lies - 1)) t0.Arm t0.Down)).toArray)) rfl) rfl s_29 rfl (Nat.le_of_ble_eq_true rfl) (by kernel_rfl)) ?_
      refine ado rfl rfl rfl (eas (eV (v := (Bo true)) rfl)) ?_
      refine ake [2, 3] 2 0 (st' := ⟨36, 0, [(2, (LP 1 0)), (3, (Bo true))], [(cDv (GDv.mk t0.Last t0.Wait (w64 (t0.Lies - 1)) t0.Arm t0.Down)), (cDv (GDv.mk t0.Last t0.Wait (w64 (t0.Lies - 1)) t0.Arm t0.Down))], ⟨0, []⟩⟩) (by kernel_rfl) (by kernel_rfl) ?_
      show AWp _ _ _ _
      refine awp_ret ?_
      cases h
      exact aresN rfl (L2.cons (rcellL rfl rfl rfl (partA Try.underlying29 rfl s_29 (by decide) (Nat.le_of_ble_eq_true rfl) rfl)) (L2.cons (rtmp rfl (eV rfl)) L2.nil)) rfl
    · rw [condF hb2] at h
      refine awp_condF (boF hb2) ?_
      refine awp_skip ?_
      show AWp _ _ _ _
      refine aws ?_
      refine awr ?_
      refine ado rfl rfl rfl (efa (v := (LP 0 1)) Try.underlying29 rfl s_27 (by decide) rfl rfl) ?_
      refine ado rfl rfl rfl (tx_ldL1 (v := (SL 2 cPu t0.Wait)) Try.underlying27 rfl rfl rfl rfl) ?_
      refine ado rfl rfl rfl (tx_lenD (xs := t0.Wait) ce_api_Put Try.underlying27 rfl) ?_
      obtain ⟨x3, hx3, h⟩ := bindS h
      refine ado rfl rfl rfl (tx_make (c := cI) (e := 0) (k := 0) (H' := ⟨1, [(0, ⟨1, ((x3).flatMap cI), false⟩)]⟩) ceI Try.underlying59 s_3 b_3 z_3 rfl rfl (by decide) rfl rfl hx3 rfl rfl) ?_
      refine ado rfl rfl rfl (eas (eV (v := (FV 0 x3.length)) rfl)) ?_
      refine ake [1, 2, 4] 2 1 (st' := ⟨36, 0, [(1, (LP 0 0)), (2, (LP 1 0)), (4, (FV 0 x3.length))], [(cDv t0), (cDv (GDv.mk [] [] 0 0 false))], ⟨1, [(0, ⟨1, ((x3).flatMap cI), false⟩)]⟩⟩) (by kernel_rfl) (by kernel_rfl) ?_
      show AWp _ _ _ _
      refine aws ?_
      refine aws ?_
      refine awr ?_
      refine ado rfl rfl rfl (eas (eV (v := (I 0)) rfl)) ?_
      refine ake [1, 2, 4, 5] 2 1 (st' := ⟨36, 0, [(1, (LP 0 0)), (2, (LP 1 0)), (4, (FV 0 x3.length)), (5, (I 0))], [(cDv t0), (cDv (GDv.mk [] [] 0 0 false))], ⟨1, [(0, ⟨1, ((x3).flatMap cI), false⟩)]⟩⟩) (by kernel_rfl) (by kernel_rfl) ?_
      show AWp _ _ _ _
      refine awp_block ?_
      refine awp_loop (fun n s => ∃ (v4 : Int) (v5 : List Int), s = ⟨36, 0, [(1, (LP 0 0)), (2, (LP 1 0)), (4, (FV 0 v5.length)), (5, (I v4))], [(cDv t0), (cDv (GDv.mk [] [] 0 0 false))], ⟨1, [(0, ⟨1, ((v5).flatMap cI), false⟩)]⟩⟩ ∧ M_ref1_Flush_l1 t0 n v4 v5 = some r) fuel (Exists.intro 0 (Exists.intro x3 (And.intro rfl h))) ?_
      rintro n s ⟨v4, v5, rfl, h⟩ -
      cases n with
      | zero => cases h
      | succ n1 =>
        unfold M_ref1_Flush_l1 at h
        refine aws ?_
        refine aws ?_
        refine awr ?_
        refine ado rfl rfl rfl (emv (eV (v := (I v4)) rfl)) ?_
        refine ado rfl rfl rfl (emv (eV (v := (FV 0 v5.length)) rfl)) ?_
        refine ado rfl rfl rfl (ex_lenN (n := v5.length) Try.underlying59 rfl) ?_
        refine ado rfl rfl rfl (ex_bin (vx := (I v4)) (vy := (I ((v5.length : Nat) : Int))) rfl rfl lssI_ok) ?_
        refine ake [1, 2, 4, 5, 24] 2 1 (st' := ⟨36, 0, [(1, (LP 0 0)), (2, (LP 1 0)), (4, (FV 0 v5.length)), (5, (I v4)), (24, (Bo (decide (v4 < ((v5.length : Nat) : Int)))))], [(cDv t0), (cDv (GDv.mk [] [] 0 0 false))], ⟨1, [(0, ⟨1, ((v5).flatMap cI), false⟩)]⟩⟩) (by kernel_rfl) (by kernel_rfl) ?_
        show AWp _ _ _ _
        rcases Bool.eq_false_or_eq_true (decide (v4 < ((v5.length : Nat) : Int))) with hb6 | hb6
        · rw [condT hb6] at h
          refine awp_condT (boT hb6) ?_
          refine awp_skip ?_
          show AWp _ _ _ _
          refine aws ?_
          refine awp_block ?_
          refine awr ?_
          refine ado rfl rfl rfl (emv (eV (v := (FV 0 v5.length)) rfl)) ?_
          refine ado rfl rfl rfl (emv (eV (v := (I v4)) rfl)) ?_
          obtain ⟨x7, hx7, h⟩ := bindS h
          refine ado rfl rfl rfl (tx_idxF (c := cI) (xs := v5) (i := v4) ceI Try.underlying59 s_3 rfl rfl rfl hx7) ?_
          obtain ⟨x8, hx8, h⟩ := bindS h
          refine arun_do0 rfl rfl (tx_stF (c := cI) (xs := v5) (e := 3) (H' := ⟨1, [(0, ⟨1, ((x8).flatMap cI), false⟩)]⟩) ceI s_3 rfl (eV (v := (I 3)) rfl) rfl rfl hx8 rfl) ?_
          refine arun_fewer (T' := [(1, (LP 0 0)), (2, (LP 1 0)), (4, (FV 0 x8.length)), (5, (I v4)), (24, (Bo (decide (v4 < ((v5.length : Nat) : Int))))), (27, (FV 0 x8.length)), (28, (I v4))]) (ReT.keep (v := (LP 0 0)) rfl (ReT.keep (v := (LP 1 0)) rfl (ReT.fv rfl (setI_len hx8) (ReT.keep (v := (I v4)) rfl (ReT.keep (v := (Bo (decide (v4 < ((v5.length : Nat) : Int))))) rfl (ReT.fv rfl (setI_len hx8) (ReT.keep (v := (I v4)) rfl ReT.nil))))))) ?_
          refine ake [1, 2, 4, 5] 2 1 (st' := ⟨36, 0, [(1, (LP 0 0)), (2, (LP 1 0)), (4, (FV 0 x8.length)), (5, (I v4))], [(cDv t0), (cDv (GDv.mk [] [] 0 0 false))], ⟨1, [(0, ⟨1, ((x8).flatMap cI), false⟩)]⟩⟩) (by kernel_rfl) (by kernel_rfl) ?_
          show AWp _ _ _ _
          refine awr ?_
          refine ado rfl rfl rfl (emv (eV (v := (I v4)) rfl)) ?_
          refine ado rfl rfl rfl (ex_bin (vx := (I v4)) (vy := (I 1)) rfl rfl addI_ok) ?_
          refine ado rfl rfl rfl (eas (eV (v := (I (w64 (v4 + 1)))) rfl)) ?_
          refine ake [1, 2, 4, 5] 2 1 (st' := ⟨36, 0, [(1, (LP 0 0)), (2, (LP 1 0)), (4, (FV 0 x8.length)), (5, (I (w64 (v4 + 1))))], [(cDv t0), (cDv (GDv.mk [] [] 0 0 false))], ⟨1, [(0, ⟨1, ((x8).flatMap cI), false⟩)]⟩⟩) (by kernel_rfl) (by kernel_rfl) ?_
          exact Exists.intro n1 (And.intro (Nat.lt_succ_self _) (Exists.intro (w64 (v4 + 1)) (Exists.intro x8 (And.intro rfl h))))
        · rw [condF hb6] at h
          refine awp_condF (boF hb6) ?_
          refine awp_exit ?_
          show AWp _ _ _ _
          refine aws ?_
          refine awr ?_
          refine ado rfl rfl rfl (tx_ldLA (vs := (cDv t0)) Try.underlying29 rfl s_29 (by decide) rfl rfl rfl rfl) ?_
          refine ado rfl rfl rfl (emv (eV (v := (FV 0 v5.length)) rfl)) ?_
          refine arun_freeze 0 (bk := ⟨1, ((v5).flatMap cI), false⟩) (T' := [(1, (LP 0 0)), (2, (LP 1 0)), (4, (SL 1 cI v5)), (5, (I v4)), (24, (Bo (decide (v4 < ((v5.length : Nat) : Int))))), (30, (Value.agg (cDv t0).toArray)), (31, (SL 1 cI v5))]) (L' := [(cDv t0), (cDv (GDv.mk [] [] 0 0 false))]) rfl (FzT.keep (v := (LP 0 0)) rfl (FzT.keep (v := (LP 1 0)) rfl (fzF ceI rfl rfl (FzT.keep (v := (I v4)) rfl (FzT.keep (v := (Bo (decide (v4 < ((v5.length : Nat) : Int))))) rfl (FzT.keep (v := (Value.agg (cDv t0).toArray)) rfl (fzF ceI rfl rfl FzT.nil))))))) (FzL.refl _) ?_
          show ARun _ _ _ _ _ ⟨36, 0, [(1, (LP 0 0)), (2, (LP 1 0)), (4, (SL 1 cI v5)), (5, (I v4)), (24, (Bo (decide (v4 < ((v5.length : Nat) : Int))))), (30, (Value.agg (cDv t0).toArray)), (31, (SL 1 cI v5))], [(cDv t0), (cDv (GDv.mk [] [] 0 0 false))], ⟨1, []⟩⟩
          obtain ⟨x9, hx9, h⟩ := bindS h
          refine ado rfl rfl rfl (ex_call0 (vs := [(Value.agg (cDv t0).toArray), (SL 1 cI v5)]) (v := (SL 1 cS x9)) rfl en_39 (cargs (evs rfl (evs rfl evs_nil))) rfl (ok_ref1_lasting t0 v5 x9 hx9) rfl) ?_
          refine ado rfl rfl rfl (efa (v := (LP 0 0)) Try.underlying29 rfl s_26 (by decide) rfl rfl) ?_
          refine arun_do0 rfl rfl (ex_storeL (vy := (SL 1 cS x9)) (cs := (cDv t0)) (vs := [(SL 1 cS x9)]) (L' := [(cDv (GDv.mk x9 t0.Wait t0.Lies t0.Arm t0.Down)), (cDv (GDv.mk [] [] 0 0 false))]) rfl (eV (v := (SL 1 cS x9)) rfl) rfl s_26 rfl (Nat.le_of_ble_eq_true rfl) (by kernel_rfl)) ?_
          refine ado rfl rfl rfl (efa (v := (LP 0 1)) Try.underlying29 rfl s_27 (by decide) rfl rfl) ?_
          refine arun_do0 rfl rfl (ex_storeL (vy := (SL 2 cPu [])) (cs := (cDv (GDv.mk x9 t0.Wait t0.Lies t0.Arm t0.Down))) (vs := [(SL 2 cPu [])]) (L' := [(cDv (GDv.mk x9 [] t0.Lies t0.Arm t0.Down)), (cDv (GDv.mk [] [] 0 0 false))]) rfl (eN (s := 1) rfl) rfl s_27 rfl (Nat.le_of_ble_eq_true rfl) (by kernel_rfl)) ?_
          refine ake [1, 2] 2 0 (st' := ⟨36, 0, [(1, (LP 0 0)), (2, (LP 1 0))], [(cDv (GDv.mk x9 [] t0.Lies t0.Arm t0.Down)), (cDv (GDv.mk [] [] 0 0 false))], ⟨0, []⟩⟩) (by kernel_rfl) (by kernel_rfl) ?_
          show AWp _ _ _ _
          refine aws ?_
          refine awr ?_
          refine ado rfl rfl rfl (tx_ldLA (vs := (cDv (GDv.mk x9 [] t0.Lies t0.Arm t0.Down))) Try.underlying29 rfl s_29 (by decide) rfl rfl rfl rfl) ?_
          refine arun_do0 rfl rfl (ex_storeL (vy := (Value.agg (cDv (GDv.mk x9 [] t0.Lies t0.Arm t0.Down)).toArray)) (cs := (cDv (GDv.mk [] [] 0 0 false))) (vs := (cDv (GDv.mk x9 [] t0.Lies t0.Arm t0.Down))) (L' := [(cDv (GDv.mk x9 [] t0.Lies t0.Arm t0.Down)), (cDv (GDv.mk x9 [] t0.Lies t0.Arm t0.Down))]) rfl (eV (v := (Value.agg (cDv (GDv.mk x9 [] t0.Lies t0.Arm t0.Down)).toArray)) rfl) rfl s_29 rfl (Nat.le_of_ble_eq_true rfl) (by kernel_rfl)) ?_
          refine ado rfl rfl rfl (eas (eV (v := (Bo true)) rfl)) ?_
          refine ake [2, 3] 2 0 (st' := ⟨36, 0, [(2, (LP 1 0)), (3, (Bo true))], [(cDv (GDv.mk x9 [] t0.Lies t0.Arm t0.Down)), (cDv (GDv.mk x9 [] t0.Lies t0.Arm t0.Down))], ⟨0, []⟩⟩) (by kernel_rfl) (by kernel_rfl) ?_
          show AWp _ _ _ _
          refine awp_ret ?_
          cases h
          exact aresN rfl (L2.cons (rcellL rfl rfl rfl (partA Try.underlying29 rfl s_29 (by decide) (Nat.le_of_ble_eq_true rfl) rfl)) (L2.cons (rtmp rfl (eV rfl)) L2.nil)) rfl

noncomputable def M_ref1_Turn (t0 : GDv) (t1 : Int) (t2 : Int) (t3 : Int) : Option GDv :=
  Option.bind (gd ((((decide (t1 < 0)) || (decide (t1 ≥ (t0.Last.length : Int)))) || (decide (t2 < 0))) == false) (getI t0.Last t1)) fun (x1 : Str) => cond ((((decide (t1 < 0)) || (decide (t1 ≥ (t0.Last.length : Int)))) || (decide (t2 < 0))) || (decide (t2 ≥ (x1.length : Int)))) (some t0) (Option.bind (getI t0.Last t1) fun (x3 : Str) => Option.bind (getI x3 t2) fun (x4 : UInt8) => Option.bind (getI x3 t2) fun (x5 : UInt8) => Option.bind (setI x3 t2 (x4 ^^^ (UInt8.ofInt t3))) fun (x6 : List UInt8) => Option.bind (appL 16 ([] : List Str) t0.Last) fun (x7 : List Str) => Option.bind (getI x7 t1) fun (x8 : Str) => Option.bind (setI x7 t1 x6) fun (x9 : List Str) => some (GDv.mk x9 t0.Wait t0.Lies t0.Arm t0.Down))
theorem ok_ref1_Turn (t0 : GDv) (t1 : Int) (t2 : Int) (t3 : Int) (r : GDv) (h : M_ref1_Turn t0 t1 t2 t3 = some r) : FFn Try.prog 23 [(Value.agg (cDv t0).toArray), (I t1), (I t2), (I t3)] (Value.agg (cDv r).toArray) := by
  refine FFn.of_body (n := 62) Try.func23 rfl Try.ntmps23 rfl rfl rfl rfl ?_
  show AWp _ _ _ ⟨62, 0, [(0, (Value.agg (cDv t0).toArray)), (1, (I t1)), (2, (I t2)), (3, (I t3))], [], ⟨0, []⟩⟩
  unfold M_ref1_Turn at h
  refine aws ?_
  refine awr ?_
  refine ado rfl rfl rfl (ex_box (vx := (Value.agg ([(SL 1 cS t0.Last)] ++ ([(SL 2 cPu t0.Wait)] ++ ([(I t0.Lies)] ++ ([(I t0.Arm)] ++ ([(Bo t0.Down)]))))).toArray)) (cs := ([(SL 1 cS t0.Last)] ++ ([(SL 2 cPu t0.Wait)] ++ ([(I t0.Lies)] ++ ([(I t0.Arm)] ++ ([(Bo t0.Down)])))))) (k := 0) (L' := [([(SL 1 cS t0.Last)] ++ ([(SL 2 cPu t0.Wait)] ++ ([(I t0.Lies)] ++ ([(I t0.Arm)] ++ ([(Bo t0.Down)])))))]) (eV (v := (Value.agg (cDv t0).toArray)) rfl) rfl rfl rfl) ?_
  refine ado rfl rfl rfl (ex_allocW (k := 1) (zs := (cDv (GDv.mk [] [] 0 0 false))) (L' := [([(SL 1 cS t0.Last)] ++ ([(SL 2 cPu t0.Wait)] ++ ([(I t0.Lies)] ++ ([(I t0.Arm)] ++ ([(Bo t0.Down)]))))), (cDv (GDv.mk [] [] 0 0 false))]) z_29 rfl (by repeat (first | exact trivial | refine ⟨.inl rfl, ?_⟩ | refine ⟨.inr ⟨rfl, _, rfl⟩, ?_⟩)) rfl rfl) ?_
  refine ake [1, 2, 3, 4, 8] 2 0 (st' := ⟨62, 0, [(1, (I t1)), (2, (I t2)), (3, (I t3)), (4, (LP 0 0)), (8, (LP 1 0))], [([(SL 1 cS t0.Last)] ++ ([(SL 2 cPu t0.Wait)] ++ ([(I t0.Lies)] ++ ([(I t0.Arm)] ++ ([(Bo t0.Down)]))))), (cDv (GDv.mk [] [] 0 0 false))], ⟨0, []⟩⟩) (by kernel_rfl) (by kernel_rfl) ?_
  show AWp _ _ _ _
  refine aws ?_
  refine aws ?_
  refine awr ?_
  refine ado rfl rfl rfl (emv (eV (v := (I t1)) rfl)) ?_
  refine ado rfl rfl rfl (ex_bin (vx := (I t1)) (vy := (I 0)) rfl rfl lssI_ok) ?_
  refine ado rfl rfl rfl (emv (eV (v := (Bo (decide (t1 < 0)))) rfl)) ?_
  refine agu (v := (I t1)) ((decide (t1 < 0)) == false) rfl rfl rfl (fun hc => emv (eV (v := (I t1)) rfl)) ?_
  refine agu (v := (LP 0 0)) ((decide (t1 < 0)) == false) rfl rfl rfl (fun hc => efa (v := (LP 0 0)) Try.underlying29 rfl s_26 (by decide) rfl rfl) ?_
  refine agu (v := (SL 1 cS t0.Last)) ((decide (t1 < 0)) == false) rfl rfl rfl (fun hc => tx_ldL1 (v := (SL 1 cS t0.Last)) Try.underlying26 rfl (cdo hc) rfl rfl) ?_
  refine agu (v := (I (t0.Last.length : Int))) ((decide (t1 < 0)) == false) rfl rfl rfl (fun hc => tx_lenD (xs := t0.Last) ceS Try.underlying26 (cdo hc)) ?_
  refine agu (v := (Bo (decide (t1 ≥ (t0.Last.length : Int))))) ((decide (t1 < 0)) == false) rfl rfl rfl (fun hc => ex_bin (vx := (I t1)) (vy := (I (t0.Last.length : Int))) (cdo hc) (cdo hc) geqI_ok) ?_
  refine ado rfl rfl rfl (ex_pick rfl pkOr) ?_
  refine ado rfl rfl rfl (emv (eV (v := (Bo ((decide (t1 < 0)) || (decide (t1 ≥ (t0.Last.length : Int)))))) rfl)) ?_
  refine agu (v := (I t2)) (((decide (t1 < 0)) || (decide (t1 ≥ (t0.Last.length : Int)))) == false) rfl rfl rfl (fun hc => emv (eV (v := (I t2)) rfl)) ?_
  refine agu (v := (Bo (decide (t2 < 0)))) (((decide (t1 < 0)) || (decide (t1 ≥ (t0.Last.length : Int)))) == false) rfl rfl rfl (fun hc => ex_bin (vx := (I t2)) (vy := (I 0)) (cdo hc) rfl lssI_ok) ?_
  refine ado rfl rfl rfl (ex_pick rfl pkOr) ?_
  refine ado rfl rfl rfl (emv (eV (v := (Bo (((decide (t1 < 0)) || (decide (t1 ≥ (t0.Last.length : Int)))) || (decide (t2 < 0))))) rfl)) ?_
  refine agu (v := (I t2)) ((((decide (t1 < 0)) || (decide (t1 ≥ (t0.Last.length : Int)))) || (decide (t2 < 0))) == false) rfl rfl rfl (fun hc => emv (eV (v := (I t2)) rfl)) ?_
  refine agu (v := (LP 0 0)) ((((decide (t1 < 0)) || (decide (t1 ≥ (t0.Last.length : Int)))) || (decide (t2 < 0))) == false) rfl rfl rfl (fun hc => efa (v := (LP 0 0)) Try.underlying29 rfl s_26 (by decide) rfl rfl) ?_
  refine agu (v := (SL 1 cS t0.Last)) ((((decide (t1 < 0)) || (decide (t1 ≥ (t0.Last.length : Int)))) || (decide (t2 < 0))) == false) rfl rfl rfl (fun hc => tx_ldL1 (v := (SL 1 cS t0.Last)) Try.underlying26 rfl (cdo hc) rfl rfl) ?_
  refine agu (v := (I t1)) ((((decide (t1 < 0)) || (decide (t1 ≥ (t0.Last.length : Int)))) || (decide (t2 < 0))) == false) rfl rfl rfl (fun hc => emv (eV (v := (I t1)) rfl)) ?_
  obtain ⟨x1, hx1, h⟩ := bindS h
  refine agu (v := (DP (cS x1))) ((((decide (t1 < 0)) || (decide (t1 ≥ (t0.Last.length : Int)))) || (decide (t2 < 0))) == false) rfl rfl rfl (fun hc => tx_idxD (c := cS) (xs := t0.Last) (i := t1) ceS Try.underlying26 s_9 (cdo hc) (cdo hc) (gd_of hc hx1)) ?_
  refine agu (v := (S x1)) ((((decide (t1 < 0)) || (decide (t1 ≥ (t0.Last.length : Int)))) || (decide (t2 < 0))) == false) rfl rfl rfl (fun hc => tx_ldD1 (v := (S x1)) Try.underlying9 rfl (cdo hc) rfl) ?_
  refine agu (v := (I (x1.length : Int))) ((((decide (t1 < 0)) || (decide (t1 ≥ (t0.Last.length : Int)))) || (decide (t2 < 0))) == false) rfl rfl rfl (fun hc => tx_lenS Try.underlying9 (cdo hc)) ?_
  refine agu (v := (Bo (decide (t2 ≥ (x1.length : Int))))) ((((decide (t1 < 0)) || (decide (t1 ≥ (t0.Last.length : Int)))) || (decide (t2 < 0))) == false) rfl rfl rfl (fun hc => ex_bin (vx := (I t2)) (vy := (I (x1.length : Int))) (cdo hc) (cdo hc) geqI_ok) ?_
  refine ado rfl rfl rfl (ex_pick rfl pkOr) ?_
  refine ake [1, 2, 3, 4, 8, 32] 2 0 (st' := ⟨62, 0, [(1, (I t1)), (2, (I t2)), (3, (I t3)), (4, (LP 0 0)), (8, (LP 1 0)), (32, (Bo ((((decide (t1 < 0)) || (decide (t1 ≥ (t0.Last.length : Int)))) || (decide (t2 < 0))) || (decide (t2 ≥ (x1.length : Int))))))], [([(SL 1 cS t0.Last)] ++ ([(SL 2 cPu t0.Wait)] ++ ([(I t0.Lies)] ++ ([(I t0.Arm)] ++ ([(Bo t0.Down)]))))), (cDv (GDv.mk [] [] 0 0 false))], ⟨0, []⟩⟩) (by kernel_rfl) (by kernel_rfl) ?_
  show AWp _ _ _ _
  rcases Bool.eq_false_or_eq_true ((((decide (t1 < 0)) || (decide (t1 ≥ (t0.Last.length : Int)))) || (decide (t2 < 0))) || (decide (t2 ≥ (x1.length : Int)))) with hb2 | hb2
  · rw [condT hb2] at h
    refine awp_condT (boT hb2) ?_
    refine aws ?_
    refine awr ?_
    refine ado rfl rfl rfl (tx_ldLA (vs := ([(SL 1 cS t0.Last)] ++ ([(SL 2 cPu t0.Wait)] ++ ([(I t0.Lies)] ++ ([(I t0.Arm)] ++ ([(Bo t0.Down)])))))) Try.underlying29 rfl s_29 (by decide) rfl rfl rfl rfl) ?_
    refine arun_do0 rfl rfl (ex_storeL (vy := (Value.agg (cDv t0).toArray)) (cs := (cDv (GDv.mk [] [] 0 0 false))) (vs := (cDv t0)) (L' := [([(SL 1 cS t0.Last)] ++ ([(SL 2 cPu t0.Wait)] ++ ([(I t0.Lies)] ++ ([(I t0.Arm)] ++ ([(Bo t0.Down)]))))), (cDv t0)]) rfl (eV (v := (Value.agg (cDv t0).toArray)) rfl) rfl s_29 rfl (Nat.le_of_ble_eq_true rfl) (by kernel_rfl)) ?_
    refine ake [8] 2 0 (st' := ⟨62, 0, [(8, (LP 1 0))], [([(SL 1 cS t0.Last)] ++ ([(SL 2 cPu t0.Wait)] ++ ([(I t0.Lies)] ++ ([(I t0.Arm)] ++ ([(Bo t0.Down)]))))), (cDv t0)], ⟨0, []⟩⟩) (by kernel_rfl) (by kernel_rfl) ?_
    show AWp _ _ _ _
    refine awp_ret ?_
    cases h
    exact ares1 (rcellL rfl rfl rfl (partA Try.underlying29 rfl s_29 (by decide) (Nat.le_of_ble_eq_true rfl) rfl))
  · rw [condF hb2] at h
    refine awp_condF (boF hb2) ?_
    refine awp_skip ?_
    show AWp _ _ _ _
    refine aws ?_
    refine awr ?_
    refine ado rfl rfl rfl (efa (v := (LP 0 0)) Try.underlying29 rfl s_26 (by decide) rfl rfl) ?_
    refine ado rfl rfl rfl (tx_ldL1 (v := (SL 1 cS t0.Last)) Try.underlying26 rfl rfl rfl rfl) ?_
    refine ado rfl rfl rfl (emv (eV (v := (I t1)) rfl)) ?_
    obtain ⟨x3, hx3, h⟩ := bindS h
    refine ado rfl rfl rfl (tx_idxD (c := cS) (xs := t0.Last) (i := t1) ceS Try.underlying26 s_9 rfl rfl hx3) ?_
    refine ado rfl rfl rfl (tx_ldD1 (v := (S x3)) Try.underlying9 rfl rfl rfl) ?_
    refine ado rfl rfl rfl (tx_sbG (k := 0) (H' := ⟨1, [(0, ⟨1, ((x3).flatMap c8), true⟩)]⟩) Try.underlying9 Try.underlying72 Try.underlying5 rfl rfl rfl) ?_
    refine ado rfl rfl rfl (eas (eV (v := (GV 0 x3.length)) rfl)) ?_
    refine ake [1, 2, 3, 4, 8, 9] 2 1 (st' := ⟨62, 0, [(1, (I t1)), (2, (I t2)), (3, (I t3)), (4, (LP 0 0)), (8, (LP 1 0)), (9, (GV 0 x3.length))], [([(SL 1 cS t0.Last)] ++ ([(SL 2 cPu t0.Wait)] ++ ([(I t0.Lies)] ++ ([(I t0.Arm)] ++ ([(Bo t0.Down)]))))), (cDv (GDv.mk [] [] 0 0 false))], ⟨1, [(0, ⟨1, ((x3).flatMap c8), true⟩)]⟩⟩) (by kernel_rfl) (by kernel_rfl) ?_
    show AWp _ _ _ _
    refine aws ?_
    refine awr ?_
    refine ado rfl rfl rfl (emv (eV (v := (GV 0 x3.length)) rfl)) ?_
    refine ado rfl rfl rfl (emv (eV (v := (I t2)) rfl)) ?_
    refine ado rfl rfl rfl (emv (eV (v := (GV 0 x3.length)) rfl)) ?_
    refine ado rfl rfl rfl (emv (eV (v := (I t2)) rfl)) ?_
    obtain ⟨x4, hx4, h⟩ := bindS h
    refine ado rfl rfl rfl (tx_idxG (c := c8) (xs := x3) (i := t2) ce8 Try.underlying72 s_5 rfl rfl rfl rfl hx4) ?_
    refine ado rfl rfl rfl (tx_ldG (v := (U8 x4)) (s := 1) rfl rfl (part_elem (off := 0) (v := (U8 x4)) ce8 hx4 Try.underlying5 rfl (by decide) rfl)) ?_
    refine ado rfl rfl rfl (emv (eV (v := (I t3)) rfl)) ?_
    refine ado rfl rfl rfl (tx_64_8 Try.underlying3 Try.underlying5 rfl) ?_
    refine ado rfl rfl rfl (ex_bin (vx := (U8 x4)) (vy := (U8 (UInt8.ofInt t3))) rfl rfl xor8_ok) ?_
    obtain ⟨x5, hx5, h⟩ := bindS h
    refine ado rfl rfl rfl (tx_idxG (c := c8) (xs := x3) (i := t2) ce8 Try.underlying72 s_5 rfl rfl rfl rfl hx5) ?_
    obtain ⟨x6, hx6, h⟩ := bindS h
    refine arun_do0 rfl rfl (tx_stG (c := c8) (xs := x3) (e := (x4 ^^^ (UInt8.ofInt t3))) (H' := ⟨1, [(0, ⟨1, ((x6).flatMap c8), true⟩)]⟩) ce8 s_5 rfl (eV (v := (U8 (x4 ^^^ (UInt8.ofInt t3)))) rfl) rfl rfl hx6 rfl) ?_
    refine arun_fewer (T' := [(1, (I t1)), (2, (I t2)), (3, (I t3)), (4, (LP 0 0)), (8, (LP 1 0)), (9, (GV 0 x6.length)), (40, (GV 0 x6.length)), (41, (I t2)), (42, (GV 0 x6.length)), (43, (I t2)), (45, (U8 x4)), (46, (I t3)), (47, (U8 (UInt8.ofInt t3))), (48, (U8 (x4 ^^^ (UInt8.ofInt t3))))]) (ReT.keep (v := (I t1)) rfl (ReT.keep (v := (I t2)) rfl (ReT.keep (v := (I t3)) rfl (ReT.keep (v := (LP 0 0)) rfl (ReT.keep (v := (LP 1 0)) rfl (ReT.gv rfl (setI_len hx6) (ReT.gv rfl (setI_len hx6) (ReT.keep (v := (I t2)) rfl (ReT.gv rfl (setI_len hx6) (ReT.keep (v := (I t2)) rfl (ReT.keep (v := (U8 x4)) rfl (ReT.keep (v := (I t3)) rfl (ReT.keep (v := (U8 (UInt8.ofInt t3))) rfl (ReT.keep (v := (U8 (x4 ^^^ (UInt8.ofInt t3)))) rfl ReT.nil)))))))))))))) ?_
    refine ake [1, 4, 8, 9] 2 1 (st' := ⟨62, 0, [(1, (I t1)), (4, (LP 0 0)), (8, (LP 1 0)), (9, (GV 0 x6.length))], [([(SL 1 cS t0.Last)] ++ ([(SL 2 cPu t0.Wait)] ++ ([(I t0.Lies)] ++ ([(I t0.Arm)] ++ ([(Bo t0.Down)]))))), (cDv (GDv.mk [] [] 0 0 false))], ⟨1, [(0, ⟨1, ((x6).flatMap c8), true⟩)]⟩⟩) (by kernel_rfl) (by kernel_rfl) ?_
    show AWp _ _ _ _
    refine aws ?_
    refine awr ?_
    refine ado rfl rfl rfl (ex_buildSliceG (k := 1) (qs := []) (cells := (([] : List Str).flatMap cS)) (H' := ⟨2, [(1, ⟨1, (([] : List Str).flatMap cS), true⟩), (0, ⟨1, ((x6).flatMap c8), true⟩)]⟩) Try.underlying26 s_9 (by decide) (by decide) evp_nil rfl (by kernel_rfl) (by kernel_rfl) (by kernel_rfl) rfl rfl) ?_
    refine ado rfl rfl rfl (efa (v := (LP 0 0)) Try.underlying29 rfl s_26 (by decide) rfl rfl) ?_
    refine ado rfl rfl rfl (tx_ldL1 (v := (SL 1 cS t0.Last)) Try.underlying26 rfl rfl rfl rfl) ?_
    obtain ⟨x7, hx7, h⟩ := bindS h
    refine ado rfl rfl rfl (tx_appG (c := cS) (xs := []) (H' := ⟨2, [(1, ⟨1, ((x7).flatMap cS), true⟩), (0, ⟨1, ((x6).flatMap c8), true⟩)]⟩) ceS e_9 rfl rfl rfl (tsrcD (ys := t0.Last) ceS Try.underlying26 s_9 Try.underlying26 rfl) hx7 rfl) ?_
    refine ado rfl rfl rfl (efa (v := (LP 0 0)) Try.underlying29 rfl s_26 (by decide) rfl rfl) ?_
    refine arun_do0 rfl rfl (ex_storeL (vy := (GV 1 x7.length)) (cs := ([(SL 1 cS t0.Last)] ++ ([(SL 2 cPu t0.Wait)] ++ ([(I t0.Lies)] ++ ([(I t0.Arm)] ++ ([(Bo t0.Down)])))))) (vs := [(GV 1 x7.length)]) (L' := [([(GV 1 x7.length)] ++ ([(SL 2 cPu t0.Wait)] ++ ([(I t0.Lies)] ++ ([(I t0.Arm)] ++ ([(Bo t0.Down)]))))), (cDv (GDv.mk [] [] 0 0 false))]) rfl (eV (v := (GV 1 x7.length)) rfl) rfl s_26 rfl (Nat.le_of_ble_eq_true rfl) (by kernel_rfl)) ?_
    refine ake [1, 4, 8, 9] 2 2 (st' := ⟨62, 0, [(1, (I t1)), (4, (LP 0 0)), (8, (LP 1 0)), (9, (GV 0 x6.length))], [([(GV 1 x7.length)] ++ ([(SL 2 cPu t0.Wait)] ++ ([(I t0.Lies)] ++ ([(I t0.Arm)] ++ ([(Bo t0.Down)]))))), (cDv (GDv.mk [] [] 0 0 false))], ⟨2, [(1, ⟨1, ((x7).flatMap cS), true⟩), (0, ⟨1, ((x6).flatMap c8), true⟩)]⟩⟩) (by kernel_rfl) (by kernel_rfl) ?_
    show AWp _ _ _ _
    refine aws ?_
    refine awr ?_
    refine ado rfl rfl rfl (efa (v := (LP 0 0)) Try.underlying29 rfl s_26 (by decide) rfl rfl) ?_
    refine ado rfl rfl rfl (tx_ldL1 (v := (GV 1 x7.length)) Try.underlying26 rfl rfl rfl rfl) ?_
    refine ado rfl rfl rfl (emv (eV (v := (I t1)) rfl)) ?_
    refine ado rfl rfl rfl (emv (eV (v := (GV 0 x6.length)) rfl)) ?_
    refine ado rfl rfl rfl (tx_bsG (bs := x6) Try.underlying72 Try.underlying9 Try.underlying5 rfl rfl rfl) ?_
    obtain ⟨x8, hx8, h⟩ := bindS h
    refine ado rfl rfl rfl (tx_idxG (c := cS) (xs := x7) (i := t1) ceS Try.underlying26 s_9 rfl rfl rfl rfl hx8) ?_
    obtain ⟨x9, hx9, h⟩ := bindS h
    refine arun_do0 rfl rfl (tx_stG (c := cS) (xs := x7) (e := x6) (H' := ⟨2, [(1, ⟨1, ((x9).flatMap cS), true⟩), (0, ⟨1, ((x6).flatMap c8), true⟩)]⟩) ceS s_9 rfl (eV (v := (S x6)) rfl) rfl rfl hx9 rfl) ?_
    refine arun_fewer (T' := [(1, (I t1)), (4, (LP 0 0)), (8, (LP 1 0)), (9, (GV 0 x6.length)), (55, (LP 0 0)), (56, (GV 1 x9.length)), (57, (I t1)), (58, (GV 0 x6.length)), (59, (S x6))]) (ReT.keep (v := (I t1)) rfl (ReT.keep (v := (LP 0 0)) rfl (ReT.keep (v := (LP 1 0)) rfl (ReT.keep (v := (GV 0 x6.length)) rfl (ReT.keep (v := (LP 0 0)) rfl (ReT.gv rfl (setI_len hx9) (ReT.keep (v := (I t1)) rfl (ReT.keep (v := (GV 0 x6.length)) rfl (ReT.keep (v := (S x6)) rfl ReT.nil))))))))) ?_
    refine arun_locs (L' := [([(GV 1 x9.length)] ++ ([(SL 2 cPu t0.Wait)] ++ ([(I t0.Lies)] ++ ([(I t0.Arm)] ++ ([(Bo t0.Down)]))))), (cDv (GDv.mk [] [] 0 0 false))]) (by rw [(setI_len hx9)]) ?_
    refine ake [4, 8] 2 2 (st' := ⟨62, 0, [(4, (LP 0 0)), (8, (LP 1 0))], [([(GV 1 x9.length)] ++ ([(SL 2 cPu t0.Wait)] ++ ([(I t0.Lies)] ++ ([(I t0.Arm)] ++ ([(Bo t0.Down)]))))), (cDv (GDv.mk [] [] 0 0 false))], ⟨2, [(1, ⟨1, ((x9).flatMap cS), true⟩), (0, ⟨1, ((x6).flatMap c8), true⟩)]⟩⟩) (by kernel_rfl) (by kernel_rfl) ?_
    show AWp _ _ _ _
    refine aws ?_
    refine awr ?_
    refine arun_freeze 1 (bk := ⟨1, ((x9).flatMap cS), true⟩) (T' := [(4, (LP 0 0)), (8, (LP 1 0))]) (L' := [([(SL 1 cS x9)] ++ ([(SL 2 cPu t0.Wait)] ++ ([(I t0.Lies)] ++ ([(I t0.Arm)] ++ ([(Bo t0.Down)]))))), (cDv (GDv.mk [] [] 0 0 false))]) rfl (FzT.keep (v := (LP 0 0)) rfl (FzT.keep (v := (LP 1 0)) rfl FzT.nil)) (fzlK (fzcG ceS rfl (fzcK (fzcK (fzcK (fzcK fzcN))))) (fzlS fzlN)) ?_
    show ARun _ _ _ _ _ ⟨62, 0, [(4, (LP 0 0)), (8, (LP 1 0))], [([(SL 1 cS x9)] ++ ([(SL 2 cPu t0.Wait)] ++ ([(I t0.Lies)] ++ ([(I t0.Arm)] ++ ([(Bo t0.Down)]))))), (cDv (GDv.mk [] [] 0 0 false))], ⟨2, [(0, ⟨1, ((x6).flatMap c8), true⟩)]⟩⟩
    refine ado rfl rfl rfl (tx_ldLA (vs := ([(SL 1 cS x9)] ++ ([(SL 2 cPu t0.Wait)] ++ ([(I t0.Lies)] ++ ([(I t0.Arm)] ++ ([(Bo t0.Down)])))))) Try.underlying29 rfl s_29 (by decide) rfl rfl rfl rfl) ?_
    refine arun_do0 rfl rfl (ex_storeL (vy := (Value.agg (cDv (GDv.mk x9 t0.Wait t0.Lies t0.Arm t0.Down)).toArray)) (cs := (cDv (GDv.mk [] [] 0 0 false))) (vs := (cDv (GDv.mk x9 t0.Wait t0.Lies t0.Arm t0.Down))) (L' := [([(SL 1 cS x9)] ++ ([(SL 2 cPu t0.Wait)] ++ ([(I t0.Lies)] ++ ([(I t0.Arm)] ++ ([(Bo t0.Down)]))))), (cDv (GDv.mk x9 t0.Wait t0.Lies t0.Arm t0.Down))]) rfl (eV (v := (Value.agg (cDv (GDv.mk x9 t0.Wait t0.Lies t0.Arm t0.Down)).toArray)) rfl) rfl s_29 rfl (Nat.le_of_ble_eq_true rfl) (by kernel_rfl)) ?_
    refine ake [8] 2 0 (st' := ⟨62, 0, [(8, (LP 1 0))], [([(SL 1 cS x9)] ++ ([(SL 2 cPu t0.Wait)] ++ ([(I t0.Lies)] ++ ([(I t0.Arm)] ++ ([(Bo t0.Down)]))))), (cDv (GDv.mk x9 t0.Wait t0.Lies t0.Arm t0.Down))], ⟨0, []⟩⟩) (by kernel_rfl) (by kernel_rfl) ?_
    show AWp _ _ _ _
    refine awp_ret ?_
    cases h
    exact ares1 (rcellL rfl rfl rfl (partA Try.underlying29 rfl s_29 (by decide) (Nat.le_of_ble_eq_true rfl) rfl))

end Go.Proofs
