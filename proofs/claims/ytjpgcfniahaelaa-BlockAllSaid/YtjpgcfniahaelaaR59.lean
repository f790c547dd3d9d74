/- Pure models of functions of the program, and that its code does what they say: palimpref1 Read, palimpref1 ReadBlock, palimplaw5 BlockAll. Written by a program. -/
import Derived.Test.YtjpgcfniahaelaaR51
import Derived.Test.YtjpgcfniahaelaaR52
import Derived.Test.YtjpgcfniahaelaaR53
import Derived.Test.YtjpgcfniahaelaaR54
import Derived.Test.YtjpgcfniahaelaaR55
import Derived.Test.YtjpgcfniahaelaaR56
import Derived.Test.YtjpgcfniahaelaaR57
import Derived.Test.YtjpgcfniahaelaaR58
import Derived.Test.YtjpgcfniahaelaaR5B
set_option maxRecDepth 20000
set_option maxHeartbeats 4000000
namespace Go.Proofs
open Go Go.Fhl
set_option linter.unusedVariables false
set_option linter.unusedSimpArgs false
noncomputable def M_ref1_Read_k1 (c_1 : (Str → Int → Option (Str × Bool))) (t0 : G_api_Dev) (t1 : Int) (v4 : Int) (y6 : Str) : Option (Str × Bool) :=
  c_1 y6 (w64 (v4 + 1))
noncomputable def M_ref1_Read_l1 (t0 : G_api_Dev) (t1 : Int) : Nat → Str → Int → Option (Str × Bool)
  | 0, _, _ => none
  | n1 + 1, v3, v4 =>
  cond (decide (v4 < (t0.Wait.length : Int))) (Option.bind (getI t0.Wait v4) fun (x7 : G_api_Put) => cond (x7.At == t1) (Option.bind (getI t0.Wait v4) fun (x9 : G_api_Put) => M_ref1_Read_k1 (M_ref1_Read_l1 t0 t1 n1) t0 t1 v4 x9.B) (M_ref1_Read_k1 (M_ref1_Read_l1 t0 t1 n1) t0 t1 v4 v3)) (some (v3, true))
noncomputable def M_ref1_Read (t0 : G_api_Dev) (t1 : Int) : Option (Str × Bool) :=
  cond ((t0.Down || (decide (t1 < 0))) || (decide (t1 ≥ (t0.Last.length : Int)))) (some ([], false)) (Option.bind (getI t0.Last t1) fun (x2 : Str) => M_ref1_Read_l1 t0 t1 fuel x2 0)
theorem ok_ref1_Read (t0 : G_api_Dev) (t1 : Int) (r : (Str × Bool)) (h : M_ref1_Read t0 t1 = some r) : FFn Try.prog 25 [(Value.agg (c_api_Dev t0).toArray), (I t1)] (Value.tuple #[(S r.1), (Bo r.2)]) := by
  refine FFn.of_body (n := 48) Try.func25 rfl Try.ntmps25 rfl rfl rfl rfl ?_
  show AWp _ _ _ ⟨48, 0, [(0, (Value.agg (c_api_Dev t0).toArray)), (1, (I t1))], [], ⟨0, []⟩⟩
  unfold M_ref1_Read at h
  refine awp_seq ?_
  refine awp_region ?_
  refine arun_do rfl rfl rfl (ex_box (vx := (Value.agg (c_api_Dev t0).toArray)) (cs := (c_api_Dev t0)) (k := 0) (L' := [(c_api_Dev t0)]) (eV (v := (Value.agg (c_api_Dev t0).toArray)) rfl) rfl rfl rfl) ?_
  refine arun_do rfl rfl rfl (ex_assign (eV (v := (S [])) rfl)) ?_
  refine arun_do rfl rfl rfl (ex_assign (eV (v := (Bo false)) rfl)) ?_
  refine arun_keepE [1, 2] 1 0 (st' := ⟨48, 0, [(1, (I t1)), (2, (LP 0 0))], [(c_api_Dev t0)], ⟨0, []⟩⟩) (by kernel_rfl) (by kernel_rfl) ?_
  show AWp _ _ _ _
  refine awp_seq ?_
  refine awp_seq ?_
  refine awp_region ?_
  refine arun_do rfl rfl rfl (ex_fieldAddr (v := (LP 0 4)) Try.underlying40 rfl s_4 (by decide) rfl rfl) ?_
  refine arun_do rfl rfl rfl (tx_ldL1 (v := (Bo t0.Down)) Try.underlying4 rfl rfl rfl rfl) ?_
  refine arun_do rfl rfl rfl (ex_move (eV (v := (Bo t0.Down)) rfl)) ?_
  refine arun_guard (v := (I t1)) (t0.Down == false) rfl rfl rfl (fun hc => ex_move (eV (v := (I t1)) rfl)) ?_
  refine arun_guard (v := (Bo (decide (t1 < 0)))) (t0.Down == false) rfl rfl rfl (fun hc => ex_bin (vx := (I t1)) (vy := (I 0)) (cond_of hc) rfl lssI_ok) ?_
  refine arun_do rfl rfl rfl (ex_pick rfl pkOr) ?_
  refine arun_do rfl rfl rfl (ex_move (eV (v := (Bo (t0.Down || (decide (t1 < 0))))) rfl)) ?_
  refine arun_guard (v := (I t1)) ((t0.Down || (decide (t1 < 0))) == false) rfl rfl rfl (fun hc => ex_move (eV (v := (I t1)) rfl)) ?_
  refine arun_guard (v := (LP 0 0)) ((t0.Down || (decide (t1 < 0))) == false) rfl rfl rfl (fun hc => ex_fieldAddr (v := (LP 0 0)) Try.underlying40 rfl s_35 (by decide) rfl rfl) ?_
  refine arun_guard (v := (SL 1 cS t0.Last)) ((t0.Down || (decide (t1 < 0))) == false) rfl rfl rfl (fun hc => tx_ldL1 (v := (SL 1 cS t0.Last)) Try.underlying35 rfl (cond_of hc) rfl rfl) ?_
  refine arun_guard (v := (I (t0.Last.length : Int))) ((t0.Down || (decide (t1 < 0))) == false) rfl rfl rfl (fun hc => tx_lenD (xs := t0.Last) ceS Try.underlying35 (cond_of hc)) ?_
  refine arun_guard (v := (Bo (decide (t1 ≥ (t0.Last.length : Int))))) ((t0.Down || (decide (t1 < 0))) == false) rfl rfl rfl (fun hc => ex_bin (vx := (I t1)) (vy := (I (t0.Last.length : Int))) (cond_of hc) (cond_of hc) geqI_ok) ?_
  refine arun_do rfl rfl rfl (ex_pick rfl pkOr) ?_
  refine arun_keepE [1, 2, 20] 1 0 (st' := ⟨48, 0, [(1, (I t1)), (2, (LP 0 0)), (20, (Bo ((t0.Down || (decide (t1 < 0))) || (decide (t1 ≥ (t0.Last.length : Int))))))], [(c_api_Dev t0)], ⟨0, []⟩⟩) (by kernel_rfl) (by kernel_rfl) ?_
  show AWp _ _ _ _
  rcases Bool.eq_false_or_eq_true ((t0.Down || (decide (t1 < 0))) || (decide (t1 ≥ (t0.Last.length : Int)))) with hb1 | hb1
  · rw [condT hb1] at h
    refine awp_condT (boT hb1) ?_
    refine awp_seq ?_
    refine awp_region ?_
    refine arun_do rfl rfl rfl (ex_assign (eV (v := (S [])) rfl)) ?_
    refine arun_do rfl rfl rfl (ex_assign (eV (v := (Bo false)) rfl)) ?_
    refine arun_keepE [4, 5] 0 0 (st' := ⟨48, 0, [(4, (S [])), (5, (Bo false))], [], ⟨0, []⟩⟩) (by kernel_rfl) (by kernel_rfl) ?_
    show AWp _ _ _ _
    refine awp_ret ?_
    cases h
    exact aresN rfl (L2.cons (rtmp rfl (eV rfl)) (L2.cons (rtmp rfl (eV rfl)) L2.nil)) rfl
  · rw [condF hb1] at h
    refine awp_condF (boF hb1) ?_
    refine awp_skip ?_
    show AWp _ _ _ _
    refine awp_seq ?_
    refine awp_region ?_
    refine arun_do rfl rfl rfl (ex_fieldAddr (v := (LP 0 0)) Try.underlying40 rfl s_35 (by decide) rfl rfl) ?_
    refine arun_do rfl rfl rfl (tx_ldL1 (v := (SL 1 cS t0.Last)) Try.underlying35 rfl rfl rfl rfl) ?_
    refine arun_do rfl rfl rfl (ex_move (eV (v := (I t1)) rfl)) ?_
    obtain ⟨x2, hx2, h⟩ := bindS h
    refine arun_do rfl rfl rfl (tx_idxD (c := cS) (xs := t0.Last) (i := t1) ceS Try.underlying35 s_9 rfl rfl hx2) ?_
    refine arun_do rfl rfl rfl (tx_ldD1 (v := (S x2)) Try.underlying9 rfl rfl rfl) ?_
    refine arun_do rfl rfl rfl (ex_assign (eV (v := (S x2)) rfl)) ?_
    refine arun_keepE [1, 2, 6] 1 0 (st' := ⟨48, 0, [(1, (I t1)), (2, (LP 0 0)), (6, (S x2))], [(c_api_Dev t0)], ⟨0, []⟩⟩) (by kernel_rfl) (by kernel_rfl) ?_
    show AWp _ _ _ _
    refine awp_seq ?_
    refine awp_seq ?_
    refine awp_region ?_
    refine arun_do rfl rfl rfl (ex_assign (eV (v := (I 0)) rfl)) ?_
    refine arun_keepE [1, 2, 6, 7] 1 0 (st' := ⟨48, 0, [(1, (I t1)), (2, (LP 0 0)), (6, (S x2)), (7, (I 0))], [(c_api_Dev t0)], ⟨0, []⟩⟩) (by kernel_rfl) (by kernel_rfl) ?_
    show AWp _ _ _ _
    refine awp_block ?_
    refine awp_loop (fun n s => ∃ (v3 : Str) (v4 : Int), s = ⟨48, 0, [(1, (I t1)), (2, (LP 0 0)), (6, (S v3)), (7, (I v4))], [(c_api_Dev t0)], ⟨0, []⟩⟩ ∧ M_ref1_Read_l1 t0 t1 n v3 v4 = some r) fuel (Exists.intro x2 (Exists.intro 0 (And.intro rfl h))) ?_
    rintro n s ⟨v3, v4, rfl, h⟩ -
    cases n with
    | zero => cases h
    | succ n1 =>
      unfold M_ref1_Read_l1 at h
      refine awp_seq ?_
      refine awp_seq ?_
      refine awp_region ?_
      refine arun_do rfl rfl rfl (ex_move (eV (v := (I v4)) rfl)) ?_
      refine arun_do rfl rfl rfl (ex_fieldAddr (v := (LP 0 1)) Try.underlying40 rfl s_38 (by decide) rfl rfl) ?_
      refine arun_do rfl rfl rfl (tx_ldL1 (v := (SL 2 c_api_Put t0.Wait)) Try.underlying38 rfl rfl rfl rfl) ?_
      refine arun_do rfl rfl rfl (tx_lenD (xs := t0.Wait) ce_api_Put Try.underlying38 rfl) ?_
      refine arun_do rfl rfl rfl (ex_bin (vx := (I v4)) (vy := (I (t0.Wait.length : Int))) rfl rfl lssI_ok) ?_
      refine arun_keepE [1, 2, 6, 7, 30] 1 0 (st' := ⟨48, 0, [(1, (I t1)), (2, (LP 0 0)), (6, (S v3)), (7, (I v4)), (30, (Bo (decide (v4 < (t0.Wait.length : Int)))))], [(c_api_Dev t0)], ⟨0, []⟩⟩) (by kernel_rfl) (by kernel_rfl) ?_
      show AWp _ _ _ _
      rcases Bool.eq_false_or_eq_true (decide (v4 < (t0.Wait.length : Int))) with hb5 | hb5
      · rw [condT hb5] at h
        refine awp_condT (boT hb5) ?_
        refine awp_skip ?_
        show AWp _ _ _ _
        refine awp_seqJ (fun s => ∃ (y6 : Str), s = ⟨48, 0, [(1, (I t1)), (2, (LP 0 0)), (6, (S y6)), (7, (I v4))], [(c_api_Dev t0)], ⟨0, []⟩⟩ ∧ M_ref1_Read_k1 (M_ref1_Read_l1 t0 t1 n1) t0 t1 v4 y6 = some r) ?_ ?_
        · refine awp_block ?_
          refine awp_seq ?_
          refine awp_region ?_
          refine arun_do rfl rfl rfl (ex_fieldAddr (v := (LP 0 1)) Try.underlying40 rfl s_38 (by decide) rfl rfl) ?_
          refine arun_do rfl rfl rfl (tx_ldL1 (v := (SL 2 c_api_Put t0.Wait)) Try.underlying38 rfl rfl rfl rfl) ?_
          refine arun_do rfl rfl rfl (ex_move (eV (v := (I v4)) rfl)) ?_
          obtain ⟨x7, hx7, h⟩ := bindS h
          refine arun_do rfl rfl rfl (tx_idxD (c := c_api_Put) (xs := t0.Wait) (i := v4) ce_api_Put Try.underlying38 s_45 rfl rfl hx7) ?_
          refine arun_do rfl rfl rfl (ex_fieldAddrD (vs := (List.drop 0 (c_api_Put x7))) Try.underlying45 rfl s_3 (by decide) rfl rfl) ?_
          refine arun_do rfl rfl rfl (tx_ldD1 (v := (I x7.At)) Try.underlying3 rfl rfl rfl) ?_
          refine arun_do rfl rfl rfl (ex_move (eV (v := (I t1)) rfl)) ?_
          refine arun_do rfl rfl rfl (ex_bin (vx := (I x7.At)) (vy := (I t1)) rfl rfl eqlI_ok) ?_
          refine arun_keepE [1, 2, 6, 7, 40] 1 0 (st' := ⟨48, 0, [(1, (I t1)), (2, (LP 0 0)), (6, (S v3)), (7, (I v4)), (40, (Bo (x7.At == t1)))], [(c_api_Dev t0)], ⟨0, []⟩⟩) (by kernel_rfl) (by kernel_rfl) ?_
          show AWp _ _ _ _
          rcases Bool.eq_false_or_eq_true (x7.At == t1) with hb8 | hb8
          · rw [condT hb8] at h
            refine awp_condT (boT hb8) ?_
            refine awp_region ?_
            refine arun_do rfl rfl rfl (ex_fieldAddr (v := (LP 0 1)) Try.underlying40 rfl s_38 (by decide) rfl rfl) ?_
            refine arun_do rfl rfl rfl (tx_ldL1 (v := (SL 2 c_api_Put t0.Wait)) Try.underlying38 rfl rfl rfl rfl) ?_
            refine arun_do rfl rfl rfl (ex_move (eV (v := (I v4)) rfl)) ?_
            obtain ⟨x9, hx9, h⟩ := bindS h
            refine arun_do rfl rfl rfl (tx_idxD (c := c_api_Put) (xs := t0.Wait) (i := v4) ce_api_Put Try.underlying38 s_45 rfl rfl hx9) ?_
            refine arun_do rfl rfl rfl (ex_fieldAddrD (vs := (List.drop 1 (c_api_Put x9))) Try.underlying45 rfl s_9 (by decide) rfl rfl) ?_
            refine arun_do rfl rfl rfl (tx_ldD1 (v := (S x9.B)) Try.underlying9 rfl rfl rfl) ?_
            refine arun_do rfl rfl rfl (ex_assign (eV (v := (S x9.B)) rfl)) ?_
            refine arun_keepE [1, 2, 6, 7] 1 0 (st' := ⟨48, 0, [(1, (I t1)), (2, (LP 0 0)), (6, (S x9.B)), (7, (I v4))], [(c_api_Dev t0)], ⟨0, []⟩⟩) (by kernel_rfl) (by kernel_rfl) ?_
            exact (Exists.intro x9.B (And.intro rfl h))
          · rw [condF hb8] at h
            refine awp_condF (boF hb8) ?_
            refine awp_keepE [1, 2, 6, 7] 1 0 (st' := ⟨48, 0, [(1, (I t1)), (2, (LP 0 0)), (6, (S v3)), (7, (I v4))], [(c_api_Dev t0)], ⟨0, []⟩⟩) (by kernel_rfl) (by kernel_rfl) ?_
            refine awp_skip ?_
            exact (Exists.intro v3 (And.intro rfl h))
        · rintro s ⟨y6, rfl, h⟩
          unfold M_ref1_Read_k1 at h
          refine awp_region ?_
          refine arun_do rfl rfl rfl (ex_move (eV (v := (I v4)) rfl)) ?_
          refine arun_do rfl rfl rfl (ex_bin (vx := (I v4)) (vy := (I 1)) rfl rfl addI_ok) ?_
          refine arun_do rfl rfl rfl (ex_assign (eV (v := (I (w64 (v4 + 1)))) rfl)) ?_
          refine arun_keepE [1, 2, 6, 7] 1 0 (st' := ⟨48, 0, [(1, (I t1)), (2, (LP 0 0)), (6, (S y6)), (7, (I (w64 (v4 + 1))))], [(c_api_Dev t0)], ⟨0, []⟩⟩) (by kernel_rfl) (by kernel_rfl) ?_
          exact Exists.intro n1 (And.intro (Nat.lt_succ_self _) (Exists.intro y6 (Exists.intro (w64 (v4 + 1)) (And.intro rfl h))))
      · rw [condF hb5] at h
        refine awp_condF (boF hb5) ?_
        refine awp_exit ?_
        show AWp _ _ _ _
        refine awp_seq ?_
        refine awp_region ?_
        refine arun_do rfl rfl rfl (ex_move (eV (v := (S v3)) rfl)) ?_
        refine arun_do rfl rfl rfl (ex_assign (eV (v := (S v3)) rfl)) ?_
        refine arun_do rfl rfl rfl (ex_assign (eV (v := (Bo true)) rfl)) ?_
        refine arun_keepE [4, 5] 0 0 (st' := ⟨48, 0, [(4, (S v3)), (5, (Bo true))], [], ⟨0, []⟩⟩) (by kernel_rfl) (by kernel_rfl) ?_
        show AWp _ _ _ _
        refine awp_ret ?_
        cases h
        exact aresN rfl (L2.cons (rtmp rfl (eV rfl)) (L2.cons (rtmp rfl (eV rfl)) L2.nil)) rfl

noncomputable def M_ref1_ReadBlock (t0 : G_api_Dev) (t1 : G_api_Ptr) (t2 : Int) : Option (Str × Bool) :=
  Option.bind (M_ref1_Read t0 t1.Addr) fun (x1 : (Str × Bool)) => Option.bind (gd (((!x1.2) || (decide (t1.Addr < 14))) == false) (M_ref1_Of x1.1)) fun (x2 : (A4 UInt32)) => cond (((!x1.2) || (decide (t1.Addr < 14))) || (!decide (x2 = t1.Sum))) (some ([], false)) (Option.bind (M_ref1_TakeBlock x1.1) fun (x4 : (G_api_Block × Bool)) => cond (((!x4.2) || (x4.1.Birth != t1.Birth)) || (x4.1.Kind != t2)) (some ([], false)) (some (x4.1.Load, true)))
theorem ok_ref1_ReadBlock (t0 : G_api_Dev) (t1 : G_api_Ptr) (t2 : Int) (r : (Str × Bool)) (h : M_ref1_ReadBlock t0 t1 t2 = some r) : FFn Try.prog 22 [(Value.agg (c_api_Dev t0).toArray), (Value.agg (c_api_Ptr t1).toArray), (I t2)] (Value.tuple #[(S r.1), (Bo r.2)]) := by
  refine FFn.of_body (n := 55) Try.func22 rfl Try.ntmps22 rfl rfl rfl rfl ?_
  show AWp _ _ _ ⟨55, 0, [(0, (Value.agg (c_api_Dev t0).toArray)), (1, (Value.agg (c_api_Ptr t1).toArray)), (2, (I t2))], [], ⟨0, []⟩⟩
  unfold M_ref1_ReadBlock at h
  refine awp_seq ?_
  refine awp_region ?_
  refine arun_do rfl rfl rfl (ex_box (vx := (Value.agg (c_api_Dev t0).toArray)) (cs := (c_api_Dev t0)) (k := 0) (L' := [(c_api_Dev t0)]) (eV (v := (Value.agg (c_api_Dev t0).toArray)) rfl) rfl rfl rfl) ?_
  refine arun_do rfl rfl rfl (ex_box (vx := (Value.agg (c_api_Ptr t1).toArray)) (cs := (c_api_Ptr t1)) (k := 1) (L' := [(c_api_Dev t0), (c_api_Ptr t1)]) (eV (v := (Value.agg (c_api_Ptr t1).toArray)) rfl) rfl rfl rfl) ?_
  refine arun_do rfl rfl rfl (ex_assign (eV (v := (S [])) rfl)) ?_
  refine arun_do rfl rfl rfl (ex_assign (eV (v := (Bo false)) rfl)) ?_
  refine arun_keepE [2, 3, 4] 2 0 (st' := ⟨55, 0, [(2, (I t2)), (3, (LP 0 0)), (4, (LP 1 0))], [(c_api_Dev t0), (c_api_Ptr t1)], ⟨0, []⟩⟩) (by kernel_rfl) (by kernel_rfl) ?_
  show AWp _ _ _ _
  refine awp_seq ?_
  refine awp_region ?_
  refine arun_do rfl rfl rfl (tx_ldLA (vs := (c_api_Dev t0)) Try.underlying40 rfl s_40 (by decide) rfl rfl rfl rfl) ?_
  refine arun_do rfl rfl rfl (ex_fieldAddr (v := (LP 1 0)) Try.underlying32 rfl s_3 (by decide) rfl rfl) ?_
  refine arun_do rfl rfl rfl (tx_ldL1 (v := (I t1.Addr)) Try.underlying3 rfl rfl rfl rfl) ?_
  obtain ⟨x1, hx1, h⟩ := bindS h
  refine arun_do rfl rfl rfl (ex_call0 (vs := [(Value.agg (c_api_Dev t0).toArray), (I t1.Addr)]) (v := (Value.tuple #[(S x1.1), (Bo x1.2)])) rfl en_25 (cargs (evs rfl (evs rfl evs_nil))) rfl (ok_ref1_Read t0 t1.Addr x1 hx1) rfl) ?_
  refine arun_do rfl rfl rfl (ex_move (eV (v := (Value.tuple #[(S x1.1), (Bo x1.2)])) rfl)) ?_
  refine arun_do rfl rfl rfl (ex_extract (vx := (Value.tuple #[(S x1.1), (Bo x1.2)])) (v := (S x1.1)) rfl rfl) ?_
  refine arun_do rfl rfl rfl (ex_extract (vx := (Value.tuple #[(S x1.1), (Bo x1.2)])) (v := (Bo x1.2)) rfl rfl) ?_
  refine arun_do rfl rfl rfl (ex_assign (eV (v := (S x1.1)) rfl)) ?_
  refine arun_do rfl rfl rfl (ex_assign (eV (v := (Bo x1.2)) rfl)) ?_
  refine arun_keepE [2, 4, 8, 9] 2 0 (st' := ⟨55, 0, [(2, (I t2)), (4, (LP 1 0)), (8, (S x1.1)), (9, (Bo x1.2))], [(c_api_Dev t0), (c_api_Ptr t1)], ⟨0, []⟩⟩) (by kernel_rfl) (by kernel_rfl) ?_
  show AWp _ _ _ _
  refine awp_seq ?_
  refine awp_seq ?_
  obtain ⟨x2, hx2, h⟩ := bindS h
  refine awp_kn [2, 4, 8, 32] 2 0 (st' := ⟨55, 0, [(2, (I t2)), (4, (LP 1 0)), (8, (S x1.1)), (32, (Bo (((!x1.2) || (decide (t1.Addr < 14))) || (!decide (x2 = t1.Sum)))))], [(c_api_Dev t0), (c_api_Ptr t1)], ⟨0, []⟩⟩) (awp_draw (T := [(Bo x1.2), (Bo (!x1.2)), (Bo (!x1.2)), (cond ((!x1.2) == false) (LP 1 0) skipV), (cond ((!x1.2) == false) (I t1.Addr) skipV), (cond ((!x1.2) == false) (Bo (decide (t1.Addr < 14))) skipV), (Bo ((!x1.2) || (decide (t1.Addr < 14)))), (Bo ((!x1.2) || (decide (t1.Addr < 14)))), (cond (((!x1.2) || (decide (t1.Addr < 14))) == false) (S x1.1) skipV), (cond (((!x1.2) || (decide (t1.Addr < 14))) == false) (Value.agg ((cA4 c32) x2).toArray) skipV), (cond (((!x1.2) || (decide (t1.Addr < 14))) == false) (LP 1 2) skipV), (cond (((!x1.2) || (decide (t1.Addr < 14))) == false) (Value.agg ((cA4 c32) t1.Sum).toArray) skipV), (cond (((!x1.2) || (decide (t1.Addr < 14))) == false) (Bo (!decide (x2 = t1.Sum))) skipV), (Bo (((!x1.2) || (decide (t1.Addr < 14))) || (!decide (x2 = t1.Sum))))]) (LH := [([(c_api_Dev t0), (c_api_Ptr t1)], ⟨0, []⟩)]) (D := [⟨[(9, none)], [], [0], false⟩, ⟨[(19, some 0)], [0], [0], false⟩, ⟨[(20, some 1)], [0, 1], [0], false⟩, ⟨[(4, none), (21, some 2)], [0, 1, 2], [0], false⟩, ⟨[(22, some 3), (21, some 2)], [0, 1, 2, 3], [0], false⟩, ⟨[(23, some 4), (21, some 2)], [0, 1, 2, 3, 4], [0], false⟩, ⟨[(21, some 2), (24, some 5)], [0, 1, 2, 3, 4, 5], [0], false⟩, ⟨[(25, some 6)], [0, 1, 2, 3, 4, 5, 6], [0], false⟩, ⟨[(8, none), (26, some 7)], [0, 1, 2, 3, 4, 5, 6, 7], [0], false⟩, ⟨[(27, some 8), (26, some 7)], [0, 1, 2, 3, 4, 5, 6, 7, 8], [0], false⟩, ⟨[(4, none), (26, some 7)], [0, 1, 2, 3, 4, 5, 6, 7], [0], false⟩, ⟨[(29, some 10), (26, some 7)], [0, 1, 2, 3, 4, 5, 6, 7, 10], [0], false⟩, ⟨[(28, some 9), (30, some 11), (26, some 7)], [0, 1, 2, 3, 4, 5, 6, 7, 8, 9, 10, 11], [0], false⟩, ⟨[(26, some 7), (31, some 12)], [0, 1, 2, 3, 4, 5, 6, 7, 8, 9, 10, 11, 12], [0], false⟩]) (S := []) (plan := [0, 1, 2, 3, 4, 5, 6, 7, 8, 9, 10, 11, 12, 13]) mo (by kernel_rfl) rfl rfl rfl (dcons (dstep1 (Tm := [(9, (Bo x1.2))]) (L := [(c_api_Dev t0), (c_api_Ptr t1)]) (H := ⟨0, []⟩) rfl rfl rfl rfl rfl (astep_do rfl (ex_move (eV (v := (Bo x1.2)) rfl)))) (dcons (dstep1 (Tm := [(19, (Bo x1.2))]) (L := [(c_api_Dev t0), (c_api_Ptr t1)]) (H := ⟨0, []⟩) rfl rfl rfl rfl rfl (astep_do rfl (ex_un (vx := (Bo x1.2)) rfl notB_ok))) (dcons (dstep1 (Tm := [(20, (Bo (!x1.2)))]) (L := [(c_api_Dev t0), (c_api_Ptr t1)]) (H := ⟨0, []⟩) rfl rfl rfl rfl rfl (astep_do rfl (ex_move (eV (v := (Bo (!x1.2))) rfl)))) (dcons (dstep1 (Tm := [(4, (LP 1 0)), (21, (Bo (!x1.2)))]) (L := [(c_api_Dev t0), (c_api_Ptr t1)]) (H := ⟨0, []⟩) rfl rfl rfl rfl rfl (astep_guard (v := (LP 1 0)) ((!x1.2) == false) rfl (fun hc => ex_fieldAddr (v := (LP 1 0)) Try.underlying32 rfl s_3 (by decide) rfl rfl))) (dcons (dstep1 (Tm := [(22, (cond ((!x1.2) == false) (LP 1 0) skipV)), (21, (Bo (!x1.2)))]) (L := [(c_api_Dev t0), (c_api_Ptr t1)]) (H := ⟨0, []⟩) rfl rfl rfl rfl rfl (astep_guard (v := (I t1.Addr)) ((!x1.2) == false) rfl (fun hc => tx_ldL1 (v := (I t1.Addr)) Try.underlying3 rfl (cond_of hc) rfl rfl))) (dcons (dstep1 (Tm := [(23, (cond ((!x1.2) == false) (I t1.Addr) skipV)), (21, (Bo (!x1.2)))]) (L := [(c_api_Dev t0), (c_api_Ptr t1)]) (H := ⟨0, []⟩) rfl rfl rfl rfl rfl (astep_guard (v := (Bo (decide (t1.Addr < 14)))) ((!x1.2) == false) rfl (fun hc => ex_bin (vx := (I t1.Addr)) (vy := (I 14)) (cond_of hc) rfl lssI_ok))) (dcons (dstep1 (Tm := [(21, (Bo (!x1.2))), (24, (cond ((!x1.2) == false) (Bo (decide (t1.Addr < 14))) skipV))]) (L := [(c_api_Dev t0), (c_api_Ptr t1)]) (H := ⟨0, []⟩) rfl rfl rfl rfl rfl (astep_do rfl (ex_pick rfl pkOr))) (dcons (dstep1 (Tm := [(25, (Bo ((!x1.2) || (decide (t1.Addr < 14)))))]) (L := [(c_api_Dev t0), (c_api_Ptr t1)]) (H := ⟨0, []⟩) rfl rfl rfl rfl rfl (astep_do rfl (ex_move (eV (v := (Bo ((!x1.2) || (decide (t1.Addr < 14))))) rfl)))) (dcons (dstep1 (Tm := [(8, (S x1.1)), (26, (Bo ((!x1.2) || (decide (t1.Addr < 14)))))]) (L := [(c_api_Dev t0), (c_api_Ptr t1)]) (H := ⟨0, []⟩) rfl rfl rfl rfl rfl (astep_guard (v := (S x1.1)) (((!x1.2) || (decide (t1.Addr < 14))) == false) rfl (fun hc => ex_move (eV (v := (S x1.1)) rfl)))) (dcons (dstep1 (Tm := [(27, (cond (((!x1.2) || (decide (t1.Addr < 14))) == false) (S x1.1) skipV)), (26, (Bo ((!x1.2) || (decide (t1.Addr < 14)))))]) (L := [(c_api_Dev t0), (c_api_Ptr t1)]) (H := ⟨0, []⟩) rfl rfl rfl rfl rfl (astep_guard (v := (Value.agg ((cA4 c32) x2).toArray)) (((!x1.2) || (decide (t1.Addr < 14))) == false) rfl (fun hc => ex_call0 (vs := [(S x1.1)]) (v := (Value.agg ((cA4 c32) x2).toArray)) rfl en_26 (cargs (evs (cond_of hc) evs_nil)) rfl (ok_ref1_Of x1.1 x2 (gd_of hc hx2)) rfl))) (dcons (dstep1 (Tm := [(4, (LP 1 0)), (26, (Bo ((!x1.2) || (decide (t1.Addr < 14)))))]) (L := [(c_api_Dev t0), (c_api_Ptr t1)]) (H := ⟨0, []⟩) rfl rfl rfl rfl rfl (astep_guard (v := (LP 1 2)) (((!x1.2) || (decide (t1.Addr < 14))) == false) rfl (fun hc => ex_fieldAddr (v := (LP 1 2)) Try.underlying32 rfl s_30 (by decide) rfl rfl))) (dcons (dstep1 (Tm := [(29, (cond (((!x1.2) || (decide (t1.Addr < 14))) == false) (LP 1 2) skipV)), (26, (Bo ((!x1.2) || (decide (t1.Addr < 14)))))]) (L := [(c_api_Dev t0), (c_api_Ptr t1)]) (H := ⟨0, []⟩) rfl rfl rfl rfl rfl (astep_guard (v := (Value.agg ((cA4 c32) t1.Sum).toArray)) (((!x1.2) || (decide (t1.Addr < 14))) == false) rfl (fun hc => tx_ldLA (vs := ((cA4 c32) t1.Sum)) Try.underlying30 rfl s_30 (by decide) (cond_of hc) rfl rfl rfl))) (dcons (dstep1 (Tm := [(28, (cond (((!x1.2) || (decide (t1.Addr < 14))) == false) (Value.agg ((cA4 c32) x2).toArray) skipV)), (30, (cond (((!x1.2) || (decide (t1.Addr < 14))) == false) (Value.agg ((cA4 c32) t1.Sum).toArray) skipV)), (26, (Bo ((!x1.2) || (decide (t1.Addr < 14)))))]) (L := [(c_api_Dev t0), (c_api_Ptr t1)]) (H := ⟨0, []⟩) rfl rfl rfl rfl rfl (astep_guard (v := (Bo (!decide (x2 = t1.Sum)))) (((!x1.2) || (decide (t1.Addr < 14))) == false) rfl (fun hc => ex_bin (vx := (Value.agg ((cA4 c32) x2).toArray)) (vy := (Value.agg ((cA4 c32) t1.Sum).toArray)) (cond_of hc) (cond_of hc) neq_30))) (dcons (dstep1 (Tm := [(26, (Bo ((!x1.2) || (decide (t1.Addr < 14))))), (31, (cond (((!x1.2) || (decide (t1.Addr < 14))) == false) (Bo (!decide (x2 = t1.Sum))) skipV))]) (L := [(c_api_Dev t0), (c_api_Ptr t1)]) (H := ⟨0, []⟩) rfl rfl rfl rfl rfl (astep_do rfl (ex_pick rfl pkOr))) dnil)))))))))))))) ⟨rfl, rfl⟩) (by kernel_rfl) (by kernel_rfl) ?_
  show AWp _ _ _ _
  rcases Bool.eq_false_or_eq_true (((!x1.2) || (decide (t1.Addr < 14))) || (!decide (x2 = t1.Sum))) with hb3 | hb3
  · rw [condT hb3] at h
    refine awp_condT (boT hb3) ?_
    refine awp_seq ?_
    refine awp_region ?_
    refine arun_do rfl rfl rfl (ex_assign (eV (v := (S [])) rfl)) ?_
    refine arun_do rfl rfl rfl (ex_assign (eV (v := (Bo false)) rfl)) ?_
    refine arun_keepE [6, 7] 0 0 (st' := ⟨55, 0, [(6, (S [])), (7, (Bo false))], [], ⟨0, []⟩⟩) (by kernel_rfl) (by kernel_rfl) ?_
    show AWp _ _ _ _
    refine awp_ret ?_
    cases h
    exact aresN rfl (L2.cons (rtmp rfl (eV rfl)) (L2.cons (rtmp rfl (eV rfl)) L2.nil)) rfl
  · rw [condF hb3] at h
    refine awp_condF (boF hb3) ?_
    refine awp_skip ?_
    show AWp _ _ _ _
    refine awp_seq ?_
    refine awp_region ?_
    refine arun_do rfl rfl rfl (ex_move (eV (v := (S x1.1)) rfl)) ?_
    obtain ⟨x4, hx4, h⟩ := bindS h
    refine arun_do rfl rfl rfl (ex_call0 (vs := [(S x1.1)]) (v := (Value.tuple #[(Value.agg (c_api_Block x4.1).toArray), (Bo x4.2)])) rfl en_17 (cargs (evs rfl evs_nil)) rfl (ok_ref1_TakeBlock x1.1 x4 hx4) rfl) ?_
    refine arun_do rfl rfl rfl (ex_move (eV (v := (Value.tuple #[(Value.agg (c_api_Block x4.1).toArray), (Bo x4.2)])) rfl)) ?_
    refine arun_do rfl rfl rfl (ex_extract (vx := (Value.tuple #[(Value.agg (c_api_Block x4.1).toArray), (Bo x4.2)])) (v := (Value.agg (c_api_Block x4.1).toArray)) rfl rfl) ?_
    refine arun_do rfl rfl rfl (ex_extract (vx := (Value.tuple #[(Value.agg (c_api_Block x4.1).toArray), (Bo x4.2)])) (v := (Bo x4.2)) rfl rfl) ?_
    refine arun_do rfl rfl rfl (ex_alloc (k := 2) (zs := (c_api_Block (G_api_Block.mk 0 0 []))) (L' := [(c_api_Dev t0), (c_api_Ptr t1), (c_api_Block (G_api_Block.mk 0 0 []))]) z_23 rfl rfl rfl rfl) ?_
    refine arun_do0 rfl rfl (ex_storeL (vy := (Value.agg (c_api_Block x4.1).toArray)) (cs := (c_api_Block (G_api_Block.mk 0 0 []))) (vs := (c_api_Block x4.1)) (L' := [(c_api_Dev t0), (c_api_Ptr t1), (c_api_Block x4.1)]) rfl (eV (v := (Value.agg (c_api_Block x4.1).toArray)) rfl) rfl s_23 rfl (Nat.le_of_ble_eq_true rfl) (by kernel_rfl)) ?_
    refine arun_do rfl rfl rfl (ex_assign (eV (v := (Bo x4.2)) rfl)) ?_
    refine arun_keepE [2, 4, 10, 11] 3 0 (st' := ⟨55, 0, [(2, (I t2)), (4, (LP 1 0)), (10, (LP 2 0)), (11, (Bo x4.2))], [(c_api_Dev t0), (c_api_Ptr t1), (c_api_Block x4.1)], ⟨0, []⟩⟩) (by kernel_rfl) (by kernel_rfl) ?_
    show AWp _ _ _ _
    refine awp_seq ?_
    refine awp_seq ?_
    refine awp_region ?_
    refine arun_do rfl rfl rfl (ex_move (eV (v := (Bo x4.2)) rfl)) ?_
    refine arun_do rfl rfl rfl (ex_un (vx := (Bo x4.2)) rfl notB_ok) ?_
    refine arun_do rfl rfl rfl (ex_move (eV (v := (Bo (!x4.2))) rfl)) ?_
    refine arun_guard (v := (LP 2 1)) ((!x4.2) == false) rfl rfl rfl (fun hc => ex_fieldAddr (v := (LP 2 1)) Try.underlying23 rfl s_3 (by decide) rfl rfl) ?_
    refine arun_guard (v := (I x4.1.Birth)) ((!x4.2) == false) rfl rfl rfl (fun hc => tx_ldL1 (v := (I x4.1.Birth)) Try.underlying3 rfl (cond_of hc) rfl rfl) ?_
    refine arun_guard (v := (LP 1 1)) ((!x4.2) == false) rfl rfl rfl (fun hc => ex_fieldAddr (v := (LP 1 1)) Try.underlying32 rfl s_3 (by decide) rfl rfl) ?_
    refine arun_guard (v := (I t1.Birth)) ((!x4.2) == false) rfl rfl rfl (fun hc => tx_ldL1 (v := (I t1.Birth)) Try.underlying3 rfl (cond_of hc) rfl rfl) ?_
    refine arun_guard (v := (Bo (x4.1.Birth != t1.Birth))) ((!x4.2) == false) rfl rfl rfl (fun hc => ex_bin (vx := (I x4.1.Birth)) (vy := (I t1.Birth)) (cond_of hc) (cond_of hc) neqI_ok) ?_
    refine arun_do rfl rfl rfl (ex_pick rfl pkOr) ?_
    refine arun_do rfl rfl rfl (ex_move (eV (v := (Bo ((!x4.2) || (x4.1.Birth != t1.Birth)))) rfl)) ?_
    refine arun_guard (v := (LP 2 0)) (((!x4.2) || (x4.1.Birth != t1.Birth)) == false) rfl rfl rfl (fun hc => ex_fieldAddr (v := (LP 2 0)) Try.underlying23 rfl s_3 (by decide) rfl rfl) ?_
    refine arun_guard (v := (I x4.1.Kind)) (((!x4.2) || (x4.1.Birth != t1.Birth)) == false) rfl rfl rfl (fun hc => tx_ldL1 (v := (I x4.1.Kind)) Try.underlying3 rfl (cond_of hc) rfl rfl) ?_
    refine arun_guard (v := (I t2)) (((!x4.2) || (x4.1.Birth != t1.Birth)) == false) rfl rfl rfl (fun hc => ex_move (eV (v := (I t2)) rfl)) ?_
    refine arun_guard (v := (Bo (x4.1.Kind != t2))) (((!x4.2) || (x4.1.Birth != t1.Birth)) == false) rfl rfl rfl (fun hc => ex_bin (vx := (I x4.1.Kind)) (vy := (I t2)) (cond_of hc) (cond_of hc) neqI_ok) ?_
    refine arun_do rfl rfl rfl (ex_pick rfl pkOr) ?_
    refine arun_keepE [10, 52] 3 0 (st' := ⟨55, 0, [(10, (LP 2 0)), (52, (Bo (((!x4.2) || (x4.1.Birth != t1.Birth)) || (x4.1.Kind != t2))))], [(c_api_Dev t0), (c_api_Ptr t1), (c_api_Block x4.1)], ⟨0, []⟩⟩) (by kernel_rfl) (by kernel_rfl) ?_
    show AWp _ _ _ _
    rcases Bool.eq_false_or_eq_true (((!x4.2) || (x4.1.Birth != t1.Birth)) || (x4.1.Kind != t2)) with hb5 | hb5
    · rw [condT hb5] at h
      refine awp_condT (boT hb5) ?_
      refine awp_seq ?_
      refine awp_region ?_
      refine arun_do rfl rfl rfl (ex_assign (eV (v := (S [])) rfl)) ?_
      refine arun_do rfl rfl rfl (ex_assign (eV (v := (Bo false)) rfl)) ?_
      refine arun_keepE [6, 7] 0 0 (st' := ⟨55, 0, [(6, (S [])), (7, (Bo false))], [], ⟨0, []⟩⟩) (by kernel_rfl) (by kernel_rfl) ?_
      show AWp _ _ _ _
      refine awp_ret ?_
      cases h
      exact aresN rfl (L2.cons (rtmp rfl (eV rfl)) (L2.cons (rtmp rfl (eV rfl)) L2.nil)) rfl
    · rw [condF hb5] at h
      refine awp_condF (boF hb5) ?_
      refine awp_skip ?_
      show AWp _ _ _ _
      refine awp_seq ?_
      refine awp_region ?_
      refine arun_do rfl rfl rfl (ex_fieldAddr (v := (LP 2 2)) Try.underlying23 rfl s_9 (by decide) rfl rfl) ?_
      refine arun_do rfl rfl rfl (tx_ldL1 (v := (S x4.1.Load)) Try.underlying9 rfl rfl rfl rfl) ?_
      refine arun_do rfl rfl rfl (ex_assign (eV (v := (S x4.1.Load)) rfl)) ?_
      refine arun_do rfl rfl rfl (ex_assign (eV (v := (Bo true)) rfl)) ?_
      refine arun_keepE [6, 7] 0 0 (st' := ⟨55, 0, [(6, (S x4.1.Load)), (7, (Bo true))], [], ⟨0, []⟩⟩) (by kernel_rfl) (by kernel_rfl) ?_
      show AWp _ _ _ _
      refine awp_ret ?_
      cases h
      exact aresN rfl (L2.cons (rtmp rfl (eV rfl)) (L2.cons (rtmp rfl (eV rfl)) L2.nil)) rfl

noncomputable def M_law5_BlockAll_l3 (c_1 : (Int → Option Bool)) (c_2 : (Int → Option Bool)) (t0 : G_api_Block) (t4 : Str) (t6 : UInt8) (t7 : Int) (t8 : Int) (x4 : G_api_Block) (x17 : List UInt8) (x18 : Str) (v19 : Int) (x29 : (G_api_Dev × Bool)) (x30 : G_api_Ptr) (x31 : G_api_Ptr) (x32 : G_api_Ptr) (x34 : G_api_Ptr) (x36 : G_api_Ptr) (x37 : UInt8) (v38 : Int) : Nat → Int → Option Bool
  | 0, _ => none
  | n3 + 1, v40 =>
  cond (decide (v40 < 3)) (Option.bind (getI ([x30, x31, x32, (G_api_Ptr.mk 0 0 (A4.mk 0 0 0 0)), x34, x36] : List G_api_Ptr) v38) fun (x42 : G_api_Ptr) => Option.bind (getI ([x4.Kind, t8, (w64 (1 + (x37.toNat : Int)))] : List Int) v40) fun (x43 : Int) => Option.bind (M_block_Read x29.1 x42 x43) fun (x44 : (Str × Bool)) => Option.bind (getI ([x30, x31, x32, (G_api_Ptr.mk 0 0 (A4.mk 0 0 0 0)), x34, x36] : List G_api_Ptr) v38) fun (x45 : G_api_Ptr) => Option.bind (getI ([x4.Kind, t8, (w64 (1 + (x37.toNat : Int)))] : List Int) v40) fun (x46 : Int) => Option.bind (M_ref1_ReadBlock x29.1 x45 x46) fun (x47 : (Str × Bool)) => cond ((x44.1 != x47.1) || (x44.2 != x47.2)) (some false) ((M_law5_BlockAll_l3 c_1 c_2 t0 t4 t6 t7 t8 x4 x17 x18 v19 x29 x30 x31 x32 x34 x36 x37 v38 n3) (w64 (v40 + 1)))) (c_2 (w64 (v38 + 1)))
noncomputable def M_law5_BlockAll_l2 (c_1 : (Int → Option Bool)) (t0 : G_api_Block) (t4 : Str) (t6 : UInt8) (t7 : Int) (t8 : Int) (x4 : G_api_Block) (x17 : List UInt8) (x18 : Str) (v19 : Int) (x29 : (G_api_Dev × Bool)) (x30 : G_api_Ptr) (x31 : G_api_Ptr) (x32 : G_api_Ptr) (x34 : G_api_Ptr) (x36 : G_api_Ptr) (x37 : UInt8) : Nat → Int → Option Bool
  | 0, _ => none
  | n2 + 1, v38 =>
  cond (decide (v38 < (([x30, x31, x32, (G_api_Ptr.mk 0 0 (A4.mk 0 0 0 0)), x34, x36] : List G_api_Ptr).length : Int))) (M_law5_BlockAll_l3 c_1 (M_law5_BlockAll_l2 c_1 t0 t4 t6 t7 t8 x4 x17 x18 v19 x29 x30 x31 x32 x34 x36 x37 n2) t0 t4 t6 t7 t8 x4 x17 x18 v19 x29 x30 x31 x32 x34 x36 x37 v38 fuel 0) (c_1 (w64 (v19 + 1)))
noncomputable def M_law5_BlockAll_l1 (t0 : G_api_Block) (t4 : Str) (t6 : UInt8) (t7 : Int) (t8 : Int) (x4 : G_api_Block) (x17 : List UInt8) (x18 : Str) : Nat → Int → Option Bool
  | 0, _ => none
  | n1 + 1, v19 =>
  cond (decide (v19 < 3)) (Option.bind (getI ([t4, x17, x18] : List Str) v19) fun (x21 : Str) => Option.bind (M_block_Take x21) fun (x22 : (G_api_Block × Bool)) => Option.bind (getI ([t4, x17, x18] : List Str) v19) fun (x23 : Str) => Option.bind (M_ref1_TakeBlock x23) fun (x24 : (G_api_Block × Bool)) => cond ((x22.2 != x24.2) || (!decide (x22.1 = x24.1))) (some false) (Option.bind (M_ref1_New 40) fun (x26 : G_api_Dev) => Option.bind (getI ([t4, x17, x18] : List Str) v19) fun (x27 : Str) => Option.bind (getI ([t4, x17, x18] : List Str) v19) fun (x28 : Str) => Option.bind (M_ref1_Write x26 ([(G_api_Put.mk 20 x27), (G_api_Put.mk 5 x28)] : List G_api_Put)) fun (x29 : (G_api_Dev × Bool)) => Option.bind (M_ref1_BlockPtr 20 x4) fun (x30 : G_api_Ptr) => Option.bind (M_ref1_BlockPtr t7 x4) fun (x31 : G_api_Ptr) => Option.bind (M_ref1_BlockPtr 5 x4) fun (x32 : G_api_Ptr) => Option.bind (getI ([t4, x17, x18] : List Str) v19) fun (x33 : Str) => Option.bind (M_ref1_To 20 x33 x4.Birth) fun (x34 : G_api_Ptr) => Option.bind (getI ([t4, x17, x18] : List Str) v19) fun (x35 : Str) => Option.bind (M_ref1_To 20 x35 (w64 (x4.Birth + 1))) fun (x36 : G_api_Ptr) => Option.bind (rem8 t6 6) fun (x37 : UInt8) => M_law5_BlockAll_l2 (M_law5_BlockAll_l1 t0 t4 t6 t7 t8 x4 x17 x18 n1) t0 t4 t6 t7 t8 x4 x17 x18 v19 x29 x30 x31 x32 x34 x36 x37 fuel 0)) (some true)
noncomputable def M_law5_BlockAll (t0 : G_api_Block) (t1 : UInt8) (t2 : UInt8) (t3 : Str) (t4 : Str) (t5 : UInt8) (t6 : UInt8) (t7 : Int) (t8 : Int) : Option Bool :=
  Option.bind (M_law5_begun) fun (x1 : Bool) => cond (!x1) (some false) (cond (((decide ((t0.Load.length : Int) > 300)) || (decide ((t3.length : Int) > 260))) || (decide ((t4.length : Int) > 300))) (some true) (Option.bind (M_law5_made t1 t2 t3) fun (x4 : G_api_Block) => Option.bind (M_block_May t0) fun (x5 : Bool) => Option.bind (M_ref1_MayBlock t0) fun (x6 : Bool) => Option.bind (gd ((x5 != x6) == false) (M_block_Put t0)) fun (x7 : Str) => Option.bind (gd ((x5 != x6) == false) (M_ref1_PutBlock t0)) fun (x8 : Str) => Option.bind (gd (((x5 != x6) || (x7 != x8)) == false) (M_block_Put x4)) fun (x9 : Str) => Option.bind (gd (((x5 != x6) || (x7 != x8)) == false) (M_ref1_PutBlock x4)) fun (x10 : Str) => Option.bind (gd ((((x5 != x6) || (x7 != x8)) || (x9 != x10)) == false) (M_block_Ptr t7 x4)) fun (x11 : G_api_Ptr) => Option.bind (gd ((((x5 != x6) || (x7 != x8)) || (x9 != x10)) == false) (M_ref1_BlockPtr t7 x4)) fun (x12 : G_api_Ptr) => cond ((((x5 != x6) || (x7 != x8)) || (x9 != x10)) || (!decide (x11 = x12))) (some false) (Option.bind (M_ref1_PutBlock x4) fun (x14 : Str) => Option.bind (getI x14 (t5.toNat : Int)) fun (x15 : UInt8) => Option.bind (getI x14 (t5.toNat : Int)) fun (x16 : UInt8) => Option.bind (setI x14 (t5.toNat : Int) (x15 ^^^ t6)) fun (x17 : List UInt8) => Option.bind (M_ref1_PutBlock x4) fun (x18 : Str) => M_law5_BlockAll_l1 t0 t4 t6 t7 t8 x4 x17 x18 fuel 0)))
theorem ok_law5_BlockAll (t0 : G_api_Block) (t1 : UInt8) (t2 : UInt8) (t3 : Str) (t4 : Str) (t5 : UInt8) (t6 : UInt8) (t7 : Int) (t8 : Int) (r : Bool) (h : M_law5_BlockAll t0 t1 t2 t3 t4 t5 t6 t7 t8 = some r) : FFn Try.prog 3 [(Value.agg (c_api_Block t0).toArray), (U8 t1), (U8 t2), (S t3), (S t4), (U8 t5), (U8 t6), (I t7), (I t8)] (Bo r) := by
  refine FFn.of_body (n := 221) Try.func3 rfl Try.ntmps3 rfl rfl rfl rfl ?_
  show AWp _ _ _ ⟨221, 0, [(0, (Value.agg (c_api_Block t0).toArray)), (1, (U8 t1)), (2, (U8 t2)), (3, (S t3)), (4, (S t4)), (5, (U8 t5)), (6, (U8 t6)), (7, (I t7)), (8, (I t8))], [], ⟨0, []⟩⟩
  unfold M_law5_BlockAll at h
  refine awp_seq ?_
  refine awp_region ?_
  refine arun_do rfl rfl rfl (ex_box (vx := (Value.agg (c_api_Block t0).toArray)) (cs := (c_api_Block t0)) (k := 0) (L' := [(c_api_Block t0)]) (eV (v := (Value.agg (c_api_Block t0).toArray)) rfl) rfl rfl rfl) ?_
  refine arun_do rfl rfl rfl (ex_assign (eV (v := (Bo false)) rfl)) ?_
  refine arun_keepE [1, 2, 3, 4, 5, 6, 7, 8, 9] 1 0 (st' := ⟨221, 0, [(1, (U8 t1)), (2, (U8 t2)), (3, (S t3)), (4, (S t4)), (5, (U8 t5)), (6, (U8 t6)), (7, (I t7)), (8, (I t8)), (9, (LP 0 0))], [(c_api_Block t0)], ⟨0, []⟩⟩) (by kernel_rfl) (by kernel_rfl) ?_
  show AWp _ _ _ _
  refine awp_seq ?_
  refine awp_seq ?_
  refine awp_region ?_
  obtain ⟨x1, hx1, h⟩ := bindS h
  refine arun_do rfl rfl rfl (ex_call0 (vs := []) (v := (Bo x1)) rfl en_8 (cargs evs_nil) rfl (ok_law5_begun  x1 hx1) rfl) ?_
  refine arun_do rfl rfl rfl (ex_un (vx := (Bo x1)) rfl notB_ok) ?_
  refine arun_keepE [1, 2, 3, 4, 5, 6, 7, 8, 9, 37] 1 0 (st' := ⟨221, 0, [(1, (U8 t1)), (2, (U8 t2)), (3, (S t3)), (4, (S t4)), (5, (U8 t5)), (6, (U8 t6)), (7, (I t7)), (8, (I t8)), (9, (LP 0 0)), (37, (Bo (!x1)))], [(c_api_Block t0)], ⟨0, []⟩⟩) (by kernel_rfl) (by kernel_rfl) ?_
  show AWp _ _ _ _
  rcases Bool.eq_false_or_eq_true (!x1) with hb2 | hb2
  · rw [condT hb2] at h
    refine awp_condT (boT hb2) ?_
    refine awp_seq ?_
    refine awp_region ?_
    refine arun_do rfl rfl rfl (ex_assign (eV (v := (Bo false)) rfl)) ?_
    refine arun_keepE [18] 0 0 (st' := ⟨221, 0, [(18, (Bo false))], [], ⟨0, []⟩⟩) (by kernel_rfl) (by kernel_rfl) ?_
    show AWp _ _ _ _
    refine awp_ret ?_
    cases h
    exact ares1 (rtmp rfl (eV rfl))
  · rw [condF hb2] at h
    refine awp_condF (boF hb2) ?_
    refine awp_skip ?_
    show AWp _ _ _ _
    refine awp_seq ?_
    refine awp_seq ?_
    refine awp_region ?_
    refine arun_do rfl rfl rfl (ex_fieldAddr (v := (LP 0 2)) Try.underlying23 rfl s_9 (by decide) rfl rfl) ?_
    refine arun_do rfl rfl rfl (tx_ldL1 (v := (S t0.Load)) Try.underlying9 rfl rfl rfl rfl) ?_
    refine arun_do rfl rfl rfl (tx_lenS Try.underlying9 rfl) ?_
    refine arun_do rfl rfl rfl (ex_bin (vx := (I (t0.Load.length : Int))) (vy := (I 300)) rfl rfl gtrI_ok) ?_
    refine arun_do rfl rfl rfl (ex_move (eV (v := (Bo (decide ((t0.Load.length : Int) > 300)))) rfl)) ?_
    refine arun_guard (v := (S t3)) ((decide ((t0.Load.length : Int) > 300)) == false) rfl rfl rfl (fun hc => ex_move (eV (v := (S t3)) rfl)) ?_
    refine arun_guard (v := (I (t3.length : Int))) ((decide ((t0.Load.length : Int) > 300)) == false) rfl rfl rfl (fun hc => tx_lenS Try.underlying9 (cond_of hc)) ?_
    refine arun_guard (v := (Bo (decide ((t3.length : Int) > 260)))) ((decide ((t0.Load.length : Int) > 300)) == false) rfl rfl rfl (fun hc => ex_bin (vx := (I (t3.length : Int))) (vy := (I 260)) (cond_of hc) rfl gtrI_ok) ?_
    refine arun_do rfl rfl rfl (ex_pick rfl pkOr) ?_
    refine arun_do rfl rfl rfl (ex_move (eV (v := (Bo ((decide ((t0.Load.length : Int) > 300)) || (decide ((t3.length : Int) > 260))))) rfl)) ?_
    refine arun_guard (v := (S t4)) (((decide ((t0.Load.length : Int) > 300)) || (decide ((t3.length : Int) > 260))) == false) rfl rfl rfl (fun hc => ex_move (eV (v := (S t4)) rfl)) ?_
    refine arun_guard (v := (I (t4.length : Int))) (((decide ((t0.Load.length : Int) > 300)) || (decide ((t3.length : Int) > 260))) == false) rfl rfl rfl (fun hc => tx_lenS Try.underlying9 (cond_of hc)) ?_
    refine arun_guard (v := (Bo (decide ((t4.length : Int) > 300)))) (((decide ((t0.Load.length : Int) > 300)) || (decide ((t3.length : Int) > 260))) == false) rfl rfl rfl (fun hc => ex_bin (vx := (I (t4.length : Int))) (vy := (I 300)) (cond_of hc) rfl gtrI_ok) ?_
    refine arun_do rfl rfl rfl (ex_pick rfl pkOr) ?_
    refine arun_keepE [1, 2, 3, 4, 5, 6, 7, 8, 9, 51] 1 0 (st' := ⟨221, 0, [(1, (U8 t1)), (2, (U8 t2)), (3, (S t3)), (4, (S t4)), (5, (U8 t5)), (6, (U8 t6)), (7, (I t7)), (8, (I t8)), (9, (LP 0 0)), (51, (Bo (((decide ((t0.Load.length : Int) > 300)) || (decide ((t3.length : Int) > 260))) || (decide ((t4.length : Int) > 300)))))], [(c_api_Block t0)], ⟨0, []⟩⟩) (by kernel_rfl) (by kernel_rfl) ?_
    show AWp _ _ _ _
    rcases Bool.eq_false_or_eq_true (((decide ((t0.Load.length : Int) > 300)) || (decide ((t3.length : Int) > 260))) || (decide ((t4.length : Int) > 300))) with hb3 | hb3
    · rw [condT hb3] at h
      refine awp_condT (boT hb3) ?_
      refine awp_seq ?_
      refine awp_region ?_
      refine arun_do rfl rfl rfl (ex_assign (eV (v := (Bo true)) rfl)) ?_
      refine arun_keepE [18] 0 0 (st' := ⟨221, 0, [(18, (Bo true))], [], ⟨0, []⟩⟩) (by kernel_rfl) (by kernel_rfl) ?_
      show AWp _ _ _ _
      refine awp_ret ?_
      cases h
      exact ares1 (rtmp rfl (eV rfl))
    · rw [condF hb3] at h
      refine awp_condF (boF hb3) ?_
      refine awp_skip ?_
      show AWp _ _ _ _
      refine awp_seq ?_
      refine awp_region ?_
      refine arun_do rfl rfl rfl (ex_move (eV (v := (U8 t1)) rfl)) ?_
      refine arun_do rfl rfl rfl (ex_move (eV (v := (U8 t2)) rfl)) ?_
      refine arun_do rfl rfl rfl (ex_move (eV (v := (S t3)) rfl)) ?_
      obtain ⟨x4, hx4, h⟩ := bindS h
      refine arun_do rfl rfl rfl (ex_call0 (vs := [(U8 t1), (U8 t2), (S t3)]) (v := (Value.agg (c_api_Block x4).toArray)) rfl en_9 (cargs (evs rfl (evs rfl (evs rfl evs_nil)))) rfl (ok_law5_made t1 t2 t3 x4 hx4) rfl) ?_
      refine arun_do rfl rfl rfl (ex_alloc (k := 1) (zs := (c_api_Block (G_api_Block.mk 0 0 []))) (L' := [(c_api_Block t0), (c_api_Block (G_api_Block.mk 0 0 []))]) z_23 rfl rfl rfl rfl) ?_
      refine arun_do0 rfl rfl (ex_storeL (vy := (Value.agg (c_api_Block x4).toArray)) (cs := (c_api_Block (G_api_Block.mk 0 0 []))) (vs := (c_api_Block x4)) (L' := [(c_api_Block t0), (c_api_Block x4)]) rfl (eV (v := (Value.agg (c_api_Block x4).toArray)) rfl) rfl s_23 rfl (Nat.le_of_ble_eq_true rfl) (by kernel_rfl)) ?_
      refine arun_keepE [4, 5, 6, 7, 8, 9, 19] 2 0 (st' := ⟨221, 0, [(4, (S t4)), (5, (U8 t5)), (6, (U8 t6)), (7, (I t7)), (8, (I t8)), (9, (LP 0 0)), (19, (LP 1 0))], [(c_api_Block t0), (c_api_Block x4)], ⟨0, []⟩⟩) (by kernel_rfl) (by kernel_rfl) ?_
      show AWp _ _ _ _
      refine awp_seq ?_
      refine awp_seq ?_
      obtain ⟨x5, hx5, h⟩ := bindS h
      obtain ⟨x6, hx6, h⟩ := bindS h
      obtain ⟨x7, hx7, h⟩ := bindS h
      obtain ⟨x8, hx8, h⟩ := bindS h
      obtain ⟨x9, hx9, h⟩ := bindS h
      obtain ⟨x10, hx10, h⟩ := bindS h
      obtain ⟨x11, hx11, h⟩ := bindS h
      obtain ⟨x12, hx12, h⟩ := bindS h
      refine awp_kn [4, 5, 6, 7, 8, 19, 83] 2 0 (st' := ⟨221, 0, [(4, (S t4)), (5, (U8 t5)), (6, (U8 t6)), (7, (I t7)), (8, (I t8)), (19, (LP 1 0)), (83, (Bo ((((x5 != x6) || (x7 != x8)) || (x9 != x10)) || (!decide (x11 = x12)))))], [(c_api_Block t0), (c_api_Block x4)], ⟨0, []⟩⟩) (awp_draw (T := [(Value.agg (c_api_Block t0).toArray), (Bo x5), (Value.agg (c_api_Block t0).toArray), (Bo x6), (Bo (x5 != x6)), (Bo (x5 != x6)), (cond ((x5 != x6) == false) (Value.agg (c_api_Block t0).toArray) skipV), (cond ((x5 != x6) == false) (S x7) skipV), (cond ((x5 != x6) == false) (Value.agg (c_api_Block t0).toArray) skipV), (cond ((x5 != x6) == false) (S x8) skipV), (cond ((x5 != x6) == false) (Bo (x7 != x8)) skipV), (Bo ((x5 != x6) || (x7 != x8))), (Bo ((x5 != x6) || (x7 != x8))), (cond (((x5 != x6) || (x7 != x8)) == false) (Value.agg (c_api_Block x4).toArray) skipV), (cond (((x5 != x6) || (x7 != x8)) == false) (S x9) skipV), (cond (((x5 != x6) || (x7 != x8)) == false) (Value.agg (c_api_Block x4).toArray) skipV), (cond (((x5 != x6) || (x7 != x8)) == false) (S x10) skipV), (cond (((x5 != x6) || (x7 != x8)) == false) (Bo (x9 != x10)) skipV), (Bo (((x5 != x6) || (x7 != x8)) || (x9 != x10))), (Bo (((x5 != x6) || (x7 != x8)) || (x9 != x10))), (cond ((((x5 != x6) || (x7 != x8)) || (x9 != x10)) == false) (I t7) skipV), (cond ((((x5 != x6) || (x7 != x8)) || (x9 != x10)) == false) (Value.agg (c_api_Block x4).toArray) skipV), (cond ((((x5 != x6) || (x7 != x8)) || (x9 != x10)) == false) (Value.agg (c_api_Ptr x11).toArray) skipV), (cond ((((x5 != x6) || (x7 != x8)) || (x9 != x10)) == false) (I t7) skipV), (cond ((((x5 != x6) || (x7 != x8)) || (x9 != x10)) == false) (Value.agg (c_api_Block x4).toArray) skipV), (cond ((((x5 != x6) || (x7 != x8)) || (x9 != x10)) == false) (Value.agg (c_api_Ptr x12).toArray) skipV), (cond ((((x5 != x6) || (x7 != x8)) || (x9 != x10)) == false) (Bo (!decide (x11 = x12))) skipV), (Bo ((((x5 != x6) || (x7 != x8)) || (x9 != x10)) || (!decide (x11 = x12))))]) (LH := [([(c_api_Block t0), (c_api_Block x4)], ⟨0, []⟩)]) (D := [⟨[(9, none)], [], [0], false⟩, ⟨[(56, some 0)], [0], [0], false⟩, ⟨[(9, none)], [], [0], false⟩, ⟨[(58, some 2)], [0, 1, 2], [0], false⟩, ⟨[(57, some 1), (59, some 3)], [0, 1, 2, 3], [0], false⟩, ⟨[(60, some 4)], [0, 1, 2, 3, 4], [0], false⟩, ⟨[(9, none), (61, some 5)], [0, 1, 2, 3, 4, 5], [0], false⟩, ⟨[(62, some 6), (61, some 5)], [0, 1, 2, 3, 4, 5, 6], [0], false⟩, ⟨[(9, none), (61, some 5)], [0, 1, 2, 3, 4, 5], [0], false⟩, ⟨[(64, some 8), (61, some 5)], [0, 1, 2, 3, 4, 5, 6, 7, 8], [0], false⟩, ⟨[(63, some 7), (65, some 9), (61, some 5)], [0, 1, 2, 3, 4, 5, 6, 7, 8, 9], [0], false⟩, ⟨[(61, some 5), (66, some 10)], [0, 1, 2, 3, 4, 5, 6, 7, 8, 9, 10], [0], false⟩, ⟨[(67, some 11)], [0, 1, 2, 3, 4, 5, 6, 7, 8, 9, 10, 11], [0], false⟩, ⟨[(19, none), (68, some 12)], [0, 1, 2, 3, 4, 5, 6, 7, 8, 9, 10, 11, 12], [0], false⟩, ⟨[(69, some 13), (68, some 12)], [0, 1, 2, 3, 4, 5, 6, 7, 8, 9, 10, 11, 12, 13], [0], false⟩, ⟨[(19, none), (68, some 12)], [0, 1, 2, 3, 4, 5, 6, 7, 8, 9, 10, 11, 12], [0], false⟩, ⟨[(71, some 15), (68, some 12)], [0, 1, 2, 3, 4, 5, 6, 7, 8, 9, 10, 11, 12, 13, 14, 15], [0], false⟩, ⟨[(70, some 14), (72, some 16), (68, some 12)], [0, 1, 2, 3, 4, 5, 6, 7, 8, 9, 10, 11, 12, 13, 14, 15, 16], [0], false⟩, ⟨[(68, some 12), (73, some 17)], [0, 1, 2, 3, 4, 5, 6, 7, 8, 9, 10, 11, 12, 13, 14, 15, 16, 17], [0], false⟩, ⟨[(74, some 18)], [0, 1, 2, 3, 4, 5, 6, 7, 8, 9, 10, 11, 12, 13, 14, 15, 16, 17, 18], [0], false⟩, ⟨[(7, none), (75, some 19)], [0, 1, 2, 3, 4, 5, 6, 7, 8, 9, 10, 11, 12, 13, 14, 15, 16, 17, 18, 19], [0], false⟩, ⟨[(19, none), (75, some 19)], [0, 1, 2, 3, 4, 5, 6, 7, 8, 9, 10, 11, 12, 13, 14, 15, 16, 17, 18, 19], [0], false⟩, ⟨[(76, some 20), (77, some 21), (75, some 19)], [0, 1, 2, 3, 4, 5, 6, 7, 8, 9, 10, 11, 12, 13, 14, 15, 16, 17, 18, 19, 20, 21], [0], false⟩, ⟨[(7, none), (75, some 19)], [0, 1, 2, 3, 4, 5, 6, 7, 8, 9, 10, 11, 12, 13, 14, 15, 16, 17, 18, 19], [0], false⟩, ⟨[(19, none), (75, some 19)], [0, 1, 2, 3, 4, 5, 6, 7, 8, 9, 10, 11, 12, 13, 14, 15, 16, 17, 18, 19], [0], false⟩, ⟨[(79, some 23), (80, some 24), (75, some 19)], [0, 1, 2, 3, 4, 5, 6, 7, 8, 9, 10, 11, 12, 13, 14, 15, 16, 17, 18, 19, 20, 21, 22, 23, 24], [0], false⟩, ⟨[(78, some 22), (81, some 25), (75, some 19)], [0, 1, 2, 3, 4, 5, 6, 7, 8, 9, 10, 11, 12, 13, 14, 15, 16, 17, 18, 19, 20, 21, 22, 23, 24, 25], [0], false⟩, ⟨[(75, some 19), (82, some 26)], [0, 1, 2, 3, 4, 5, 6, 7, 8, 9, 10, 11, 12, 13, 14, 15, 16, 17, 18, 19, 20, 21, 22, 23, 24, 25, 26], [0], false⟩]) (S := []) (plan := [0, 1, 2, 3, 4, 5, 6, 7, 8, 9, 10, 11, 12, 13, 14, 15, 16, 17, 18, 19, 20, 21, 22, 23, 24, 25, 26, 27]) mo (by kernel_rfl) rfl rfl rfl (dcons (dstep1 (Tm := [(9, (LP 0 0))]) (L := [(c_api_Block t0), (c_api_Block x4)]) (H := ⟨0, []⟩) rfl rfl rfl rfl rfl (astep_do rfl (tx_ldLA (vs := (c_api_Block t0)) Try.underlying23 rfl s_23 (by decide) rfl rfl rfl rfl))) (dcons (dstep1 (Tm := [(56, (Value.agg (c_api_Block t0).toArray))]) (L := [(c_api_Block t0), (c_api_Block x4)]) (H := ⟨0, []⟩) rfl rfl rfl rfl rfl (astep_do rfl (ex_call0 (vs := [(Value.agg (c_api_Block t0).toArray)]) (v := (Bo x5)) rfl en_10 (cargs (evs rfl evs_nil)) rfl (ok_block_May t0 x5 hx5) rfl))) (dcons (dstep1 (Tm := [(9, (LP 0 0))]) (L := [(c_api_Block t0), (c_api_Block x4)]) (H := ⟨0, []⟩) rfl rfl rfl rfl rfl (astep_do rfl (tx_ldLA (vs := (c_api_Block t0)) Try.underlying23 rfl s_23 (by decide) rfl rfl rfl rfl))) (dcons (dstep1 (Tm := [(58, (Value.agg (c_api_Block t0).toArray))]) (L := [(c_api_Block t0), (c_api_Block x4)]) (H := ⟨0, []⟩) rfl rfl rfl rfl rfl (astep_do rfl (ex_call0 (vs := [(Value.agg (c_api_Block t0).toArray)]) (v := (Bo x6)) rfl en_11 (cargs (evs rfl evs_nil)) rfl (ok_ref1_MayBlock t0 x6 hx6) rfl))) (dcons (dstep1 (Tm := [(57, (Bo x5)), (59, (Bo x6))]) (L := [(c_api_Block t0), (c_api_Block x4)]) (H := ⟨0, []⟩) rfl rfl rfl rfl rfl (astep_do rfl (ex_bin (vx := (Bo x5)) (vy := (Bo x6)) rfl rfl (neqB_ok Try.underlying4)))) (dcons (dstep1 (Tm := [(60, (Bo (x5 != x6)))]) (L := [(c_api_Block t0), (c_api_Block x4)]) (H := ⟨0, []⟩) rfl rfl rfl rfl rfl (astep_do rfl (ex_move (eV (v := (Bo (x5 != x6))) rfl)))) (dcons (dstep1 (Tm := [(9, (LP 0 0)), (61, (Bo (x5 != x6)))]) (L := [(c_api_Block t0), (c_api_Block x4)]) (H := ⟨0, []⟩) rfl rfl rfl rfl rfl (astep_guard (v := (Value.agg (c_api_Block t0).toArray)) ((x5 != x6) == false) rfl (fun hc => tx_ldLA (vs := (c_api_Block t0)) Try.underlying23 rfl s_23 (by decide) rfl rfl rfl rfl))) (dcons (dstep1 (Tm := [(62, (cond ((x5 != x6) == false) (Value.agg (c_api_Block t0).toArray) skipV)), (61, (Bo (x5 != x6)))]) (L := [(c_api_Block t0), (c_api_Block x4)]) (H := ⟨0, []⟩) rfl rfl rfl rfl rfl (astep_guard (v := (S x7)) ((x5 != x6) == false) rfl (fun hc => ex_call0 (vs := [(Value.agg (c_api_Block t0).toArray)]) (v := (S x7)) rfl en_12 (cargs (evs (cond_of hc) evs_nil)) rfl (ok_block_Put t0 x7 (gd_of hc hx7)) rfl))) (dcons (dstep1 (Tm := [(9, (LP 0 0)), (61, (Bo (x5 != x6)))]) (L := [(c_api_Block t0), (c_api_Block x4)]) (H := ⟨0, []⟩) rfl rfl rfl rfl rfl (astep_guard (v := (Value.agg (c_api_Block t0).toArray)) ((x5 != x6) == false) rfl (fun hc => tx_ldLA (vs := (c_api_Block t0)) Try.underlying23 rfl s_23 (by decide) rfl rfl rfl rfl))) (dcons (dstep1 (Tm := [(64, (cond ((x5 != x6) == false) (Value.agg (c_api_Block t0).toArray) skipV)), (61, (Bo (x5 != x6)))]) (L := [(c_api_Block t0), (c_api_Block x4)]) (H := ⟨0, []⟩) rfl rfl rfl rfl rfl (astep_guard (v := (S x8)) ((x5 != x6) == false) rfl (fun hc => ex_call0 (vs := [(Value.agg (c_api_Block t0).toArray)]) (v := (S x8)) rfl en_13 (cargs (evs (cond_of hc) evs_nil)) rfl (ok_ref1_PutBlock t0 x8 (gd_of hc hx8)) rfl))) (dcons (dstep1 (Tm := [(63, (cond ((x5 != x6) == false) (S x7) skipV)), (65, (cond ((x5 != x6) == false) (S x8) skipV)), (61, (Bo (x5 != x6)))]) (L := [(c_api_Block t0), (c_api_Block x4)]) (H := ⟨0, []⟩) rfl rfl rfl rfl rfl (astep_guard (v := (Bo (x7 != x8))) ((x5 != x6) == false) rfl (fun hc => ex_bin (vx := (S x7)) (vy := (S x8)) (cond_of hc) (cond_of hc) neqS_ok))) (dcons (dstep1 (Tm := [(61, (Bo (x5 != x6))), (66, (cond ((x5 != x6) == false) (Bo (x7 != x8)) skipV))]) (L := [(c_api_Block t0), (c_api_Block x4)]) (H := ⟨0, []⟩) rfl rfl rfl rfl rfl (astep_do rfl (ex_pick rfl pkOr))) (dcons (dstep1 (Tm := [(67, (Bo ((x5 != x6) || (x7 != x8))))]) (L := [(c_api_Block t0), (c_api_Block x4)]) (H := ⟨0, []⟩) rfl rfl rfl rfl rfl (astep_do rfl (ex_move (eV (v := (Bo ((x5 != x6) || (x7 != x8)))) rfl)))) (dcons (dstep1 (Tm := [(19, (LP 1 0)), (68, (Bo ((x5 != x6) || (x7 != x8))))]) (L := [(c_api_Block t0), (c_api_Block x4)]) (H := ⟨0, []⟩) rfl rfl rfl rfl rfl (astep_guard (v := (Value.agg (c_api_Block x4).toArray)) (((x5 != x6) || (x7 != x8)) == false) rfl (fun hc => tx_ldLA (vs := (c_api_Block x4)) Try.underlying23 rfl s_23 (by decide) rfl rfl rfl rfl))) (dcons (dstep1 (Tm := [(69, (cond (((x5 != x6) || (x7 != x8)) == false) (Value.agg (c_api_Block x4).toArray) skipV)), (68, (Bo ((x5 != x6) || (x7 != x8))))]) (L := [(c_api_Block t0), (c_api_Block x4)]) (H := ⟨0, []⟩) rfl rfl rfl rfl rfl (astep_guard (v := (S x9)) (((x5 != x6) || (x7 != x8)) == false) rfl (fun hc => ex_call0 (vs := [(Value.agg (c_api_Block x4).toArray)]) (v := (S x9)) rfl en_12 (cargs (evs (cond_of hc) evs_nil)) rfl (ok_block_Put x4 x9 (gd_of hc hx9)) rfl))) (dcons (dstep1 (Tm := [(19, (LP 1 0)), (68, (Bo ((x5 != x6) || (x7 != x8))))]) (L := [(c_api_Block t0), (c_api_Block x4)]) (H := ⟨0, []⟩) rfl rfl rfl rfl rfl (astep_guard (v := (Value.agg (c_api_Block x4).toArray)) (((x5 != x6) || (x7 != x8)) == false) rfl (fun hc => tx_ldLA (vs := (c_api_Block x4)) Try.underlying23 rfl s_23 (by decide) rfl rfl rfl rfl))) (dcons (dstep1 (Tm := [(71, (cond (((x5 != x6) || (x7 != x8)) == false) (Value.agg (c_api_Block x4).toArray) skipV)), (68, (Bo ((x5 != x6) || (x7 != x8))))]) (L := [(c_api_Block t0), (c_api_Block x4)]) (H := ⟨0, []⟩) rfl rfl rfl rfl rfl (astep_guard (v := (S x10)) (((x5 != x6) || (x7 != x8)) == false) rfl (fun hc => ex_call0 (vs := [(Value.agg (c_api_Block x4).toArray)]) (v := (S x10)) rfl en_13 (cargs (evs (cond_of hc) evs_nil)) rfl (ok_ref1_PutBlock x4 x10 (gd_of hc hx10)) rfl))) (dcons (dstep1 (Tm := [(70, (cond (((x5 != x6) || (x7 != x8)) == false) (S x9) skipV)), (72, (cond (((x5 != x6) || (x7 != x8)) == false) (S x10) skipV)), (68, (Bo ((x5 != x6) || (x7 != x8))))]) (L := [(c_api_Block t0), (c_api_Block x4)]) (H := ⟨0, []⟩) rfl rfl rfl rfl rfl (astep_guard (v := (Bo (x9 != x10))) (((x5 != x6) || (x7 != x8)) == false) rfl (fun hc => ex_bin (vx := (S x9)) (vy := (S x10)) (cond_of hc) (cond_of hc) neqS_ok))) (dcons (dstep1 (Tm := [(68, (Bo ((x5 != x6) || (x7 != x8)))), (73, (cond (((x5 != x6) || (x7 != x8)) == false) (Bo (x9 != x10)) skipV))]) (L := [(c_api_Block t0), (c_api_Block x4)]) (H := ⟨0, []⟩) rfl rfl rfl rfl rfl (astep_do rfl (ex_pick rfl pkOr))) (dcons (dstep1 (Tm := [(74, (Bo (((x5 != x6) || (x7 != x8)) || (x9 != x10))))]) (L := [(c_api_Block t0), (c_api_Block x4)]) (H := ⟨0, []⟩) rfl rfl rfl rfl rfl (astep_do rfl (ex_move (eV (v := (Bo (((x5 != x6) || (x7 != x8)) || (x9 != x10)))) rfl)))) (dcons (dstep1 (Tm := [(7, (I t7)), (75, (Bo (((x5 != x6) || (x7 != x8)) || (x9 != x10))))]) (L := [(c_api_Block t0), (c_api_Block x4)]) (H := ⟨0, []⟩) rfl rfl rfl rfl rfl (astep_guard (v := (I t7)) ((((x5 != x6) || (x7 != x8)) || (x9 != x10)) == false) rfl (fun hc => ex_move (eV (v := (I t7)) rfl)))) (dcons (dstep1 (Tm := [(19, (LP 1 0)), (75, (Bo (((x5 != x6) || (x7 != x8)) || (x9 != x10))))]) (L := [(c_api_Block t0), (c_api_Block x4)]) (H := ⟨0, []⟩) rfl rfl rfl rfl rfl (astep_guard (v := (Value.agg (c_api_Block x4).toArray)) ((((x5 != x6) || (x7 != x8)) || (x9 != x10)) == false) rfl (fun hc => tx_ldLA (vs := (c_api_Block x4)) Try.underlying23 rfl s_23 (by decide) rfl rfl rfl rfl))) (dcons (dstep1 (Tm := [(76, (cond ((((x5 != x6) || (x7 != x8)) || (x9 != x10)) == false) (I t7) skipV)), (77, (cond ((((x5 != x6) || (x7 != x8)) || (x9 != x10)) == false) (Value.agg (c_api_Block x4).toArray) skipV)), (75, (Bo (((x5 != x6) || (x7 != x8)) || (x9 != x10))))]) (L := [(c_api_Block t0), (c_api_Block x4)]) (H := ⟨0, []⟩) rfl rfl rfl rfl rfl (astep_guard (v := (Value.agg (c_api_Ptr x11).toArray)) ((((x5 != x6) || (x7 != x8)) || (x9 != x10)) == false) rfl (fun hc => ex_call0 (vs := [(I t7), (Value.agg (c_api_Block x4).toArray)]) (v := (Value.agg (c_api_Ptr x11).toArray)) rfl en_14 (cargs (evs (cond_of hc) (evs (cond_of hc) evs_nil))) rfl (ok_block_Ptr t7 x4 x11 (gd_of hc hx11)) rfl))) (dcons (dstep1 (Tm := [(7, (I t7)), (75, (Bo (((x5 != x6) || (x7 != x8)) || (x9 != x10))))]) (L := [(c_api_Block t0), (c_api_Block x4)]) (H := ⟨0, []⟩) rfl rfl rfl rfl rfl (astep_guard (v := (I t7)) ((((x5 != x6) || (x7 != x8)) || (x9 != x10)) == false) rfl (fun hc => ex_move (eV (v := (I t7)) rfl)))) (dcons (dstep1 (Tm := [(19, (LP 1 0)), (75, (Bo (((x5 != x6) || (x7 != x8)) || (x9 != x10))))]) (L := [(c_api_Block t0), (c_api_Block x4)]) (H := ⟨0, []⟩) rfl rfl rfl rfl rfl (astep_guard (v := (Value.agg (c_api_Block x4).toArray)) ((((x5 != x6) || (x7 != x8)) || (x9 != x10)) == false) rfl (fun hc => tx_ldLA (vs := (c_api_Block x4)) Try.underlying23 rfl s_23 (by decide) rfl rfl rfl rfl))) (dcons (dstep1 (Tm := [(79, (cond ((((x5 != x6) || (x7 != x8)) || (x9 != x10)) == false) (I t7) skipV)), (80, (cond ((((x5 != x6) || (x7 != x8)) || (x9 != x10)) == false) (Value.agg (c_api_Block x4).toArray) skipV)), (75, (Bo (((x5 != x6) || (x7 != x8)) || (x9 != x10))))]) (L := [(c_api_Block t0), (c_api_Block x4)]) (H := ⟨0, []⟩) rfl rfl rfl rfl rfl (astep_guard (v := (Value.agg (c_api_Ptr x12).toArray)) ((((x5 != x6) || (x7 != x8)) || (x9 != x10)) == false) rfl (fun hc => ex_call0 (vs := [(I t7), (Value.agg (c_api_Block x4).toArray)]) (v := (Value.agg (c_api_Ptr x12).toArray)) rfl en_15 (cargs (evs (cond_of hc) (evs (cond_of hc) evs_nil))) rfl (ok_ref1_BlockPtr t7 x4 x12 (gd_of hc hx12)) rfl))) (dcons (dstep1 (Tm := [(78, (cond ((((x5 != x6) || (x7 != x8)) || (x9 != x10)) == false) (Value.agg (c_api_Ptr x11).toArray) skipV)), (81, (cond ((((x5 != x6) || (x7 != x8)) || (x9 != x10)) == false) (Value.agg (c_api_Ptr x12).toArray) skipV)), (75, (Bo (((x5 != x6) || (x7 != x8)) || (x9 != x10))))]) (L := [(c_api_Block t0), (c_api_Block x4)]) (H := ⟨0, []⟩) rfl rfl rfl rfl rfl (astep_guard (v := (Bo (!decide (x11 = x12)))) ((((x5 != x6) || (x7 != x8)) || (x9 != x10)) == false) rfl (fun hc => ex_bin (vx := (Value.agg (c_api_Ptr x11).toArray)) (vy := (Value.agg (c_api_Ptr x12).toArray)) (cond_of hc) (cond_of hc) neq_32))) (dcons (dstep1 (Tm := [(75, (Bo (((x5 != x6) || (x7 != x8)) || (x9 != x10)))), (82, (cond ((((x5 != x6) || (x7 != x8)) || (x9 != x10)) == false) (Bo (!decide (x11 = x12))) skipV))]) (L := [(c_api_Block t0), (c_api_Block x4)]) (H := ⟨0, []⟩) rfl rfl rfl rfl rfl (astep_do rfl (ex_pick rfl pkOr))) dnil)))))))))))))))))))))))))))) ⟨rfl, rfl⟩) (by kernel_rfl) (by kernel_rfl) ?_
      show AWp _ _ _ _
      rcases Bool.eq_false_or_eq_true ((((x5 != x6) || (x7 != x8)) || (x9 != x10)) || (!decide (x11 = x12))) with hb13 | hb13
      · rw [condT hb13] at h
        refine awp_condT (boT hb13) ?_
        refine awp_seq ?_
        refine awp_region ?_
        refine arun_do rfl rfl rfl (ex_assign (eV (v := (Bo false)) rfl)) ?_
        refine arun_keepE [18] 0 0 (st' := ⟨221, 0, [(18, (Bo false))], [], ⟨0, []⟩⟩) (by kernel_rfl) (by kernel_rfl) ?_
        show AWp _ _ _ _
        refine awp_ret ?_
        cases h
        exact ares1 (rtmp rfl (eV rfl))
      · rw [condF hb13] at h
        refine awp_condF (boF hb13) ?_
        refine awp_skip ?_
        show AWp _ _ _ _
        refine awp_seq ?_
        refine awp_region ?_
        refine arun_do rfl rfl rfl (tx_ldLA (vs := (c_api_Block x4)) Try.underlying23 rfl s_23 (by decide) rfl rfl rfl rfl) ?_
        obtain ⟨x14, hx14, h⟩ := bindS h
        refine arun_do rfl rfl rfl (ex_call0 (vs := [(Value.agg (c_api_Block x4).toArray)]) (v := (S x14)) rfl en_13 (cargs (evs rfl evs_nil)) rfl (ok_ref1_PutBlock x4 x14 hx14) rfl) ?_
        refine arun_do rfl rfl rfl (tx_sbG (k := 0) (H' := ⟨1, [(0, ⟨1, ((x14).flatMap c8), true⟩)]⟩) Try.underlying9 Try.underlying34 Try.underlying5 rfl rfl rfl) ?_
        refine arun_do rfl rfl rfl (ex_assign (eV (v := (GV 0 (x14).length)) rfl)) ?_
        refine arun_keepE [4, 5, 6, 7, 8, 19, 20] 2 1 (st' := ⟨221, 0, [(4, (S t4)), (5, (U8 t5)), (6, (U8 t6)), (7, (I t7)), (8, (I t8)), (19, (LP 1 0)), (20, (GV 0 (x14).length))], [(c_api_Block t0), (c_api_Block x4)], ⟨1, [(0, ⟨1, ((x14).flatMap c8), true⟩)]⟩⟩) (by kernel_rfl) (by kernel_rfl) ?_
        show AWp _ _ _ _
        refine awp_seq ?_
        refine awp_region ?_
        refine arun_do rfl rfl rfl (ex_move (eV (v := (GV 0 (x14).length)) rfl)) ?_
        refine arun_do rfl rfl rfl (ex_move (eV (v := (U8 t5)) rfl)) ?_
        obtain ⟨x15, hx15, h⟩ := bindS h
        refine arun_do rfl rfl rfl (tx_idxG (c := c8) (xs := x14) (i := (t5.toNat : Int)) ce8 Try.underlying34 s_5 rfl rfl rfl rfl hx15) ?_
        refine arun_do rfl rfl rfl (tx_ldG (v := (U8 x15)) (s := 1) rfl rfl (part_elem (off := 0) (v := (U8 x15)) ce8 hx15 Try.underlying5 rfl (by decide) rfl)) ?_
        refine arun_do rfl rfl rfl (ex_move (eV (v := (U8 t6)) rfl)) ?_
        refine arun_do rfl rfl rfl (ex_bin (vx := (U8 x15)) (vy := (U8 t6)) rfl rfl xor8_ok) ?_
        obtain ⟨x16, hx16, h⟩ := bindS h
        refine arun_do rfl rfl rfl (tx_idxG (c := c8) (xs := x14) (i := (t5.toNat : Int)) ce8 Try.underlying34 s_5 rfl rfl rfl rfl hx16) ?_
        obtain ⟨x17, hx17, h⟩ := bindS h
        refine arun_do0 rfl rfl (tx_stG (c := c8) (xs := x14) (e := (x15 ^^^ t6)) (H' := ⟨1, [(0, ⟨1, ((x17).flatMap c8), true⟩)]⟩) ce8 s_5 rfl (eV (v := (U8 (x15 ^^^ t6))) rfl) rfl rfl hx17 rfl) ?_
        refine arun_fewer (T' := [(4, (S t4)), (5, (U8 t5)), (6, (U8 t6)), (7, (I t7)), (8, (I t8)), (19, (LP 1 0)), (20, (GV 0 x17.length)), (87, (GV 0 x17.length)), (88, (U8 t5)), (90, (U8 x15)), (91, (U8 t6)), (92, (U8 (x15 ^^^ t6)))]) (ReT.keep (v := (S t4)) rfl (ReT.keep (v := (U8 t5)) rfl (ReT.keep (v := (U8 t6)) rfl (ReT.keep (v := (I t7)) rfl (ReT.keep (v := (I t8)) rfl (ReT.keep (v := (LP 1 0)) rfl (ReT.gv rfl (setI_len hx17) (ReT.gv rfl (setI_len hx17) (ReT.keep (v := (U8 t5)) rfl (ReT.keep (v := (U8 x15)) rfl (ReT.keep (v := (U8 t6)) rfl (ReT.keep (v := (U8 (x15 ^^^ t6))) rfl ReT.nil)))))))))))) ?_
        refine arun_keepE [4, 6, 7, 8, 19, 20] 2 1 (st' := ⟨221, 0, [(4, (S t4)), (6, (U8 t6)), (7, (I t7)), (8, (I t8)), (19, (LP 1 0)), (20, (GV 0 x17.length))], [(c_api_Block t0), (c_api_Block x4)], ⟨1, [(0, ⟨1, ((x17).flatMap c8), true⟩)]⟩⟩) (by kernel_rfl) (by kernel_rfl) ?_
        show AWp _ _ _ _
        refine awp_seq ?_
        obtain ⟨x18, hx18, h⟩ := bindS h
        refine awp_kn [6, 7, 8, 19, 21] 2 0 (st' := ⟨221, 0, [(6, (U8 t6)), (7, (I t7)), (8, (I t8)), (19, (LP 1 0)), (21, (SL 1 cS ([t4, x17, x18] : List Str)))], [(c_api_Block t0), (c_api_Block x4)], ⟨0, []⟩⟩) (awp_draw (T := [(S t4), (GV 0 x17.length), (S x17), (Value.agg (c_api_Block x4).toArray), (S x18), (SL 1 cS ([t4, x17, x18] : List Str)), (SL 1 cS ([t4, x17, x18] : List Str))]) (LH := [([(c_api_Block t0), (c_api_Block x4)], ⟨1, [(0, ⟨1, ((x17).flatMap c8), true⟩)]⟩)]) (D := [⟨[(4, none)], [], [0], false⟩, ⟨[(20, none)], [], [0], false⟩, ⟨[(95, some 1)], [1], [0], false⟩, ⟨[(19, none)], [], [0], false⟩, ⟨[(97, some 3)], [3], [0], false⟩, ⟨[(94, some 0), (96, some 2), (98, some 4)], [0, 1, 2, 3, 4], [0], false⟩, ⟨[(99, some 5)], [0, 1, 2, 3, 4, 5], [0], false⟩]) (S := []) (plan := [0, 1, 2, 3, 4, 5, 6]) mo (by kernel_rfl) rfl rfl rfl (dcons (dstep1 (Tm := [(4, (S t4))]) (L := [(c_api_Block t0), (c_api_Block x4)]) (H := ⟨1, [(0, ⟨1, ((x17).flatMap c8), true⟩)]⟩) rfl rfl rfl rfl rfl (astep_do rfl (ex_move (eV (v := (S t4)) rfl)))) (dcons (dstep1 (Tm := [(20, (GV 0 x17.length))]) (L := [(c_api_Block t0), (c_api_Block x4)]) (H := ⟨1, [(0, ⟨1, ((x17).flatMap c8), true⟩)]⟩) rfl rfl rfl rfl rfl (astep_do rfl (ex_move (eV (v := (GV 0 x17.length)) rfl)))) (dcons (dstep1 (Tm := [(95, (GV 0 x17.length))]) (L := [(c_api_Block t0), (c_api_Block x4)]) (H := ⟨1, [(0, ⟨1, ((x17).flatMap c8), true⟩)]⟩) rfl rfl rfl rfl rfl (astep_do rfl (tx_bsG (bs := x17) Try.underlying34 Try.underlying9 Try.underlying5 rfl rfl rfl))) (dcons (dstep1 (Tm := [(19, (LP 1 0))]) (L := [(c_api_Block t0), (c_api_Block x4)]) (H := ⟨1, [(0, ⟨1, ((x17).flatMap c8), true⟩)]⟩) rfl rfl rfl rfl rfl (astep_do rfl (tx_ldLA (vs := (c_api_Block x4)) Try.underlying23 rfl s_23 (by decide) rfl rfl rfl rfl))) (dcons (dstep1 (Tm := [(97, (Value.agg (c_api_Block x4).toArray))]) (L := [(c_api_Block t0), (c_api_Block x4)]) (H := ⟨1, [(0, ⟨1, ((x17).flatMap c8), true⟩)]⟩) rfl rfl rfl rfl rfl (astep_do rfl (ex_call0 (vs := [(Value.agg (c_api_Block x4).toArray)]) (v := (S x18)) rfl en_13 (cargs (evs rfl evs_nil)) rfl (ok_ref1_PutBlock x4 x18 hx18) rfl))) (dcons (dstep1 (Tm := [(94, (S t4)), (96, (S x17)), (98, (S x18))]) (L := [(c_api_Block t0), (c_api_Block x4)]) (H := ⟨1, [(0, ⟨1, ((x17).flatMap c8), true⟩)]⟩) rfl rfl rfl rfl rfl (astep_do rfl (ex_buildSliceD (qs := [(0, (S t4)), (1, (S x17)), (2, (S x18))]) (cells := (([t4, x17, x18] : List Str).flatMap cS)) Try.underlying35 s_9 (by decide) (evp rfl (evp rfl (evp rfl evp_nil))) rfl (by kernel_rfl) (by kernel_rfl) (by kernel_rfl)))) (dcons (dstep1 (Tm := [(99, (SL 1 cS ([t4, x17, x18] : List Str)))]) (L := [(c_api_Block t0), (c_api_Block x4)]) (H := ⟨1, [(0, ⟨1, ((x17).flatMap c8), true⟩)]⟩) rfl rfl rfl rfl rfl (astep_do rfl (ex_assign (eV (v := (SL 1 cS ([t4, x17, x18] : List Str))) rfl)))) dnil))))))) ⟨rfl, rfl⟩) (by kernel_rfl) (by kernel_rfl) ?_
        show AWp _ _ _ _
        refine awp_seq ?_
        refine awp_seq ?_
        refine awp_region ?_
        refine arun_do rfl rfl rfl (ex_assign (eV (v := (I 0)) rfl)) ?_
        refine arun_keepE [6, 7, 8, 19, 21, 22] 2 0 (st' := ⟨221, 0, [(6, (U8 t6)), (7, (I t7)), (8, (I t8)), (19, (LP 1 0)), (21, (SL 1 cS ([t4, x17, x18] : List Str))), (22, (I 0))], [(c_api_Block t0), (c_api_Block x4)], ⟨0, []⟩⟩) (by kernel_rfl) (by kernel_rfl) ?_
        show AWp _ _ _ _
        refine awp_block ?_
        refine awp_loop (fun n s => ∃ (v19 : Int), s = ⟨221, 0, [(6, (U8 t6)), (7, (I t7)), (8, (I t8)), (19, (LP 1 0)), (21, (SL 1 cS ([t4, x17, x18] : List Str))), (22, (I v19))], [(c_api_Block t0), (c_api_Block x4)], ⟨0, []⟩⟩ ∧ M_law5_BlockAll_l1 t0 t4 t6 t7 t8 x4 x17 x18 n v19 = some r) fuel (Exists.intro 0 (And.intro rfl h)) ?_
        rintro n s ⟨v19, rfl, h⟩ -
        cases n with
        | zero => cases h
        | succ n1 =>
          unfold M_law5_BlockAll_l1 at h
          refine awp_seq ?_
          refine awp_seq ?_
          refine awp_region ?_
          refine arun_do rfl rfl rfl (ex_move (eV (v := (I v19)) rfl)) ?_
          refine arun_do rfl rfl rfl (ex_bin (vx := (I v19)) (vy := (I 3)) rfl rfl lssI_ok) ?_
          refine arun_keepE [6, 7, 8, 19, 21, 22, 101] 2 0 (st' := ⟨221, 0, [(6, (U8 t6)), (7, (I t7)), (8, (I t8)), (19, (LP 1 0)), (21, (SL 1 cS ([t4, x17, x18] : List Str))), (22, (I v19)), (101, (Bo (decide (v19 < 3))))], [(c_api_Block t0), (c_api_Block x4)], ⟨0, []⟩⟩) (by kernel_rfl) (by kernel_rfl) ?_
          show AWp _ _ _ _
          rcases Bool.eq_false_or_eq_true (decide (v19 < 3)) with hb20 | hb20
          · rw [condT hb20] at h
            refine awp_condT (boT hb20) ?_
            refine awp_skip ?_
            show AWp _ _ _ _
            refine awp_seq ?_
            refine awp_block ?_
            refine awp_seq ?_
            refine awp_region ?_
            refine arun_do rfl rfl rfl (ex_move (eV (v := (SL 1 cS ([t4, x17, x18] : List Str))) rfl)) ?_
            refine arun_do rfl rfl rfl (ex_move (eV (v := (I v19)) rfl)) ?_
            obtain ⟨x21, hx21, h⟩ := bindS h
            refine arun_do rfl rfl rfl (tx_idxD (c := cS) (xs := ([t4, x17, x18] : List Str)) (i := v19) ceS Try.underlying35 s_9 rfl rfl hx21) ?_
            refine arun_do rfl rfl rfl (tx_ldD1 (v := (S x21)) Try.underlying9 rfl rfl rfl) ?_
            obtain ⟨x22, hx22, h⟩ := bindS h
            refine arun_do rfl rfl rfl (ex_call0 (vs := [(S x21)]) (v := (Value.tuple #[(Value.agg (c_api_Block x22.1).toArray), (Bo x22.2)])) rfl en_16 (cargs (evs rfl evs_nil)) rfl (ok_block_Take x21 x22 hx22) rfl) ?_
            refine arun_do rfl rfl rfl (ex_move (eV (v := (Value.tuple #[(Value.agg (c_api_Block x22.1).toArray), (Bo x22.2)])) rfl)) ?_
            refine arun_do rfl rfl rfl (ex_extract (vx := (Value.tuple #[(Value.agg (c_api_Block x22.1).toArray), (Bo x22.2)])) (v := (Value.agg (c_api_Block x22.1).toArray)) rfl rfl) ?_
            refine arun_do rfl rfl rfl (ex_extract (vx := (Value.tuple #[(Value.agg (c_api_Block x22.1).toArray), (Bo x22.2)])) (v := (Bo x22.2)) rfl rfl) ?_
            refine arun_do rfl rfl rfl (ex_alloc (k := 2) (zs := (c_api_Block (G_api_Block.mk 0 0 []))) (L' := [(c_api_Block t0), (c_api_Block x4), (c_api_Block (G_api_Block.mk 0 0 []))]) z_23 rfl rfl rfl rfl) ?_
            refine arun_do0 rfl rfl (ex_storeL (vy := (Value.agg (c_api_Block x22.1).toArray)) (cs := (c_api_Block (G_api_Block.mk 0 0 []))) (vs := (c_api_Block x22.1)) (L' := [(c_api_Block t0), (c_api_Block x4), (c_api_Block x22.1)]) rfl (eV (v := (Value.agg (c_api_Block x22.1).toArray)) rfl) rfl s_23 rfl (Nat.le_of_ble_eq_true rfl) (by kernel_rfl)) ?_
            refine arun_do rfl rfl rfl (ex_assign (eV (v := (Bo x22.2)) rfl)) ?_
            refine arun_keepE [6, 7, 8, 19, 21, 22, 23, 24] 3 0 (st' := ⟨221, 0, [(6, (U8 t6)), (7, (I t7)), (8, (I t8)), (19, (LP 1 0)), (21, (SL 1 cS ([t4, x17, x18] : List Str))), (22, (I v19)), (23, (LP 2 0)), (24, (Bo x22.2))], [(c_api_Block t0), (c_api_Block x4), (c_api_Block x22.1)], ⟨0, []⟩⟩) (by kernel_rfl) (by kernel_rfl) ?_
            show AWp _ _ _ _
            refine awp_seq ?_
            refine awp_region ?_
            refine arun_do rfl rfl rfl (ex_move (eV (v := (SL 1 cS ([t4, x17, x18] : List Str))) rfl)) ?_
            refine arun_do rfl rfl rfl (ex_move (eV (v := (I v19)) rfl)) ?_
            obtain ⟨x23, hx23, h⟩ := bindS h
            refine arun_do rfl rfl rfl (tx_idxD (c := cS) (xs := ([t4, x17, x18] : List Str)) (i := v19) ceS Try.underlying35 s_9 rfl rfl hx23) ?_
            refine arun_do rfl rfl rfl (tx_ldD1 (v := (S x23)) Try.underlying9 rfl rfl rfl) ?_
            obtain ⟨x24, hx24, h⟩ := bindS h
            refine arun_do rfl rfl rfl (ex_call0 (vs := [(S x23)]) (v := (Value.tuple #[(Value.agg (c_api_Block x24.1).toArray), (Bo x24.2)])) rfl en_17 (cargs (evs rfl evs_nil)) rfl (ok_ref1_TakeBlock x23 x24 hx24) rfl) ?_
            refine arun_do rfl rfl rfl (ex_move (eV (v := (Value.tuple #[(Value.agg (c_api_Block x24.1).toArray), (Bo x24.2)])) rfl)) ?_
            refine arun_do rfl rfl rfl (ex_extract (vx := (Value.tuple #[(Value.agg (c_api_Block x24.1).toArray), (Bo x24.2)])) (v := (Value.agg (c_api_Block x24.1).toArray)) rfl rfl) ?_
            refine arun_do rfl rfl rfl (ex_extract (vx := (Value.tuple #[(Value.agg (c_api_Block x24.1).toArray), (Bo x24.2)])) (v := (Bo x24.2)) rfl rfl) ?_
            refine arun_do rfl rfl rfl (ex_alloc (k := 3) (zs := (c_api_Block (G_api_Block.mk 0 0 []))) (L' := [(c_api_Block t0), (c_api_Block x4), (c_api_Block x22.1), (c_api_Block (G_api_Block.mk 0 0 []))]) z_23 rfl rfl rfl rfl) ?_
            refine arun_do0 rfl rfl (ex_storeL (vy := (Value.agg (c_api_Block x24.1).toArray)) (cs := (c_api_Block (G_api_Block.mk 0 0 []))) (vs := (c_api_Block x24.1)) (L' := [(c_api_Block t0), (c_api_Block x4), (c_api_Block x22.1), (c_api_Block x24.1)]) rfl (eV (v := (Value.agg (c_api_Block x24.1).toArray)) rfl) rfl s_23 rfl (Nat.le_of_ble_eq_true rfl) (by kernel_rfl)) ?_
            refine arun_do rfl rfl rfl (ex_assign (eV (v := (Bo x24.2)) rfl)) ?_
            refine arun_keepE [6, 7, 8, 19, 21, 22, 23, 24, 25, 26] 4 0 (st' := ⟨221, 0, [(6, (U8 t6)), (7, (I t7)), (8, (I t8)), (19, (LP 1 0)), (21, (SL 1 cS ([t4, x17, x18] : List Str))), (22, (I v19)), (23, (LP 2 0)), (24, (Bo x22.2)), (25, (LP 3 0)), (26, (Bo x24.2))], [(c_api_Block t0), (c_api_Block x4), (c_api_Block x22.1), (c_api_Block x24.1)], ⟨0, []⟩⟩) (by kernel_rfl) (by kernel_rfl) ?_
            show AWp _ _ _ _
            refine awp_seq ?_
            refine awp_seq ?_
            refine awp_region ?_
            refine arun_do rfl rfl rfl (ex_move (eV (v := (Bo x22.2)) rfl)) ?_
            refine arun_do rfl rfl rfl (ex_move (eV (v := (Bo x24.2)) rfl)) ?_
            refine arun_do rfl rfl rfl (ex_bin (vx := (Bo x22.2)) (vy := (Bo x24.2)) rfl rfl (neqB_ok Try.underlying4)) ?_
            refine arun_do rfl rfl rfl (ex_move (eV (v := (Bo (x22.2 != x24.2))) rfl)) ?_
            refine arun_guard (v := (Value.agg (c_api_Block x22.1).toArray)) ((x22.2 != x24.2) == false) rfl rfl rfl (fun hc => tx_ldLA (vs := (c_api_Block x22.1)) Try.underlying23 rfl s_23 (by decide) rfl rfl rfl rfl) ?_
            refine arun_guard (v := (Value.agg (c_api_Block x24.1).toArray)) ((x22.2 != x24.2) == false) rfl rfl rfl (fun hc => tx_ldLA (vs := (c_api_Block x24.1)) Try.underlying23 rfl s_23 (by decide) rfl rfl rfl rfl) ?_
            refine arun_guard (v := (Bo (!decide (x22.1 = x24.1)))) ((x22.2 != x24.2) == false) rfl rfl rfl (fun hc => ex_bin (vx := (Value.agg (c_api_Block x22.1).toArray)) (vy := (Value.agg (c_api_Block x24.1).toArray)) (cond_of hc) (cond_of hc) neq_23) ?_
            refine arun_do rfl rfl rfl (ex_pick rfl pkOr) ?_
            refine arun_keepE [6, 7, 8, 19, 21, 22, 127] 2 0 (st' := ⟨221, 0, [(6, (U8 t6)), (7, (I t7)), (8, (I t8)), (19, (LP 1 0)), (21, (SL 1 cS ([t4, x17, x18] : List Str))), (22, (I v19)), (127, (Bo ((x22.2 != x24.2) || (!decide (x22.1 = x24.1)))))], [(c_api_Block t0), (c_api_Block x4)], ⟨0, []⟩⟩) (by kernel_rfl) (by kernel_rfl) ?_
            show AWp _ _ _ _
            rcases Bool.eq_false_or_eq_true ((x22.2 != x24.2) || (!decide (x22.1 = x24.1))) with hb25 | hb25
            · rw [condT hb25] at h
              refine awp_condT (boT hb25) ?_
              refine awp_seq ?_
              refine awp_region ?_
              refine arun_do rfl rfl rfl (ex_assign (eV (v := (Bo false)) rfl)) ?_
              refine arun_keepE [18] 0 0 (st' := ⟨221, 0, [(18, (Bo false))], [], ⟨0, []⟩⟩) (by kernel_rfl) (by kernel_rfl) ?_
              show AWp _ _ _ _
              refine awp_ret ?_
              cases h
              exact ares1 (rtmp rfl (eV rfl))
            · rw [condF hb25] at h
              refine awp_condF (boF hb25) ?_
              refine awp_skip ?_
              show AWp _ _ _ _
              refine awp_seq ?_
              refine awp_region ?_
              obtain ⟨x26, hx26, h⟩ := bindS h
              refine arun_do rfl rfl rfl (ex_call0 (vs := [(I 40)]) (v := (Value.agg (c_api_Dev x26).toArray)) rfl en_18 (cargs (evs rfl evs_nil)) rfl (ok_ref1_New 40 x26 hx26) rfl) ?_
              refine arun_do rfl rfl rfl (ex_allocW (k := 2) (zs := (c_api_Dev (G_api_Dev.mk [] [] 0 0 false))) (L' := [(c_api_Block t0), (c_api_Block x4), (c_api_Dev (G_api_Dev.mk [] [] 0 0 false))]) z_40 rfl (by repeat (first | exact trivial | refine ⟨.inl rfl, ?_⟩ | refine ⟨.inr ⟨rfl, _, rfl⟩, ?_⟩)) rfl rfl) ?_
              refine arun_do0 rfl rfl (ex_storeL (vy := (Value.agg (c_api_Dev x26).toArray)) (cs := (c_api_Dev (G_api_Dev.mk [] [] 0 0 false))) (vs := (c_api_Dev x26)) (L' := [(c_api_Block t0), (c_api_Block x4), (c_api_Dev x26)]) rfl (eV (v := (Value.agg (c_api_Dev x26).toArray)) rfl) rfl s_40 rfl (Nat.le_of_ble_eq_true rfl) (by kernel_rfl)) ?_
              refine arun_keepE [6, 7, 8, 19, 21, 22, 27] 3 0 (st' := ⟨221, 0, [(6, (U8 t6)), (7, (I t7)), (8, (I t8)), (19, (LP 1 0)), (21, (SL 1 cS ([t4, x17, x18] : List Str))), (22, (I v19)), (27, (LP 2 0))], [(c_api_Block t0), (c_api_Block x4), (c_api_Dev x26)], ⟨0, []⟩⟩) (by kernel_rfl) (by kernel_rfl) ?_
              show AWp _ _ _ _
              refine awp_seq ?_
              obtain ⟨x27, hx27, h⟩ := bindS h
              obtain ⟨x28, hx28, h⟩ := bindS h
              obtain ⟨x29, hx29, h⟩ := bindS h
              refine awp_kn [6, 7, 8, 19, 21, 22, 27] 3 0 (st' := ⟨221, 0, [(6, (U8 t6)), (7, (I t7)), (8, (I t8)), (19, (LP 1 0)), (21, (SL 1 cS ([t4, x17, x18] : List Str))), (22, (I v19)), (27, (LP 2 0))], [(c_api_Block t0), (c_api_Block x4), (c_api_Dev x29.1)], ⟨0, []⟩⟩) (awp_draw (T := [(Value.agg (c_api_Dev x26).toArray), (SL 1 cS ([t4, x17, x18] : List Str)), (I v19), (DP (cS x27)), (S x27), (Value.agg (c_api_Put (G_api_Put.mk 20 x27)).toArray), (SL 1 cS ([t4, x17, x18] : List Str)), (I v19), (DP (cS x28)), (S x28), (Value.agg (c_api_Put (G_api_Put.mk 5 x28)).toArray), (SL 2 c_api_Put ([(G_api_Put.mk 20 x27), (G_api_Put.mk 5 x28)] : List G_api_Put)), (Value.tuple #[(Value.agg (c_api_Dev x29.1).toArray), (Bo x29.2)]), (Value.tuple #[(Value.agg (c_api_Dev x29.1).toArray), (Bo x29.2)]), (Value.agg (c_api_Dev x29.1).toArray), (Bo x29.2), undef]) (LH := [([(c_api_Block t0), (c_api_Block x4), (c_api_Dev x26)], ⟨0, []⟩), ([(c_api_Block t0), (c_api_Block x4), (c_api_Dev x29.1)], ⟨0, []⟩)]) (D := [⟨[(27, none)], [], [0], false⟩, ⟨[(21, none)], [], [0], false⟩, ⟨[(22, none)], [], [0], false⟩, ⟨[(131, some 1), (132, some 2)], [1, 2], [0], false⟩, ⟨[(133, some 3)], [1, 2, 3], [0], false⟩, ⟨[(134, some 4)], [1, 2, 3, 4], [0], false⟩, ⟨[(21, none)], [], [0], false⟩, ⟨[(22, none)], [], [0], false⟩, ⟨[(136, some 6), (137, some 7)], [6, 7], [0], false⟩, ⟨[(138, some 8)], [6, 7, 8], [0], false⟩, ⟨[(139, some 9)], [6, 7, 8, 9], [0], false⟩, ⟨[(135, some 5), (140, some 10)], [1, 2, 3, 4, 5, 6, 7, 8, 9, 10], [0], false⟩, ⟨[(130, some 0), (141, some 11)], [0, 1, 2, 3, 4, 5, 6, 7, 8, 9, 10, 11], [0], false⟩, ⟨[(142, some 12)], [0, 1, 2, 3, 4, 5, 6, 7, 8, 9, 10, 11, 12], [0], false⟩, ⟨[(129, some 13)], [0, 1, 2, 3, 4, 5, 6, 7, 8, 9, 10, 11, 12, 13], [0], false⟩, ⟨[(129, some 13)], [0, 1, 2, 3, 4, 5, 6, 7, 8, 9, 10, 11, 12, 13], [0, 1], false⟩, ⟨[(27, none), (143, some 14)], [0, 1, 2, 3, 4, 5, 6, 7, 8, 9, 10, 11, 12, 13, 14], [0], true⟩]) (S := [16]) (plan := [0, 1, 2, 3, 4, 5, 6, 7, 8, 9, 10, 11, 12, 13, 14, 15, 16]) mo (by kernel_rfl) rfl rfl rfl (dcons (dstep1 (Tm := [(27, (LP 2 0))]) (L := [(c_api_Block t0), (c_api_Block x4), (c_api_Dev x26)]) (H := ⟨0, []⟩) rfl rfl rfl rfl rfl (astep_do rfl (tx_ldLA (vs := (c_api_Dev x26)) Try.underlying40 rfl s_40 (by decide) rfl rfl rfl rfl))) (dcons (dstep1 (Tm := [(21, (SL 1 cS ([t4, x17, x18] : List Str)))]) (L := [(c_api_Block t0), (c_api_Block x4), (c_api_Dev x26)]) (H := ⟨0, []⟩) rfl rfl rfl rfl rfl (astep_do rfl (ex_move (eV (v := (SL 1 cS ([t4, x17, x18] : List Str))) rfl)))) (dcons (dstep1 (Tm := [(22, (I v19))]) (L := [(c_api_Block t0), (c_api_Block x4), (c_api_Dev x26)]) (H := ⟨0, []⟩) rfl rfl rfl rfl rfl (astep_do rfl (ex_move (eV (v := (I v19)) rfl)))) (dcons (dstep1 (Tm := [(131, (SL 1 cS ([t4, x17, x18] : List Str))), (132, (I v19))]) (L := [(c_api_Block t0), (c_api_Block x4), (c_api_Dev x26)]) (H := ⟨0, []⟩) rfl rfl rfl rfl rfl (astep_do rfl (tx_idxD (c := cS) (xs := ([t4, x17, x18] : List Str)) (i := v19) ceS Try.underlying35 s_9 rfl rfl hx27))) (dcons (dstep1 (Tm := [(133, (DP (cS x27)))]) (L := [(c_api_Block t0), (c_api_Block x4), (c_api_Dev x26)]) (H := ⟨0, []⟩) rfl rfl rfl rfl rfl (astep_do rfl (tx_ldD1 (v := (S x27)) Try.underlying9 rfl rfl rfl))) (dcons (dstep1 (Tm := [(134, (S x27))]) (L := [(c_api_Block t0), (c_api_Block x4), (c_api_Dev x26)]) (H := ⟨0, []⟩) rfl rfl rfl rfl rfl (astep_do rfl (ex_build (qs := [(0, (I 20)), (1, (S x27))]) (v := (Value.agg (c_api_Put (G_api_Put.mk 20 x27)).toArray)) (evp rfl (evp rfl evp_nil)) (by kernel_rfl)))) (dcons (dstep1 (Tm := [(21, (SL 1 cS ([t4, x17, x18] : List Str)))]) (L := [(c_api_Block t0), (c_api_Block x4), (c_api_Dev x26)]) (H := ⟨0, []⟩) rfl rfl rfl rfl rfl (astep_do rfl (ex_move (eV (v := (SL 1 cS ([t4, x17, x18] : List Str))) rfl)))) (dcons (dstep1 (Tm := [(22, (I v19))]) (L := [(c_api_Block t0), (c_api_Block x4), (c_api_Dev x26)]) (H := ⟨0, []⟩) rfl rfl rfl rfl rfl (astep_do rfl (ex_move (eV (v := (I v19)) rfl)))) (dcons (dstep1 (Tm := [(136, (SL 1 cS ([t4, x17, x18] : List Str))), (137, (I v19))]) (L := [(c_api_Block t0), (c_api_Block x4), (c_api_Dev x26)]) (H := ⟨0, []⟩) rfl rfl rfl rfl rfl (astep_do rfl (tx_idxD (c := cS) (xs := ([t4, x17, x18] : List Str)) (i := v19) ceS Try.underlying35 s_9 rfl rfl hx28))) (dcons (dstep1 (Tm := [(138, (DP (cS x28)))]) (L := [(c_api_Block t0), (c_api_Block x4), (c_api_Dev x26)]) (H := ⟨0, []⟩) rfl rfl rfl rfl rfl (astep_do rfl (tx_ldD1 (v := (S x28)) Try.underlying9 rfl rfl rfl))) (dcons (dstep1 (Tm := [(139, (S x28))]) (L := [(c_api_Block t0), (c_api_Block x4), (c_api_Dev x26)]) (H := ⟨0, []⟩) rfl rfl rfl rfl rfl (astep_do rfl (ex_build (qs := [(0, (I 5)), (1, (S x28))]) (v := (Value.agg (c_api_Put (G_api_Put.mk 5 x28)).toArray)) (evp rfl (evp rfl evp_nil)) (by kernel_rfl)))) (dcons (dstep1 (Tm := [(135, (Value.agg (c_api_Put (G_api_Put.mk 20 x27)).toArray)), (140, (Value.agg (c_api_Put (G_api_Put.mk 5 x28)).toArray))]) (L := [(c_api_Block t0), (c_api_Block x4), (c_api_Dev x26)]) (H := ⟨0, []⟩) rfl rfl rfl rfl rfl (astep_do rfl (ex_buildSliceD (qs := [(0, (Value.agg (c_api_Put (G_api_Put.mk 20 x27)).toArray)), (1, (Value.agg (c_api_Put (G_api_Put.mk 5 x28)).toArray))]) (cells := (([(G_api_Put.mk 20 x27), (G_api_Put.mk 5 x28)] : List G_api_Put).flatMap c_api_Put)) Try.underlying38 s_45 (by decide) (evp rfl (evp rfl evp_nil)) rfl (by kernel_rfl) (by kernel_rfl) (by kernel_rfl)))) (dcons (dstep1 (Tm := [(130, (Value.agg (c_api_Dev x26).toArray)), (141, (SL 2 c_api_Put ([(G_api_Put.mk 20 x27), (G_api_Put.mk 5 x28)] : List G_api_Put)))]) (L := [(c_api_Block t0), (c_api_Block x4), (c_api_Dev x26)]) (H := ⟨0, []⟩) rfl rfl rfl rfl rfl (astep_do rfl (ex_call0 (vs := [(Value.agg (c_api_Dev x26).toArray), (SL 2 c_api_Put ([(G_api_Put.mk 20 x27), (G_api_Put.mk 5 x28)] : List G_api_Put))]) (v := (Value.tuple #[(Value.agg (c_api_Dev x29.1).toArray), (Bo x29.2)])) rfl en_19 (cargs (evs rfl (evs rfl evs_nil))) rfl (ok_ref1_Write x26 ([(G_api_Put.mk 20 x27), (G_api_Put.mk 5 x28)] : List G_api_Put) x29 hx29) rfl))) (dcons (dstep1 (Tm := [(142, (Value.tuple #[(Value.agg (c_api_Dev x29.1).toArray), (Bo x29.2)]))]) (L := [(c_api_Block t0), (c_api_Block x4), (c_api_Dev x26)]) (H := ⟨0, []⟩) rfl rfl rfl rfl rfl (astep_do rfl (ex_move (eV (v := (Value.tuple #[(Value.agg (c_api_Dev x29.1).toArray), (Bo x29.2)])) rfl)))) (dcons (dstep1 (Tm := [(129, (Value.tuple #[(Value.agg (c_api_Dev x29.1).toArray), (Bo x29.2)]))]) (L := [(c_api_Block t0), (c_api_Block x4), (c_api_Dev x26)]) (H := ⟨0, []⟩) rfl rfl rfl rfl rfl (astep_do rfl (ex_extract (vx := (Value.tuple #[(Value.agg (c_api_Dev x29.1).toArray), (Bo x29.2)])) (v := (Value.agg (c_api_Dev x29.1).toArray)) rfl rfl))) (dcons (dstepN (by intro k hk; simp only [List.mem_cons, List.not_mem_nil, or_false] at hk; rcases hk with rfl | rfl <;> exact ⟨[(129, (Value.tuple #[(Value.agg (c_api_Dev x29.1).toArray), (Bo x29.2)]))], _, _, _, _, _, rfl, rfl, rfl, rfl, astep_do rfl (ex_extract (vx := (Value.tuple #[(Value.agg (c_api_Dev x29.1).toArray), (Bo x29.2)])) (v := (Bo x29.2)) rfl rfl)⟩)) (dcons (dstep1 (Tm := [(27, (LP 2 0)), (143, (Value.agg (c_api_Dev x29.1).toArray))]) (L := [(c_api_Block t0), (c_api_Block x4), (c_api_Dev x26)]) (H := ⟨0, []⟩) rfl rfl rfl rfl rfl (astep_do rfl (ex_storeL (vy := (Value.agg (c_api_Dev x29.1).toArray)) (cs := (c_api_Dev x26)) (vs := (c_api_Dev x29.1)) (L' := [(c_api_Block t0), (c_api_Block x4), (c_api_Dev x29.1)]) rfl (eV (v := (Value.agg (c_api_Dev x29.1).toArray)) rfl) rfl s_40 rfl (Nat.le_of_ble_eq_true rfl) (by kernel_rfl)))) dnil))))))))))))))))) ⟨rfl, rfl⟩) (by kernel_rfl) (by kernel_rfl) ?_
              show AWp _ _ _ _
              refine awp_seq ?_
              obtain ⟨x30, hx30, h⟩ := bindS h
              obtain ⟨x31, hx31, h⟩ := bindS h
              obtain ⟨x32, hx32, h⟩ := bindS h
              obtain ⟨x33, hx33, h⟩ := bindS h
              obtain ⟨x34, hx34, h⟩ := bindS h
              obtain ⟨x35, hx35, h⟩ := bindS h
              obtain ⟨x36, hx36, h⟩ := bindS h
              refine awp_kn [6, 7, 8, 19, 21, 22, 27, 28] 3 0 (st' := ⟨221, 0, [(6, (U8 t6)), (7, (I t7)), (8, (I t8)), (19, (LP 1 0)), (21, (SL 1 cS ([t4, x17, x18] : List Str))), (22, (I v19)), (27, (LP 2 0)), (28, (SL 6 c_api_Ptr ([x30, x31, x32, (G_api_Ptr.mk 0 0 (A4.mk 0 0 0 0)), x34, x36] : List G_api_Ptr)))], [(c_api_Block t0), (c_api_Block x4), (c_api_Dev x29.1)], ⟨0, []⟩⟩) (awp_draw (T := [(Value.agg (c_api_Block x4).toArray), (Value.agg (c_api_Ptr x30).toArray), (I t7), (Value.agg (c_api_Block x4).toArray), (Value.agg (c_api_Ptr x31).toArray), (Value.agg (c_api_Block x4).toArray), (Value.agg (c_api_Ptr x32).toArray), (Value.agg (c_api_Ptr (G_api_Ptr.mk 0 0 (A4.mk 0 0 0 0))).toArray), (SL 1 cS ([t4, x17, x18] : List Str)), (I v19), (DP (cS x33)), (S x33), (LP 1 1), (I x4.Birth), (Value.agg (c_api_Ptr x34).toArray), (SL 1 cS ([t4, x17, x18] : List Str)), (I v19), (DP (cS x35)), (S x35), (LP 1 1), (I x4.Birth), (I (w64 (x4.Birth + 1))), (Value.agg (c_api_Ptr x36).toArray), (SL 6 c_api_Ptr ([x30, x31, x32, (G_api_Ptr.mk 0 0 (A4.mk 0 0 0 0)), x34, x36] : List G_api_Ptr)), (SL 6 c_api_Ptr ([x30, x31, x32, (G_api_Ptr.mk 0 0 (A4.mk 0 0 0 0)), x34, x36] : List G_api_Ptr))]) (LH := [([(c_api_Block t0), (c_api_Block x4), (c_api_Dev x29.1)], ⟨0, []⟩)]) (D := [⟨[(19, none)], [], [0], false⟩, ⟨[(145, some 0)], [0], [0], false⟩, ⟨[(7, none)], [], [0], false⟩, ⟨[(19, none)], [], [0], false⟩, ⟨[(147, some 2), (148, some 3)], [0, 1, 2, 3], [0], false⟩, ⟨[(19, none)], [], [0], false⟩, ⟨[(150, some 5)], [0, 1, 2, 3, 4, 5], [0], false⟩, ⟨[], [], [0], false⟩, ⟨[(21, none)], [], [0], false⟩, ⟨[(22, none)], [], [0], false⟩, ⟨[(153, some 8), (154, some 9)], [8, 9], [0], false⟩, ⟨[(155, some 10)], [8, 9, 10], [0], false⟩, ⟨[(19, none)], [], [0], false⟩, ⟨[(157, some 12)], [12], [0], false⟩, ⟨[(156, some 11), (158, some 13)], [0, 1, 2, 3, 4, 5, 6, 8, 9, 10, 11, 12, 13], [0], false⟩, ⟨[(21, none)], [], [0], false⟩, ⟨[(22, none)], [], [0], false⟩, ⟨[(160, some 15), (161, some 16)], [15, 16], [0], false⟩, ⟨[(162, some 17)], [15, 16, 17], [0], false⟩, ⟨[(19, none)], [], [0], false⟩, ⟨[(164, some 19)], [19], [0], false⟩, ⟨[(165, some 20)], [19, 20], [0], false⟩, ⟨[(163, some 18), (166, some 21)], [0, 1, 2, 3, 4, 5, 6, 8, 9, 10, 11, 12, 13, 14, 15, 16, 17, 18, 19, 20, 21], [0], false⟩, ⟨[(146, some 1), (149, some 4), (151, some 6), (152, some 7), (159, some 14), (167, some 22)], [0, 1, 2, 3, 4, 5, 6, 7, 8, 9, 10, 11, 12, 13, 14, 15, 16, 17, 18, 19, 20, 21, 22], [0], false⟩, ⟨[(168, some 23)], [0, 1, 2, 3, 4, 5, 6, 7, 8, 9, 10, 11, 12, 13, 14, 15, 16, 17, 18, 19, 20, 21, 22, 23], [0], false⟩]) (S := []) (plan := [0, 1, 2, 3, 4, 5, 6, 7, 8, 9, 10, 11, 12, 13, 14, 15, 16, 17, 18, 19, 20, 21, 22, 23, 24]) mo (by kernel_rfl) rfl rfl rfl (dcons (dstep1 (Tm := [(19, (LP 1 0))]) (L := [(c_api_Block t0), (c_api_Block x4), (c_api_Dev x29.1)]) (H := ⟨0, []⟩) rfl rfl rfl rfl rfl (astep_do rfl (tx_ldLA (vs := (c_api_Block x4)) Try.underlying23 rfl s_23 (by decide) rfl rfl rfl rfl))) (dcons (dstep1 (Tm := [(145, (Value.agg (c_api_Block x4).toArray))]) (L := [(c_api_Block t0), (c_api_Block x4), (c_api_Dev x29.1)]) (H := ⟨0, []⟩) rfl rfl rfl rfl rfl (astep_do rfl (ex_call0 (vs := [(I 20), (Value.agg (c_api_Block x4).toArray)]) (v := (Value.agg (c_api_Ptr x30).toArray)) rfl en_15 (cargs (evs rfl (evs rfl evs_nil))) rfl (ok_ref1_BlockPtr 20 x4 x30 hx30) rfl))) (dcons (dstep1 (Tm := [(7, (I t7))]) (L := [(c_api_Block t0), (c_api_Block x4), (c_api_Dev x29.1)]) (H := ⟨0, []⟩) rfl rfl rfl rfl rfl (astep_do rfl (ex_move (eV (v := (I t7)) rfl)))) (dcons (dstep1 (Tm := [(19, (LP 1 0))]) (L := [(c_api_Block t0), (c_api_Block x4), (c_api_Dev x29.1)]) (H := ⟨0, []⟩) rfl rfl rfl rfl rfl (astep_do rfl (tx_ldLA (vs := (c_api_Block x4)) Try.underlying23 rfl s_23 (by decide) rfl rfl rfl rfl))) (dcons (dstep1 (Tm := [(147, (I t7)), (148, (Value.agg (c_api_Block x4).toArray))]) (L := [(c_api_Block t0), (c_api_Block x4), (c_api_Dev x29.1)]) (H := ⟨0, []⟩) rfl rfl rfl rfl rfl (astep_do rfl (ex_call0 (vs := [(I t7), (Value.agg (c_api_Block x4).toArray)]) (v := (Value.agg (c_api_Ptr x31).toArray)) rfl en_15 (cargs (evs rfl (evs rfl evs_nil))) rfl (ok_ref1_BlockPtr t7 x4 x31 hx31) rfl))) (dcons (dstep1 (Tm := [(19, (LP 1 0))]) (L := [(c_api_Block t0), (c_api_Block x4), (c_api_Dev x29.1)]) (H := ⟨0, []⟩) rfl rfl rfl rfl rfl (astep_do rfl (tx_ldLA (vs := (c_api_Block x4)) Try.underlying23 rfl s_23 (by decide) rfl rfl rfl rfl))) (dcons (dstep1 (Tm := [(150, (Value.agg (c_api_Block x4).toArray))]) (L := [(c_api_Block t0), (c_api_Block x4), (c_api_Dev x29.1)]) (H := ⟨0, []⟩) rfl rfl rfl rfl rfl (astep_do rfl (ex_call0 (vs := [(I 5), (Value.agg (c_api_Block x4).toArray)]) (v := (Value.agg (c_api_Ptr x32).toArray)) rfl en_15 (cargs (evs rfl (evs rfl evs_nil))) rfl (ok_ref1_BlockPtr 5 x4 x32 hx32) rfl))) (dcons (dstep1 (Tm := []) (L := [(c_api_Block t0), (c_api_Block x4), (c_api_Dev x29.1)]) (H := ⟨0, []⟩) rfl rfl rfl rfl rfl (astep_do rfl (ex_build (qs := []) (v := (Value.agg (c_api_Ptr (G_api_Ptr.mk 0 0 (A4.mk 0 0 0 0))).toArray)) evp_nil (by kernel_rfl)))) (dcons (dstep1 (Tm := [(21, (SL 1 cS ([t4, x17, x18] : List Str)))]) (L := [(c_api_Block t0), (c_api_Block x4), (c_api_Dev x29.1)]) (H := ⟨0, []⟩) rfl rfl rfl rfl rfl (astep_do rfl (ex_move (eV (v := (SL 1 cS ([t4, x17, x18] : List Str))) rfl)))) (dcons (dstep1 (Tm := [(22, (I v19))]) (L := [(c_api_Block t0), (c_api_Block x4), (c_api_Dev x29.1)]) (H := ⟨0, []⟩) rfl rfl rfl rfl rfl (astep_do rfl (ex_move (eV (v := (I v19)) rfl)))) (dcons (dstep1 (Tm := [(153, (SL 1 cS ([t4, x17, x18] : List Str))), (154, (I v19))]) (L := [(c_api_Block t0), (c_api_Block x4), (c_api_Dev x29.1)]) (H := ⟨0, []⟩) rfl rfl rfl rfl rfl (astep_do rfl (tx_idxD (c := cS) (xs := ([t4, x17, x18] : List Str)) (i := v19) ceS Try.underlying35 s_9 rfl rfl hx33))) (dcons (dstep1 (Tm := [(155, (DP (cS x33)))]) (L := [(c_api_Block t0), (c_api_Block x4), (c_api_Dev x29.1)]) (H := ⟨0, []⟩) rfl rfl rfl rfl rfl (astep_do rfl (tx_ldD1 (v := (S x33)) Try.underlying9 rfl rfl rfl))) (dcons (dstep1 (Tm := [(19, (LP 1 0))]) (L := [(c_api_Block t0), (c_api_Block x4), (c_api_Dev x29.1)]) (H := ⟨0, []⟩) rfl rfl rfl rfl rfl (astep_do rfl (ex_fieldAddr (v := (LP 1 1)) Try.underlying23 rfl s_3 (by decide) rfl rfl))) (dcons (dstep1 (Tm := [(157, (LP 1 1))]) (L := [(c_api_Block t0), (c_api_Block x4), (c_api_Dev x29.1)]) (H := ⟨0, []⟩) rfl rfl rfl rfl rfl (astep_do rfl (tx_ldL1 (v := (I x4.Birth)) Try.underlying3 rfl rfl rfl rfl))) (dcons (dstep1 (Tm := [(156, (S x33)), (158, (I x4.Birth))]) (L := [(c_api_Block t0), (c_api_Block x4), (c_api_Dev x29.1)]) (H := ⟨0, []⟩) rfl rfl rfl rfl rfl (astep_do rfl (ex_call0 (vs := [(I 20), (S x33), (I x4.Birth)]) (v := (Value.agg (c_api_Ptr x34).toArray)) rfl en_20 (cargs (evs rfl (evs rfl (evs rfl evs_nil)))) rfl (ok_ref1_To 20 x33 x4.Birth x34 hx34) rfl))) (dcons (dstep1 (Tm := [(21, (SL 1 cS ([t4, x17, x18] : List Str)))]) (L := [(c_api_Block t0), (c_api_Block x4), (c_api_Dev x29.1)]) (H := ⟨0, []⟩) rfl rfl rfl rfl rfl (astep_do rfl (ex_move (eV (v := (SL 1 cS ([t4, x17, x18] : List Str))) rfl)))) (dcons (dstep1 (Tm := [(22, (I v19))]) (L := [(c_api_Block t0), (c_api_Block x4), (c_api_Dev x29.1)]) (H := ⟨0, []⟩) rfl rfl rfl rfl rfl (astep_do rfl (ex_move (eV (v := (I v19)) rfl)))) (dcons (dstep1 (Tm := [(160, (SL 1 cS ([t4, x17, x18] : List Str))), (161, (I v19))]) (L := [(c_api_Block t0), (c_api_Block x4), (c_api_Dev x29.1)]) (H := ⟨0, []⟩) rfl rfl rfl rfl rfl (astep_do rfl (tx_idxD (c := cS) (xs := ([t4, x17, x18] : List Str)) (i := v19) ceS Try.underlying35 s_9 rfl rfl hx35))) (dcons (dstep1 (Tm := [(162, (DP (cS x35)))]) (L := [(c_api_Block t0), (c_api_Block x4), (c_api_Dev x29.1)]) (H := ⟨0, []⟩) rfl rfl rfl rfl rfl (astep_do rfl (tx_ldD1 (v := (S x35)) Try.underlying9 rfl rfl rfl))) (dcons (dstep1 (Tm := [(19, (LP 1 0))]) (L := [(c_api_Block t0), (c_api_Block x4), (c_api_Dev x29.1)]) (H := ⟨0, []⟩) rfl rfl rfl rfl rfl (astep_do rfl (ex_fieldAddr (v := (LP 1 1)) Try.underlying23 rfl s_3 (by decide) rfl rfl))) (dcons (dstep1 (Tm := [(164, (LP 1 1))]) (L := [(c_api_Block t0), (c_api_Block x4), (c_api_Dev x29.1)]) (H := ⟨0, []⟩) rfl rfl rfl rfl rfl (astep_do rfl (tx_ldL1 (v := (I x4.Birth)) Try.underlying3 rfl rfl rfl rfl))) (dcons (dstep1 (Tm := [(165, (I x4.Birth))]) (L := [(c_api_Block t0), (c_api_Block x4), (c_api_Dev x29.1)]) (H := ⟨0, []⟩) rfl rfl rfl rfl rfl (astep_do rfl (ex_bin (vx := (I x4.Birth)) (vy := (I 1)) rfl rfl addI_ok))) (dcons (dstep1 (Tm := [(163, (S x35)), (166, (I (w64 (x4.Birth + 1))))]) (L := [(c_api_Block t0), (c_api_Block x4), (c_api_Dev x29.1)]) (H := ⟨0, []⟩) rfl rfl rfl rfl rfl (astep_do rfl (ex_call0 (vs := [(I 20), (S x35), (I (w64 (x4.Birth + 1)))]) (v := (Value.agg (c_api_Ptr x36).toArray)) rfl en_20 (cargs (evs rfl (evs rfl (evs rfl evs_nil)))) rfl (ok_ref1_To 20 x35 (w64 (x4.Birth + 1)) x36 hx36) rfl))) (dcons (dstep1 (Tm := [(146, (Value.agg (c_api_Ptr x30).toArray)), (149, (Value.agg (c_api_Ptr x31).toArray)), (151, (Value.agg (c_api_Ptr x32).toArray)), (152, (Value.agg (c_api_Ptr (G_api_Ptr.mk 0 0 (A4.mk 0 0 0 0))).toArray)), (159, (Value.agg (c_api_Ptr x34).toArray)), (167, (Value.agg (c_api_Ptr x36).toArray))]) (L := [(c_api_Block t0), (c_api_Block x4), (c_api_Dev x29.1)]) (H := ⟨0, []⟩) rfl rfl rfl rfl rfl (astep_do rfl (ex_buildSliceD (qs := [(0, (Value.agg (c_api_Ptr x30).toArray)), (1, (Value.agg (c_api_Ptr x31).toArray)), (2, (Value.agg (c_api_Ptr x32).toArray)), (3, (Value.agg (c_api_Ptr (G_api_Ptr.mk 0 0 (A4.mk 0 0 0 0))).toArray)), (4, (Value.agg (c_api_Ptr x34).toArray)), (5, (Value.agg (c_api_Ptr x36).toArray))]) (cells := (([x30, x31, x32, (G_api_Ptr.mk 0 0 (A4.mk 0 0 0 0)), x34, x36] : List G_api_Ptr).flatMap c_api_Ptr)) Try.underlying47 s_32 (by decide) (evp rfl (evp rfl (evp rfl (evp rfl (evp rfl (evp rfl evp_nil)))))) rfl (by kernel_rfl) (by kernel_rfl) (by kernel_rfl)))) (dcons (dstep1 (Tm := [(168, (SL 6 c_api_Ptr ([x30, x31, x32, (G_api_Ptr.mk 0 0 (A4.mk 0 0 0 0)), x34, x36] : List G_api_Ptr)))]) (L := [(c_api_Block t0), (c_api_Block x4), (c_api_Dev x29.1)]) (H := ⟨0, []⟩) rfl rfl rfl rfl rfl (astep_do rfl (ex_assign (eV (v := (SL 6 c_api_Ptr ([x30, x31, x32, (G_api_Ptr.mk 0 0 (A4.mk 0 0 0 0)), x34, x36] : List G_api_Ptr))) rfl)))) dnil))))))))))))))))))))))))) ⟨rfl, rfl⟩) (by kernel_rfl) (by kernel_rfl) ?_
              show AWp _ _ _ _
              refine awp_seq ?_
              refine awp_region ?_
              refine arun_do rfl rfl rfl (ex_fieldAddr (v := (LP 1 0)) Try.underlying23 rfl s_3 (by decide) rfl rfl) ?_
              refine arun_do rfl rfl rfl (tx_ldL1 (v := (I x4.Kind)) Try.underlying3 rfl rfl rfl rfl) ?_
              refine arun_do rfl rfl rfl (ex_move (eV (v := (I t8)) rfl)) ?_
              refine arun_do rfl rfl rfl (ex_move (eV (v := (U8 t6)) rfl)) ?_
              obtain ⟨x37, hx37, h⟩ := bindS h
              refine arun_do rfl rfl rfl (ex_bin (vx := (U8 t6)) (vy := (U8 6)) rfl rfl (rem8_ok hx37)) ?_
              refine arun_do rfl rfl rfl (tx_8_64 Try.underlying5 Try.underlying3 rfl) ?_
              refine arun_do rfl rfl rfl (ex_bin (vx := (I 1)) (vy := (I (x37.toNat : Int))) rfl rfl addI_ok) ?_
              refine arun_do rfl rfl rfl (ex_buildSliceD (qs := [(0, (I x4.Kind)), (1, (I t8)), (2, (I (w64 (1 + (x37.toNat : Int)))))]) (cells := (([x4.Kind, t8, (w64 (1 + (x37.toNat : Int)))] : List Int).flatMap cI)) Try.underlying48 s_3 (by decide) (evp rfl (evp rfl (evp rfl evp_nil))) rfl (by kernel_rfl) (by kernel_rfl) (by kernel_rfl)) ?_
              refine arun_do rfl rfl rfl (ex_assign (eV (v := (SL 1 cI ([x4.Kind, t8, (w64 (1 + (x37.toNat : Int)))] : List Int))) rfl)) ?_
              refine arun_keepE [6, 7, 8, 19, 21, 22, 27, 28, 29] 3 0 (st' := ⟨221, 0, [(6, (U8 t6)), (7, (I t7)), (8, (I t8)), (19, (LP 1 0)), (21, (SL 1 cS ([t4, x17, x18] : List Str))), (22, (I v19)), (27, (LP 2 0)), (28, (SL 6 c_api_Ptr ([x30, x31, x32, (G_api_Ptr.mk 0 0 (A4.mk 0 0 0 0)), x34, x36] : List G_api_Ptr))), (29, (SL 1 cI ([x4.Kind, t8, (w64 (1 + (x37.toNat : Int)))] : List Int)))], [(c_api_Block t0), (c_api_Block x4), (c_api_Dev x29.1)], ⟨0, []⟩⟩) (by kernel_rfl) (by kernel_rfl) ?_
              show AWp _ _ _ _
              refine awp_seq ?_
              refine awp_region ?_
              refine arun_do rfl rfl rfl (ex_assign (eV (v := (I 0)) rfl)) ?_
              refine arun_keepE [6, 7, 8, 19, 21, 22, 27, 28, 29, 30] 3 0 (st' := ⟨221, 0, [(6, (U8 t6)), (7, (I t7)), (8, (I t8)), (19, (LP 1 0)), (21, (SL 1 cS ([t4, x17, x18] : List Str))), (22, (I v19)), (27, (LP 2 0)), (28, (SL 6 c_api_Ptr ([x30, x31, x32, (G_api_Ptr.mk 0 0 (A4.mk 0 0 0 0)), x34, x36] : List G_api_Ptr))), (29, (SL 1 cI ([x4.Kind, t8, (w64 (1 + (x37.toNat : Int)))] : List Int))), (30, (I 0))], [(c_api_Block t0), (c_api_Block x4), (c_api_Dev x29.1)], ⟨0, []⟩⟩) (by kernel_rfl) (by kernel_rfl) ?_
              show AWp _ _ _ _
              refine awp_block ?_
              refine awp_loop (fun n s => ∃ (v38 : Int), s = ⟨221, 0, [(6, (U8 t6)), (7, (I t7)), (8, (I t8)), (19, (LP 1 0)), (21, (SL 1 cS ([t4, x17, x18] : List Str))), (22, (I v19)), (27, (LP 2 0)), (28, (SL 6 c_api_Ptr ([x30, x31, x32, (G_api_Ptr.mk 0 0 (A4.mk 0 0 0 0)), x34, x36] : List G_api_Ptr))), (29, (SL 1 cI ([x4.Kind, t8, (w64 (1 + (x37.toNat : Int)))] : List Int))), (30, (I v38))], [(c_api_Block t0), (c_api_Block x4), (c_api_Dev x29.1)], ⟨0, []⟩⟩ ∧ M_law5_BlockAll_l2 (M_law5_BlockAll_l1 t0 t4 t6 t7 t8 x4 x17 x18 n1) t0 t4 t6 t7 t8 x4 x17 x18 v19 x29 x30 x31 x32 x34 x36 x37 n v38 = some r) fuel (Exists.intro 0 (And.intro rfl h)) ?_
              rintro n s ⟨v38, rfl, h⟩ -
              cases n with
              | zero => cases h
              | succ n2 =>
                unfold M_law5_BlockAll_l2 at h
                refine awp_seq ?_
                refine awp_seq ?_
                refine awp_region ?_
                refine arun_do rfl rfl rfl (ex_move (eV (v := (I v38)) rfl)) ?_
                refine arun_do rfl rfl rfl (ex_move (eV (v := (SL 6 c_api_Ptr ([x30, x31, x32, (G_api_Ptr.mk 0 0 (A4.mk 0 0 0 0)), x34, x36] : List G_api_Ptr))) rfl)) ?_
                refine arun_do rfl rfl rfl (tx_lenD (xs := ([x30, x31, x32, (G_api_Ptr.mk 0 0 (A4.mk 0 0 0 0)), x34, x36] : List G_api_Ptr)) ce_api_Ptr Try.underlying47 rfl) ?_
                refine arun_do rfl rfl rfl (ex_bin (vx := (I v38)) (vy := (I (([x30, x31, x32, (G_api_Ptr.mk 0 0 (A4.mk 0 0 0 0)), x34, x36] : List G_api_Ptr).length : Int))) rfl rfl lssI_ok) ?_
                refine arun_keepE [6, 7, 8, 19, 21, 22, 27, 28, 29, 30, 180] 3 0 (st' := ⟨221, 0, [(6, (U8 t6)), (7, (I t7)), (8, (I t8)), (19, (LP 1 0)), (21, (SL 1 cS ([t4, x17, x18] : List Str))), (22, (I v19)), (27, (LP 2 0)), (28, (SL 6 c_api_Ptr ([x30, x31, x32, (G_api_Ptr.mk 0 0 (A4.mk 0 0 0 0)), x34, x36] : List G_api_Ptr))), (29, (SL 1 cI ([x4.Kind, t8, (w64 (1 + (x37.toNat : Int)))] : List Int))), (30, (I v38)), (180, (Bo (decide (v38 < (([x30, x31, x32, (G_api_Ptr.mk 0 0 (A4.mk 0 0 0 0)), x34, x36] : List G_api_Ptr).length : Int)))))], [(c_api_Block t0), (c_api_Block x4), (c_api_Dev x29.1)], ⟨0, []⟩⟩) (by kernel_rfl) (by kernel_rfl) ?_
                show AWp _ _ _ _
                rcases Bool.eq_false_or_eq_true (decide (v38 < (([x30, x31, x32, (G_api_Ptr.mk 0 0 (A4.mk 0 0 0 0)), x34, x36] : List G_api_Ptr).length : Int))) with hb39 | hb39
                · rw [condT hb39] at h
                  refine awp_condT (boT hb39) ?_
                  refine awp_skip ?_
                  show AWp _ _ _ _
                  refine awp_seq ?_
                  refine awp_block ?_
                  refine awp_seq ?_
                  refine awp_region ?_
                  refine arun_do rfl rfl rfl (ex_assign (eV (v := (I 0)) rfl)) ?_
                  refine arun_keepE [6, 7, 8, 19, 21, 22, 27, 28, 29, 30, 31] 3 0 (st' := ⟨221, 0, [(6, (U8 t6)), (7, (I t7)), (8, (I t8)), (19, (LP 1 0)), (21, (SL 1 cS ([t4, x17, x18] : List Str))), (22, (I v19)), (27, (LP 2 0)), (28, (SL 6 c_api_Ptr ([x30, x31, x32, (G_api_Ptr.mk 0 0 (A4.mk 0 0 0 0)), x34, x36] : List G_api_Ptr))), (29, (SL 1 cI ([x4.Kind, t8, (w64 (1 + (x37.toNat : Int)))] : List Int))), (30, (I v38)), (31, (I 0))], [(c_api_Block t0), (c_api_Block x4), (c_api_Dev x29.1)], ⟨0, []⟩⟩) (by kernel_rfl) (by kernel_rfl) ?_
                  show AWp _ _ _ _
                  refine awp_block ?_
                  refine awp_loop (fun n s => ∃ (v40 : Int), s = ⟨221, 0, [(6, (U8 t6)), (7, (I t7)), (8, (I t8)), (19, (LP 1 0)), (21, (SL 1 cS ([t4, x17, x18] : List Str))), (22, (I v19)), (27, (LP 2 0)), (28, (SL 6 c_api_Ptr ([x30, x31, x32, (G_api_Ptr.mk 0 0 (A4.mk 0 0 0 0)), x34, x36] : List G_api_Ptr))), (29, (SL 1 cI ([x4.Kind, t8, (w64 (1 + (x37.toNat : Int)))] : List Int))), (30, (I v38)), (31, (I v40))], [(c_api_Block t0), (c_api_Block x4), (c_api_Dev x29.1)], ⟨0, []⟩⟩ ∧ M_law5_BlockAll_l3 (M_law5_BlockAll_l1 t0 t4 t6 t7 t8 x4 x17 x18 n1) (M_law5_BlockAll_l2 (M_law5_BlockAll_l1 t0 t4 t6 t7 t8 x4 x17 x18 n1) t0 t4 t6 t7 t8 x4 x17 x18 v19 x29 x30 x31 x32 x34 x36 x37 n2) t0 t4 t6 t7 t8 x4 x17 x18 v19 x29 x30 x31 x32 x34 x36 x37 v38 n v40 = some r) fuel (Exists.intro 0 (And.intro rfl h)) ?_
                  rintro n s ⟨v40, rfl, h⟩ -
                  cases n with
                  | zero => cases h
                  | succ n3 =>
                    unfold M_law5_BlockAll_l3 at h
                    refine awp_seq ?_
                    refine awp_seq ?_
                    refine awp_region ?_
                    refine arun_do rfl rfl rfl (ex_move (eV (v := (I v40)) rfl)) ?_
                    refine arun_do rfl rfl rfl (ex_bin (vx := (I v40)) (vy := (I 3)) rfl rfl lssI_ok) ?_
                    refine arun_keepE [6, 7, 8, 19, 21, 22, 27, 28, 29, 30, 31, 184] 3 0 (st' := ⟨221, 0, [(6, (U8 t6)), (7, (I t7)), (8, (I t8)), (19, (LP 1 0)), (21, (SL 1 cS ([t4, x17, x18] : List Str))), (22, (I v19)), (27, (LP 2 0)), (28, (SL 6 c_api_Ptr ([x30, x31, x32, (G_api_Ptr.mk 0 0 (A4.mk 0 0 0 0)), x34, x36] : List G_api_Ptr))), (29, (SL 1 cI ([x4.Kind, t8, (w64 (1 + (x37.toNat : Int)))] : List Int))), (30, (I v38)), (31, (I v40)), (184, (Bo (decide (v40 < 3))))], [(c_api_Block t0), (c_api_Block x4), (c_api_Dev x29.1)], ⟨0, []⟩⟩) (by kernel_rfl) (by kernel_rfl) ?_
                    show AWp _ _ _ _
                    rcases Bool.eq_false_or_eq_true (decide (v40 < 3)) with hb41 | hb41
                    · rw [condT hb41] at h
                      refine awp_condT (boT hb41) ?_
                      refine awp_skip ?_
                      show AWp _ _ _ _
                      refine awp_seq ?_
                      refine awp_block ?_
                      refine awp_seq ?_
                      obtain ⟨x42, hx42, h⟩ := bindS h
                      obtain ⟨x43, hx43, h⟩ := bindS h
                      obtain ⟨x44, hx44, h⟩ := bindS h
                      refine awp_kn [6, 7, 8, 19, 21, 22, 27, 28, 29, 30, 31, 32, 33] 3 0 (st' := ⟨221, 0, [(6, (U8 t6)), (7, (I t7)), (8, (I t8)), (19, (LP 1 0)), (21, (SL 1 cS ([t4, x17, x18] : List Str))), (22, (I v19)), (27, (LP 2 0)), (28, (SL 6 c_api_Ptr ([x30, x31, x32, (G_api_Ptr.mk 0 0 (A4.mk 0 0 0 0)), x34, x36] : List G_api_Ptr))), (29, (SL 1 cI ([x4.Kind, t8, (w64 (1 + (x37.toNat : Int)))] : List Int))), (30, (I v38)), (31, (I v40)), (32, (S x44.1)), (33, (Bo x44.2))], [(c_api_Block t0), (c_api_Block x4), (c_api_Dev x29.1)], ⟨0, []⟩⟩) (awp_draw (T := [(Value.agg (c_api_Dev x29.1).toArray), (SL 6 c_api_Ptr ([x30, x31, x32, (G_api_Ptr.mk 0 0 (A4.mk 0 0 0 0)), x34, x36] : List G_api_Ptr)), (I v38), (DP (c_api_Ptr x42)), (Value.agg (c_api_Ptr x42).toArray), (SL 1 cI ([x4.Kind, t8, (w64 (1 + (x37.toNat : Int)))] : List Int)), (I v40), (DP (cI x43)), (I x43), (Value.tuple #[(S x44.1), (Bo x44.2)]), (Value.tuple #[(S x44.1), (Bo x44.2)]), (S x44.1), (Bo x44.2), (S x44.1), (Bo x44.2)]) (LH := [([(c_api_Block t0), (c_api_Block x4), (c_api_Dev x29.1)], ⟨0, []⟩)]) (D := [⟨[(27, none)], [], [0], false⟩, ⟨[(28, none)], [], [0], false⟩, ⟨[(30, none)], [], [0], false⟩, ⟨[(189, some 1), (190, some 2)], [1, 2], [0], false⟩, ⟨[(191, some 3)], [1, 2, 3], [0], false⟩, ⟨[(29, none)], [], [0], false⟩, ⟨[(31, none)], [], [0], false⟩, ⟨[(193, some 5), (194, some 6)], [5, 6], [0], false⟩, ⟨[(195, some 7)], [5, 6, 7], [0], false⟩, ⟨[(188, some 0), (192, some 4), (196, some 8)], [0, 1, 2, 3, 4, 5, 6, 7, 8], [0], false⟩, ⟨[(197, some 9)], [0, 1, 2, 3, 4, 5, 6, 7, 8, 9], [0], false⟩, ⟨[(187, some 10)], [0, 1, 2, 3, 4, 5, 6, 7, 8, 9, 10], [0], false⟩, ⟨[(187, some 10)], [0, 1, 2, 3, 4, 5, 6, 7, 8, 9, 10], [0], false⟩, ⟨[(198, some 11)], [0, 1, 2, 3, 4, 5, 6, 7, 8, 9, 10, 11], [0], false⟩, ⟨[(199, some 12)], [0, 1, 2, 3, 4, 5, 6, 7, 8, 9, 10, 11, 12, 13], [0], false⟩]) (S := []) (plan := [0, 1, 2, 3, 4, 5, 6, 7, 8, 9, 10, 11, 12, 13, 14]) mo (by kernel_rfl) rfl rfl rfl (dcons (dstep1 (Tm := [(27, (LP 2 0))]) (L := [(c_api_Block t0), (c_api_Block x4), (c_api_Dev x29.1)]) (H := ⟨0, []⟩) rfl rfl rfl rfl rfl (astep_do rfl (tx_ldLA (vs := (c_api_Dev x29.1)) Try.underlying40 rfl s_40 (by decide) rfl rfl rfl rfl))) (dcons (dstep1 (Tm := [(28, (SL 6 c_api_Ptr ([x30, x31, x32, (G_api_Ptr.mk 0 0 (A4.mk 0 0 0 0)), x34, x36] : List G_api_Ptr)))]) (L := [(c_api_Block t0), (c_api_Block x4), (c_api_Dev x29.1)]) (H := ⟨0, []⟩) rfl rfl rfl rfl rfl (astep_do rfl (ex_move (eV (v := (SL 6 c_api_Ptr ([x30, x31, x32, (G_api_Ptr.mk 0 0 (A4.mk 0 0 0 0)), x34, x36] : List G_api_Ptr))) rfl)))) (dcons (dstep1 (Tm := [(30, (I v38))]) (L := [(c_api_Block t0), (c_api_Block x4), (c_api_Dev x29.1)]) (H := ⟨0, []⟩) rfl rfl rfl rfl rfl (astep_do rfl (ex_move (eV (v := (I v38)) rfl)))) (dcons (dstep1 (Tm := [(189, (SL 6 c_api_Ptr ([x30, x31, x32, (G_api_Ptr.mk 0 0 (A4.mk 0 0 0 0)), x34, x36] : List G_api_Ptr))), (190, (I v38))]) (L := [(c_api_Block t0), (c_api_Block x4), (c_api_Dev x29.1)]) (H := ⟨0, []⟩) rfl rfl rfl rfl rfl (astep_do rfl (tx_idxD (c := c_api_Ptr) (xs := ([x30, x31, x32, (G_api_Ptr.mk 0 0 (A4.mk 0 0 0 0)), x34, x36] : List G_api_Ptr)) (i := v38) ce_api_Ptr Try.underlying47 s_32 rfl rfl hx42))) (dcons (dstep1 (Tm := [(191, (DP (c_api_Ptr x42)))]) (L := [(c_api_Block t0), (c_api_Block x4), (c_api_Dev x29.1)]) (H := ⟨0, []⟩) rfl rfl rfl rfl rfl (astep_do rfl (tx_ldDA (vs := (c_api_Ptr x42)) Try.underlying32 rfl s_32 (by decide) rfl (Nat.le_of_ble_eq_true rfl) rfl))) (dcons (dstep1 (Tm := [(29, (SL 1 cI ([x4.Kind, t8, (w64 (1 + (x37.toNat : Int)))] : List Int)))]) (L := [(c_api_Block t0), (c_api_Block x4), (c_api_Dev x29.1)]) (H := ⟨0, []⟩) rfl rfl rfl rfl rfl (astep_do rfl (ex_move (eV (v := (SL 1 cI ([x4.Kind, t8, (w64 (1 + (x37.toNat : Int)))] : List Int))) rfl)))) (dcons (dstep1 (Tm := [(31, (I v40))]) (L := [(c_api_Block t0), (c_api_Block x4), (c_api_Dev x29.1)]) (H := ⟨0, []⟩) rfl rfl rfl rfl rfl (astep_do rfl (ex_move (eV (v := (I v40)) rfl)))) (dcons (dstep1 (Tm := [(193, (SL 1 cI ([x4.Kind, t8, (w64 (1 + (x37.toNat : Int)))] : List Int))), (194, (I v40))]) (L := [(c_api_Block t0), (c_api_Block x4), (c_api_Dev x29.1)]) (H := ⟨0, []⟩) rfl rfl rfl rfl rfl (astep_do rfl (tx_idxD (c := cI) (xs := ([x4.Kind, t8, (w64 (1 + (x37.toNat : Int)))] : List Int)) (i := v40) ceI Try.underlying48 s_3 rfl rfl hx43))) (dcons (dstep1 (Tm := [(195, (DP (cI x43)))]) (L := [(c_api_Block t0), (c_api_Block x4), (c_api_Dev x29.1)]) (H := ⟨0, []⟩) rfl rfl rfl rfl rfl (astep_do rfl (tx_ldD1 (v := (I x43)) Try.underlying3 rfl rfl rfl))) (dcons (dstep1 (Tm := [(188, (Value.agg (c_api_Dev x29.1).toArray)), (192, (Value.agg (c_api_Ptr x42).toArray)), (196, (I x43))]) (L := [(c_api_Block t0), (c_api_Block x4), (c_api_Dev x29.1)]) (H := ⟨0, []⟩) rfl rfl rfl rfl rfl (astep_do rfl (ex_call0 (vs := [(Value.agg (c_api_Dev x29.1).toArray), (Value.agg (c_api_Ptr x42).toArray), (I x43)]) (v := (Value.tuple #[(S x44.1), (Bo x44.2)])) rfl en_21 (cargs (evs rfl (evs rfl (evs rfl evs_nil)))) rfl (ok_block_Read x29.1 x42 x43 x44 hx44) rfl))) (dcons (dstep1 (Tm := [(197, (Value.tuple #[(S x44.1), (Bo x44.2)]))]) (L := [(c_api_Block t0), (c_api_Block x4), (c_api_Dev x29.1)]) (H := ⟨0, []⟩) rfl rfl rfl rfl rfl (astep_do rfl (ex_move (eV (v := (Value.tuple #[(S x44.1), (Bo x44.2)])) rfl)))) (dcons (dstep1 (Tm := [(187, (Value.tuple #[(S x44.1), (Bo x44.2)]))]) (L := [(c_api_Block t0), (c_api_Block x4), (c_api_Dev x29.1)]) (H := ⟨0, []⟩) rfl rfl rfl rfl rfl (astep_do rfl (ex_extract (vx := (Value.tuple #[(S x44.1), (Bo x44.2)])) (v := (S x44.1)) rfl rfl))) (dcons (dstep1 (Tm := [(187, (Value.tuple #[(S x44.1), (Bo x44.2)]))]) (L := [(c_api_Block t0), (c_api_Block x4), (c_api_Dev x29.1)]) (H := ⟨0, []⟩) rfl rfl rfl rfl rfl (astep_do rfl (ex_extract (vx := (Value.tuple #[(S x44.1), (Bo x44.2)])) (v := (Bo x44.2)) rfl rfl))) (dcons (dstep1 (Tm := [(198, (S x44.1))]) (L := [(c_api_Block t0), (c_api_Block x4), (c_api_Dev x29.1)]) (H := ⟨0, []⟩) rfl rfl rfl rfl rfl (astep_do rfl (ex_assign (eV (v := (S x44.1)) rfl)))) (dcons (dstep1 (Tm := [(199, (Bo x44.2))]) (L := [(c_api_Block t0), (c_api_Block x4), (c_api_Dev x29.1)]) (H := ⟨0, []⟩) rfl rfl rfl rfl rfl (astep_do rfl (ex_assign (eV (v := (Bo x44.2)) rfl)))) dnil))))))))))))))) ⟨rfl, rfl⟩) (by kernel_rfl) (by kernel_rfl) ?_
                      show AWp _ _ _ _
                      refine awp_seq ?_
                      obtain ⟨x45, hx45, h⟩ := bindS h
                      obtain ⟨x46, hx46, h⟩ := bindS h
                      obtain ⟨x47, hx47, h⟩ := bindS h
                      refine awp_kn [6, 7, 8, 19, 21, 22, 27, 28, 29, 30, 31, 32, 33, 34, 35] 3 0 (st' := ⟨221, 0, [(6, (U8 t6)), (7, (I t7)), (8, (I t8)), (19, (LP 1 0)), (21, (SL 1 cS ([t4, x17, x18] : List Str))), (22, (I v19)), (27, (LP 2 0)), (28, (SL 6 c_api_Ptr ([x30, x31, x32, (G_api_Ptr.mk 0 0 (A4.mk 0 0 0 0)), x34, x36] : List G_api_Ptr))), (29, (SL 1 cI ([x4.Kind, t8, (w64 (1 + (x37.toNat : Int)))] : List Int))), (30, (I v38)), (31, (I v40)), (32, (S x44.1)), (33, (Bo x44.2)), (34, (S x47.1)), (35, (Bo x47.2))], [(c_api_Block t0), (c_api_Block x4), (c_api_Dev x29.1)], ⟨0, []⟩⟩) (awp_draw (T := [(Value.agg (c_api_Dev x29.1).toArray), (SL 6 c_api_Ptr ([x30, x31, x32, (G_api_Ptr.mk 0 0 (A4.mk 0 0 0 0)), x34, x36] : List G_api_Ptr)), (I v38), (DP (c_api_Ptr x45)), (Value.agg (c_api_Ptr x45).toArray), (SL 1 cI ([x4.Kind, t8, (w64 (1 + (x37.toNat : Int)))] : List Int)), (I v40), (DP (cI x46)), (I x46), (Value.tuple #[(S x47.1), (Bo x47.2)]), (Value.tuple #[(S x47.1), (Bo x47.2)]), (S x47.1), (Bo x47.2), (S x47.1), (Bo x47.2)]) (LH := [([(c_api_Block t0), (c_api_Block x4), (c_api_Dev x29.1)], ⟨0, []⟩)]) (D := [⟨[(27, none)], [], [0], false⟩, ⟨[(28, none)], [], [0], false⟩, ⟨[(30, none)], [], [0], false⟩, ⟨[(202, some 1), (203, some 2)], [1, 2], [0], false⟩, ⟨[(204, some 3)], [1, 2, 3], [0], false⟩, ⟨[(29, none)], [], [0], false⟩, ⟨[(31, none)], [], [0], false⟩, ⟨[(206, some 5), (207, some 6)], [5, 6], [0], false⟩, ⟨[(208, some 7)], [5, 6, 7], [0], false⟩, ⟨[(201, some 0), (205, some 4), (209, some 8)], [0, 1, 2, 3, 4, 5, 6, 7, 8], [0], false⟩, ⟨[(210, some 9)], [0, 1, 2, 3, 4, 5, 6, 7, 8, 9], [0], false⟩, ⟨[(200, some 10)], [0, 1, 2, 3, 4, 5, 6, 7, 8, 9, 10], [0], false⟩, ⟨[(200, some 10)], [0, 1, 2, 3, 4, 5, 6, 7, 8, 9, 10], [0], false⟩, ⟨[(211, some 11)], [0, 1, 2, 3, 4, 5, 6, 7, 8, 9, 10, 11], [0], false⟩, ⟨[(212, some 12)], [0, 1, 2, 3, 4, 5, 6, 7, 8, 9, 10, 11, 12, 13], [0], false⟩]) (S := []) (plan := [0, 1, 2, 3, 4, 5, 6, 7, 8, 9, 10, 11, 12, 13, 14]) mo (by kernel_rfl) rfl rfl rfl (dcons (dstep1 (Tm := [(27, (LP 2 0))]) (L := [(c_api_Block t0), (c_api_Block x4), (c_api_Dev x29.1)]) (H := ⟨0, []⟩) rfl rfl rfl rfl rfl (astep_do rfl (tx_ldLA (vs := (c_api_Dev x29.1)) Try.underlying40 rfl s_40 (by decide) rfl rfl rfl rfl))) (dcons (dstep1 (Tm := [(28, (SL 6 c_api_Ptr ([x30, x31, x32, (G_api_Ptr.mk 0 0 (A4.mk 0 0 0 0)), x34, x36] : List G_api_Ptr)))]) (L := [(c_api_Block t0), (c_api_Block x4), (c_api_Dev x29.1)]) (H := ⟨0, []⟩) rfl rfl rfl rfl rfl (astep_do rfl (ex_move (eV (v := (SL 6 c_api_Ptr ([x30, x31, x32, (G_api_Ptr.mk 0 0 (A4.mk 0 0 0 0)), x34, x36] : List G_api_Ptr))) rfl)))) (dcons (dstep1 (Tm := [(30, (I v38))]) (L := [(c_api_Block t0), (c_api_Block x4), (c_api_Dev x29.1)]) (H := ⟨0, []⟩) rfl rfl rfl rfl rfl (astep_do rfl (ex_move (eV (v := (I v38)) rfl)))) (dcons (dstep1 (Tm := [(202, (SL 6 c_api_Ptr ([x30, x31, x32, (G_api_Ptr.mk 0 0 (A4.mk 0 0 0 0)), x34, x36] : List G_api_Ptr))), (203, (I v38))]) (L := [(c_api_Block t0), (c_api_Block x4), (c_api_Dev x29.1)]) (H := ⟨0, []⟩) rfl rfl rfl rfl rfl (astep_do rfl (tx_idxD (c := c_api_Ptr) (xs := ([x30, x31, x32, (G_api_Ptr.mk 0 0 (A4.mk 0 0 0 0)), x34, x36] : List G_api_Ptr)) (i := v38) ce_api_Ptr Try.underlying47 s_32 rfl rfl hx45))) (dcons (dstep1 (Tm := [(204, (DP (c_api_Ptr x45)))]) (L := [(c_api_Block t0), (c_api_Block x4), (c_api_Dev x29.1)]) (H := ⟨0, []⟩) rfl rfl rfl rfl rfl (astep_do rfl (tx_ldDA (vs := (c_api_Ptr x45)) Try.underlying32 rfl s_32 (by decide) rfl (Nat.le_of_ble_eq_true rfl) rfl))) (dcons (dstep1 (Tm := [(29, (SL 1 cI ([x4.Kind, t8, (w64 (1 + (x37.toNat : Int)))] : List Int)))]) (L := [(c_api_Block t0), (c_api_Block x4), (c_api_Dev x29.1)]) (H := ⟨0, []⟩) rfl rfl rfl rfl rfl (astep_do rfl (ex_move (eV (v := (SL 1 cI ([x4.Kind, t8, (w64 (1 + (x37.toNat : Int)))] : List Int))) rfl)))) (dcons (dstep1 (Tm := [(31, (I v40))]) (L := [(c_api_Block t0), (c_api_Block x4), (c_api_Dev x29.1)]) (H := ⟨0, []⟩) rfl rfl rfl rfl rfl (astep_do rfl (ex_move (eV (v := (I v40)) rfl)))) (dcons (dstep1 (Tm := [(206, (SL 1 cI ([x4.Kind, t8, (w64 (1 + (x37.toNat : Int)))] : List Int))), (207, (I v40))]) (L := [(c_api_Block t0), (c_api_Block x4), (c_api_Dev x29.1)]) (H := ⟨0, []⟩) rfl rfl rfl rfl rfl (astep_do rfl (tx_idxD (c := cI) (xs := ([x4.Kind, t8, (w64 (1 + (x37.toNat : Int)))] : List Int)) (i := v40) ceI Try.underlying48 s_3 rfl rfl hx46))) (dcons (dstep1 (Tm := [(208, (DP (cI x46)))]) (L := [(c_api_Block t0), (c_api_Block x4), (c_api_Dev x29.1)]) (H := ⟨0, []⟩) rfl rfl rfl rfl rfl (astep_do rfl (tx_ldD1 (v := (I x46)) Try.underlying3 rfl rfl rfl))) (dcons (dstep1 (Tm := [(201, (Value.agg (c_api_Dev x29.1).toArray)), (205, (Value.agg (c_api_Ptr x45).toArray)), (209, (I x46))]) (L := [(c_api_Block t0), (c_api_Block x4), (c_api_Dev x29.1)]) (H := ⟨0, []⟩) rfl rfl rfl rfl rfl (astep_do rfl (ex_call0 (vs := [(Value.agg (c_api_Dev x29.1).toArray), (Value.agg (c_api_Ptr x45).toArray), (I x46)]) (v := (Value.tuple #[(S x47.1), (Bo x47.2)])) rfl en_22 (cargs (evs rfl (evs rfl (evs rfl evs_nil)))) rfl (ok_ref1_ReadBlock x29.1 x45 x46 x47 hx47) rfl))) (dcons (dstep1 (Tm := [(210, (Value.tuple #[(S x47.1), (Bo x47.2)]))]) (L := [(c_api_Block t0), (c_api_Block x4), (c_api_Dev x29.1)]) (H := ⟨0, []⟩) rfl rfl rfl rfl rfl (astep_do rfl (ex_move (eV (v := (Value.tuple #[(S x47.1), (Bo x47.2)])) rfl)))) (dcons (dstep1 (Tm := [(200, (Value.tuple #[(S x47.1), (Bo x47.2)]))]) (L := [(c_api_Block t0), (c_api_Block x4), (c_api_Dev x29.1)]) (H := ⟨0, []⟩) rfl rfl rfl rfl rfl (astep_do rfl (ex_extract (vx := (Value.tuple #[(S x47.1), (Bo x47.2)])) (v := (S x47.1)) rfl rfl))) (dcons (dstep1 (Tm := [(200, (Value.tuple #[(S x47.1), (Bo x47.2)]))]) (L := [(c_api_Block t0), (c_api_Block x4), (c_api_Dev x29.1)]) (H := ⟨0, []⟩) rfl rfl rfl rfl rfl (astep_do rfl (ex_extract (vx := (Value.tuple #[(S x47.1), (Bo x47.2)])) (v := (Bo x47.2)) rfl rfl))) (dcons (dstep1 (Tm := [(211, (S x47.1))]) (L := [(c_api_Block t0), (c_api_Block x4), (c_api_Dev x29.1)]) (H := ⟨0, []⟩) rfl rfl rfl rfl rfl (astep_do rfl (ex_assign (eV (v := (S x47.1)) rfl)))) (dcons (dstep1 (Tm := [(212, (Bo x47.2))]) (L := [(c_api_Block t0), (c_api_Block x4), (c_api_Dev x29.1)]) (H := ⟨0, []⟩) rfl rfl rfl rfl rfl (astep_do rfl (ex_assign (eV (v := (Bo x47.2)) rfl)))) dnil))))))))))))))) ⟨rfl, rfl⟩) (by kernel_rfl) (by kernel_rfl) ?_
                      show AWp _ _ _ _
                      refine awp_seq ?_
                      refine awp_region ?_
                      refine arun_do rfl rfl rfl (ex_move (eV (v := (S x44.1)) rfl)) ?_
                      refine arun_do rfl rfl rfl (ex_move (eV (v := (S x47.1)) rfl)) ?_
                      refine arun_do rfl rfl rfl (ex_bin (vx := (S x44.1)) (vy := (S x47.1)) rfl rfl neqS_ok) ?_
                      refine arun_do rfl rfl rfl (ex_move (eV (v := (Bo (x44.1 != x47.1))) rfl)) ?_
                      refine arun_guard (v := (Bo x44.2)) ((x44.1 != x47.1) == false) rfl rfl rfl (fun hc => ex_move (eV (v := (Bo x44.2)) rfl)) ?_
                      refine arun_guard (v := (Bo x47.2)) ((x44.1 != x47.1) == false) rfl rfl rfl (fun hc => ex_move (eV (v := (Bo x47.2)) rfl)) ?_
                      refine arun_guard (v := (Bo (x44.2 != x47.2))) ((x44.1 != x47.1) == false) rfl rfl rfl (fun hc => ex_bin (vx := (Bo x44.2)) (vy := (Bo x47.2)) (cond_of hc) (cond_of hc) (neqB_ok Try.underlying4)) ?_
                      refine arun_do rfl rfl rfl (ex_pick rfl pkOr) ?_
                      refine arun_keepE [6, 7, 8, 19, 21, 22, 27, 28, 29, 30, 31, 220] 3 0 (st' := ⟨221, 0, [(6, (U8 t6)), (7, (I t7)), (8, (I t8)), (19, (LP 1 0)), (21, (SL 1 cS ([t4, x17, x18] : List Str))), (22, (I v19)), (27, (LP 2 0)), (28, (SL 6 c_api_Ptr ([x30, x31, x32, (G_api_Ptr.mk 0 0 (A4.mk 0 0 0 0)), x34, x36] : List G_api_Ptr))), (29, (SL 1 cI ([x4.Kind, t8, (w64 (1 + (x37.toNat : Int)))] : List Int))), (30, (I v38)), (31, (I v40)), (220, (Bo ((x44.1 != x47.1) || (x44.2 != x47.2))))], [(c_api_Block t0), (c_api_Block x4), (c_api_Dev x29.1)], ⟨0, []⟩⟩) (by kernel_rfl) (by kernel_rfl) ?_
                      show AWp _ _ _ _
                      rcases Bool.eq_false_or_eq_true ((x44.1 != x47.1) || (x44.2 != x47.2)) with hb48 | hb48
                      · rw [condT hb48] at h
                        refine awp_condT (boT hb48) ?_
                        refine awp_seq ?_
                        refine awp_region ?_
                        refine arun_do rfl rfl rfl (ex_assign (eV (v := (Bo false)) rfl)) ?_
                        refine arun_keepE [18] 0 0 (st' := ⟨221, 0, [(18, (Bo false))], [], ⟨0, []⟩⟩) (by kernel_rfl) (by kernel_rfl) ?_
                        show AWp _ _ _ _
                        refine awp_ret ?_
                        cases h
                        exact ares1 (rtmp rfl (eV rfl))
                      · rw [condF hb48] at h
                        refine awp_condF (boF hb48) ?_
                        refine awp_skip ?_
                        show AWp _ _ _ _
                        refine awp_region ?_
                        refine arun_do rfl rfl rfl (ex_move (eV (v := (I v40)) rfl)) ?_
                        refine arun_do rfl rfl rfl (ex_bin (vx := (I v40)) (vy := (I 1)) rfl rfl addI_ok) ?_
                        refine arun_do rfl rfl rfl (ex_assign (eV (v := (I (w64 (v40 + 1)))) rfl)) ?_
                        refine arun_keepE [6, 7, 8, 19, 21, 22, 27, 28, 29, 30, 31] 3 0 (st' := ⟨221, 0, [(6, (U8 t6)), (7, (I t7)), (8, (I t8)), (19, (LP 1 0)), (21, (SL 1 cS ([t4, x17, x18] : List Str))), (22, (I v19)), (27, (LP 2 0)), (28, (SL 6 c_api_Ptr ([x30, x31, x32, (G_api_Ptr.mk 0 0 (A4.mk 0 0 0 0)), x34, x36] : List G_api_Ptr))), (29, (SL 1 cI ([x4.Kind, t8, (w64 (1 + (x37.toNat : Int)))] : List Int))), (30, (I v38)), (31, (I (w64 (v40 + 1))))], [(c_api_Block t0), (c_api_Block x4), (c_api_Dev x29.1)], ⟨0, []⟩⟩) (by kernel_rfl) (by kernel_rfl) ?_
                        exact Exists.intro n3 (And.intro (Nat.lt_succ_self _) (Exists.intro (w64 (v40 + 1)) (And.intro rfl h)))
                    · rw [condF hb41] at h
                      refine awp_condF (boF hb41) ?_
                      refine awp_exit ?_
                      show AWp _ _ _ _
                      refine awp_region ?_
                      refine arun_do rfl rfl rfl (ex_move (eV (v := (I v38)) rfl)) ?_
                      refine arun_do rfl rfl rfl (ex_bin (vx := (I v38)) (vy := (I 1)) rfl rfl addI_ok) ?_
                      refine arun_do rfl rfl rfl (ex_assign (eV (v := (I (w64 (v38 + 1)))) rfl)) ?_
                      refine arun_keepE [6, 7, 8, 19, 21, 22, 27, 28, 29, 30] 3 0 (st' := ⟨221, 0, [(6, (U8 t6)), (7, (I t7)), (8, (I t8)), (19, (LP 1 0)), (21, (SL 1 cS ([t4, x17, x18] : List Str))), (22, (I v19)), (27, (LP 2 0)), (28, (SL 6 c_api_Ptr ([x30, x31, x32, (G_api_Ptr.mk 0 0 (A4.mk 0 0 0 0)), x34, x36] : List G_api_Ptr))), (29, (SL 1 cI ([x4.Kind, t8, (w64 (1 + (x37.toNat : Int)))] : List Int))), (30, (I (w64 (v38 + 1))))], [(c_api_Block t0), (c_api_Block x4), (c_api_Dev x29.1)], ⟨0, []⟩⟩) (by kernel_rfl) (by kernel_rfl) ?_
                      exact Exists.intro n2 (And.intro (Nat.lt_succ_self _) (Exists.intro (w64 (v38 + 1)) (And.intro rfl h)))
                · rw [condF hb39] at h
                  refine awp_condF (boF hb39) ?_
                  refine awp_exit ?_
                  show AWp _ _ _ _
                  refine awp_region ?_
                  refine arun_do rfl rfl rfl (ex_move (eV (v := (I v19)) rfl)) ?_
                  refine arun_do rfl rfl rfl (ex_bin (vx := (I v19)) (vy := (I 1)) rfl rfl addI_ok) ?_
                  refine arun_do rfl rfl rfl (ex_assign (eV (v := (I (w64 (v19 + 1)))) rfl)) ?_
                  refine arun_keepE [6, 7, 8, 19, 21, 22] 2 0 (st' := ⟨221, 0, [(6, (U8 t6)), (7, (I t7)), (8, (I t8)), (19, (LP 1 0)), (21, (SL 1 cS ([t4, x17, x18] : List Str))), (22, (I (w64 (v19 + 1))))], [(c_api_Block t0), (c_api_Block x4)], ⟨0, []⟩⟩) (by kernel_rfl) (by kernel_rfl) ?_
                  exact Exists.intro n1 (And.intro (Nat.lt_succ_self _) (Exists.intro (w64 (v19 + 1)) (And.intro rfl h)))
          · rw [condF hb20] at h
            refine awp_condF (boF hb20) ?_
            refine awp_exit ?_
            show AWp _ _ _ _
            refine awp_seq ?_
            refine awp_region ?_
            refine arun_do rfl rfl rfl (ex_assign (eV (v := (Bo true)) rfl)) ?_
            refine arun_keepE [18] 0 0 (st' := ⟨221, 0, [(18, (Bo true))], [], ⟨0, []⟩⟩) (by kernel_rfl) (by kernel_rfl) ?_
            show AWp _ _ _ _
            refine awp_ret ?_
            cases h
            exact ares1 (rtmp rfl (eV rfl))

end Go.Proofs
