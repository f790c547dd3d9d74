/- Pure models of functions of the program, and that its code does what they say: palimpmade Made, palimpmade Picks Over, palimpmade Picks Num, palimpmade Picks Path, palimpmade Picks Text. Written by a program. -/
import Derived.Test.YtjdlpipeagjnfaaGreatDoorRDOB
set_option maxRecDepth 20000
set_option maxHeartbeats 4000000
namespace Go.Proofs
open Go Go.Fhl
set_option linter.unusedVariables false
set_option linter.unusedSimpArgs false
noncomputable def M_made_Made (t0 : (List UInt8)) : Option G_palimpmade_Picks :=
  some (G_palimpmade_Picks.mk t0 0)
theorem ok_made_Made (t0 : (List UInt8)) (r : G_palimpmade_Picks) (h : M_made_Made t0 = some r) : FNw Tryz.prog 5 [(SL 1 c8 t0)] ⟨1, (cPk r), false⟩ := by
  refine FNw.of_body (n := 6) Tryz.func5 rfl Tryz.ntmps5 rfl rfl rfl ?_
  show AWp _ _ _ ⟨6, 0, [(0, (SL 1 c8 t0))], [], ⟨0, []⟩⟩
  unfold M_made_Made at h
  refine awp_seq ?_
  refine awr ?_
  refine ado rfl rfl rfl (eas (eV (v := (Value.pointer none)) rfl)) ?_
  refine ake [0] 0 0 (st' := ⟨6, 0, [(0, (SL 1 c8 t0))], [], ⟨0, []⟩⟩) (by kernel_rfl) (by kernel_rfl) ?_
  show AWp _ _ _ _
  refine awp_seq ?_
  refine awr ?_
  refine ado rfl rfl rfl (emv (eV (v := (SL 1 c8 t0)) rfl)) ?_
  refine ado rfl rfl rfl (ex_build (qs := [(0, (SL 1 c8 t0))]) (v := (Value.agg (cPk (G_palimpmade_Picks.mk t0 0)).toArray)) (evp rfl evp_nil) (by kernel_rfl)) ?_
  refine ado rfl rfl rfl (ex_boxH (vx := (Value.agg (cPk (G_palimpmade_Picks.mk t0 0)).toArray)) (cs := (cPk (G_palimpmade_Picks.mk t0 0))) (k := 0) (H' := ⟨1, [(0, ⟨1, (cPk (G_palimpmade_Picks.mk t0 0)), false⟩)]⟩) (eV (v := (Value.agg (cPk (G_palimpmade_Picks.mk t0 0)).toArray)) rfl) rfl rfl rfl rfl) ?_
  refine ado rfl rfl rfl (eas (eV (v := (NP 0 0)) rfl)) ?_
  refine ake [2] 0 1 (st' := ⟨6, 0, [(2, (NP 0 0))], [], ⟨1, [(0, ⟨1, (cPk (G_palimpmade_Picks.mk t0 0)), false⟩)]⟩⟩) (by kernel_rfl) (by kernel_rfl) ?_
  show AWp _ _ _ _
  refine awp_ret ?_
  cases h
  exact And.intro (ares1 (rtmp rfl (eV rfl))) (And.intro rfl rfl)

noncomputable def M_made_Picks_Over (t0 : G_palimpmade_Picks) : Option (Bool × G_palimpmade_Picks) :=
  some ((decide (t0.n ≥ (t0.l.length : Int))), t0)
theorem ok_made_Picks_Over (t0 : G_palimpmade_Picks) (r : (Bool × G_palimpmade_Picks)) (h : M_made_Picks_Over t0 = some r) : F1n Tryz.prog 38 [(NP 0 0)] ⟨1, (cPk t0), false⟩ (Bo r.1) ⟨1, (cPk r.2), false⟩ := by
  refine F1n.of_body (n := 13) Tryz.func38 rfl Tryz.ntmps38 rfl rfl rfl rfl ?_
  show AWp _ _ _ ⟨13, 1, [(0, (NP 0 0))], [], ⟨1, [(0, ⟨1, (cPk t0), false⟩)]⟩⟩
  unfold M_made_Picks_Over at h
  refine awp_seq ?_
  refine awr ?_
  refine ado rfl rfl rfl (eas (eV (v := (Bo false)) rfl)) ?_
  refine ake [0] 0 1 (st' := ⟨13, 1, [(0, (NP 0 0))], [], ⟨1, [(0, ⟨1, (cPk t0), false⟩)]⟩⟩) (by kernel_rfl) (by kernel_rfl) ?_
  show AWp _ _ _ _
  refine awp_seq ?_
  refine awp_kn [2] 0 1 (st' := ⟨13, 1, [(2, (Bo (decide (t0.n ≥ (t0.l.length : Int)))))], [], ⟨1, [(0, ⟨1, (cPk t0), false⟩)]⟩⟩) (awp_draw (T := [(NP 0 0), (NP 0 0), (NP 0 1), (I t0.n), (NP 0 0), (NP 0 0), (NP 0 0), (SL 1 c8 t0.l), (I (t0.l.length : Int)), (Bo (decide (t0.n ≥ (t0.l.length : Int)))), (Bo (decide (t0.n ≥ (t0.l.length : Int))))]) (LH := [([], ⟨1, [(0, ⟨1, (cPk t0), false⟩)]⟩)]) (D := [⟨[(0, none)], [], [0], false⟩, ⟨[(3, some 0)], [0], [0], false⟩, ⟨[(4, some 1)], [0, 1], [0], false⟩, ⟨[(5, some 2)], [0, 1, 2], [0], false⟩, ⟨[(0, none)], [], [0], false⟩, ⟨[(7, some 4)], [4], [0], false⟩, ⟨[(8, some 5)], [4, 5], [0], false⟩, ⟨[(9, some 6)], [4, 5, 6], [0], false⟩, ⟨[(10, some 7)], [4, 5, 6, 7], [0], false⟩, ⟨[(6, some 3), (11, some 8)], [0, 1, 2, 3, 4, 5, 6, 7, 8], [0], false⟩, ⟨[(12, some 9)], [0, 1, 2, 3, 4, 5, 6, 7, 8, 9], [0], false⟩]) (S := []) (plan := [0, 1, 2, 3, 4, 5, 6, 7, 8, 9, 10]) mo (by kernel_rfl) rfl rfl rfl (dcons (dstep1 (Tm := [(0, (NP 0 0))]) (L := []) (H := ⟨1, [(0, ⟨1, (cPk t0), false⟩)]⟩) rfl rfl rfl rfl rfl (astep_do rfl (emv (eV (v := (NP 0 0)) rfl)))) (dcons (dstep1 (Tm := [(3, (NP 0 0))]) (L := []) (H := ⟨1, [(0, ⟨1, (cPk t0), false⟩)]⟩) rfl rfl rfl rfl rfl (astep_do rfl (ex_nilCheck (p := ⟨0, 0, none⟩) rfl))) (dcons (dstep1 (Tm := [(4, (NP 0 0))]) (L := []) (H := ⟨1, [(0, ⟨1, (cPk t0), false⟩)]⟩) rfl rfl rfl rfl rfl (astep_do rfl (ex_fieldAddr (v := (NP 0 1)) Tryz.underlying54 rfl s_3 (by decide) rfl rfl))) (dcons (dstep1 (Tm := [(5, (NP 0 1))]) (L := []) (H := ⟨1, [(0, ⟨1, (cPk t0), false⟩)]⟩) rfl rfl rfl rfl rfl (astep_do rfl (tx_ldF (v := (I t0.n)) (s := 1) rfl rfl (part1 Tryz.underlying3 rfl rfl)))) (dcons (dstep1 (Tm := [(0, (NP 0 0))]) (L := []) (H := ⟨1, [(0, ⟨1, (cPk t0), false⟩)]⟩) rfl rfl rfl rfl rfl (astep_do rfl (emv (eV (v := (NP 0 0)) rfl)))) (dcons (dstep1 (Tm := [(7, (NP 0 0))]) (L := []) (H := ⟨1, [(0, ⟨1, (cPk t0), false⟩)]⟩) rfl rfl rfl rfl rfl (astep_do rfl (ex_nilCheck (p := ⟨0, 0, none⟩) rfl))) (dcons (dstep1 (Tm := [(8, (NP 0 0))]) (L := []) (H := ⟨1, [(0, ⟨1, (cPk t0), false⟩)]⟩) rfl rfl rfl rfl rfl (astep_do rfl (ex_fieldAddr (v := (NP 0 0)) Tryz.underlying54 rfl s_22 (by decide) rfl rfl))) (dcons (dstep1 (Tm := [(9, (NP 0 0))]) (L := []) (H := ⟨1, [(0, ⟨1, (cPk t0), false⟩)]⟩) rfl rfl rfl rfl rfl (astep_do rfl (tx_ldF (v := (SL 1 c8 t0.l)) (s := 1) rfl rfl (part1 Tryz.underlying22 rfl rfl)))) (dcons (dstep1 (Tm := [(10, (SL 1 c8 t0.l))]) (L := []) (H := ⟨1, [(0, ⟨1, (cPk t0), false⟩)]⟩) rfl rfl rfl rfl rfl (astep_do rfl (tx_lenD (xs := t0.l) ce8 Tryz.underlying22 rfl))) (dcons (dstep1 (Tm := [(6, (I t0.n)), (11, (I (t0.l.length : Int)))]) (L := []) (H := ⟨1, [(0, ⟨1, (cPk t0), false⟩)]⟩) rfl rfl rfl rfl rfl (astep_do rfl (ex_bin (vx := (I t0.n)) (vy := (I (t0.l.length : Int))) rfl rfl geqI_ok))) (dcons (dstep1 (Tm := [(12, (Bo (decide (t0.n ≥ (t0.l.length : Int)))))]) (L := []) (H := ⟨1, [(0, ⟨1, (cPk t0), false⟩)]⟩) rfl rfl rfl rfl rfl (astep_do rfl (eas (eV (v := (Bo (decide (t0.n ≥ (t0.l.length : Int))))) rfl)))) dnil))))))))))) ⟨rfl, rfl⟩) (by kernel_rfl) (by kernel_rfl) ?_
  show AWp _ _ _ _
  refine awp_ret ?_
  cases h
  exact And.intro (ares1 (rtmp rfl (eV rfl))) rfl

noncomputable def M_made_Picks_Num (t0 : G_palimpmade_Picks) (t1 : Int) : Option (Int × G_palimpmade_Picks) :=
  cond ((decide (t0.n ≥ (t0.l.length : Int))) || (decide (t1 < 1))) (some (0, t0)) (Option.bind (getI t0.l (w64 ((w64 (t0.n + 1)) - 1))) fun (x2 : UInt8) => Option.bind (remI (x2.toNat : Int) t1) fun (x3 : Int) => some (x3, (G_palimpmade_Picks.mk t0.l (w64 (t0.n + 1)))))
theorem ok_made_Picks_Num (t0 : G_palimpmade_Picks) (t1 : Int) (r : (Int × G_palimpmade_Picks)) (h : M_made_Picks_Num t0 t1 = some r) : F1n Tryz.prog 21 [(NP 0 0), (I t1)] ⟨1, (cPk t0), false⟩ (I r.1) ⟨1, (cPk r.2), false⟩ := by
  refine F1n.of_body (n := 40) Tryz.func21 rfl Tryz.ntmps21 rfl rfl rfl rfl ?_
  show AWp _ _ _ ⟨40, 1, [(0, (NP 0 0)), (1, (I t1))], [], ⟨1, [(0, ⟨1, (cPk t0), false⟩)]⟩⟩
  unfold M_made_Picks_Num at h
  refine awp_seq ?_
  refine awr ?_
  refine ado rfl rfl rfl (eas (eV (v := (I 0)) rfl)) ?_
  refine ake [0, 1] 0 1 (st' := ⟨40, 1, [(0, (NP 0 0)), (1, (I t1))], [], ⟨1, [(0, ⟨1, (cPk t0), false⟩)]⟩⟩) (by kernel_rfl) (by kernel_rfl) ?_
  show AWp _ _ _ _
  refine awp_seq ?_
  refine awp_seq ?_
  refine awp_kn [0, 1, 18] 0 1 (st' := ⟨40, 1, [(0, (NP 0 0)), (1, (I t1)), (18, (Bo ((decide (t0.n ≥ (t0.l.length : Int))) || (decide (t1 < 1)))))], [], ⟨1, [(0, ⟨1, (cPk t0), false⟩)]⟩⟩) (awp_draw (T := [(NP 0 0), (NP 0 0), (NP 0 1), (I t0.n), (NP 0 0), (NP 0 0), (NP 0 0), (SL 1 c8 t0.l), (I (t0.l.length : Int)), (Bo (decide (t0.n ≥ (t0.l.length : Int)))), (Bo (decide (t0.n ≥ (t0.l.length : Int)))), (cond ((decide (t0.n ≥ (t0.l.length : Int))) == false) (I t1) skipV), (cond ((decide (t0.n ≥ (t0.l.length : Int))) == false) (Bo (decide (t1 < 1))) skipV), (Bo ((decide (t0.n ≥ (t0.l.length : Int))) || (decide (t1 < 1))))]) (LH := [([], ⟨1, [(0, ⟨1, (cPk t0), false⟩)]⟩)]) (D := [⟨[(0, none)], [], [0], false⟩, ⟨[(5, some 0)], [0], [0], false⟩, ⟨[(6, some 1)], [0, 1], [0], false⟩, ⟨[(7, some 2)], [0, 1, 2], [0], false⟩, ⟨[(0, none)], [], [0], false⟩, ⟨[(9, some 4)], [4], [0], false⟩, ⟨[(10, some 5)], [4, 5], [0], false⟩, ⟨[(11, some 6)], [4, 5, 6], [0], false⟩, ⟨[(12, some 7)], [4, 5, 6, 7], [0], false⟩, ⟨[(8, some 3), (13, some 8)], [0, 1, 2, 3, 4, 5, 6, 7, 8], [0], false⟩, ⟨[(14, some 9)], [0, 1, 2, 3, 4, 5, 6, 7, 8, 9], [0], false⟩, ⟨[(1, none), (15, some 10)], [0, 1, 2, 3, 4, 5, 6, 7, 8, 9, 10], [0], false⟩, ⟨[(16, some 11), (15, some 10)], [0, 1, 2, 3, 4, 5, 6, 7, 8, 9, 10, 11], [0], false⟩, ⟨[(15, some 10), (17, some 12)], [0, 1, 2, 3, 4, 5, 6, 7, 8, 9, 10, 11, 12], [0], false⟩]) (S := []) (plan := [0, 1, 2, 3, 4, 5, 6, 7, 8, 9, 10, 11, 12, 13]) mo (by kernel_rfl) rfl rfl rfl (dcons (dstep1 (Tm := [(0, (NP 0 0))]) (L := []) (H := ⟨1, [(0, ⟨1, (cPk t0), false⟩)]⟩) rfl rfl rfl rfl rfl (astep_do rfl (emv (eV (v := (NP 0 0)) rfl)))) (dcons (dstep1 (Tm := [(5, (NP 0 0))]) (L := []) (H := ⟨1, [(0, ⟨1, (cPk t0), false⟩)]⟩) rfl rfl rfl rfl rfl (astep_do rfl (ex_nilCheck (p := ⟨0, 0, none⟩) rfl))) (dcons (dstep1 (Tm := [(6, (NP 0 0))]) (L := []) (H := ⟨1, [(0, ⟨1, (cPk t0), false⟩)]⟩) rfl rfl rfl rfl rfl (astep_do rfl (ex_fieldAddr (v := (NP 0 1)) Tryz.underlying54 rfl s_3 (by decide) rfl rfl))) (dcons (dstep1 (Tm := [(7, (NP 0 1))]) (L := []) (H := ⟨1, [(0, ⟨1, (cPk t0), false⟩)]⟩) rfl rfl rfl rfl rfl (astep_do rfl (tx_ldF (v := (I t0.n)) (s := 1) rfl rfl (part1 Tryz.underlying3 rfl rfl)))) (dcons (dstep1 (Tm := [(0, (NP 0 0))]) (L := []) (H := ⟨1, [(0, ⟨1, (cPk t0), false⟩)]⟩) rfl rfl rfl rfl rfl (astep_do rfl (emv (eV (v := (NP 0 0)) rfl)))) (dcons (dstep1 (Tm := [(9, (NP 0 0))]) (L := []) (H := ⟨1, [(0, ⟨1, (cPk t0), false⟩)]⟩) rfl rfl rfl rfl rfl (astep_do rfl (ex_nilCheck (p := ⟨0, 0, none⟩) rfl))) (dcons (dstep1 (Tm := [(10, (NP 0 0))]) (L := []) (H := ⟨1, [(0, ⟨1, (cPk t0), false⟩)]⟩) rfl rfl rfl rfl rfl (astep_do rfl (ex_fieldAddr (v := (NP 0 0)) Tryz.underlying54 rfl s_22 (by decide) rfl rfl))) (dcons (dstep1 (Tm := [(11, (NP 0 0))]) (L := []) (H := ⟨1, [(0, ⟨1, (cPk t0), false⟩)]⟩) rfl rfl rfl rfl rfl (astep_do rfl (tx_ldF (v := (SL 1 c8 t0.l)) (s := 1) rfl rfl (part1 Tryz.underlying22 rfl rfl)))) (dcons (dstep1 (Tm := [(12, (SL 1 c8 t0.l))]) (L := []) (H := ⟨1, [(0, ⟨1, (cPk t0), false⟩)]⟩) rfl rfl rfl rfl rfl (astep_do rfl (tx_lenD (xs := t0.l) ce8 Tryz.underlying22 rfl))) (dcons (dstep1 (Tm := [(8, (I t0.n)), (13, (I (t0.l.length : Int)))]) (L := []) (H := ⟨1, [(0, ⟨1, (cPk t0), false⟩)]⟩) rfl rfl rfl rfl rfl (astep_do rfl (ex_bin (vx := (I t0.n)) (vy := (I (t0.l.length : Int))) rfl rfl geqI_ok))) (dcons (dstep1 (Tm := [(14, (Bo (decide (t0.n ≥ (t0.l.length : Int)))))]) (L := []) (H := ⟨1, [(0, ⟨1, (cPk t0), false⟩)]⟩) rfl rfl rfl rfl rfl (astep_do rfl (emv (eV (v := (Bo (decide (t0.n ≥ (t0.l.length : Int))))) rfl)))) (dcons (dstep1 (Tm := [(1, (I t1)), (15, (Bo (decide (t0.n ≥ (t0.l.length : Int)))))]) (L := []) (H := ⟨1, [(0, ⟨1, (cPk t0), false⟩)]⟩) rfl rfl rfl rfl rfl (astep_guard (v := (I t1)) ((decide (t0.n ≥ (t0.l.length : Int))) == false) rfl (fun hc => emv (eV (v := (I t1)) rfl)))) (dcons (dstep1 (Tm := [(16, (cond ((decide (t0.n ≥ (t0.l.length : Int))) == false) (I t1) skipV)), (15, (Bo (decide (t0.n ≥ (t0.l.length : Int)))))]) (L := []) (H := ⟨1, [(0, ⟨1, (cPk t0), false⟩)]⟩) rfl rfl rfl rfl rfl (astep_guard (v := (Bo (decide (t1 < 1)))) ((decide (t0.n ≥ (t0.l.length : Int))) == false) rfl (fun hc => ex_bin (vx := (I t1)) (vy := (I 1)) (cond_of hc) rfl lssI_ok))) (dcons (dstep1 (Tm := [(15, (Bo (decide (t0.n ≥ (t0.l.length : Int))))), (17, (cond ((decide (t0.n ≥ (t0.l.length : Int))) == false) (Bo (decide (t1 < 1))) skipV))]) (L := []) (H := ⟨1, [(0, ⟨1, (cPk t0), false⟩)]⟩) rfl rfl rfl rfl rfl (astep_do rfl (ex_pick rfl pkOr))) dnil)))))))))))))) ⟨rfl, rfl⟩) (by kernel_rfl) (by kernel_rfl) ?_
  show AWp _ _ _ _
  rcases Bool.eq_false_or_eq_true ((decide (t0.n ≥ (t0.l.length : Int))) || (decide (t1 < 1))) with hb1 | hb1
  · rw [condT hb1] at h
    refine awp_condT (boT hb1) ?_
    refine awp_seq ?_
    refine awr ?_
    refine ado rfl rfl rfl (eas (eV (v := (I 0)) rfl)) ?_
    refine ake [4] 0 1 (st' := ⟨40, 1, [(4, (I 0))], [], ⟨1, [(0, ⟨1, (cPk t0), false⟩)]⟩⟩) (by kernel_rfl) (by kernel_rfl) ?_
    show AWp _ _ _ _
    refine awp_ret ?_
    cases h
    exact And.intro (ares1 (rtmp rfl (eV rfl))) rfl
  · rw [condF hb1] at h
    refine awp_condF (boF hb1) ?_
    refine awp_skip ?_
    show AWp _ _ _ _
    refine awp_seq ?_
    refine awr ?_
    refine ado rfl rfl rfl (emv (eV (v := (NP 0 0)) rfl)) ?_
    refine ado rfl rfl rfl (ex_nilCheck (p := ⟨0, 0, none⟩) rfl) ?_
    refine ado rfl rfl rfl (ex_fieldAddr (v := (NP 0 1)) Tryz.underlying54 rfl s_3 (by decide) rfl rfl) ?_
    refine ado rfl rfl rfl (tx_ldF (v := (I t0.n)) (s := 1) rfl rfl (part1 Tryz.underlying3 rfl rfl)) ?_
    refine ado rfl rfl rfl (ex_bin (vx := (I t0.n)) (vy := (I 1)) rfl rfl addI_ok) ?_
    refine ado rfl rfl rfl (ex_nilCheck (p := ⟨0, 0, none⟩) rfl) ?_
    refine ado rfl rfl rfl (ex_fieldAddr (v := (NP 0 1)) Tryz.underlying54 rfl s_3 (by decide) rfl rfl) ?_
    refine arun_do0 rfl rfl (ex_storeF (vy := (I (w64 (t0.n + 1)))) (b := ⟨1, (cPk t0), false⟩) (vs := [(I (w64 (t0.n + 1)))]) (H' := ⟨1, [(0, ⟨1, (cPk (G_palimpmade_Picks.mk t0.l (w64 (t0.n + 1)))), false⟩)]⟩) rfl (eV (v := (I (w64 (t0.n + 1)))) rfl) rfl s_3 rfl rfl (Nat.le_of_ble_eq_true rfl) rfl (by first | exact List.cons_ne_nil _ _ | simp) (by kernel_rfl)) ?_
    refine ake [0, 1] 0 1 (st' := ⟨40, 1, [(0, (NP 0 0)), (1, (I t1))], [], ⟨1, [(0, ⟨1, (cPk (G_palimpmade_Picks.mk t0.l (w64 (t0.n + 1)))), false⟩)]⟩⟩) (by kernel_rfl) (by kernel_rfl) ?_
    show AWp _ _ _ _
    refine awp_seq ?_
    obtain ⟨x2, hx2, h⟩ := bindS h
    obtain ⟨x3, hx3, h⟩ := bindS h
    refine awp_kn [4] 0 1 (st' := ⟨40, 1, [(4, (I x3))], [], ⟨1, [(0, ⟨1, (cPk (G_palimpmade_Picks.mk t0.l (w64 (t0.n + 1)))), false⟩)]⟩⟩) (awp_draw (T := [(NP 0 0), (NP 0 0), (NP 0 0), (SL 1 c8 t0.l), (NP 0 0), (NP 0 0), (NP 0 1), (I (w64 (t0.n + 1))), (I (w64 ((w64 (t0.n + 1)) - 1))), (DP (c8 x2)), (U8 x2), (I (x2.toNat : Int)), (I t1), (I x3), (I x3)]) (LH := [([], ⟨1, [(0, ⟨1, (cPk (G_palimpmade_Picks.mk t0.l (w64 (t0.n + 1)))), false⟩)]⟩)]) (D := [⟨[(0, none)], [], [0], false⟩, ⟨[(26, some 0)], [0], [0], false⟩, ⟨[(27, some 1)], [0, 1], [0], false⟩, ⟨[(28, some 2)], [0, 1, 2], [0], false⟩, ⟨[(0, none)], [], [0], false⟩, ⟨[(30, some 4)], [4], [0], false⟩, ⟨[(31, some 5)], [4, 5], [0], false⟩, ⟨[(32, some 6)], [4, 5, 6], [0], false⟩, ⟨[(33, some 7)], [4, 5, 6, 7], [0], false⟩, ⟨[(29, some 3), (34, some 8)], [0, 1, 2, 3, 4, 5, 6, 7, 8], [0], false⟩, ⟨[(35, some 9)], [0, 1, 2, 3, 4, 5, 6, 7, 8, 9], [0], false⟩, ⟨[(36, some 10)], [0, 1, 2, 3, 4, 5, 6, 7, 8, 9, 10], [0], false⟩, ⟨[(1, none)], [], [0], false⟩, ⟨[(37, some 11), (38, some 12)], [0, 1, 2, 3, 4, 5, 6, 7, 8, 9, 10, 11, 12], [0], false⟩, ⟨[(39, some 13)], [0, 1, 2, 3, 4, 5, 6, 7, 8, 9, 10, 11, 12, 13], [0], false⟩]) (S := []) (plan := [0, 1, 2, 3, 4, 5, 6, 7, 8, 9, 10, 11, 12, 13, 14]) mo (by kernel_rfl) rfl rfl rfl (dcons (dstep1 (Tm := [(0, (NP 0 0))]) (L := []) (H := ⟨1, [(0, ⟨1, (cPk (G_palimpmade_Picks.mk t0.l (w64 (t0.n + 1)))), false⟩)]⟩) rfl rfl rfl rfl rfl (astep_do rfl (emv (eV (v := (NP 0 0)) rfl)))) (dcons (dstep1 (Tm := [(26, (NP 0 0))]) (L := []) (H := ⟨1, [(0, ⟨1, (cPk (G_palimpmade_Picks.mk t0.l (w64 (t0.n + 1)))), false⟩)]⟩) rfl rfl rfl rfl rfl (astep_do rfl (ex_nilCheck (p := ⟨0, 0, none⟩) rfl))) (dcons (dstep1 (Tm := [(27, (NP 0 0))]) (L := []) (H := ⟨1, [(0, ⟨1, (cPk (G_palimpmade_Picks.mk t0.l (w64 (t0.n + 1)))), false⟩)]⟩) rfl rfl rfl rfl rfl (astep_do rfl (ex_fieldAddr (v := (NP 0 0)) Tryz.underlying54 rfl s_22 (by decide) rfl rfl))) (dcons (dstep1 (Tm := [(28, (NP 0 0))]) (L := []) (H := ⟨1, [(0, ⟨1, (cPk (G_palimpmade_Picks.mk t0.l (w64 (t0.n + 1)))), false⟩)]⟩) rfl rfl rfl rfl rfl (astep_do rfl (tx_ldF (v := (SL 1 c8 t0.l)) (s := 1) rfl rfl (part1 Tryz.underlying22 rfl rfl)))) (dcons (dstep1 (Tm := [(0, (NP 0 0))]) (L := []) (H := ⟨1, [(0, ⟨1, (cPk (G_palimpmade_Picks.mk t0.l (w64 (t0.n + 1)))), false⟩)]⟩) rfl rfl rfl rfl rfl (astep_do rfl (emv (eV (v := (NP 0 0)) rfl)))) (dcons (dstep1 (Tm := [(30, (NP 0 0))]) (L := []) (H := ⟨1, [(0, ⟨1, (cPk (G_palimpmade_Picks.mk t0.l (w64 (t0.n + 1)))), false⟩)]⟩) rfl rfl rfl rfl rfl (astep_do rfl (ex_nilCheck (p := ⟨0, 0, none⟩) rfl))) (dcons (dstep1 (Tm := [(31, (NP 0 0))]) (L := []) (H := ⟨1, [(0, ⟨1, (cPk (G_palimpmade_Picks.mk t0.l (w64 (t0.n + 1)))), false⟩)]⟩) rfl rfl rfl rfl rfl (astep_do rfl (ex_fieldAddr (v := (NP 0 1)) Tryz.underlying54 rfl s_3 (by decide) rfl rfl))) (dcons (dstep1 (Tm := [(32, (NP 0 1))]) (L := []) (H := ⟨1, [(0, ⟨1, (cPk (G_palimpmade_Picks.mk t0.l (w64 (t0.n + 1)))), false⟩)]⟩) rfl rfl rfl rfl rfl (astep_do rfl (tx_ldF (v := (I (w64 (t0.n + 1)))) (s := 1) rfl rfl (part1 Tryz.underlying3 rfl rfl)))) (dcons (dstep1 (Tm := [(33, (I (w64 (t0.n + 1))))]) (L := []) (H := ⟨1, [(0, ⟨1, (cPk (G_palimpmade_Picks.mk t0.l (w64 (t0.n + 1)))), false⟩)]⟩) rfl rfl rfl rfl rfl (astep_do rfl (ex_bin (vx := (I (w64 (t0.n + 1)))) (vy := (I 1)) rfl rfl subI_ok))) (dcons (dstep1 (Tm := [(29, (SL 1 c8 t0.l)), (34, (I (w64 ((w64 (t0.n + 1)) - 1))))]) (L := []) (H := ⟨1, [(0, ⟨1, (cPk (G_palimpmade_Picks.mk t0.l (w64 (t0.n + 1)))), false⟩)]⟩) rfl rfl rfl rfl rfl (astep_do rfl (tx_idxD (c := c8) (xs := t0.l) (i := (w64 ((w64 (t0.n + 1)) - 1))) ce8 Tryz.underlying22 s_5 rfl rfl hx2))) (dcons (dstep1 (Tm := [(35, (DP (c8 x2)))]) (L := []) (H := ⟨1, [(0, ⟨1, (cPk (G_palimpmade_Picks.mk t0.l (w64 (t0.n + 1)))), false⟩)]⟩) rfl rfl rfl rfl rfl (astep_do rfl (tx_ldD1 (v := (U8 x2)) Tryz.underlying5 rfl rfl rfl))) (dcons (dstep1 (Tm := [(36, (U8 x2))]) (L := []) (H := ⟨1, [(0, ⟨1, (cPk (G_palimpmade_Picks.mk t0.l (w64 (t0.n + 1)))), false⟩)]⟩) rfl rfl rfl rfl rfl (astep_do rfl (tx_8_64 Tryz.underlying5 Tryz.underlying3 rfl))) (dcons (dstep1 (Tm := [(1, (I t1))]) (L := []) (H := ⟨1, [(0, ⟨1, (cPk (G_palimpmade_Picks.mk t0.l (w64 (t0.n + 1)))), false⟩)]⟩) rfl rfl rfl rfl rfl (astep_do rfl (emv (eV (v := (I t1)) rfl)))) (dcons (dstep1 (Tm := [(37, (I (x2.toNat : Int))), (38, (I t1))]) (L := []) (H := ⟨1, [(0, ⟨1, (cPk (G_palimpmade_Picks.mk t0.l (w64 (t0.n + 1)))), false⟩)]⟩) rfl rfl rfl rfl rfl (astep_do rfl (ex_bin (vx := (I (x2.toNat : Int))) (vy := (I t1)) rfl rfl (remI_ok hx3)))) (dcons (dstep1 (Tm := [(39, (I x3))]) (L := []) (H := ⟨1, [(0, ⟨1, (cPk (G_palimpmade_Picks.mk t0.l (w64 (t0.n + 1)))), false⟩)]⟩) rfl rfl rfl rfl rfl (astep_do rfl (eas (eV (v := (I x3)) rfl)))) dnil))))))))))))))) ⟨rfl, rfl⟩) (by kernel_rfl) (by kernel_rfl) ?_
    show AWp _ _ _ _
    refine awp_ret ?_
    cases h
    exact And.intro (ares1 (rtmp rfl (eV rfl))) rfl

noncomputable def M_made_Picks_Path (t0 : G_palimpmade_Picks) : Option (Str × G_palimpmade_Picks) :=
  Option.bind (M_made_Picks_Num t0 15) fun (x1 : (Int × G_palimpmade_Picks)) => Option.bind (getI ([([97] : Str), ([98] : Str), ([99] : Str), ([97, 47, 98] : Str), ([97, 47, 99] : Str), ([98, 47, 97] : Str), ([97, 47, 98, 47, 99] : Str), ([100] : Str), ([99, 47, 100] : Str), [], ([47, 97] : Str), ([97, 47, 47, 98] : Str), ([116, 111, 111, 108, 111, 110, 103, 110, 97, 109, 101] : Str), ([65] : Str), ([46, 46] : Str)] : List Str) x1.1) fun (x2 : Str) => some (x2, x1.2)
theorem ok_made_Picks_Path (t0 : G_palimpmade_Picks) (r : (Str × G_palimpmade_Picks)) (h : M_made_Picks_Path t0 = some r) : F1n Tryz.prog 7 [(NP 0 0)] ⟨1, (cPk t0), false⟩ (S r.1) ⟨1, (cPk r.2), false⟩ := by
  refine F1n.of_body (n := 8) Tryz.func7 rfl Tryz.ntmps7 rfl rfl rfl rfl ?_
  show AWp _ _ _ ⟨8, 1, [(0, (NP 0 0))], [], ⟨1, [(0, ⟨1, (cPk t0), false⟩)]⟩⟩
  unfold M_made_Picks_Path at h
  refine awp_seq ?_
  refine awr ?_
  refine ado rfl rfl rfl (eas (eV (v := (S [])) rfl)) ?_
  refine ake [0] 0 1 (st' := ⟨8, 1, [(0, (NP 0 0))], [], ⟨1, [(0, ⟨1, (cPk t0), false⟩)]⟩⟩) (by kernel_rfl) (by kernel_rfl) ?_
  show AWp _ _ _ _
  refine awp_seq ?_
  refine awr ?_
  refine ado rfl rfl rfl (ex_buildSliceD (qs := [(0, (S ([97] : Str))), (1, (S ([98] : Str))), (2, (S ([99] : Str))), (3, (S ([97, 47, 98] : Str))), (4, (S ([97, 47, 99] : Str))), (5, (S ([98, 47, 97] : Str))), (6, (S ([97, 47, 98, 47, 99] : Str))), (7, (S ([100] : Str))), (8, (S ([99, 47, 100] : Str))), (9, (S [])), (10, (S ([47, 97] : Str))), (11, (S ([97, 47, 47, 98] : Str))), (12, (S ([116, 111, 111, 108, 111, 110, 103, 110, 97, 109, 101] : Str))), (13, (S ([65] : Str))), (14, (S ([46, 46] : Str)))]) (cells := (([([97] : Str), ([98] : Str), ([99] : Str), ([97, 47, 98] : Str), ([97, 47, 99] : Str), ([98, 47, 97] : Str), ([97, 47, 98, 47, 99] : Str), ([100] : Str), ([99, 47, 100] : Str), [], ([47, 97] : Str), ([97, 47, 47, 98] : Str), ([116, 111, 111, 108, 111, 110, 103, 110, 97, 109, 101] : Str), ([65] : Str), ([46, 46] : Str)] : List Str).flatMap cS)) Tryz.underlying48 s_9 (by decide) (evp rfl (evp rfl (evp rfl (evp rfl (evp rfl (evp rfl (evp rfl (evp rfl (evp rfl (evp rfl (evp rfl (evp rfl (evp rfl (evp rfl (evp rfl evp_nil))))))))))))))) rfl (by kernel_rfl) (by kernel_rfl) (by kernel_rfl)) ?_
  refine ado rfl rfl rfl (emv (eV (v := (NP 0 0)) rfl)) ?_
  obtain ⟨x1, hx1, h⟩ := bindS h
  refine ado rfl rfl rfl (ex_call1 (vs := [(NP 0 0), (I 15)]) (vs' := [(NP 0 0), (I 15)]) (v := (I x1.1)) (n := 0) (b := ⟨1, (cPk t0), false⟩) (b' := ⟨1, (cPk x1.2), false⟩) (H' := ⟨1, [(0, ⟨1, (cPk x1.2), false⟩)]⟩) rfl en_21 (cargs (evs rfl (evs rfl evs_nil))) rfl rfl (.cons (.inr ⟨_, rfl, rfl⟩) (.cons (.inl ⟨rfl, rfl⟩) .nil)) (ok_made_Picks_Num t0 15 x1 hx1) rfl rfl) ?_
  obtain ⟨x2, hx2, h⟩ := bindS h
  refine ado rfl rfl rfl (tx_idxD (c := cS) (xs := ([([97] : Str), ([98] : Str), ([99] : Str), ([97, 47, 98] : Str), ([97, 47, 99] : Str), ([98, 47, 97] : Str), ([97, 47, 98, 47, 99] : Str), ([100] : Str), ([99, 47, 100] : Str), [], ([47, 97] : Str), ([97, 47, 47, 98] : Str), ([116, 111, 111, 108, 111, 110, 103, 110, 97, 109, 101] : Str), ([65] : Str), ([46, 46] : Str)] : List Str)) (i := x1.1) ceS Tryz.underlying48 s_9 rfl rfl hx2) ?_
  refine ado rfl rfl rfl (tx_ldD1 (v := (S x2)) Tryz.underlying9 rfl rfl rfl) ?_
  refine ado rfl rfl rfl (eas (eV (v := (S x2)) rfl)) ?_
  refine ake [2] 0 1 (st' := ⟨8, 1, [(2, (S x2))], [], ⟨1, [(0, ⟨1, (cPk x1.2), false⟩)]⟩⟩) (by kernel_rfl) (by kernel_rfl) ?_
  show AWp _ _ _ _
  refine awp_ret ?_
  cases h
  exact And.intro (ares1 (rtmp rfl (eV rfl))) rfl

noncomputable def M_made_Picks_Text_k1 (c_1 : (Int → List UInt8 → Option (Str × G_palimpmade_Picks))) (x2 : Int) (x3 : (Int × G_palimpmade_Picks)) (v5 : Int) (y8 : List UInt8) : Option (Str × G_palimpmade_Picks) :=
  c_1 (w64 (v5 + 1)) y8
noncomputable def M_made_Picks_Text_l1 (x2 : Int) (x3 : (Int × G_palimpmade_Picks)) : Nat → Int → List UInt8 → Option (Str × G_palimpmade_Picks)
  | 0, _, _ => none
  | n1 + 1, v5, v6 =>
  cond (decide (v5 < x2)) (cond (decide ((UInt8.ofInt (w64 (x3.1 * 40))) > 0)) (Option.bind (remI v5 5) fun (x10 : Int) => Option.bind (getI v6 v5) fun (x11 : UInt8) => Option.bind (setI v6 v5 ((UInt8.ofInt (w64 (x3.1 * 40))) + (UInt8.ofInt x10))) fun (x12 : List UInt8) => M_made_Picks_Text_k1 (M_made_Picks_Text_l1 x2 x3 n1) x2 x3 v5 x12) (M_made_Picks_Text_k1 (M_made_Picks_Text_l1 x2 x3 n1) x2 x3 v5 v6)) (some (v6, x3.2))
noncomputable def M_made_Picks_Text (t0 : G_palimpmade_Picks) : Option (Str × G_palimpmade_Picks) :=
  Option.bind (M_made_Picks_Num t0 8) fun (x1 : (Int × G_palimpmade_Picks)) => Option.bind (getI ([0, 1, 3, 17, 32, 33, 64, 129] : List Int) x1.1) fun (x2 : Int) => Option.bind (M_made_Picks_Num x1.2 4) fun (x3 : (Int × G_palimpmade_Picks)) => Option.bind (makeL 1 x2 0) fun (x4 : List UInt8) => M_made_Picks_Text_l1 x2 x3 fuel 0 x4
theorem ok_made_Picks_Text (t0 : G_palimpmade_Picks) (r : (Str × G_palimpmade_Picks)) (h : M_made_Picks_Text t0 = some r) : F1n Tryz.prog 56 [(NP 0 0)] ⟨1, (cPk t0), false⟩ (S r.1) ⟨1, (cPk r.2), false⟩ := by
  refine F1n.of_body (n := 35) Tryz.func56 rfl Tryz.ntmps56 rfl rfl rfl rfl ?_
  show AWp _ _ _ ⟨35, 1, [(0, (NP 0 0))], [], ⟨1, [(0, ⟨1, (cPk t0), false⟩)]⟩⟩
  unfold M_made_Picks_Text at h
  refine awp_seq ?_
  refine awr ?_
  refine ado rfl rfl rfl (eas (eV (v := (S [])) rfl)) ?_
  refine ake [0] 0 1 (st' := ⟨35, 1, [(0, (NP 0 0))], [], ⟨1, [(0, ⟨1, (cPk t0), false⟩)]⟩⟩) (by kernel_rfl) (by kernel_rfl) ?_
  show AWp _ _ _ _
  refine awp_seq ?_
  refine awr ?_
  refine ado rfl rfl rfl (ex_buildSliceD (qs := [(0, (I 0)), (1, (I 1)), (2, (I 3)), (3, (I 17)), (4, (I 32)), (5, (I 33)), (6, (I 64)), (7, (I 129))]) (cells := (([0, 1, 3, 17, 32, 33, 64, 129] : List Int).flatMap cI)) Tryz.underlying75 s_3 (by decide) (evp rfl (evp rfl (evp rfl (evp rfl (evp rfl (evp rfl (evp rfl (evp rfl evp_nil)))))))) rfl (by kernel_rfl) (by kernel_rfl) (by kernel_rfl)) ?_
  refine ado rfl rfl rfl (emv (eV (v := (NP 0 0)) rfl)) ?_
  obtain ⟨x1, hx1, h⟩ := bindS h
  refine ado rfl rfl rfl (ex_call1 (vs := [(NP 0 0), (I 8)]) (vs' := [(NP 0 0), (I 8)]) (v := (I x1.1)) (n := 0) (b := ⟨1, (cPk t0), false⟩) (b' := ⟨1, (cPk x1.2), false⟩) (H' := ⟨1, [(0, ⟨1, (cPk x1.2), false⟩)]⟩) rfl en_21 (cargs (evs rfl (evs rfl evs_nil))) rfl rfl (.cons (.inr ⟨_, rfl, rfl⟩) (.cons (.inl ⟨rfl, rfl⟩) .nil)) (ok_made_Picks_Num t0 8 x1 hx1) rfl rfl) ?_
  obtain ⟨x2, hx2, h⟩ := bindS h
  refine ado rfl rfl rfl (tx_idxD (c := cI) (xs := ([0, 1, 3, 17, 32, 33, 64, 129] : List Int)) (i := x1.1) ceI Tryz.underlying75 s_3 rfl rfl hx2) ?_
  refine ado rfl rfl rfl (tx_ldD1 (v := (I x2)) Tryz.underlying3 rfl rfl rfl) ?_
  refine ado rfl rfl rfl (eas (eV (v := (I x2)) rfl)) ?_
  refine ake [0, 3] 0 1 (st' := ⟨35, 1, [(0, (NP 0 0)), (3, (I x2))], [], ⟨1, [(0, ⟨1, (cPk x1.2), false⟩)]⟩⟩) (by kernel_rfl) (by kernel_rfl) ?_
  show AWp _ _ _ _
  refine awp_seq ?_
  refine awr ?_
  refine ado rfl rfl rfl (emv (eV (v := (NP 0 0)) rfl)) ?_
  obtain ⟨x3, hx3, h⟩ := bindS h
  refine ado rfl rfl rfl (ex_call1 (vs := [(NP 0 0), (I 4)]) (vs' := [(NP 0 0), (I 4)]) (v := (I x3.1)) (n := 0) (b := ⟨1, (cPk x1.2), false⟩) (b' := ⟨1, (cPk x3.2), false⟩) (H' := ⟨1, [(0, ⟨1, (cPk x3.2), false⟩)]⟩) rfl en_21 (cargs (evs rfl (evs rfl evs_nil))) rfl rfl (.cons (.inr ⟨_, rfl, rfl⟩) (.cons (.inl ⟨rfl, rfl⟩) .nil)) (ok_made_Picks_Num x1.2 4 x3 hx3) rfl rfl) ?_
  refine ado rfl rfl rfl (ex_bin (vx := (I x3.1)) (vy := (I 40)) rfl rfl mulI_ok) ?_
  refine ado rfl rfl rfl (tx_64_8 Tryz.underlying3 Tryz.underlying5 rfl) ?_
  refine ado rfl rfl rfl (eas (eV (v := (U8 (UInt8.ofInt (w64 (x3.1 * 40))))) rfl)) ?_
  refine ake [3, 4] 0 1 (st' := ⟨35, 1, [(3, (I x2)), (4, (U8 (UInt8.ofInt (w64 (x3.1 * 40)))))], [], ⟨1, [(0, ⟨1, (cPk x3.2), false⟩)]⟩⟩) (by kernel_rfl) (by kernel_rfl) ?_
  show AWp _ _ _ _
  refine awp_seq ?_
  refine awr ?_
  refine ado rfl rfl rfl (emv (eV (v := (I x2)) rfl)) ?_
  obtain ⟨x4, hx4, h⟩ := bindS h
  refine ado rfl rfl rfl (tx_make (c := c8) (e := 0) (k := 1) (H' := ⟨2, [(1, ⟨1, ((x4).flatMap c8), false⟩), (0, ⟨1, (cPk x3.2), false⟩)]⟩) ce8 Tryz.underlying22 s_5 b_5 z_5 rfl rfl (by decide) rfl rfl hx4 rfl rfl) ?_
  refine ado rfl rfl rfl (eas (eV (v := (FV 1 x4.length)) rfl)) ?_
  refine ake [3, 4, 5] 0 2 (st' := ⟨35, 1, [(3, (I x2)), (4, (U8 (UInt8.ofInt (w64 (x3.1 * 40))))), (5, (FV 1 x4.length))], [], ⟨2, [(1, ⟨1, ((x4).flatMap c8), false⟩), (0, ⟨1, (cPk x3.2), false⟩)]⟩⟩) (by kernel_rfl) (by kernel_rfl) ?_
  show AWp _ _ _ _
  refine awp_seq ?_
  refine awp_seq ?_
  refine awr ?_
  refine ado rfl rfl rfl (eas (eV (v := (I 0)) rfl)) ?_
  refine ake [3, 4, 5, 6] 0 2 (st' := ⟨35, 1, [(3, (I x2)), (4, (U8 (UInt8.ofInt (w64 (x3.1 * 40))))), (5, (FV 1 x4.length)), (6, (I 0))], [], ⟨2, [(1, ⟨1, ((x4).flatMap c8), false⟩), (0, ⟨1, (cPk x3.2), false⟩)]⟩⟩) (by kernel_rfl) (by kernel_rfl) ?_
  show AWp _ _ _ _
  refine awp_block ?_
  refine awp_loop (fun n s => ∃ (v5 : Int) (v6 : List UInt8), s = ⟨35, 1, [(3, (I x2)), (4, (U8 (UInt8.ofInt (w64 (x3.1 * 40))))), (5, (FV 1 v6.length)), (6, (I v5))], [], ⟨2, [(1, ⟨1, ((v6).flatMap c8), false⟩), (0, ⟨1, (cPk x3.2), false⟩)]⟩⟩ ∧ M_made_Picks_Text_l1 x2 x3 n v5 v6 = some r) fuel (Exists.intro 0 (Exists.intro x4 (And.intro rfl h))) ?_
  rintro n s ⟨v5, v6, rfl, h⟩ -
  cases n with
  | zero => cases h
  | succ n1 =>
    unfold M_made_Picks_Text_l1 at h
    refine awp_seq ?_
    refine awp_seq ?_
    refine awr ?_
    refine ado rfl rfl rfl (emv (eV (v := (I v5)) rfl)) ?_
    refine ado rfl rfl rfl (emv (eV (v := (I x2)) rfl)) ?_
    refine ado rfl rfl rfl (ex_bin (vx := (I v5)) (vy := (I x2)) rfl rfl lssI_ok) ?_
    refine ake [3, 4, 5, 6, 20] 0 2 (st' := ⟨35, 1, [(3, (I x2)), (4, (U8 (UInt8.ofInt (w64 (x3.1 * 40))))), (5, (FV 1 v6.length)), (6, (I v5)), (20, (Bo (decide (v5 < x2))))], [], ⟨2, [(1, ⟨1, ((v6).flatMap c8), false⟩), (0, ⟨1, (cPk x3.2), false⟩)]⟩⟩) (by kernel_rfl) (by kernel_rfl) ?_
    show AWp _ _ _ _
    rcases Bool.eq_false_or_eq_true (decide (v5 < x2)) with hb7 | hb7
    · rw [condT hb7] at h
      refine awp_condT (boT hb7) ?_
      refine awp_skip ?_
      show AWp _ _ _ _
      refine awp_seqJ (fun s => ∃ (y8 : List UInt8), s = ⟨35, 1, [(3, (I x2)), (4, (U8 (UInt8.ofInt (w64 (x3.1 * 40))))), (5, (FV 1 y8.length)), (6, (I v5))], [], ⟨2, [(1, ⟨1, ((y8).flatMap c8), false⟩), (0, ⟨1, (cPk x3.2), false⟩)]⟩⟩ ∧ M_made_Picks_Text_k1 (M_made_Picks_Text_l1 x2 x3 n1) x2 x3 v5 y8 = some r) ?_ ?_
      · refine awp_block ?_
        refine awp_seq ?_
        refine awr ?_
        refine ado rfl rfl rfl (emv (eV (v := (U8 (UInt8.ofInt (w64 (x3.1 * 40))))) rfl)) ?_
        refine ado rfl rfl rfl (ex_bin (vx := (U8 (UInt8.ofInt (w64 (x3.1 * 40))))) (vy := (U8 0)) rfl rfl gtr8_ok) ?_
        refine ake [3, 4, 5, 6, 24] 0 2 (st' := ⟨35, 1, [(3, (I x2)), (4, (U8 (UInt8.ofInt (w64 (x3.1 * 40))))), (5, (FV 1 v6.length)), (6, (I v5)), (24, (Bo (decide ((UInt8.ofInt (w64 (x3.1 * 40))) > 0))))], [], ⟨2, [(1, ⟨1, ((v6).flatMap c8), false⟩), (0, ⟨1, (cPk x3.2), false⟩)]⟩⟩) (by kernel_rfl) (by kernel_rfl) ?_
        show AWp _ _ _ _
        rcases Bool.eq_false_or_eq_true (decide ((UInt8.ofInt (w64 (x3.1 * 40))) > 0)) with hb9 | hb9
        · rw [condT hb9] at h
          refine awp_condT (boT hb9) ?_
          refine awr ?_
          refine ado rfl rfl rfl (emv (eV (v := (FV 1 v6.length)) rfl)) ?_
          refine ado rfl rfl rfl (emv (eV (v := (I v5)) rfl)) ?_
          refine ado rfl rfl rfl (emv (eV (v := (U8 (UInt8.ofInt (w64 (x3.1 * 40))))) rfl)) ?_
          refine ado rfl rfl rfl (emv (eV (v := (I v5)) rfl)) ?_
          obtain ⟨x10, hx10, h⟩ := bindS h
          refine ado rfl rfl rfl (ex_bin (vx := (I v5)) (vy := (I 5)) rfl rfl (remI_ok hx10)) ?_
          refine ado rfl rfl rfl (tx_64_8 Tryz.underlying3 Tryz.underlying5 rfl) ?_
          refine ado rfl rfl rfl (ex_bin (vx := (U8 (UInt8.ofInt (w64 (x3.1 * 40))))) (vy := (U8 (UInt8.ofInt x10))) rfl rfl add8_ok) ?_
          obtain ⟨x11, hx11, h⟩ := bindS h
          refine ado rfl rfl rfl (tx_idxF (c := c8) (xs := v6) (i := v5) ce8 Tryz.underlying22 s_5 rfl rfl rfl hx11) ?_
          obtain ⟨x12, hx12, h⟩ := bindS h
          refine arun_do0 rfl rfl (tx_stF (c := c8) (xs := v6) (e := ((UInt8.ofInt (w64 (x3.1 * 40))) + (UInt8.ofInt x10))) (H' := ⟨2, [(1, ⟨1, ((x12).flatMap c8), false⟩), (0, ⟨1, (cPk x3.2), false⟩)]⟩) ce8 s_5 rfl (eV (v := (U8 ((UInt8.ofInt (w64 (x3.1 * 40))) + (UInt8.ofInt x10)))) rfl) rfl rfl hx12 rfl) ?_
          refine arun_fewer (T' := [(3, (I x2)), (4, (U8 (UInt8.ofInt (w64 (x3.1 * 40))))), (5, (FV 1 x12.length)), (6, (I v5)), (24, (Bo (decide ((UInt8.ofInt (w64 (x3.1 * 40))) > 0)))), (25, (FV 1 x12.length)), (26, (I v5)), (27, (U8 (UInt8.ofInt (w64 (x3.1 * 40))))), (28, (I v5)), (29, (I x10)), (30, (U8 (UInt8.ofInt x10))), (31, (U8 ((UInt8.ofInt (w64 (x3.1 * 40))) + (UInt8.ofInt x10))))]) (ReT.keep (v := (I x2)) rfl (ReT.keep (v := (U8 (UInt8.ofInt (w64 (x3.1 * 40))))) rfl (ReT.fv rfl (setI_len hx12) (ReT.keep (v := (I v5)) rfl (ReT.keep (v := (Bo (decide ((UInt8.ofInt (w64 (x3.1 * 40))) > 0)))) rfl (ReT.fv rfl (setI_len hx12) (ReT.keep (v := (I v5)) rfl (ReT.keep (v := (U8 (UInt8.ofInt (w64 (x3.1 * 40))))) rfl (ReT.keep (v := (I v5)) rfl (ReT.keep (v := (I x10)) rfl (ReT.keep (v := (U8 (UInt8.ofInt x10))) rfl (ReT.keep (v := (U8 ((UInt8.ofInt (w64 (x3.1 * 40))) + (UInt8.ofInt x10)))) rfl ReT.nil)))))))))))) ?_
          refine ake [3, 4, 5, 6] 0 2 (st' := ⟨35, 1, [(3, (I x2)), (4, (U8 (UInt8.ofInt (w64 (x3.1 * 40))))), (5, (FV 1 x12.length)), (6, (I v5))], [], ⟨2, [(1, ⟨1, ((x12).flatMap c8), false⟩), (0, ⟨1, (cPk x3.2), false⟩)]⟩⟩) (by kernel_rfl) (by kernel_rfl) ?_
          exact (Exists.intro x12 (And.intro rfl h))
        · rw [condF hb9] at h
          refine awp_condF (boF hb9) ?_
          refine awp_keepE [3, 4, 5, 6] 0 2 (st' := ⟨35, 1, [(3, (I x2)), (4, (U8 (UInt8.ofInt (w64 (x3.1 * 40))))), (5, (FV 1 v6.length)), (6, (I v5))], [], ⟨2, [(1, ⟨1, ((v6).flatMap c8), false⟩), (0, ⟨1, (cPk x3.2), false⟩)]⟩⟩) (by kernel_rfl) (by kernel_rfl) ?_
          refine awp_skip ?_
          exact (Exists.intro v6 (And.intro rfl h))
      · rintro s ⟨y8, rfl, h⟩
        unfold M_made_Picks_Text_k1 at h
        refine awr ?_
        refine ado rfl rfl rfl (emv (eV (v := (I v5)) rfl)) ?_
        refine ado rfl rfl rfl (ex_bin (vx := (I v5)) (vy := (I 1)) rfl rfl addI_ok) ?_
        refine ado rfl rfl rfl (eas (eV (v := (I (w64 (v5 + 1)))) rfl)) ?_
        refine ake [3, 4, 5, 6] 0 2 (st' := ⟨35, 1, [(3, (I x2)), (4, (U8 (UInt8.ofInt (w64 (x3.1 * 40))))), (5, (FV 1 y8.length)), (6, (I (w64 (v5 + 1))))], [], ⟨2, [(1, ⟨1, ((y8).flatMap c8), false⟩), (0, ⟨1, (cPk x3.2), false⟩)]⟩⟩) (by kernel_rfl) (by kernel_rfl) ?_
        exact Exists.intro n1 (And.intro (Nat.lt_succ_self _) (Exists.intro (w64 (v5 + 1)) (Exists.intro y8 (And.intro rfl h))))
    · rw [condF hb7] at h
      refine awp_condF (boF hb7) ?_
      refine awp_exit ?_
      show AWp _ _ _ _
      refine awp_seq ?_
      refine awr ?_
      refine ado rfl rfl rfl (emv (eV (v := (FV 1 v6.length)) rfl)) ?_
      refine ado rfl rfl rfl (tx_bsF (bs := v6) Tryz.underlying22 Tryz.underlying9 Tryz.underlying5 rfl rfl rfl) ?_
      refine ado rfl rfl rfl (eas (eV (v := (S v6)) rfl)) ?_
      refine ake [2] 0 1 (st' := ⟨35, 1, [(2, (S v6))], [], ⟨1, [(0, ⟨1, (cPk x3.2), false⟩)]⟩⟩) (by kernel_rfl) (by kernel_rfl) ?_
      show AWp _ _ _ _
      refine awp_ret ?_
      cases h
      exact And.intro (ares1 (rtmp rfl (eV rfl))) rfl

end Go.Proofs
