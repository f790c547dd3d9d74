/- Pure models of functions of the program, and that its code does what they say: palimpmade Made, palimpmade Picks Num, palimpmade Picks Ptr, palimpmade Picks Ptrs. Written by a program. -/
import Derived.Test.YtjdfekampbbkaaaR4B
set_option maxRecDepth 20000
set_option maxHeartbeats 4000000
namespace Go.Proofs
open Go Go.Fhl
set_option linter.unusedVariables false
set_option linter.unusedSimpArgs false
noncomputable def M_made_Made (t0 : (List UInt8)) : Option G_palimpmade_Picks :=
  some (G_palimpmade_Picks.mk t0 0)
theorem ok_made_Made (t0 : (List UInt8)) (r : G_palimpmade_Picks) (h : M_made_Made t0 = some r) : FNw Try.prog 9 [(SL 1 c8 t0)] ⟨1, (c_palimpmade_Picks r), false⟩ := by
  refine FNw.of_body (n := 6) Try.func9 rfl Try.ntmps9 rfl rfl rfl ?_
  show AWp _ _ _ ⟨6, 0, [(0, (SL 1 c8 t0))], [], ⟨0, []⟩⟩
  unfold M_made_Made at h
  refine awp_seq ?_
  refine awp_region ?_
  refine arun_do rfl rfl rfl (ex_assign (eV (v := (Value.pointer none)) rfl)) ?_
  refine arun_keepE [0] 0 0 (st' := ⟨6, 0, [(0, (SL 1 c8 t0))], [], ⟨0, []⟩⟩) (by kernel_rfl) (by kernel_rfl) ?_
  show AWp _ _ _ _
  refine awp_seq ?_
  refine awp_region ?_
  refine arun_do rfl rfl rfl (ex_move (eV (v := (SL 1 c8 t0)) rfl)) ?_
  refine arun_do rfl rfl rfl (ex_build (qs := [(0, (SL 1 c8 t0))]) (v := (Value.agg (c_palimpmade_Picks (G_palimpmade_Picks.mk t0 0)).toArray)) (evp rfl evp_nil) (by kernel_rfl)) ?_
  refine arun_do rfl rfl rfl (ex_boxH (vx := (Value.agg (c_palimpmade_Picks (G_palimpmade_Picks.mk t0 0)).toArray)) (cs := (c_palimpmade_Picks (G_palimpmade_Picks.mk t0 0))) (k := 0) (H' := ⟨1, [(0, ⟨1, (c_palimpmade_Picks (G_palimpmade_Picks.mk t0 0)), false⟩)]⟩) (eV (v := (Value.agg (c_palimpmade_Picks (G_palimpmade_Picks.mk t0 0)).toArray)) rfl) rfl rfl rfl rfl) ?_
  refine arun_do rfl rfl rfl (ex_assign (eV (v := (NP 0 0)) rfl)) ?_
  refine arun_keepE [2] 0 1 (st' := ⟨6, 0, [(2, (NP 0 0))], [], ⟨1, [(0, ⟨1, (c_palimpmade_Picks (G_palimpmade_Picks.mk t0 0)), false⟩)]⟩⟩) (by kernel_rfl) (by kernel_rfl) ?_
  show AWp _ _ _ _
  refine awp_ret ?_
  cases h
  exact And.intro (ares1 (rtmp rfl (eV rfl))) (And.intro rfl rfl)

noncomputable def M_made_Picks_Num (t0 : G_palimpmade_Picks) (t1 : Int) : Option (Int × G_palimpmade_Picks) :=
  cond ((decide (t0.n ≥ (t0.l.length : Int))) || (decide (t1 < 1))) (some (0, t0)) (Option.bind (getI t0.l (w64 ((w64 (t0.n + 1)) - 1))) fun (x2 : UInt8) => Option.bind (remI (x2.toNat : Int) t1) fun (x3 : Int) => some (x3, (G_palimpmade_Picks.mk t0.l (w64 (t0.n + 1)))))
theorem ok_made_Picks_Num (t0 : G_palimpmade_Picks) (t1 : Int) (r : (Int × G_palimpmade_Picks)) (h : M_made_Picks_Num t0 t1 = some r) : F1n Try.prog 32 [(NP 0 0), (I t1)] ⟨1, (c_palimpmade_Picks t0), false⟩ (I r.1) ⟨1, (c_palimpmade_Picks r.2), false⟩ := by
  refine F1n.of_body (n := 40) Try.func32 rfl Try.ntmps32 rfl rfl rfl rfl ?_
  show AWp _ _ _ ⟨40, 1, [(0, (NP 0 0)), (1, (I t1))], [], ⟨1, [(0, ⟨1, (c_palimpmade_Picks t0), false⟩)]⟩⟩
  unfold M_made_Picks_Num at h
  refine awp_seq ?_
  refine awp_region ?_
  refine arun_do rfl rfl rfl (ex_assign (eV (v := (I 0)) rfl)) ?_
  refine arun_keepE [0, 1] 0 1 (st' := ⟨40, 1, [(0, (NP 0 0)), (1, (I t1))], [], ⟨1, [(0, ⟨1, (c_palimpmade_Picks t0), false⟩)]⟩⟩) (by kernel_rfl) (by kernel_rfl) ?_
  show AWp _ _ _ _
  refine awp_seq ?_
  refine awp_seq ?_
  refine awp_kn [0, 1, 18] 0 1 (st' := ⟨40, 1, [(0, (NP 0 0)), (1, (I t1)), (18, (Bo ((decide (t0.n ≥ (t0.l.length : Int))) || (decide (t1 < 1)))))], [], ⟨1, [(0, ⟨1, (c_palimpmade_Picks t0), false⟩)]⟩⟩) (awp_draw (T := [(NP 0 0), (NP 0 0), (NP 0 1), (I t0.n), (NP 0 0), (NP 0 0), (NP 0 0), (SL 1 c8 t0.l), (I (t0.l.length : Int)), (Bo (decide (t0.n ≥ (t0.l.length : Int)))), (Bo (decide (t0.n ≥ (t0.l.length : Int)))), (cond ((decide (t0.n ≥ (t0.l.length : Int))) == false) (I t1) skipV), (cond ((decide (t0.n ≥ (t0.l.length : Int))) == false) (Bo (decide (t1 < 1))) skipV), (Bo ((decide (t0.n ≥ (t0.l.length : Int))) || (decide (t1 < 1))))]) (LH := [([], ⟨1, [(0, ⟨1, (c_palimpmade_Picks t0), false⟩)]⟩)]) (D := [⟨[(0, none)], [], [0], false⟩, ⟨[(5, some 0)], [0], [0], false⟩, ⟨[(6, some 1)], [0, 1], [0], false⟩, ⟨[(7, some 2)], [0, 1, 2], [0], false⟩, ⟨[(0, none)], [], [0], false⟩, ⟨[(9, some 4)], [4], [0], false⟩, ⟨[(10, some 5)], [4, 5], [0], false⟩, ⟨[(11, some 6)], [4, 5, 6], [0], false⟩, ⟨[(12, some 7)], [4, 5, 6, 7], [0], false⟩, ⟨[(8, some 3), (13, some 8)], [0, 1, 2, 3, 4, 5, 6, 7, 8], [0], false⟩, ⟨[(14, some 9)], [0, 1, 2, 3, 4, 5, 6, 7, 8, 9], [0], false⟩, ⟨[(1, none), (15, some 10)], [0, 1, 2, 3, 4, 5, 6, 7, 8, 9, 10], [0], false⟩, ⟨[(16, some 11), (15, some 10)], [0, 1, 2, 3, 4, 5, 6, 7, 8, 9, 10, 11], [0], false⟩, ⟨[(15, some 10), (17, some 12)], [0, 1, 2, 3, 4, 5, 6, 7, 8, 9, 10, 11, 12], [0], false⟩]) (S := []) (plan := [0, 1, 2, 3, 4, 5, 6, 7, 8, 9, 10, 11, 12, 13]) mo (by kernel_rfl) rfl rfl rfl (dcons (dstep1 (Tm := [(0, (NP 0 0))]) (L := []) (H := ⟨1, [(0, ⟨1, (c_palimpmade_Picks t0), false⟩)]⟩) rfl rfl rfl rfl rfl (astep_do rfl (ex_move (eV (v := (NP 0 0)) rfl)))) (dcons (dstep1 (Tm := [(5, (NP 0 0))]) (L := []) (H := ⟨1, [(0, ⟨1, (c_palimpmade_Picks t0), false⟩)]⟩) rfl rfl rfl rfl rfl (astep_do rfl (ex_nilCheck (p := ⟨0, 0, none⟩) rfl))) (dcons (dstep1 (Tm := [(6, (NP 0 0))]) (L := []) (H := ⟨1, [(0, ⟨1, (c_palimpmade_Picks t0), false⟩)]⟩) rfl rfl rfl rfl rfl (astep_do rfl (ex_fieldAddr (v := (NP 0 1)) Try.underlying51 rfl s_3 (by decide) rfl rfl))) (dcons (dstep1 (Tm := [(7, (NP 0 1))]) (L := []) (H := ⟨1, [(0, ⟨1, (c_palimpmade_Picks t0), false⟩)]⟩) rfl rfl rfl rfl rfl (astep_do rfl (tx_ldF (v := (I t0.n)) (s := 1) rfl rfl (part1 Try.underlying3 rfl rfl)))) (dcons (dstep1 (Tm := [(0, (NP 0 0))]) (L := []) (H := ⟨1, [(0, ⟨1, (c_palimpmade_Picks t0), false⟩)]⟩) rfl rfl rfl rfl rfl (astep_do rfl (ex_move (eV (v := (NP 0 0)) rfl)))) (dcons (dstep1 (Tm := [(9, (NP 0 0))]) (L := []) (H := ⟨1, [(0, ⟨1, (c_palimpmade_Picks t0), false⟩)]⟩) rfl rfl rfl rfl rfl (astep_do rfl (ex_nilCheck (p := ⟨0, 0, none⟩) rfl))) (dcons (dstep1 (Tm := [(10, (NP 0 0))]) (L := []) (H := ⟨1, [(0, ⟨1, (c_palimpmade_Picks t0), false⟩)]⟩) rfl rfl rfl rfl rfl (astep_do rfl (ex_fieldAddr (v := (NP 0 0)) Try.underlying51 rfl s_27 (by decide) rfl rfl))) (dcons (dstep1 (Tm := [(11, (NP 0 0))]) (L := []) (H := ⟨1, [(0, ⟨1, (c_palimpmade_Picks t0), false⟩)]⟩) rfl rfl rfl rfl rfl (astep_do rfl (tx_ldF (v := (SL 1 c8 t0.l)) (s := 1) rfl rfl (part1 Try.underlying27 rfl rfl)))) (dcons (dstep1 (Tm := [(12, (SL 1 c8 t0.l))]) (L := []) (H := ⟨1, [(0, ⟨1, (c_palimpmade_Picks t0), false⟩)]⟩) rfl rfl rfl rfl rfl (astep_do rfl (tx_lenD (xs := t0.l) ce8 Try.underlying27 rfl))) (dcons (dstep1 (Tm := [(8, (I t0.n)), (13, (I (t0.l.length : Int)))]) (L := []) (H := ⟨1, [(0, ⟨1, (c_palimpmade_Picks t0), false⟩)]⟩) rfl rfl rfl rfl rfl (astep_do rfl (ex_bin (vx := (I t0.n)) (vy := (I (t0.l.length : Int))) rfl rfl geqI_ok))) (dcons (dstep1 (Tm := [(14, (Bo (decide (t0.n ≥ (t0.l.length : Int)))))]) (L := []) (H := ⟨1, [(0, ⟨1, (c_palimpmade_Picks t0), false⟩)]⟩) rfl rfl rfl rfl rfl (astep_do rfl (ex_move (eV (v := (Bo (decide (t0.n ≥ (t0.l.length : Int))))) rfl)))) (dcons (dstep1 (Tm := [(1, (I t1)), (15, (Bo (decide (t0.n ≥ (t0.l.length : Int)))))]) (L := []) (H := ⟨1, [(0, ⟨1, (c_palimpmade_Picks t0), false⟩)]⟩) rfl rfl rfl rfl rfl (astep_guard (v := (I t1)) ((decide (t0.n ≥ (t0.l.length : Int))) == false) rfl (fun hc => ex_move (eV (v := (I t1)) rfl)))) (dcons (dstep1 (Tm := [(16, (cond ((decide (t0.n ≥ (t0.l.length : Int))) == false) (I t1) skipV)), (15, (Bo (decide (t0.n ≥ (t0.l.length : Int)))))]) (L := []) (H := ⟨1, [(0, ⟨1, (c_palimpmade_Picks t0), false⟩)]⟩) rfl rfl rfl rfl rfl (astep_guard (v := (Bo (decide (t1 < 1)))) ((decide (t0.n ≥ (t0.l.length : Int))) == false) rfl (fun hc => ex_bin (vx := (I t1)) (vy := (I 1)) (cond_of hc) rfl lssI_ok))) (dcons (dstep1 (Tm := [(15, (Bo (decide (t0.n ≥ (t0.l.length : Int))))), (17, (cond ((decide (t0.n ≥ (t0.l.length : Int))) == false) (Bo (decide (t1 < 1))) skipV))]) (L := []) (H := ⟨1, [(0, ⟨1, (c_palimpmade_Picks t0), false⟩)]⟩) rfl rfl rfl rfl rfl (astep_do rfl (ex_pick rfl pkOr))) dnil)))))))))))))) ⟨rfl, rfl⟩) (by kernel_rfl) (by kernel_rfl) ?_
  show AWp _ _ _ _
  rcases Bool.eq_false_or_eq_true ((decide (t0.n ≥ (t0.l.length : Int))) || (decide (t1 < 1))) with hb1 | hb1
  · rw [condT hb1] at h
    refine awp_condT (boT hb1) ?_
    refine awp_seq ?_
    refine awp_region ?_
    refine arun_do rfl rfl rfl (ex_assign (eV (v := (I 0)) rfl)) ?_
    refine arun_keepE [4] 0 1 (st' := ⟨40, 1, [(4, (I 0))], [], ⟨1, [(0, ⟨1, (c_palimpmade_Picks t0), false⟩)]⟩⟩) (by kernel_rfl) (by kernel_rfl) ?_
    show AWp _ _ _ _
    refine awp_ret ?_
    cases h
    exact And.intro (ares1 (rtmp rfl (eV rfl))) rfl
  · rw [condF hb1] at h
    refine awp_condF (boF hb1) ?_
    refine awp_skip ?_
    show AWp _ _ _ _
    refine awp_seq ?_
    refine awp_region ?_
    refine arun_do rfl rfl rfl (ex_move (eV (v := (NP 0 0)) rfl)) ?_
    refine arun_do rfl rfl rfl (ex_nilCheck (p := ⟨0, 0, none⟩) rfl) ?_
    refine arun_do rfl rfl rfl (ex_fieldAddr (v := (NP 0 1)) Try.underlying51 rfl s_3 (by decide) rfl rfl) ?_
    refine arun_do rfl rfl rfl (tx_ldF (v := (I t0.n)) (s := 1) rfl rfl (part1 Try.underlying3 rfl rfl)) ?_
    refine arun_do rfl rfl rfl (ex_bin (vx := (I t0.n)) (vy := (I 1)) rfl rfl addI_ok) ?_
    refine arun_do rfl rfl rfl (ex_nilCheck (p := ⟨0, 0, none⟩) rfl) ?_
    refine arun_do rfl rfl rfl (ex_fieldAddr (v := (NP 0 1)) Try.underlying51 rfl s_3 (by decide) rfl rfl) ?_
    refine arun_do0 rfl rfl (ex_storeF (vy := (I (w64 (t0.n + 1)))) (b := ⟨1, (c_palimpmade_Picks t0), false⟩) (vs := [(I (w64 (t0.n + 1)))]) (H' := ⟨1, [(0, ⟨1, (c_palimpmade_Picks (G_palimpmade_Picks.mk t0.l (w64 (t0.n + 1)))), false⟩)]⟩) rfl (eV (v := (I (w64 (t0.n + 1)))) rfl) rfl s_3 rfl rfl (Nat.le_of_ble_eq_true rfl) rfl (by simp) (by kernel_rfl)) ?_
    refine arun_keepE [0, 1] 0 1 (st' := ⟨40, 1, [(0, (NP 0 0)), (1, (I t1))], [], ⟨1, [(0, ⟨1, (c_palimpmade_Picks (G_palimpmade_Picks.mk t0.l (w64 (t0.n + 1)))), false⟩)]⟩⟩) (by kernel_rfl) (by kernel_rfl) ?_
    show AWp _ _ _ _
    refine awp_seq ?_
    obtain ⟨x2, hx2, h⟩ := bindS h
    obtain ⟨x3, hx3, h⟩ := bindS h
    refine awp_kn [4] 0 1 (st' := ⟨40, 1, [(4, (I x3))], [], ⟨1, [(0, ⟨1, (c_palimpmade_Picks (G_palimpmade_Picks.mk t0.l (w64 (t0.n + 1)))), false⟩)]⟩⟩) (awp_draw (T := [(NP 0 0), (NP 0 0), (NP 0 0), (SL 1 c8 t0.l), (NP 0 0), (NP 0 0), (NP 0 1), (I (w64 (t0.n + 1))), (I (w64 ((w64 (t0.n + 1)) - 1))), (DP (c8 x2)), (U8 x2), (I (x2.toNat : Int)), (I t1), (I x3), (I x3)]) (LH := [([], ⟨1, [(0, ⟨1, (c_palimpmade_Picks (G_palimpmade_Picks.mk t0.l (w64 (t0.n + 1)))), false⟩)]⟩)]) (D := [⟨[(0, none)], [], [0], false⟩, ⟨[(26, some 0)], [0], [0], false⟩, ⟨[(27, some 1)], [0, 1], [0], false⟩, ⟨[(28, some 2)], [0, 1, 2], [0], false⟩, ⟨[(0, none)], [], [0], false⟩, ⟨[(30, some 4)], [4], [0], false⟩, ⟨[(31, some 5)], [4, 5], [0], false⟩, ⟨[(32, some 6)], [4, 5, 6], [0], false⟩, ⟨[(33, some 7)], [4, 5, 6, 7], [0], false⟩, ⟨[(29, some 3), (34, some 8)], [0, 1, 2, 3, 4, 5, 6, 7, 8], [0], false⟩, ⟨[(35, some 9)], [0, 1, 2, 3, 4, 5, 6, 7, 8, 9], [0], false⟩, ⟨[(36, some 10)], [0, 1, 2, 3, 4, 5, 6, 7, 8, 9, 10], [0], false⟩, ⟨[(1, none)], [], [0], false⟩, ⟨[(37, some 11), (38, some 12)], [0, 1, 2, 3, 4, 5, 6, 7, 8, 9, 10, 11, 12], [0], false⟩, ⟨[(39, some 13)], [0, 1, 2, 3, 4, 5, 6, 7, 8, 9, 10, 11, 12, 13], [0], false⟩]) (S := []) (plan := [0, 1, 2, 3, 4, 5, 6, 7, 8, 9, 10, 11, 12, 13, 14]) mo (by kernel_rfl) rfl rfl rfl (dcons (dstep1 (Tm := [(0, (NP 0 0))]) (L := []) (H := ⟨1, [(0, ⟨1, (c_palimpmade_Picks (G_palimpmade_Picks.mk t0.l (w64 (t0.n + 1)))), false⟩)]⟩) rfl rfl rfl rfl rfl (astep_do rfl (ex_move (eV (v := (NP 0 0)) rfl)))) (dcons (dstep1 (Tm := [(26, (NP 0 0))]) (L := []) (H := ⟨1, [(0, ⟨1, (c_palimpmade_Picks (G_palimpmade_Picks.mk t0.l (w64 (t0.n + 1)))), false⟩)]⟩) rfl rfl rfl rfl rfl (astep_do rfl (ex_nilCheck (p := ⟨0, 0, none⟩) rfl))) (dcons (dstep1 (Tm := [(27, (NP 0 0))]) (L := []) (H := ⟨1, [(0, ⟨1, (c_palimpmade_Picks (G_palimpmade_Picks.mk t0.l (w64 (t0.n + 1)))), false⟩)]⟩) rfl rfl rfl rfl rfl (astep_do rfl (ex_fieldAddr (v := (NP 0 0)) Try.underlying51 rfl s_27 (by decide) rfl rfl))) (dcons (dstep1 (Tm := [(28, (NP 0 0))]) (L := []) (H := ⟨1, [(0, ⟨1, (c_palimpmade_Picks (G_palimpmade_Picks.mk t0.l (w64 (t0.n + 1)))), false⟩)]⟩) rfl rfl rfl rfl rfl (astep_do rfl (tx_ldF (v := (SL 1 c8 t0.l)) (s := 1) rfl rfl (part1 Try.underlying27 rfl rfl)))) (dcons (dstep1 (Tm := [(0, (NP 0 0))]) (L := []) (H := ⟨1, [(0, ⟨1, (c_palimpmade_Picks (G_palimpmade_Picks.mk t0.l (w64 (t0.n + 1)))), false⟩)]⟩) rfl rfl rfl rfl rfl (astep_do rfl (ex_move (eV (v := (NP 0 0)) rfl)))) (dcons (dstep1 (Tm := [(30, (NP 0 0))]) (L := []) (H := ⟨1, [(0, ⟨1, (c_palimpmade_Picks (G_palimpmade_Picks.mk t0.l (w64 (t0.n + 1)))), false⟩)]⟩) rfl rfl rfl rfl rfl (astep_do rfl (ex_nilCheck (p := ⟨0, 0, none⟩) rfl))) (dcons (dstep1 (Tm := [(31, (NP 0 0))]) (L := []) (H := ⟨1, [(0, ⟨1, (c_palimpmade_Picks (G_palimpmade_Picks.mk t0.l (w64 (t0.n + 1)))), false⟩)]⟩) rfl rfl rfl rfl rfl (astep_do rfl (ex_fieldAddr (v := (NP 0 1)) Try.underlying51 rfl s_3 (by decide) rfl rfl))) (dcons (dstep1 (Tm := [(32, (NP 0 1))]) (L := []) (H := ⟨1, [(0, ⟨1, (c_palimpmade_Picks (G_palimpmade_Picks.mk t0.l (w64 (t0.n + 1)))), false⟩)]⟩) rfl rfl rfl rfl rfl (astep_do rfl (tx_ldF (v := (I (w64 (t0.n + 1)))) (s := 1) rfl rfl (part1 Try.underlying3 rfl rfl)))) (dcons (dstep1 (Tm := [(33, (I (w64 (t0.n + 1))))]) (L := []) (H := ⟨1, [(0, ⟨1, (c_palimpmade_Picks (G_palimpmade_Picks.mk t0.l (w64 (t0.n + 1)))), false⟩)]⟩) rfl rfl rfl rfl rfl (astep_do rfl (ex_bin (vx := (I (w64 (t0.n + 1)))) (vy := (I 1)) rfl rfl subI_ok))) (dcons (dstep1 (Tm := [(29, (SL 1 c8 t0.l)), (34, (I (w64 ((w64 (t0.n + 1)) - 1))))]) (L := []) (H := ⟨1, [(0, ⟨1, (c_palimpmade_Picks (G_palimpmade_Picks.mk t0.l (w64 (t0.n + 1)))), false⟩)]⟩) rfl rfl rfl rfl rfl (astep_do rfl (tx_idxD (c := c8) (xs := t0.l) (i := (w64 ((w64 (t0.n + 1)) - 1))) ce8 Try.underlying27 s_5 rfl rfl hx2))) (dcons (dstep1 (Tm := [(35, (DP (c8 x2)))]) (L := []) (H := ⟨1, [(0, ⟨1, (c_palimpmade_Picks (G_palimpmade_Picks.mk t0.l (w64 (t0.n + 1)))), false⟩)]⟩) rfl rfl rfl rfl rfl (astep_do rfl (tx_ldD1 (v := (U8 x2)) Try.underlying5 rfl rfl rfl))) (dcons (dstep1 (Tm := [(36, (U8 x2))]) (L := []) (H := ⟨1, [(0, ⟨1, (c_palimpmade_Picks (G_palimpmade_Picks.mk t0.l (w64 (t0.n + 1)))), false⟩)]⟩) rfl rfl rfl rfl rfl (astep_do rfl (tx_8_64 Try.underlying5 Try.underlying3 rfl))) (dcons (dstep1 (Tm := [(1, (I t1))]) (L := []) (H := ⟨1, [(0, ⟨1, (c_palimpmade_Picks (G_palimpmade_Picks.mk t0.l (w64 (t0.n + 1)))), false⟩)]⟩) rfl rfl rfl rfl rfl (astep_do rfl (ex_move (eV (v := (I t1)) rfl)))) (dcons (dstep1 (Tm := [(37, (I (x2.toNat : Int))), (38, (I t1))]) (L := []) (H := ⟨1, [(0, ⟨1, (c_palimpmade_Picks (G_palimpmade_Picks.mk t0.l (w64 (t0.n + 1)))), false⟩)]⟩) rfl rfl rfl rfl rfl (astep_do rfl (ex_bin (vx := (I (x2.toNat : Int))) (vy := (I t1)) rfl rfl (remI_ok hx3)))) (dcons (dstep1 (Tm := [(39, (I x3))]) (L := []) (H := ⟨1, [(0, ⟨1, (c_palimpmade_Picks (G_palimpmade_Picks.mk t0.l (w64 (t0.n + 1)))), false⟩)]⟩) rfl rfl rfl rfl rfl (astep_do rfl (ex_assign (eV (v := (I x3)) rfl)))) dnil))))))))))))))) ⟨rfl, rfl⟩) (by kernel_rfl) (by kernel_rfl) ?_
    show AWp _ _ _ _
    refine awp_ret ?_
    cases h
    exact And.intro (ares1 (rtmp rfl (eV rfl))) rfl

noncomputable def M_made_Picks_Ptr (t0 : G_palimpmade_Picks) : Option (G_api_Ptr × G_palimpmade_Picks) :=
  Option.bind (M_made_Picks_Num t0 4) fun (x1 : (Int × G_palimpmade_Picks)) => cond (x1.1 == 0) (some ((G_api_Ptr.mk 0 0 (A4.mk 0 0 0 0)), x1.2)) (Option.bind (M_made_Picks_Num x1.2 60) fun (x3 : (Int × G_palimpmade_Picks)) => Option.bind (M_made_Picks_Num x3.2 90) fun (x4 : (Int × G_palimpmade_Picks)) => Option.bind (M_made_Picks_Num x4.2 256) fun (x5 : (Int × G_palimpmade_Picks)) => Option.bind (shl32 (UInt32.ofInt x5.1) 24) fun (x6 : UInt32) => Option.bind (M_made_Picks_Num x5.2 256) fun (x7 : (Int × G_palimpmade_Picks)) => Option.bind (M_made_Picks_Num x7.2 9) fun (x8 : (Int × G_palimpmade_Picks)) => some ((G_api_Ptr.mk (w64 (14 + x3.1)) (w64 (1 + x4.1)) (A4.mk x6 (UInt32.ofInt x7.1) 5 (UInt32.ofInt x8.1))), x8.2))
theorem ok_made_Picks_Ptr (t0 : G_palimpmade_Picks) (r : (G_api_Ptr × G_palimpmade_Picks)) (h : M_made_Picks_Ptr t0 = some r) : F1n Try.prog 22 [(NP 0 0)] ⟨1, (c_palimpmade_Picks t0), false⟩ (Value.agg (c_api_Ptr r.1).toArray) ⟨1, (c_palimpmade_Picks r.2), false⟩ := by
  refine F1n.of_body (n := 25) Try.func22 rfl Try.ntmps22 rfl rfl rfl rfl ?_
  show AWp _ _ _ ⟨25, 1, [(0, (NP 0 0))], [], ⟨1, [(0, ⟨1, (c_palimpmade_Picks t0), false⟩)]⟩⟩
  unfold M_made_Picks_Ptr at h
  refine awp_seq ?_
  refine awp_region ?_
  refine arun_do rfl rfl rfl (ex_alloc (k := 0) (zs := (c_api_Ptr (G_api_Ptr.mk 0 0 (A4.mk 0 0 0 0)))) (L' := [(c_api_Ptr (G_api_Ptr.mk 0 0 (A4.mk 0 0 0 0)))]) z_26 rfl rfl rfl rfl) ?_
  refine arun_keepE [0, 2] 1 1 (st' := ⟨25, 1, [(0, (NP 0 0)), (2, (LP 0 0))], [(c_api_Ptr (G_api_Ptr.mk 0 0 (A4.mk 0 0 0 0)))], ⟨1, [(0, ⟨1, (c_palimpmade_Picks t0), false⟩)]⟩⟩) (by kernel_rfl) (by kernel_rfl) ?_
  show AWp _ _ _ _
  refine awp_seq ?_
  refine awp_seq ?_
  refine awp_region ?_
  refine arun_do rfl rfl rfl (ex_move (eV (v := (NP 0 0)) rfl)) ?_
  obtain ⟨x1, hx1, h⟩ := bindS h
  refine arun_do rfl rfl rfl (ex_call1 (vs := [(NP 0 0), (I 4)]) (vs' := [(NP 0 0), (I 4)]) (v := (I x1.1)) (n := 0) (b := ⟨1, (c_palimpmade_Picks t0), false⟩) (b' := ⟨1, (c_palimpmade_Picks x1.2), false⟩) (H' := ⟨1, [(0, ⟨1, (c_palimpmade_Picks x1.2), false⟩)]⟩) rfl en_32 (cargs (evs rfl (evs rfl evs_nil))) rfl rfl (.cons (.inr ⟨_, rfl, rfl⟩) (.cons (.inl ⟨rfl, rfl⟩) .nil)) (ok_made_Picks_Num t0 4 x1 hx1) rfl rfl) ?_
  refine arun_do rfl rfl rfl (ex_bin (vx := (I x1.1)) (vy := (I 0)) rfl rfl eqlI_ok) ?_
  refine arun_keepE [0, 2, 5] 1 1 (st' := ⟨25, 1, [(0, (NP 0 0)), (2, (LP 0 0)), (5, (Bo (x1.1 == 0)))], [(c_api_Ptr (G_api_Ptr.mk 0 0 (A4.mk 0 0 0 0)))], ⟨1, [(0, ⟨1, (c_palimpmade_Picks x1.2), false⟩)]⟩⟩) (by kernel_rfl) (by kernel_rfl) ?_
  show AWp _ _ _ _
  rcases Bool.eq_false_or_eq_true (x1.1 == 0) with hb2 | hb2
  · rw [condT hb2] at h
    refine awp_condT (boT hb2) ?_
    refine awp_seq ?_
    refine awp_region ?_
    refine arun_do rfl rfl rfl (ex_build (qs := []) (v := (Value.agg (c_api_Ptr (G_api_Ptr.mk 0 0 (A4.mk 0 0 0 0))).toArray)) evp_nil (by kernel_rfl)) ?_
    refine arun_do0 rfl rfl (ex_storeL (vy := (Value.agg (c_api_Ptr (G_api_Ptr.mk 0 0 (A4.mk 0 0 0 0))).toArray)) (cs := (c_api_Ptr (G_api_Ptr.mk 0 0 (A4.mk 0 0 0 0)))) (vs := (c_api_Ptr (G_api_Ptr.mk 0 0 (A4.mk 0 0 0 0)))) (L' := [(c_api_Ptr (G_api_Ptr.mk 0 0 (A4.mk 0 0 0 0)))]) rfl (eV (v := (Value.agg (c_api_Ptr (G_api_Ptr.mk 0 0 (A4.mk 0 0 0 0))).toArray)) rfl) rfl s_26 rfl (Nat.le_of_ble_eq_true rfl) (by kernel_rfl)) ?_
    refine arun_keepE [2] 1 1 (st' := ⟨25, 1, [(2, (LP 0 0))], [(c_api_Ptr (G_api_Ptr.mk 0 0 (A4.mk 0 0 0 0)))], ⟨1, [(0, ⟨1, (c_palimpmade_Picks x1.2), false⟩)]⟩⟩) (by kernel_rfl) (by kernel_rfl) ?_
    show AWp _ _ _ _
    refine awp_ret ?_
    cases h
    exact And.intro (ares1 (rcellL rfl rfl rfl (partA Try.underlying26 rfl s_26 (by decide) (Nat.le_of_ble_eq_true rfl) rfl))) rfl
  · rw [condF hb2] at h
    refine awp_condF (boF hb2) ?_
    refine awp_skip ?_
    show AWp _ _ _ _
    refine awp_seq ?_
    refine awp_region ?_
    refine arun_do rfl rfl rfl (ex_move (eV (v := (NP 0 0)) rfl)) ?_
    obtain ⟨x3, hx3, h⟩ := bindS h
    refine arun_do rfl rfl rfl (ex_call1 (vs := [(NP 0 0), (I 60)]) (vs' := [(NP 0 0), (I 60)]) (v := (I x3.1)) (n := 0) (b := ⟨1, (c_palimpmade_Picks x1.2), false⟩) (b' := ⟨1, (c_palimpmade_Picks x3.2), false⟩) (H' := ⟨1, [(0, ⟨1, (c_palimpmade_Picks x3.2), false⟩)]⟩) rfl en_32 (cargs (evs rfl (evs rfl evs_nil))) rfl rfl (.cons (.inr ⟨_, rfl, rfl⟩) (.cons (.inl ⟨rfl, rfl⟩) .nil)) (ok_made_Picks_Num x1.2 60 x3 hx3) rfl rfl) ?_
    refine arun_do rfl rfl rfl (ex_bin (vx := (I 14)) (vy := (I x3.1)) rfl rfl addI_ok) ?_
    refine arun_do rfl rfl rfl (ex_move (eV (v := (NP 0 0)) rfl)) ?_
    obtain ⟨x4, hx4, h⟩ := bindS h
    refine arun_do rfl rfl rfl (ex_call1 (vs := [(NP 0 0), (I 90)]) (vs' := [(NP 0 0), (I 90)]) (v := (I x4.1)) (n := 0) (b := ⟨1, (c_palimpmade_Picks x3.2), false⟩) (b' := ⟨1, (c_palimpmade_Picks x4.2), false⟩) (H' := ⟨1, [(0, ⟨1, (c_palimpmade_Picks x4.2), false⟩)]⟩) rfl en_32 (cargs (evs rfl (evs rfl evs_nil))) rfl rfl (.cons (.inr ⟨_, rfl, rfl⟩) (.cons (.inl ⟨rfl, rfl⟩) .nil)) (ok_made_Picks_Num x3.2 90 x4 hx4) rfl rfl) ?_
    refine arun_do rfl rfl rfl (ex_bin (vx := (I 1)) (vy := (I x4.1)) rfl rfl addI_ok) ?_
    refine arun_do rfl rfl rfl (ex_move (eV (v := (NP 0 0)) rfl)) ?_
    obtain ⟨x5, hx5, h⟩ := bindS h
    refine arun_do rfl rfl rfl (ex_call1 (vs := [(NP 0 0), (I 256)]) (vs' := [(NP 0 0), (I 256)]) (v := (I x5.1)) (n := 0) (b := ⟨1, (c_palimpmade_Picks x4.2), false⟩) (b' := ⟨1, (c_palimpmade_Picks x5.2), false⟩) (H' := ⟨1, [(0, ⟨1, (c_palimpmade_Picks x5.2), false⟩)]⟩) rfl en_32 (cargs (evs rfl (evs rfl evs_nil))) rfl rfl (.cons (.inr ⟨_, rfl, rfl⟩) (.cons (.inl ⟨rfl, rfl⟩) .nil)) (ok_made_Picks_Num x4.2 256 x5 hx5) rfl rfl) ?_
    refine arun_do rfl rfl rfl (tx_64_32 Try.underlying3 Try.underlying22 rfl) ?_
    obtain ⟨x6, hx6, h⟩ := bindS h
    refine arun_do rfl rfl rfl (ex_bin (vx := (U32 (UInt32.ofInt x5.1))) (vy := (U64 24)) rfl rfl (shl32_ok hx6)) ?_
    refine arun_do rfl rfl rfl (ex_move (eV (v := (NP 0 0)) rfl)) ?_
    obtain ⟨x7, hx7, h⟩ := bindS h
    refine arun_do rfl rfl rfl (ex_call1 (vs := [(NP 0 0), (I 256)]) (vs' := [(NP 0 0), (I 256)]) (v := (I x7.1)) (n := 0) (b := ⟨1, (c_palimpmade_Picks x5.2), false⟩) (b' := ⟨1, (c_palimpmade_Picks x7.2), false⟩) (H' := ⟨1, [(0, ⟨1, (c_palimpmade_Picks x7.2), false⟩)]⟩) rfl en_32 (cargs (evs rfl (evs rfl evs_nil))) rfl rfl (.cons (.inr ⟨_, rfl, rfl⟩) (.cons (.inl ⟨rfl, rfl⟩) .nil)) (ok_made_Picks_Num x5.2 256 x7 hx7) rfl rfl) ?_
    refine arun_do rfl rfl rfl (tx_64_32 Try.underlying3 Try.underlying22 rfl) ?_
    refine arun_do rfl rfl rfl (ex_move (eV (v := (NP 0 0)) rfl)) ?_
    obtain ⟨x8, hx8, h⟩ := bindS h
    refine arun_do rfl rfl rfl (ex_call1 (vs := [(NP 0 0), (I 9)]) (vs' := [(NP 0 0), (I 9)]) (v := (I x8.1)) (n := 0) (b := ⟨1, (c_palimpmade_Picks x7.2), false⟩) (b' := ⟨1, (c_palimpmade_Picks x8.2), false⟩) (H' := ⟨1, [(0, ⟨1, (c_palimpmade_Picks x8.2), false⟩)]⟩) rfl en_32 (cargs (evs rfl (evs rfl evs_nil))) rfl rfl (.cons (.inr ⟨_, rfl, rfl⟩) (.cons (.inl ⟨rfl, rfl⟩) .nil)) (ok_made_Picks_Num x7.2 9 x8 hx8) rfl rfl) ?_
    refine arun_do rfl rfl rfl (tx_64_32 Try.underlying3 Try.underlying22 rfl) ?_
    refine arun_do rfl rfl rfl (ex_build (qs := [(0, (U32 x6)), (1, (U32 (UInt32.ofInt x7.1))), (2, (U32 5)), (3, (U32 (UInt32.ofInt x8.1)))]) (v := (Value.agg ((cA4 c32) (A4.mk x6 (UInt32.ofInt x7.1) 5 (UInt32.ofInt x8.1))).toArray)) (evp rfl (evp rfl (evp rfl (evp rfl evp_nil)))) (by kernel_rfl)) ?_
    refine arun_do rfl rfl rfl (ex_build (qs := [(0, (I (w64 (14 + x3.1)))), (1, (I (w64 (1 + x4.1)))), (2, (Value.agg ((cA4 c32) (A4.mk x6 (UInt32.ofInt x7.1) 5 (UInt32.ofInt x8.1))).toArray))]) (v := (Value.agg (c_api_Ptr (G_api_Ptr.mk (w64 (14 + x3.1)) (w64 (1 + x4.1)) (A4.mk x6 (UInt32.ofInt x7.1) 5 (UInt32.ofInt x8.1)))).toArray)) (evp rfl (evp rfl (evp rfl evp_nil))) (by kernel_rfl)) ?_
    refine arun_do0 rfl rfl (ex_storeL (vy := (Value.agg (c_api_Ptr (G_api_Ptr.mk (w64 (14 + x3.1)) (w64 (1 + x4.1)) (A4.mk x6 (UInt32.ofInt x7.1) 5 (UInt32.ofInt x8.1)))).toArray)) (cs := (c_api_Ptr (G_api_Ptr.mk 0 0 (A4.mk 0 0 0 0)))) (vs := (c_api_Ptr (G_api_Ptr.mk (w64 (14 + x3.1)) (w64 (1 + x4.1)) (A4.mk x6 (UInt32.ofInt x7.1) 5 (UInt32.ofInt x8.1))))) (L' := [(c_api_Ptr (G_api_Ptr.mk (w64 (14 + x3.1)) (w64 (1 + x4.1)) (A4.mk x6 (UInt32.ofInt x7.1) 5 (UInt32.ofInt x8.1))))]) rfl (eV (v := (Value.agg (c_api_Ptr (G_api_Ptr.mk (w64 (14 + x3.1)) (w64 (1 + x4.1)) (A4.mk x6 (UInt32.ofInt x7.1) 5 (UInt32.ofInt x8.1)))).toArray)) rfl) rfl s_26 rfl (Nat.le_of_ble_eq_true rfl) (by kernel_rfl)) ?_
    refine arun_keepE [2] 1 1 (st' := ⟨25, 1, [(2, (LP 0 0))], [(c_api_Ptr (G_api_Ptr.mk (w64 (14 + x3.1)) (w64 (1 + x4.1)) (A4.mk x6 (UInt32.ofInt x7.1) 5 (UInt32.ofInt x8.1))))], ⟨1, [(0, ⟨1, (c_palimpmade_Picks x8.2), false⟩)]⟩⟩) (by kernel_rfl) (by kernel_rfl) ?_
    show AWp _ _ _ _
    refine awp_ret ?_
    cases h
    exact And.intro (ares1 (rcellL rfl rfl rfl (partA Try.underlying26 rfl s_26 (by decide) (Nat.le_of_ble_eq_true rfl) rfl))) rfl

noncomputable def M_made_Picks_Ptrs_l1 (t1 : Int) : Nat → Int → G_palimpmade_Picks → List G_api_Ptr → Option ((List G_api_Ptr) × G_palimpmade_Picks)
  | 0, _, _, _ => none
  | n1 + 1, v1, v2, v3 =>
  cond (decide (v1 < t1)) (Option.bind (M_made_Picks_Ptr v2 ) fun (x5 : (G_api_Ptr × G_palimpmade_Picks)) => Option.bind (appL 32 v3 ([x5.1] : List G_api_Ptr)) fun (x6 : List G_api_Ptr) => (M_made_Picks_Ptrs_l1 t1 n1) (w64 (v1 + 1)) x5.2 x6) (some (v3, v2))
noncomputable def M_made_Picks_Ptrs (t0 : G_palimpmade_Picks) (t1 : Int) : Option ((List G_api_Ptr) × G_palimpmade_Picks) :=
  M_made_Picks_Ptrs_l1 t1 fuel 0 t0 ([] : List G_api_Ptr)
theorem ok_made_Picks_Ptrs (t0 : G_palimpmade_Picks) (t1 : Int) (r : ((List G_api_Ptr) × G_palimpmade_Picks)) (h : M_made_Picks_Ptrs t0 t1 = some r) : F1n Try.prog 10 [(NP 0 0), (I t1)] ⟨1, (c_palimpmade_Picks t0), false⟩ (SL 6 c_api_Ptr r.1) ⟨1, (c_palimpmade_Picks r.2), false⟩ := by
  refine F1n.of_body (n := 18) Try.func10 rfl Try.ntmps10 rfl rfl rfl rfl ?_
  show AWp _ _ _ ⟨18, 1, [(0, (NP 0 0)), (1, (I t1))], [], ⟨1, [(0, ⟨1, (c_palimpmade_Picks t0), false⟩)]⟩⟩
  unfold M_made_Picks_Ptrs at h
  refine awp_seq ?_
  refine awp_region ?_
  refine arun_do rfl rfl rfl (ex_assign (eV (v := (Value.slice none 0 0)) rfl)) ?_
  refine arun_keepE [0, 1] 0 1 (st' := ⟨18, 1, [(0, (NP 0 0)), (1, (I t1))], [], ⟨1, [(0, ⟨1, (c_palimpmade_Picks t0), false⟩)]⟩⟩) (by kernel_rfl) (by kernel_rfl) ?_
  show AWp _ _ _ _
  refine awp_seq ?_
  refine awp_region ?_
  refine arun_do rfl rfl rfl (ex_assign (eV (v := (Value.slice none 0 0)) rfl)) ?_
  refine arun_keepE [0, 1, 5] 0 1 (st' := ⟨18, 1, [(0, (NP 0 0)), (1, (I t1)), (5, (Value.slice none 0 0))], [], ⟨1, [(0, ⟨1, (c_palimpmade_Picks t0), false⟩)]⟩⟩) (by kernel_rfl) (by kernel_rfl) ?_
  show AWp _ _ _ _
  refine awp_seq ?_
  refine awp_seq ?_
  refine awp_region ?_
  refine arun_do rfl rfl rfl (ex_assign (eV (v := (I 0)) rfl)) ?_
  refine arun_keepE [0, 1, 5, 6] 0 1 (st' := ⟨18, 1, [(0, (NP 0 0)), (1, (I t1)), (5, (Value.slice none 0 0)), (6, (I 0))], [], ⟨1, [(0, ⟨1, (c_palimpmade_Picks t0), false⟩)]⟩⟩) (by kernel_rfl) (by kernel_rfl) ?_
  show AWp _ _ _ _
  refine awp_block ?_
  refine awp_nilGro 5 6 rfl (by decide) ?_
  refine awp_keepE [0, 1, 5, 6] 0 2 (st' := ⟨18, 1, [(0, (NP 0 0)), (1, (I t1)), (5, (GV 1 0)), (6, (I 0))], [], ⟨2, [(1, ⟨6, (([] : List G_api_Ptr).flatMap c_api_Ptr), true⟩), (0, ⟨1, (c_palimpmade_Picks t0), false⟩)]⟩⟩) (by kernel_rfl) (by kernel_rfl) ?_
  refine awp_loop (fun n s => ∃ (v1 : Int) (v2 : G_palimpmade_Picks) (v3 : List G_api_Ptr), s = ⟨18, 1, [(0, (NP 0 0)), (1, (I t1)), (5, (GV 1 v3.length)), (6, (I v1))], [], ⟨2, [(1, ⟨6, ((v3).flatMap c_api_Ptr), true⟩), (0, ⟨1, (c_palimpmade_Picks v2), false⟩)]⟩⟩ ∧ M_made_Picks_Ptrs_l1 t1 n v1 v2 v3 = some r) fuel (Exists.intro 0 (Exists.intro t0 (Exists.intro ([] : List G_api_Ptr) (And.intro rfl h)))) ?_
  rintro n s ⟨v1, v2, v3, rfl, h⟩ -
  cases n with
  | zero => cases h
  | succ n1 =>
    unfold M_made_Picks_Ptrs_l1 at h
    refine awp_seq ?_
    refine awp_seq ?_
    refine awp_region ?_
    refine arun_do rfl rfl rfl (ex_move (eV (v := (I v1)) rfl)) ?_
    refine arun_do rfl rfl rfl (ex_move (eV (v := (I t1)) rfl)) ?_
    refine arun_do rfl rfl rfl (ex_bin (vx := (I v1)) (vy := (I t1)) rfl rfl lssI_ok) ?_
    refine arun_keepE [0, 1, 5, 6, 9] 0 2 (st' := ⟨18, 1, [(0, (NP 0 0)), (1, (I t1)), (5, (GV 1 v3.length)), (6, (I v1)), (9, (Bo (decide (v1 < t1))))], [], ⟨2, [(1, ⟨6, ((v3).flatMap c_api_Ptr), true⟩), (0, ⟨1, (c_palimpmade_Picks v2), false⟩)]⟩⟩) (by kernel_rfl) (by kernel_rfl) ?_
    show AWp _ _ _ _
    rcases Bool.eq_false_or_eq_true (decide (v1 < t1)) with hb4 | hb4
    · rw [condT hb4] at h
      refine awp_condT (boT hb4) ?_
      refine awp_skip ?_
      show AWp _ _ _ _
      refine awp_seq ?_
      refine awp_block ?_
      refine awp_region ?_
      refine arun_do rfl rfl rfl (ex_move (eV (v := (GV 1 v3.length)) rfl)) ?_
      refine arun_do rfl rfl rfl (ex_move (eV (v := (NP 0 0)) rfl)) ?_
      obtain ⟨x5, hx5, h⟩ := bindS h
      refine arun_do rfl rfl rfl (ex_call1 (vs := [(NP 0 0)]) (vs' := [(NP 0 0)]) (v := (Value.agg (c_api_Ptr x5.1).toArray)) (n := 0) (b := ⟨1, (c_palimpmade_Picks v2), false⟩) (b' := ⟨1, (c_palimpmade_Picks x5.2), false⟩) (H' := ⟨2, [(1, ⟨6, ((v3).flatMap c_api_Ptr), true⟩), (0, ⟨1, (c_palimpmade_Picks x5.2), false⟩)]⟩) rfl en_22 (cargs (evs rfl evs_nil)) rfl rfl (.cons (.inr ⟨_, rfl, rfl⟩) .nil) (ok_made_Picks_Ptr v2  x5 hx5) rfl rfl) ?_
      refine arun_do rfl rfl rfl (ex_buildSliceD (qs := [(0, (Value.agg (c_api_Ptr x5.1).toArray))]) (cells := (([x5.1] : List G_api_Ptr).flatMap c_api_Ptr)) Try.underlying29 s_26 (by decide) (evp rfl evp_nil) rfl (by kernel_rfl) (by kernel_rfl) (by kernel_rfl)) ?_
      obtain ⟨x6, hx6, h⟩ := bindS h
      refine arun_do rfl rfl rfl (tx_appG (c := c_api_Ptr) (xs := v3) (H' := ⟨2, [(1, ⟨6, ((x6).flatMap c_api_Ptr), true⟩), (0, ⟨1, (c_palimpmade_Picks x5.2), false⟩)]⟩) ce_api_Ptr e_26 rfl rfl rfl (tsrcD (ys := ([x5.1] : List G_api_Ptr)) ce_api_Ptr Try.underlying29 s_26 Try.underlying29 rfl) hx6 rfl) ?_
      refine arun_do rfl rfl rfl (ex_assign (eV (v := (GV 1 x6.length)) rfl)) ?_
      refine arun_keepE [0, 1, 5, 6] 0 2 (st' := ⟨18, 1, [(0, (NP 0 0)), (1, (I t1)), (5, (GV 1 x6.length)), (6, (I v1))], [], ⟨2, [(1, ⟨6, ((x6).flatMap c_api_Ptr), true⟩), (0, ⟨1, (c_palimpmade_Picks x5.2), false⟩)]⟩⟩) (by kernel_rfl) (by kernel_rfl) ?_
      show AWp _ _ _ _
      refine awp_region ?_
      refine arun_do rfl rfl rfl (ex_move (eV (v := (I v1)) rfl)) ?_
      refine arun_do rfl rfl rfl (ex_bin (vx := (I v1)) (vy := (I 1)) rfl rfl addI_ok) ?_
      refine arun_do rfl rfl rfl (ex_assign (eV (v := (I (w64 (v1 + 1)))) rfl)) ?_
      refine arun_keepE [0, 1, 5, 6] 0 2 (st' := ⟨18, 1, [(0, (NP 0 0)), (1, (I t1)), (5, (GV 1 x6.length)), (6, (I (w64 (v1 + 1))))], [], ⟨2, [(1, ⟨6, ((x6).flatMap c_api_Ptr), true⟩), (0, ⟨1, (c_palimpmade_Picks x5.2), false⟩)]⟩⟩) (by kernel_rfl) (by kernel_rfl) ?_
      exact Exists.intro n1 (And.intro (Nat.lt_succ_self _) (Exists.intro (w64 (v1 + 1)) (Exists.intro x5.2 (Exists.intro x6 (And.intro rfl h)))))
    · rw [condF hb4] at h
      refine awp_condF (boF hb4) ?_
      refine awp_exit ?_
      show AWp _ _ _ _
      refine awp_seq ?_
      refine awp_region ?_
      refine arun_do rfl rfl rfl (ex_move (eV (v := (GV 1 v3.length)) rfl)) ?_
      refine arun_do rfl rfl rfl (ex_assign (eV (v := (GV 1 v3.length)) rfl)) ?_
      refine arun_keepE [4] 0 2 (st' := ⟨18, 1, [(4, (GV 1 v3.length))], [], ⟨2, [(1, ⟨6, ((v3).flatMap c_api_Ptr), true⟩), (0, ⟨1, (c_palimpmade_Picks v2), false⟩)]⟩⟩) (by kernel_rfl) (by kernel_rfl) ?_
      show AWp _ _ _ _
      refine awp_freeze 1 (bk := ⟨6, ((v3).flatMap c_api_Ptr), true⟩) (T' := [(4, (SL 6 c_api_Ptr v3))]) (L' := []) rfl (fzG ce_api_Ptr rfl rfl FzT.nil) (FzL.refl _) ?_
      show AWp _ _ _ ⟨18, 1, [(4, (SL 6 c_api_Ptr v3))], [], ⟨2, [(0, ⟨1, (c_palimpmade_Picks v2), false⟩)]⟩⟩
      refine awp_ret ?_
      cases h
      exact And.intro (ares1 (rtmp rfl (eV rfl))) rfl

end Go.Proofs
