/- Pure models of functions of the program, and that its code does what they say: palimpref1 SameTexts, palimplaw11 NameAll. Written by a program. -/
import Derived.Test.YtlidaeklambcgaaDoorR110
import Derived.Test.YtlidaeklambcgaaDoorR111
import Derived.Test.YtlidaeklambcgaaDoorR112
import Derived.Test.YtlidaeklambcgaaDoorR11B
set_option maxRecDepth 20000
set_option maxHeartbeats 4000000
namespace Go.Proofs
open Go Go.Fhl
set_option linter.unusedVariables false
set_option linter.unusedSimpArgs false
noncomputable def M_ref1_SameTexts_l1 (t0 : (List Str)) (t1 : (List Str)) : Nat → Int → Option Bool
  | 0, _ => none
  | n1 + 1, v2 =>
  cond (decide (v2 < (t0.length : Int))) (Option.bind (getI t0 v2) fun (x4 : Str) => Option.bind (getI t1 v2) fun (x5 : Str) => cond (x4 != x5) (some false) ((M_ref1_SameTexts_l1 t0 t1 n1) (w64 (v2 + 1)))) (some true)
noncomputable def M_ref1_SameTexts (t0 : (List Str)) (t1 : (List Str)) : Option Bool :=
  cond ((t0.length : Int) != (t1.length : Int)) (some false) (M_ref1_SameTexts_l1 t0 t1 fuel 0)
theorem ok_ref1_SameTexts (t0 : (List Str)) (t1 : (List Str)) (r : Bool) (h : M_ref1_SameTexts t0 t1 = some r) : FFn Tryd.prog 12 [(SL 1 cS t0), (SL 1 cS t1)] (Bo r) := by
  refine FFn.of_body (n := 26) Tryd.func12 rfl Tryd.ntmps12 rfl rfl rfl rfl ?_
  show AWp _ _ _ ⟨26, 0, [(0, (SL 1 cS t0)), (1, (SL 1 cS t1))], [], ⟨0, []⟩⟩
  unfold M_ref1_SameTexts at h
  refine awp_seq ?_
  refine awp_region ?_
  refine arun_do rfl rfl rfl (ex_assign (eV (v := (Bo false)) rfl)) ?_
  refine arun_keepE [0, 1] 0 0 (st' := ⟨26, 0, [(0, (SL 1 cS t0)), (1, (SL 1 cS t1))], [], ⟨0, []⟩⟩) (by kernel_rfl) (by kernel_rfl) ?_
  show AWp _ _ _ _
  refine awp_seq ?_
  refine awp_seq ?_
  refine awp_region ?_
  refine arun_do rfl rfl rfl (ex_move (eV (v := (SL 1 cS t0)) rfl)) ?_
  refine arun_do rfl rfl rfl (tx_lenD (xs := t0) ceS Tryd.underlying27 rfl) ?_
  refine arun_do rfl rfl rfl (ex_move (eV (v := (SL 1 cS t1)) rfl)) ?_
  refine arun_do rfl rfl rfl (tx_lenD (xs := t1) ceS Tryd.underlying27 rfl) ?_
  refine arun_do rfl rfl rfl (ex_bin (vx := (I (t0.length : Int))) (vy := (I (t1.length : Int))) rfl rfl neqI_ok) ?_
  refine arun_keepE [0, 1, 10] 0 0 (st' := ⟨26, 0, [(0, (SL 1 cS t0)), (1, (SL 1 cS t1)), (10, (Bo ((t0.length : Int) != (t1.length : Int))))], [], ⟨0, []⟩⟩) (by kernel_rfl) (by kernel_rfl) ?_
  show AWp _ _ _ _
  rcases Bool.eq_false_or_eq_true ((t0.length : Int) != (t1.length : Int)) with hb1 | hb1
  · rw [condT hb1] at h
    refine awp_condT (boT hb1) ?_
    refine awp_seq ?_
    refine awp_region ?_
    refine arun_do rfl rfl rfl (ex_assign (eV (v := (Bo false)) rfl)) ?_
    refine arun_keepE [4] 0 0 (st' := ⟨26, 0, [(4, (Bo false))], [], ⟨0, []⟩⟩) (by kernel_rfl) (by kernel_rfl) ?_
    show AWp _ _ _ _
    refine awp_ret ?_
    cases h
    exact ares1 (rtmp rfl (eV rfl))
  · rw [condF hb1] at h
    refine awp_condF (boF hb1) ?_
    refine awp_skip ?_
    show AWp _ _ _ _
    refine awp_seq ?_
    refine awp_seq ?_
    refine awp_region ?_
    refine arun_do rfl rfl rfl (ex_assign (eV (v := (I 0)) rfl)) ?_
    refine arun_keepE [0, 1, 5] 0 0 (st' := ⟨26, 0, [(0, (SL 1 cS t0)), (1, (SL 1 cS t1)), (5, (I 0))], [], ⟨0, []⟩⟩) (by kernel_rfl) (by kernel_rfl) ?_
    show AWp _ _ _ _
    refine awp_block ?_
    refine awp_loop (fun n s => ∃ (v2 : Int), s = ⟨26, 0, [(0, (SL 1 cS t0)), (1, (SL 1 cS t1)), (5, (I v2))], [], ⟨0, []⟩⟩ ∧ M_ref1_SameTexts_l1 t0 t1 n v2 = some r) fuel (Exists.intro 0 (And.intro rfl h)) ?_
    rintro n s ⟨v2, rfl, h⟩ -
    cases n with
    | zero => cases h
    | succ n1 =>
      unfold M_ref1_SameTexts_l1 at h
      refine awp_seq ?_
      refine awp_seq ?_
      refine awp_region ?_
      refine arun_do rfl rfl rfl (ex_move (eV (v := (I v2)) rfl)) ?_
      refine arun_do rfl rfl rfl (ex_move (eV (v := (SL 1 cS t0)) rfl)) ?_
      refine arun_do rfl rfl rfl (tx_lenD (xs := t0) ceS Tryd.underlying27 rfl) ?_
      refine arun_do rfl rfl rfl (ex_bin (vx := (I v2)) (vy := (I (t0.length : Int))) rfl rfl lssI_ok) ?_
      refine arun_keepE [0, 1, 5, 14] 0 0 (st' := ⟨26, 0, [(0, (SL 1 cS t0)), (1, (SL 1 cS t1)), (5, (I v2)), (14, (Bo (decide (v2 < (t0.length : Int)))))], [], ⟨0, []⟩⟩) (by kernel_rfl) (by kernel_rfl) ?_
      show AWp _ _ _ _
      rcases Bool.eq_false_or_eq_true (decide (v2 < (t0.length : Int))) with hb3 | hb3
      · rw [condT hb3] at h
        refine awp_condT (boT hb3) ?_
        refine awp_skip ?_
        show AWp _ _ _ _
        refine awp_seq ?_
        refine awp_block ?_
        refine awp_seq ?_
        obtain ⟨x4, hx4, h⟩ := bindS h
        obtain ⟨x5, hx5, h⟩ := bindS h
        refine awp_kn [0, 1, 5, 25] 0 0 (st' := ⟨26, 0, [(0, (SL 1 cS t0)), (1, (SL 1 cS t1)), (5, (I v2)), (25, (Bo (x4 != x5)))], [], ⟨0, []⟩⟩) (awp_draw (T := [(SL 1 cS t0), (I v2), (DP (cS x4)), (S x4), (SL 1 cS t1), (I v2), (DP (cS x5)), (S x5), (Bo (x4 != x5))]) (LH := [([], ⟨0, []⟩)]) (D := [⟨[(0, none)], [], [0], false⟩, ⟨[(5, none)], [], [0], false⟩, ⟨[(17, some 0), (18, some 1)], [0, 1], [0], false⟩, ⟨[(19, some 2)], [0, 1, 2], [0], false⟩, ⟨[(1, none)], [], [0], false⟩, ⟨[(5, none)], [], [0], false⟩, ⟨[(21, some 4), (22, some 5)], [4, 5], [0], false⟩, ⟨[(23, some 6)], [4, 5, 6], [0], false⟩, ⟨[(20, some 3), (24, some 7)], [0, 1, 2, 3, 4, 5, 6, 7], [0], false⟩]) (S := []) (plan := [0, 1, 2, 3, 4, 5, 6, 7, 8]) mo (by kernel_rfl) rfl rfl rfl (dcons (dstep1 (Tm := [(0, (SL 1 cS t0))]) (L := []) (H := ⟨0, []⟩) rfl rfl rfl rfl rfl (astep_do rfl (ex_move (eV (v := (SL 1 cS t0)) rfl)))) (dcons (dstep1 (Tm := [(5, (I v2))]) (L := []) (H := ⟨0, []⟩) rfl rfl rfl rfl rfl (astep_do rfl (ex_move (eV (v := (I v2)) rfl)))) (dcons (dstep1 (Tm := [(17, (SL 1 cS t0)), (18, (I v2))]) (L := []) (H := ⟨0, []⟩) rfl rfl rfl rfl rfl (astep_do rfl (tx_idxD (c := cS) (xs := t0) (i := v2) ceS Tryd.underlying27 s_9 rfl rfl hx4))) (dcons (dstep1 (Tm := [(19, (DP (cS x4)))]) (L := []) (H := ⟨0, []⟩) rfl rfl rfl rfl rfl (astep_do rfl (tx_ldD1 (v := (S x4)) Tryd.underlying9 rfl rfl rfl))) (dcons (dstep1 (Tm := [(1, (SL 1 cS t1))]) (L := []) (H := ⟨0, []⟩) rfl rfl rfl rfl rfl (astep_do rfl (ex_move (eV (v := (SL 1 cS t1)) rfl)))) (dcons (dstep1 (Tm := [(5, (I v2))]) (L := []) (H := ⟨0, []⟩) rfl rfl rfl rfl rfl (astep_do rfl (ex_move (eV (v := (I v2)) rfl)))) (dcons (dstep1 (Tm := [(21, (SL 1 cS t1)), (22, (I v2))]) (L := []) (H := ⟨0, []⟩) rfl rfl rfl rfl rfl (astep_do rfl (tx_idxD (c := cS) (xs := t1) (i := v2) ceS Tryd.underlying27 s_9 rfl rfl hx5))) (dcons (dstep1 (Tm := [(23, (DP (cS x5)))]) (L := []) (H := ⟨0, []⟩) rfl rfl rfl rfl rfl (astep_do rfl (tx_ldD1 (v := (S x5)) Tryd.underlying9 rfl rfl rfl))) (dcons (dstep1 (Tm := [(20, (S x4)), (24, (S x5))]) (L := []) (H := ⟨0, []⟩) rfl rfl rfl rfl rfl (astep_do rfl (ex_bin (vx := (S x4)) (vy := (S x5)) rfl rfl neqS_ok))) dnil))))))))) ⟨rfl, rfl⟩) (by kernel_rfl) (by kernel_rfl) ?_
        show AWp _ _ _ _
        rcases Bool.eq_false_or_eq_true (x4 != x5) with hb6 | hb6
        · rw [condT hb6] at h
          refine awp_condT (boT hb6) ?_
          refine awp_seq ?_
          refine awp_region ?_
          refine arun_do rfl rfl rfl (ex_assign (eV (v := (Bo false)) rfl)) ?_
          refine arun_keepE [4] 0 0 (st' := ⟨26, 0, [(4, (Bo false))], [], ⟨0, []⟩⟩) (by kernel_rfl) (by kernel_rfl) ?_
          show AWp _ _ _ _
          refine awp_ret ?_
          cases h
          exact ares1 (rtmp rfl (eV rfl))
        · rw [condF hb6] at h
          refine awp_condF (boF hb6) ?_
          refine awp_skip ?_
          show AWp _ _ _ _
          refine awp_region ?_
          refine arun_do rfl rfl rfl (ex_move (eV (v := (I v2)) rfl)) ?_
          refine arun_do rfl rfl rfl (ex_bin (vx := (I v2)) (vy := (I 1)) rfl rfl addI_ok) ?_
          refine arun_do rfl rfl rfl (ex_assign (eV (v := (I (w64 (v2 + 1)))) rfl)) ?_
          refine arun_keepE [0, 1, 5] 0 0 (st' := ⟨26, 0, [(0, (SL 1 cS t0)), (1, (SL 1 cS t1)), (5, (I (w64 (v2 + 1))))], [], ⟨0, []⟩⟩) (by kernel_rfl) (by kernel_rfl) ?_
          exact Exists.intro n1 (And.intro (Nat.lt_succ_self _) (Exists.intro (w64 (v2 + 1)) (And.intro rfl h)))
      · rw [condF hb3] at h
        refine awp_condF (boF hb3) ?_
        refine awp_exit ?_
        show AWp _ _ _ _
        refine awp_seq ?_
        refine awp_region ?_
        refine arun_do rfl rfl rfl (ex_assign (eV (v := (Bo true)) rfl)) ?_
        refine arun_keepE [4] 0 0 (st' := ⟨26, 0, [(4, (Bo true))], [], ⟨0, []⟩⟩) (by kernel_rfl) (by kernel_rfl) ?_
        show AWp _ _ _ _
        refine awp_ret ?_
        cases h
        exact ares1 (rtmp rfl (eV rfl))

noncomputable def M_law11_NameAll_l1 (t0 : Str) (x5 : (Str × G_palimpmade_Picks)) (x9 : Str) (x10 : Str) (x11 : Str) (x12 : Str) (x13 : Str) : Nat → Int → Option Bool
  | 0, _ => none
  | n1 + 1, v14 =>
  cond (decide (v14 < (([t0, x5.1, x9, x10, x11, x12, x13] : List Str).length : Int))) (Option.bind (getI ([t0, x5.1, x9, x10, x11, x12, x13] : List Str) v14) fun (x16 : Str) => Option.bind (M_name_Parts x16) fun (x17 : ((List Str) × Bool)) => Option.bind (getI ([t0, x5.1, x9, x10, x11, x12, x13] : List Str) v14) fun (x18 : Str) => Option.bind (M_ref11_Parts x18) fun (x19 : ((List Str) × Bool)) => Option.bind (gd ((x17.2 != x19.2) == false) (M_ref1_SameTexts x17.1 x19.1)) fun (x20 : Bool) => Option.bind (gd (((x17.2 != x19.2) || (!x20)) == false) (getI ([t0, x5.1, x9, x10, x11, x12, x13] : List Str) v14)) fun (x21 : Str) => Option.bind (gd (((x17.2 != x19.2) || (!x20)) == false) (M_name_May x21)) fun (x22 : Bool) => Option.bind (gd (((x17.2 != x19.2) || (!x20)) == false) (getI ([t0, x5.1, x9, x10, x11, x12, x13] : List Str) v14)) fun (x23 : Str) => Option.bind (gd (((x17.2 != x19.2) || (!x20)) == false) (M_ref11_MayName x23)) fun (x24 : Bool) => cond (((x17.2 != x19.2) || (!x20)) || (x22 != x24)) (some false) ((M_law11_NameAll_l1 t0 x5 x9 x10 x11 x12 x13 n1) (w64 (v14 + 1)))) (some true)
noncomputable def M_law11_NameAll (t0 : Str) (t1 : (List UInt8)) : Option Bool :=
  Option.bind (M_law11_begun) fun (x1 : Bool) => cond (!x1) (some false) (cond ((decide ((t0.length : Int) > 80)) || (decide ((t1.length : Int) > 3))) (some true) (Option.bind (M_made_Made t1) fun (x4 : G_palimpmade_Picks) => Option.bind (M_made_Picks_Path x4 ) fun (x5 : (Str × G_palimpmade_Picks)) => Option.bind (M_made_Picks_Path x5.2 ) fun (x6 : (Str × G_palimpmade_Picks)) => Option.bind (addS x6.1 ([47] : Str)) fun (x7 : Str) => Option.bind (M_made_Picks_Path x6.2 ) fun (x8 : (Str × G_palimpmade_Picks)) => Option.bind (addS x7 x8.1) fun (x9 : Str) => Option.bind (addS t0 ([47, 97] : Str)) fun (x10 : Str) => Option.bind (addS ([97, 47] : Str) t0) fun (x11 : Str) => Option.bind (addS ([47] : Str) t0) fun (x12 : Str) => Option.bind (addS t0 ([47] : Str)) fun (x13 : Str) => M_law11_NameAll_l1 t0 x5 x9 x10 x11 x12 x13 fuel 0))
theorem ok_law11_NameAll (t0 : Str) (t1 : (List UInt8)) (r : Bool) (h : M_law11_NameAll t0 t1 = some r) : FFn Tryd.prog 3 [(S t0), (SL 1 c8 t1)] (Bo r) := by
  refine FFn.of_body (n := 86) Tryd.func3 rfl Tryd.ntmps3 rfl rfl rfl rfl ?_
  show AWp _ _ _ ⟨86, 0, [(0, (S t0)), (1, (SL 1 c8 t1))], [], ⟨0, []⟩⟩
  unfold M_law11_NameAll at h
  refine awp_seq ?_
  refine awp_region ?_
  refine arun_do rfl rfl rfl (ex_assign (eV (v := (Bo false)) rfl)) ?_
  refine arun_keepE [0, 1] 0 0 (st' := ⟨86, 0, [(0, (S t0)), (1, (SL 1 c8 t1))], [], ⟨0, []⟩⟩) (by kernel_rfl) (by kernel_rfl) ?_
  show AWp _ _ _ _
  refine awp_seq ?_
  refine awp_seq ?_
  refine awp_region ?_
  obtain ⟨x1, hx1, h⟩ := bindS h
  refine arun_do rfl rfl rfl (ex_call0 (vs := []) (v := (Bo x1)) rfl en_7 (cargs evs_nil) rfl (ok_law11_begun  x1 hx1) rfl) ?_
  refine arun_do rfl rfl rfl (ex_un (vx := (Bo x1)) rfl notB_ok) ?_
  refine arun_keepE [0, 1, 13] 0 0 (st' := ⟨86, 0, [(0, (S t0)), (1, (SL 1 c8 t1)), (13, (Bo (!x1)))], [], ⟨0, []⟩⟩) (by kernel_rfl) (by kernel_rfl) ?_
  show AWp _ _ _ _
  rcases Bool.eq_false_or_eq_true (!x1) with hb2 | hb2
  · rw [condT hb2] at h
    refine awp_condT (boT hb2) ?_
    refine awp_seq ?_
    refine awp_region ?_
    refine arun_do rfl rfl rfl (ex_assign (eV (v := (Bo false)) rfl)) ?_
    refine arun_keepE [4] 0 0 (st' := ⟨86, 0, [(4, (Bo false))], [], ⟨0, []⟩⟩) (by kernel_rfl) (by kernel_rfl) ?_
    show AWp _ _ _ _
    refine awp_ret ?_
    cases h
    exact ares1 (rtmp rfl (eV rfl))
  · rw [condF hb2] at h
    refine awp_condF (boF hb2) ?_
    refine awp_skip ?_
    show AWp _ _ _ _
    refine awp_seq ?_
    refine awp_seq ?_
    refine awp_region ?_
    refine arun_do rfl rfl rfl (ex_move (eV (v := (S t0)) rfl)) ?_
    refine arun_do rfl rfl rfl (tx_lenS Tryd.underlying9 rfl) ?_
    refine arun_do rfl rfl rfl (ex_bin (vx := (I (t0.length : Int))) (vy := (I 80)) rfl rfl gtrI_ok) ?_
    refine arun_do rfl rfl rfl (ex_move (eV (v := (Bo (decide ((t0.length : Int) > 80)))) rfl)) ?_
    refine arun_guard (v := (SL 1 c8 t1)) ((decide ((t0.length : Int) > 80)) == false) rfl rfl rfl (fun hc => ex_move (eV (v := (SL 1 c8 t1)) rfl)) ?_
    refine arun_guard (v := (I (t1.length : Int))) ((decide ((t0.length : Int) > 80)) == false) rfl rfl rfl (fun hc => tx_lenD (xs := t1) ce8 Tryd.underlying22 (cond_of hc)) ?_
    refine arun_guard (v := (Bo (decide ((t1.length : Int) > 3)))) ((decide ((t0.length : Int) > 80)) == false) rfl rfl rfl (fun hc => ex_bin (vx := (I (t1.length : Int))) (vy := (I 3)) (cond_of hc) rfl gtrI_ok) ?_
    refine arun_do rfl rfl rfl (ex_pick rfl pkOr) ?_
    refine arun_keepE [0, 1, 21] 0 0 (st' := ⟨86, 0, [(0, (S t0)), (1, (SL 1 c8 t1)), (21, (Bo ((decide ((t0.length : Int) > 80)) || (decide ((t1.length : Int) > 3)))))], [], ⟨0, []⟩⟩) (by kernel_rfl) (by kernel_rfl) ?_
    show AWp _ _ _ _
    rcases Bool.eq_false_or_eq_true ((decide ((t0.length : Int) > 80)) || (decide ((t1.length : Int) > 3))) with hb3 | hb3
    · rw [condT hb3] at h
      refine awp_condT (boT hb3) ?_
      refine awp_seq ?_
      refine awp_region ?_
      refine arun_do rfl rfl rfl (ex_assign (eV (v := (Bo true)) rfl)) ?_
      refine arun_keepE [4] 0 0 (st' := ⟨86, 0, [(4, (Bo true))], [], ⟨0, []⟩⟩) (by kernel_rfl) (by kernel_rfl) ?_
      show AWp _ _ _ _
      refine awp_ret ?_
      cases h
      exact ares1 (rtmp rfl (eV rfl))
    · rw [condF hb3] at h
      refine awp_condF (boF hb3) ?_
      refine awp_skip ?_
      show AWp _ _ _ _
      refine awp_seq ?_
      refine awp_region ?_
      refine arun_do rfl rfl rfl (ex_move (eV (v := (SL 1 c8 t1)) rfl)) ?_
      obtain ⟨x4, hx4, h⟩ := bindS h
      refine arun_do rfl rfl rfl (ex_callNew (vs := [(SL 1 c8 t1)]) (k := 0) (b := ⟨1, (c_palimpmade_Picks x4), false⟩) (H' := ⟨1, [(0, ⟨1, (c_palimpmade_Picks x4), false⟩)]⟩) rfl en_8 (cargs (evs rfl evs_nil)) rfl (ok_made_Made t1 x4 hx4) rfl rfl rfl) ?_
      refine arun_do rfl rfl rfl (ex_assign (eV (v := (NP 0 0)) rfl)) ?_
      refine arun_keepE [0, 5] 0 1 (st' := ⟨86, 0, [(0, (S t0)), (5, (NP 0 0))], [], ⟨1, [(0, ⟨1, (c_palimpmade_Picks x4), false⟩)]⟩⟩) (by kernel_rfl) (by kernel_rfl) ?_
      show AWp _ _ _ _
      refine awp_seq ?_
      refine awp_region ?_
      refine arun_do rfl rfl rfl (ex_move (eV (v := (S t0)) rfl)) ?_
      refine arun_do rfl rfl rfl (ex_move (eV (v := (NP 0 0)) rfl)) ?_
      obtain ⟨x5, hx5, h⟩ := bindS h
      refine arun_do rfl rfl rfl (ex_call1 (vs := [(NP 0 0)]) (vs' := [(NP 0 0)]) (v := (S x5.1)) (n := 0) (b := ⟨1, (c_palimpmade_Picks x4), false⟩) (b' := ⟨1, (c_palimpmade_Picks x5.2), false⟩) (H' := ⟨1, [(0, ⟨1, (c_palimpmade_Picks x5.2), false⟩)]⟩) rfl en_9 (cargs (evs rfl evs_nil)) rfl rfl (.cons (.inr ⟨_, rfl, rfl⟩) .nil) (ok_made_Picks_Path x4  x5 hx5) rfl rfl) ?_
      refine arun_do rfl rfl rfl (ex_move (eV (v := (NP 0 0)) rfl)) ?_
      obtain ⟨x6, hx6, h⟩ := bindS h
      refine arun_do rfl rfl rfl (ex_call1 (vs := [(NP 0 0)]) (vs' := [(NP 0 0)]) (v := (S x6.1)) (n := 0) (b := ⟨1, (c_palimpmade_Picks x5.2), false⟩) (b' := ⟨1, (c_palimpmade_Picks x6.2), false⟩) (H' := ⟨1, [(0, ⟨1, (c_palimpmade_Picks x6.2), false⟩)]⟩) rfl en_9 (cargs (evs rfl evs_nil)) rfl rfl (.cons (.inr ⟨_, rfl, rfl⟩) .nil) (ok_made_Picks_Path x5.2  x6 hx6) rfl rfl) ?_
      obtain ⟨x7, hx7, h⟩ := bindS h
      refine arun_do rfl rfl rfl (ex_bin (vx := (S x6.1)) (vy := (S ([47] : Str))) rfl rfl (addS_ok hx7)) ?_
      refine arun_do rfl rfl rfl (ex_move (eV (v := (NP 0 0)) rfl)) ?_
      obtain ⟨x8, hx8, h⟩ := bindS h
      refine arun_do rfl rfl rfl (ex_call1 (vs := [(NP 0 0)]) (vs' := [(NP 0 0)]) (v := (S x8.1)) (n := 0) (b := ⟨1, (c_palimpmade_Picks x6.2), false⟩) (b' := ⟨1, (c_palimpmade_Picks x8.2), false⟩) (H' := ⟨1, [(0, ⟨1, (c_palimpmade_Picks x8.2), false⟩)]⟩) rfl en_9 (cargs (evs rfl evs_nil)) rfl rfl (.cons (.inr ⟨_, rfl, rfl⟩) .nil) (ok_made_Picks_Path x6.2  x8 hx8) rfl rfl) ?_
      obtain ⟨x9, hx9, h⟩ := bindS h
      refine arun_do rfl rfl rfl (ex_bin (vx := (S x7)) (vy := (S x8.1)) rfl rfl (addS_ok hx9)) ?_
      refine arun_do rfl rfl rfl (ex_move (eV (v := (S t0)) rfl)) ?_
      obtain ⟨x10, hx10, h⟩ := bindS h
      refine arun_do rfl rfl rfl (ex_bin (vx := (S t0)) (vy := (S ([47, 97] : Str))) rfl rfl (addS_ok hx10)) ?_
      refine arun_do rfl rfl rfl (ex_move (eV (v := (S t0)) rfl)) ?_
      obtain ⟨x11, hx11, h⟩ := bindS h
      refine arun_do rfl rfl rfl (ex_bin (vx := (S ([97, 47] : Str))) (vy := (S t0)) rfl rfl (addS_ok hx11)) ?_
      refine arun_do rfl rfl rfl (ex_move (eV (v := (S t0)) rfl)) ?_
      obtain ⟨x12, hx12, h⟩ := bindS h
      refine arun_do rfl rfl rfl (ex_bin (vx := (S ([47] : Str))) (vy := (S t0)) rfl rfl (addS_ok hx12)) ?_
      refine arun_do rfl rfl rfl (ex_move (eV (v := (S t0)) rfl)) ?_
      obtain ⟨x13, hx13, h⟩ := bindS h
      refine arun_do rfl rfl rfl (ex_bin (vx := (S t0)) (vy := (S ([47] : Str))) rfl rfl (addS_ok hx13)) ?_
      refine arun_do rfl rfl rfl (ex_buildSliceD (qs := [(0, (S t0)), (1, (S x5.1)), (2, (S x9)), (3, (S x10)), (4, (S x11)), (5, (S x12)), (6, (S x13))]) (cells := (([t0, x5.1, x9, x10, x11, x12, x13] : List Str).flatMap cS)) Tryd.underlying27 s_9 (by decide) (evp rfl (evp rfl (evp rfl (evp rfl (evp rfl (evp rfl (evp rfl evp_nil))))))) rfl (by kernel_rfl) (by kernel_rfl) (by kernel_rfl)) ?_
      refine arun_do rfl rfl rfl (ex_assign (eV (v := (SL 1 cS ([t0, x5.1, x9, x10, x11, x12, x13] : List Str))) rfl)) ?_
      refine arun_keepE [6] 0 0 (st' := ⟨86, 0, [(6, (SL 1 cS ([t0, x5.1, x9, x10, x11, x12, x13] : List Str)))], [], ⟨0, []⟩⟩) (by kernel_rfl) (by kernel_rfl) ?_
      show AWp _ _ _ _
      refine awp_seq ?_
      refine awp_seq ?_
      refine awp_region ?_
      refine arun_do rfl rfl rfl (ex_assign (eV (v := (I 0)) rfl)) ?_
      refine arun_keepE [6, 7] 0 0 (st' := ⟨86, 0, [(6, (SL 1 cS ([t0, x5.1, x9, x10, x11, x12, x13] : List Str))), (7, (I 0))], [], ⟨0, []⟩⟩) (by kernel_rfl) (by kernel_rfl) ?_
      show AWp _ _ _ _
      refine awp_block ?_
      refine awp_loop (fun n s => ∃ (v14 : Int), s = ⟨86, 0, [(6, (SL 1 cS ([t0, x5.1, x9, x10, x11, x12, x13] : List Str))), (7, (I v14))], [], ⟨0, []⟩⟩ ∧ M_law11_NameAll_l1 t0 x5 x9 x10 x11 x12 x13 n v14 = some r) fuel (Exists.intro 0 (And.intro rfl h)) ?_
      rintro n s ⟨v14, rfl, h⟩ -
      cases n with
      | zero => cases h
      | succ n1 =>
        unfold M_law11_NameAll_l1 at h
        refine awp_seq ?_
        refine awp_seq ?_
        refine awp_region ?_
        refine arun_do rfl rfl rfl (ex_move (eV (v := (I v14)) rfl)) ?_
        refine arun_do rfl rfl rfl (ex_move (eV (v := (SL 1 cS ([t0, x5.1, x9, x10, x11, x12, x13] : List Str))) rfl)) ?_
        refine arun_do rfl rfl rfl (tx_lenD (xs := ([t0, x5.1, x9, x10, x11, x12, x13] : List Str)) ceS Tryd.underlying27 rfl) ?_
        refine arun_do rfl rfl rfl (ex_bin (vx := (I v14)) (vy := (I (([t0, x5.1, x9, x10, x11, x12, x13] : List Str).length : Int))) rfl rfl lssI_ok) ?_
        refine arun_keepE [6, 7, 45] 0 0 (st' := ⟨86, 0, [(6, (SL 1 cS ([t0, x5.1, x9, x10, x11, x12, x13] : List Str))), (7, (I v14)), (45, (Bo (decide (v14 < (([t0, x5.1, x9, x10, x11, x12, x13] : List Str).length : Int)))))], [], ⟨0, []⟩⟩) (by kernel_rfl) (by kernel_rfl) ?_
        show AWp _ _ _ _
        rcases Bool.eq_false_or_eq_true (decide (v14 < (([t0, x5.1, x9, x10, x11, x12, x13] : List Str).length : Int))) with hb15 | hb15
        · rw [condT hb15] at h
          refine awp_condT (boT hb15) ?_
          refine awp_skip ?_
          show AWp _ _ _ _
          refine awp_seq ?_
          refine awp_block ?_
          refine awp_seq ?_
          refine awp_region ?_
          refine arun_do rfl rfl rfl (ex_move (eV (v := (SL 1 cS ([t0, x5.1, x9, x10, x11, x12, x13] : List Str))) rfl)) ?_
          refine arun_do rfl rfl rfl (ex_move (eV (v := (I v14)) rfl)) ?_
          obtain ⟨x16, hx16, h⟩ := bindS h
          refine arun_do rfl rfl rfl (tx_idxD (c := cS) (xs := ([t0, x5.1, x9, x10, x11, x12, x13] : List Str)) (i := v14) ceS Tryd.underlying27 s_9 rfl rfl hx16) ?_
          refine arun_do rfl rfl rfl (tx_ldD1 (v := (S x16)) Tryd.underlying9 rfl rfl rfl) ?_
          obtain ⟨x17, hx17, h⟩ := bindS h
          refine arun_do rfl rfl rfl (ex_call0 (vs := [(S x16)]) (v := (Value.tuple #[(SL 1 cS x17.1), (Bo x17.2)])) rfl en_10 (cargs (evs rfl evs_nil)) rfl (ok_name_Parts x16 x17 hx17) rfl) ?_
          refine arun_do rfl rfl rfl (ex_move (eV (v := (Value.tuple #[(SL 1 cS x17.1), (Bo x17.2)])) rfl)) ?_
          refine arun_do rfl rfl rfl (ex_extract (vx := (Value.tuple #[(SL 1 cS x17.1), (Bo x17.2)])) (v := (SL 1 cS x17.1)) rfl rfl) ?_
          refine arun_do rfl rfl rfl (ex_extract (vx := (Value.tuple #[(SL 1 cS x17.1), (Bo x17.2)])) (v := (Bo x17.2)) rfl rfl) ?_
          refine arun_do rfl rfl rfl (ex_assign (eV (v := (SL 1 cS x17.1)) rfl)) ?_
          refine arun_do rfl rfl rfl (ex_assign (eV (v := (Bo x17.2)) rfl)) ?_
          refine arun_keepE [6, 7, 8, 9] 0 0 (st' := ⟨86, 0, [(6, (SL 1 cS ([t0, x5.1, x9, x10, x11, x12, x13] : List Str))), (7, (I v14)), (8, (SL 1 cS x17.1)), (9, (Bo x17.2))], [], ⟨0, []⟩⟩) (by kernel_rfl) (by kernel_rfl) ?_
          show AWp _ _ _ _
          refine awp_seq ?_
          refine awp_region ?_
          refine arun_do rfl rfl rfl (ex_move (eV (v := (SL 1 cS ([t0, x5.1, x9, x10, x11, x12, x13] : List Str))) rfl)) ?_
          refine arun_do rfl rfl rfl (ex_move (eV (v := (I v14)) rfl)) ?_
          obtain ⟨x18, hx18, h⟩ := bindS h
          refine arun_do rfl rfl rfl (tx_idxD (c := cS) (xs := ([t0, x5.1, x9, x10, x11, x12, x13] : List Str)) (i := v14) ceS Tryd.underlying27 s_9 rfl rfl hx18) ?_
          refine arun_do rfl rfl rfl (tx_ldD1 (v := (S x18)) Tryd.underlying9 rfl rfl rfl) ?_
          obtain ⟨x19, hx19, h⟩ := bindS h
          refine arun_do rfl rfl rfl (ex_call0 (vs := [(S x18)]) (v := (Value.tuple #[(SL 1 cS x19.1), (Bo x19.2)])) rfl en_11 (cargs (evs rfl evs_nil)) rfl (ok_ref11_Parts x18 x19 hx19) rfl) ?_
          refine arun_do rfl rfl rfl (ex_move (eV (v := (Value.tuple #[(SL 1 cS x19.1), (Bo x19.2)])) rfl)) ?_
          refine arun_do rfl rfl rfl (ex_extract (vx := (Value.tuple #[(SL 1 cS x19.1), (Bo x19.2)])) (v := (SL 1 cS x19.1)) rfl rfl) ?_
          refine arun_do rfl rfl rfl (ex_extract (vx := (Value.tuple #[(SL 1 cS x19.1), (Bo x19.2)])) (v := (Bo x19.2)) rfl rfl) ?_
          refine arun_do rfl rfl rfl (ex_assign (eV (v := (SL 1 cS x19.1)) rfl)) ?_
          refine arun_do rfl rfl rfl (ex_assign (eV (v := (Bo x19.2)) rfl)) ?_
          refine arun_keepE [6, 7, 8, 9, 10, 11] 0 0 (st' := ⟨86, 0, [(6, (SL 1 cS ([t0, x5.1, x9, x10, x11, x12, x13] : List Str))), (7, (I v14)), (8, (SL 1 cS x17.1)), (9, (Bo x17.2)), (10, (SL 1 cS x19.1)), (11, (Bo x19.2))], [], ⟨0, []⟩⟩) (by kernel_rfl) (by kernel_rfl) ?_
          show AWp _ _ _ _
          refine awp_seq ?_
          obtain ⟨x20, hx20, h⟩ := bindS h
          obtain ⟨x21, hx21, h⟩ := bindS h
          obtain ⟨x22, hx22, h⟩ := bindS h
          obtain ⟨x23, hx23, h⟩ := bindS h
          obtain ⟨x24, hx24, h⟩ := bindS h
          refine awp_kn [6, 7, 85] 0 0 (st' := ⟨86, 0, [(6, (SL 1 cS ([t0, x5.1, x9, x10, x11, x12, x13] : List Str))), (7, (I v14)), (85, (Bo (((x17.2 != x19.2) || (!x20)) || (x22 != x24))))], [], ⟨0, []⟩⟩) (awp_draw (T := [(Bo x17.2), (Bo x19.2), (Bo (x17.2 != x19.2)), (Bo (x17.2 != x19.2)), (cond ((x17.2 != x19.2) == false) (SL 1 cS x17.1) skipV), (cond ((x17.2 != x19.2) == false) (SL 1 cS x19.1) skipV), (cond ((x17.2 != x19.2) == false) (Bo x20) skipV), (cond ((x17.2 != x19.2) == false) (Bo (!x20)) skipV), (Bo ((x17.2 != x19.2) || (!x20))), (Bo ((x17.2 != x19.2) || (!x20))), (cond (((x17.2 != x19.2) || (!x20)) == false) (SL 1 cS ([t0, x5.1, x9, x10, x11, x12, x13] : List Str)) skipV), (cond (((x17.2 != x19.2) || (!x20)) == false) (I v14) skipV), (cond (((x17.2 != x19.2) || (!x20)) == false) (DP (cS x21)) skipV), (cond (((x17.2 != x19.2) || (!x20)) == false) (S x21) skipV), (cond (((x17.2 != x19.2) || (!x20)) == false) (Bo x22) skipV), (cond (((x17.2 != x19.2) || (!x20)) == false) (SL 1 cS ([t0, x5.1, x9, x10, x11, x12, x13] : List Str)) skipV), (cond (((x17.2 != x19.2) || (!x20)) == false) (I v14) skipV), (cond (((x17.2 != x19.2) || (!x20)) == false) (DP (cS x23)) skipV), (cond (((x17.2 != x19.2) || (!x20)) == false) (S x23) skipV), (cond (((x17.2 != x19.2) || (!x20)) == false) (Bo x24) skipV), (cond (((x17.2 != x19.2) || (!x20)) == false) (Bo (x22 != x24)) skipV), (Bo (((x17.2 != x19.2) || (!x20)) || (x22 != x24)))]) (LH := [([], ⟨0, []⟩)]) (D := [⟨[(9, none)], [], [0], false⟩, ⟨[(11, none)], [], [0], false⟩, ⟨[(64, some 0), (65, some 1)], [0, 1], [0], false⟩, ⟨[(66, some 2)], [0, 1, 2], [0], false⟩, ⟨[(8, none), (67, some 3)], [0, 1, 2, 3], [0], false⟩, ⟨[(10, none), (67, some 3)], [0, 1, 2, 3], [0], false⟩, ⟨[(68, some 4), (69, some 5), (67, some 3)], [0, 1, 2, 3, 4, 5], [0], false⟩, ⟨[(70, some 6), (67, some 3)], [0, 1, 2, 3, 4, 5, 6], [0], false⟩, ⟨[(67, some 3), (71, some 7)], [0, 1, 2, 3, 4, 5, 6, 7], [0], false⟩, ⟨[(72, some 8)], [0, 1, 2, 3, 4, 5, 6, 7, 8], [0], false⟩, ⟨[(6, none), (73, some 9)], [0, 1, 2, 3, 4, 5, 6, 7, 8, 9], [0], false⟩, ⟨[(7, none), (73, some 9)], [0, 1, 2, 3, 4, 5, 6, 7, 8, 9], [0], false⟩, ⟨[(74, some 10), (75, some 11), (73, some 9)], [0, 1, 2, 3, 4, 5, 6, 7, 8, 9, 10, 11], [0], false⟩, ⟨[(76, some 12), (73, some 9)], [0, 1, 2, 3, 4, 5, 6, 7, 8, 9, 10, 11, 12], [0], false⟩, ⟨[(77, some 13), (73, some 9)], [0, 1, 2, 3, 4, 5, 6, 7, 8, 9, 10, 11, 12, 13], [0], false⟩, ⟨[(6, none), (73, some 9)], [0, 1, 2, 3, 4, 5, 6, 7, 8, 9], [0], false⟩, ⟨[(7, none), (73, some 9)], [0, 1, 2, 3, 4, 5, 6, 7, 8, 9], [0], false⟩, ⟨[(79, some 15), (80, some 16), (73, some 9)], [0, 1, 2, 3, 4, 5, 6, 7, 8, 9, 15, 16], [0], false⟩, ⟨[(81, some 17), (73, some 9)], [0, 1, 2, 3, 4, 5, 6, 7, 8, 9, 15, 16, 17], [0], false⟩, ⟨[(82, some 18), (73, some 9)], [0, 1, 2, 3, 4, 5, 6, 7, 8, 9, 10, 11, 12, 13, 14, 15, 16, 17, 18], [0], false⟩, ⟨[(78, some 14), (83, some 19), (73, some 9)], [0, 1, 2, 3, 4, 5, 6, 7, 8, 9, 10, 11, 12, 13, 14, 15, 16, 17, 18, 19], [0], false⟩, ⟨[(73, some 9), (84, some 20)], [0, 1, 2, 3, 4, 5, 6, 7, 8, 9, 10, 11, 12, 13, 14, 15, 16, 17, 18, 19, 20], [0], false⟩]) (S := []) (plan := [0, 1, 2, 3, 4, 5, 6, 7, 8, 9, 10, 11, 12, 13, 14, 15, 16, 17, 18, 19, 20, 21]) mo (by kernel_rfl) rfl rfl rfl (dcons (dstep1 (Tm := [(9, (Bo x17.2))]) (L := []) (H := ⟨0, []⟩) rfl rfl rfl rfl rfl (astep_do rfl (ex_move (eV (v := (Bo x17.2)) rfl)))) (dcons (dstep1 (Tm := [(11, (Bo x19.2))]) (L := []) (H := ⟨0, []⟩) rfl rfl rfl rfl rfl (astep_do rfl (ex_move (eV (v := (Bo x19.2)) rfl)))) (dcons (dstep1 (Tm := [(64, (Bo x17.2)), (65, (Bo x19.2))]) (L := []) (H := ⟨0, []⟩) rfl rfl rfl rfl rfl (astep_do rfl (ex_bin (vx := (Bo x17.2)) (vy := (Bo x19.2)) rfl rfl (neqB_ok Tryd.underlying4)))) (dcons (dstep1 (Tm := [(66, (Bo (x17.2 != x19.2)))]) (L := []) (H := ⟨0, []⟩) rfl rfl rfl rfl rfl (astep_do rfl (ex_move (eV (v := (Bo (x17.2 != x19.2))) rfl)))) (dcons (dstep1 (Tm := [(8, (SL 1 cS x17.1)), (67, (Bo (x17.2 != x19.2)))]) (L := []) (H := ⟨0, []⟩) rfl rfl rfl rfl rfl (astep_guard (v := (SL 1 cS x17.1)) ((x17.2 != x19.2) == false) rfl (fun hc => ex_move (eV (v := (SL 1 cS x17.1)) rfl)))) (dcons (dstep1 (Tm := [(10, (SL 1 cS x19.1)), (67, (Bo (x17.2 != x19.2)))]) (L := []) (H := ⟨0, []⟩) rfl rfl rfl rfl rfl (astep_guard (v := (SL 1 cS x19.1)) ((x17.2 != x19.2) == false) rfl (fun hc => ex_move (eV (v := (SL 1 cS x19.1)) rfl)))) (dcons (dstep1 (Tm := [(68, (cond ((x17.2 != x19.2) == false) (SL 1 cS x17.1) skipV)), (69, (cond ((x17.2 != x19.2) == false) (SL 1 cS x19.1) skipV)), (67, (Bo (x17.2 != x19.2)))]) (L := []) (H := ⟨0, []⟩) rfl rfl rfl rfl rfl (astep_guard (v := (Bo x20)) ((x17.2 != x19.2) == false) rfl (fun hc => ex_call0 (vs := [(SL 1 cS x17.1), (SL 1 cS x19.1)]) (v := (Bo x20)) rfl en_12 (cargs (evs (cond_of hc) (evs (cond_of hc) evs_nil))) rfl (ok_ref1_SameTexts x17.1 x19.1 x20 (gd_of hc hx20)) rfl))) (dcons (dstep1 (Tm := [(70, (cond ((x17.2 != x19.2) == false) (Bo x20) skipV)), (67, (Bo (x17.2 != x19.2)))]) (L := []) (H := ⟨0, []⟩) rfl rfl rfl rfl rfl (astep_guard (v := (Bo (!x20))) ((x17.2 != x19.2) == false) rfl (fun hc => ex_un (vx := (Bo x20)) (cond_of hc) notB_ok))) (dcons (dstep1 (Tm := [(67, (Bo (x17.2 != x19.2))), (71, (cond ((x17.2 != x19.2) == false) (Bo (!x20)) skipV))]) (L := []) (H := ⟨0, []⟩) rfl rfl rfl rfl rfl (astep_do rfl (ex_pick rfl pkOr))) (dcons (dstep1 (Tm := [(72, (Bo ((x17.2 != x19.2) || (!x20))))]) (L := []) (H := ⟨0, []⟩) rfl rfl rfl rfl rfl (astep_do rfl (ex_move (eV (v := (Bo ((x17.2 != x19.2) || (!x20)))) rfl)))) (dcons (dstep1 (Tm := [(6, (SL 1 cS ([t0, x5.1, x9, x10, x11, x12, x13] : List Str))), (73, (Bo ((x17.2 != x19.2) || (!x20))))]) (L := []) (H := ⟨0, []⟩) rfl rfl rfl rfl rfl (astep_guard (v := (SL 1 cS ([t0, x5.1, x9, x10, x11, x12, x13] : List Str))) (((x17.2 != x19.2) || (!x20)) == false) rfl (fun hc => ex_move (eV (v := (SL 1 cS ([t0, x5.1, x9, x10, x11, x12, x13] : List Str))) rfl)))) (dcons (dstep1 (Tm := [(7, (I v14)), (73, (Bo ((x17.2 != x19.2) || (!x20))))]) (L := []) (H := ⟨0, []⟩) rfl rfl rfl rfl rfl (astep_guard (v := (I v14)) (((x17.2 != x19.2) || (!x20)) == false) rfl (fun hc => ex_move (eV (v := (I v14)) rfl)))) (dcons (dstep1 (Tm := [(74, (cond (((x17.2 != x19.2) || (!x20)) == false) (SL 1 cS ([t0, x5.1, x9, x10, x11, x12, x13] : List Str)) skipV)), (75, (cond (((x17.2 != x19.2) || (!x20)) == false) (I v14) skipV)), (73, (Bo ((x17.2 != x19.2) || (!x20))))]) (L := []) (H := ⟨0, []⟩) rfl rfl rfl rfl rfl (astep_guard (v := (DP (cS x21))) (((x17.2 != x19.2) || (!x20)) == false) rfl (fun hc => tx_idxD (c := cS) (xs := ([t0, x5.1, x9, x10, x11, x12, x13] : List Str)) (i := v14) ceS Tryd.underlying27 s_9 (cond_of hc) (cond_of hc) (gd_of hc hx21)))) (dcons (dstep1 (Tm := [(76, (cond (((x17.2 != x19.2) || (!x20)) == false) (DP (cS x21)) skipV)), (73, (Bo ((x17.2 != x19.2) || (!x20))))]) (L := []) (H := ⟨0, []⟩) rfl rfl rfl rfl rfl (astep_guard (v := (S x21)) (((x17.2 != x19.2) || (!x20)) == false) rfl (fun hc => tx_ldD1 (v := (S x21)) Tryd.underlying9 rfl (cond_of hc) rfl))) (dcons (dstep1 (Tm := [(77, (cond (((x17.2 != x19.2) || (!x20)) == false) (S x21) skipV)), (73, (Bo ((x17.2 != x19.2) || (!x20))))]) (L := []) (H := ⟨0, []⟩) rfl rfl rfl rfl rfl (astep_guard (v := (Bo x22)) (((x17.2 != x19.2) || (!x20)) == false) rfl (fun hc => ex_call0 (vs := [(S x21)]) (v := (Bo x22)) rfl en_13 (cargs (evs (cond_of hc) evs_nil)) rfl (ok_name_May x21 x22 (gd_of hc hx22)) rfl))) (dcons (dstep1 (Tm := [(6, (SL 1 cS ([t0, x5.1, x9, x10, x11, x12, x13] : List Str))), (73, (Bo ((x17.2 != x19.2) || (!x20))))]) (L := []) (H := ⟨0, []⟩) rfl rfl rfl rfl rfl (astep_guard (v := (SL 1 cS ([t0, x5.1, x9, x10, x11, x12, x13] : List Str))) (((x17.2 != x19.2) || (!x20)) == false) rfl (fun hc => ex_move (eV (v := (SL 1 cS ([t0, x5.1, x9, x10, x11, x12, x13] : List Str))) rfl)))) (dcons (dstep1 (Tm := [(7, (I v14)), (73, (Bo ((x17.2 != x19.2) || (!x20))))]) (L := []) (H := ⟨0, []⟩) rfl rfl rfl rfl rfl (astep_guard (v := (I v14)) (((x17.2 != x19.2) || (!x20)) == false) rfl (fun hc => ex_move (eV (v := (I v14)) rfl)))) (dcons (dstep1 (Tm := [(79, (cond (((x17.2 != x19.2) || (!x20)) == false) (SL 1 cS ([t0, x5.1, x9, x10, x11, x12, x13] : List Str)) skipV)), (80, (cond (((x17.2 != x19.2) || (!x20)) == false) (I v14) skipV)), (73, (Bo ((x17.2 != x19.2) || (!x20))))]) (L := []) (H := ⟨0, []⟩) rfl rfl rfl rfl rfl (astep_guard (v := (DP (cS x23))) (((x17.2 != x19.2) || (!x20)) == false) rfl (fun hc => tx_idxD (c := cS) (xs := ([t0, x5.1, x9, x10, x11, x12, x13] : List Str)) (i := v14) ceS Tryd.underlying27 s_9 (cond_of hc) (cond_of hc) (gd_of hc hx23)))) (dcons (dstep1 (Tm := [(81, (cond (((x17.2 != x19.2) || (!x20)) == false) (DP (cS x23)) skipV)), (73, (Bo ((x17.2 != x19.2) || (!x20))))]) (L := []) (H := ⟨0, []⟩) rfl rfl rfl rfl rfl (astep_guard (v := (S x23)) (((x17.2 != x19.2) || (!x20)) == false) rfl (fun hc => tx_ldD1 (v := (S x23)) Tryd.underlying9 rfl (cond_of hc) rfl))) (dcons (dstep1 (Tm := [(82, (cond (((x17.2 != x19.2) || (!x20)) == false) (S x23) skipV)), (73, (Bo ((x17.2 != x19.2) || (!x20))))]) (L := []) (H := ⟨0, []⟩) rfl rfl rfl rfl rfl (astep_guard (v := (Bo x24)) (((x17.2 != x19.2) || (!x20)) == false) rfl (fun hc => ex_call0 (vs := [(S x23)]) (v := (Bo x24)) rfl en_14 (cargs (evs (cond_of hc) evs_nil)) rfl (ok_ref11_MayName x23 x24 (gd_of hc hx24)) rfl))) (dcons (dstep1 (Tm := [(78, (cond (((x17.2 != x19.2) || (!x20)) == false) (Bo x22) skipV)), (83, (cond (((x17.2 != x19.2) || (!x20)) == false) (Bo x24) skipV)), (73, (Bo ((x17.2 != x19.2) || (!x20))))]) (L := []) (H := ⟨0, []⟩) rfl rfl rfl rfl rfl (astep_guard (v := (Bo (x22 != x24))) (((x17.2 != x19.2) || (!x20)) == false) rfl (fun hc => ex_bin (vx := (Bo x22)) (vy := (Bo x24)) (cond_of hc) (cond_of hc) (neqB_ok Tryd.underlying4)))) (dcons (dstep1 (Tm := [(73, (Bo ((x17.2 != x19.2) || (!x20)))), (84, (cond (((x17.2 != x19.2) || (!x20)) == false) (Bo (x22 != x24)) skipV))]) (L := []) (H := ⟨0, []⟩) rfl rfl rfl rfl rfl (astep_do rfl (ex_pick rfl pkOr))) dnil)))))))))))))))))))))) ⟨rfl, rfl⟩) (by kernel_rfl) (by kernel_rfl) ?_
          show AWp _ _ _ _
          rcases Bool.eq_false_or_eq_true (((x17.2 != x19.2) || (!x20)) || (x22 != x24)) with hb25 | hb25
          · rw [condT hb25] at h
            refine awp_condT (boT hb25) ?_
            refine awp_seq ?_
            refine awp_region ?_
            refine arun_do rfl rfl rfl (ex_assign (eV (v := (Bo false)) rfl)) ?_
            refine arun_keepE [4] 0 0 (st' := ⟨86, 0, [(4, (Bo false))], [], ⟨0, []⟩⟩) (by kernel_rfl) (by kernel_rfl) ?_
            show AWp _ _ _ _
            refine awp_ret ?_
            cases h
            exact ares1 (rtmp rfl (eV rfl))
          · rw [condF hb25] at h
            refine awp_condF (boF hb25) ?_
            refine awp_skip ?_
            show AWp _ _ _ _
            refine awp_region ?_
            refine arun_do rfl rfl rfl (ex_move (eV (v := (I v14)) rfl)) ?_
            refine arun_do rfl rfl rfl (ex_bin (vx := (I v14)) (vy := (I 1)) rfl rfl addI_ok) ?_
            refine arun_do rfl rfl rfl (ex_assign (eV (v := (I (w64 (v14 + 1)))) rfl)) ?_
            refine arun_keepE [6, 7] 0 0 (st' := ⟨86, 0, [(6, (SL 1 cS ([t0, x5.1, x9, x10, x11, x12, x13] : List Str))), (7, (I (w64 (v14 + 1))))], [], ⟨0, []⟩⟩) (by kernel_rfl) (by kernel_rfl) ?_
            exact Exists.intro n1 (And.intro (Nat.lt_succ_self _) (Exists.intro (w64 (v14 + 1)) (And.intro rfl h)))
        · rw [condF hb15] at h
          refine awp_condF (boF hb15) ?_
          refine awp_exit ?_
          show AWp _ _ _ _
          refine awp_seq ?_
          refine awp_region ?_
          refine arun_do rfl rfl rfl (ex_assign (eV (v := (Bo true)) rfl)) ?_
          refine arun_keepE [4] 0 0 (st' := ⟨86, 0, [(4, (Bo true))], [], ⟨0, []⟩⟩) (by kernel_rfl) (by kernel_rfl) ?_
          show AWp _ _ _ _
          refine awp_ret ?_
          cases h
          exact ares1 (rtmp rfl (eV rfl))

end Go.Proofs
