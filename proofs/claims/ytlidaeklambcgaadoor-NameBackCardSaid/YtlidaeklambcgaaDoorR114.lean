/- Pure models of functions of the program, and that its code does what they say: palimplaw11 NameBack, palimplaw11 NameForms. Written by a program. -/
import Derived.Test.YtlidaeklambcgaaDoorR110
import Derived.Test.YtlidaeklambcgaaDoorR111
import Derived.Test.YtlidaeklambcgaaDoorR113
import Derived.Test.YtlidaeklambcgaaDoorR11B
set_option maxRecDepth 20000
set_option maxHeartbeats 4000000
namespace Go.Proofs
open Go Go.Fhl
set_option linter.unusedVariables false
set_option linter.unusedSimpArgs false
noncomputable def M_law11_NameBack_l2 (c_1 : (Int → List Str → Option Bool)) (x4 : ((List Str) × Bool)) (v8 : List Str) (x15 : ((List Str) × Bool)) : Nat → Int → Option Bool
  | 0, _ => none
  | n2 + 1, v16 =>
  cond (decide (v16 < (x4.1.length : Int))) (Option.bind (getI x4.1 v16) fun (x18 : Str) => Option.bind (M_name_May x18) fun (x19 : Bool) => cond (!x19) (some false) ((M_law11_NameBack_l2 c_1 x4 v8 x15 n2) (w64 (v16 + 1)))) (Option.bind (gd (((x15.2 == (decide ((v8.length : Int) ≤ 7))) == true) && ((!x15.2) == false)) (M_ref1_SameTexts x15.1 v8)) fun (x21 : Bool) => some ((x15.2 == (decide ((v8.length : Int) ≤ 7))) && ((!x15.2) || x21)))
noncomputable def M_law11_NameBack_l1 (t1 : (List UInt8)) (x4 : ((List Str) × Bool)) : Nat → Int → List Str → Option Bool
  | 0, _, _ => none
  | n1 + 1, v7, v8 =>
  cond (decide (v7 < (t1.length : Int))) (Option.bind (getI t1 v7) fun (x10 : UInt8) => Option.bind (rem8 x10 5) fun (x11 : UInt8) => Option.bind (getI ([([97] : Str), ([98, 46, 99] : Str), ([46, 46, 46] : Str), ([120, 45, 121, 95, 122] : Str), ([49, 50, 51, 52, 53, 54, 55, 56] : Str)] : List Str) (x11.toNat : Int)) fun (x12 : Str) => Option.bind (appL 16 v8 ([x12] : List Str)) fun (x13 : List Str) => (M_law11_NameBack_l1 t1 x4 n1) (w64 (v7 + 1)) x13) (Option.bind (M_name_Join v8) fun (x14 : Str) => Option.bind (M_name_Parts x14) fun (x15 : ((List Str) × Bool)) => M_law11_NameBack_l2 (M_law11_NameBack_l1 t1 x4 n1) x4 v8 x15 fuel 0)
noncomputable def M_law11_NameBack (t0 : Str) (t1 : (List UInt8)) : Option Bool :=
  Option.bind (M_law11_begun) fun (x1 : Bool) => cond (!x1) (some false) (cond ((decide ((t0.length : Int) > 80)) || (decide ((t1.length : Int) > 9))) (some true) (Option.bind (M_name_Parts t0) fun (x4 : ((List Str) × Bool)) => Option.bind (gd (x4.2 == true) (M_name_Join x4.1)) fun (x5 : Str) => cond (x4.2 && (x5 != t0)) (some false) (M_law11_NameBack_l1 t1 x4 fuel 0 ([] : List Str))))
theorem ok_law11_NameBack (t0 : Str) (t1 : (List UInt8)) (r : Bool) (h : M_law11_NameBack t0 t1 = some r) : FFn Tryd.prog 4 [(S t0), (SL 1 c8 t1)] (Bo r) := by
  refine FFn.of_body (n := 83) Tryd.func4 rfl Tryd.ntmps4 rfl rfl rfl rfl ?_
  show AWp _ _ _ ⟨83, 0, [(0, (S t0)), (1, (SL 1 c8 t1))], [], ⟨0, []⟩⟩
  unfold M_law11_NameBack at h
  refine awp_seq ?_
  refine awp_region ?_
  refine arun_do rfl rfl rfl (ex_assign (eV (v := (Bo false)) rfl)) ?_
  refine arun_keepE [0, 1] 0 0 (st' := ⟨83, 0, [(0, (S t0)), (1, (SL 1 c8 t1))], [], ⟨0, []⟩⟩) (by kernel_rfl) (by kernel_rfl) ?_
  show AWp _ _ _ _
  refine awp_seq ?_
  refine awp_seq ?_
  refine awp_region ?_
  obtain ⟨x1, hx1, h⟩ := bindS h
  refine arun_do rfl rfl rfl (ex_call0 (vs := []) (v := (Bo x1)) rfl en_7 (cargs evs_nil) rfl (ok_law11_begun  x1 hx1) rfl) ?_
  refine arun_do rfl rfl rfl (ex_un (vx := (Bo x1)) rfl notB_ok) ?_
  refine arun_keepE [0, 1, 13] 0 0 (st' := ⟨83, 0, [(0, (S t0)), (1, (SL 1 c8 t1)), (13, (Bo (!x1)))], [], ⟨0, []⟩⟩) (by kernel_rfl) (by kernel_rfl) ?_
  show AWp _ _ _ _
  rcases Bool.eq_false_or_eq_true (!x1) with hb2 | hb2
  · rw [condT hb2] at h
    refine awp_condT (boT hb2) ?_
    refine awp_seq ?_
    refine awp_region ?_
    refine arun_do rfl rfl rfl (ex_assign (eV (v := (Bo false)) rfl)) ?_
    refine arun_keepE [4] 0 0 (st' := ⟨83, 0, [(4, (Bo false))], [], ⟨0, []⟩⟩) (by kernel_rfl) (by kernel_rfl) ?_
    show AWp _ _ _ _
    refine awp_ret ?_
    cases h
    exact ares1 (rtmp rfl (eV rfl))
  · rw [condF hb2] at h
    refine awp_condF (boF hb2) ?_
    refine awp_skip ?_
    show AWp _ _ _ _
    refine awp_seq ?_
    refine awp_seq ?_
    refine awp_region ?_
    refine arun_do rfl rfl rfl (ex_move (eV (v := (S t0)) rfl)) ?_
    refine arun_do rfl rfl rfl (tx_lenS Tryd.underlying9 rfl) ?_
    refine arun_do rfl rfl rfl (ex_bin (vx := (I (t0.length : Int))) (vy := (I 80)) rfl rfl gtrI_ok) ?_
    refine arun_do rfl rfl rfl (ex_move (eV (v := (Bo (decide ((t0.length : Int) > 80)))) rfl)) ?_
    refine arun_guard (v := (SL 1 c8 t1)) ((decide ((t0.length : Int) > 80)) == false) rfl rfl rfl (fun hc => ex_move (eV (v := (SL 1 c8 t1)) rfl)) ?_
    refine arun_guard (v := (I (t1.length : Int))) ((decide ((t0.length : Int) > 80)) == false) rfl rfl rfl (fun hc => tx_lenD (xs := t1) ce8 Tryd.underlying22 (cond_of hc)) ?_
    refine arun_guard (v := (Bo (decide ((t1.length : Int) > 9)))) ((decide ((t0.length : Int) > 80)) == false) rfl rfl rfl (fun hc => ex_bin (vx := (I (t1.length : Int))) (vy := (I 9)) (cond_of hc) rfl gtrI_ok) ?_
    refine arun_do rfl rfl rfl (ex_pick rfl pkOr) ?_
    refine arun_keepE [0, 1, 21] 0 0 (st' := ⟨83, 0, [(0, (S t0)), (1, (SL 1 c8 t1)), (21, (Bo ((decide ((t0.length : Int) > 80)) || (decide ((t1.length : Int) > 9)))))], [], ⟨0, []⟩⟩) (by kernel_rfl) (by kernel_rfl) ?_
    show AWp _ _ _ _
    rcases Bool.eq_false_or_eq_true ((decide ((t0.length : Int) > 80)) || (decide ((t1.length : Int) > 9))) with hb3 | hb3
    · rw [condT hb3] at h
      refine awp_condT (boT hb3) ?_
      refine awp_seq ?_
      refine awp_region ?_
      refine arun_do rfl rfl rfl (ex_assign (eV (v := (Bo true)) rfl)) ?_
      refine arun_keepE [4] 0 0 (st' := ⟨83, 0, [(4, (Bo true))], [], ⟨0, []⟩⟩) (by kernel_rfl) (by kernel_rfl) ?_
      show AWp _ _ _ _
      refine awp_ret ?_
      cases h
      exact ares1 (rtmp rfl (eV rfl))
    · rw [condF hb3] at h
      refine awp_condF (boF hb3) ?_
      refine awp_skip ?_
      show AWp _ _ _ _
      refine awp_seq ?_
      refine awp_region ?_
      refine arun_do rfl rfl rfl (ex_move (eV (v := (S t0)) rfl)) ?_
      obtain ⟨x4, hx4, h⟩ := bindS h
      refine arun_do rfl rfl rfl (ex_call0 (vs := [(S t0)]) (v := (Value.tuple #[(SL 1 cS x4.1), (Bo x4.2)])) rfl en_10 (cargs (evs rfl evs_nil)) rfl (ok_name_Parts t0 x4 hx4) rfl) ?_
      refine arun_do rfl rfl rfl (ex_move (eV (v := (Value.tuple #[(SL 1 cS x4.1), (Bo x4.2)])) rfl)) ?_
      refine arun_do rfl rfl rfl (ex_extract (vx := (Value.tuple #[(SL 1 cS x4.1), (Bo x4.2)])) (v := (SL 1 cS x4.1)) rfl rfl) ?_
      refine arun_do rfl rfl rfl (ex_extract (vx := (Value.tuple #[(SL 1 cS x4.1), (Bo x4.2)])) (v := (Bo x4.2)) rfl rfl) ?_
      refine arun_do rfl rfl rfl (ex_assign (eV (v := (SL 1 cS x4.1)) rfl)) ?_
      refine arun_do rfl rfl rfl (ex_assign (eV (v := (Bo x4.2)) rfl)) ?_
      refine arun_keepE [0, 1, 5, 6] 0 0 (st' := ⟨83, 0, [(0, (S t0)), (1, (SL 1 c8 t1)), (5, (SL 1 cS x4.1)), (6, (Bo x4.2))], [], ⟨0, []⟩⟩) (by kernel_rfl) (by kernel_rfl) ?_
      show AWp _ _ _ _
      refine awp_seq ?_
      refine awp_seq ?_
      refine awp_region ?_
      refine arun_do rfl rfl rfl (ex_move (eV (v := (Bo x4.2)) rfl)) ?_
      refine arun_do rfl rfl rfl (ex_move (eV (v := (Bo x4.2)) rfl)) ?_
      refine arun_guard (v := (SL 1 cS x4.1)) (x4.2 == true) rfl rfl rfl (fun hc => ex_move (eV (v := (SL 1 cS x4.1)) rfl)) ?_
      obtain ⟨x5, hx5, h⟩ := bindS h
      refine arun_guard (v := (S x5)) (x4.2 == true) rfl rfl rfl (fun hc => ex_call0 (vs := [(SL 1 cS x4.1)]) (v := (S x5)) rfl en_15 (cargs (evs (cond_of hc) evs_nil)) rfl (ok_name_Join x4.1 x5 (gd_of hc hx5)) rfl) ?_
      refine arun_guard (v := (S t0)) (x4.2 == true) rfl rfl rfl (fun hc => ex_move (eV (v := (S t0)) rfl)) ?_
      refine arun_guard (v := (Bo (x5 != t0))) (x4.2 == true) rfl rfl rfl (fun hc => ex_bin (vx := (S x5)) (vy := (S t0)) (cond_of hc) (cond_of hc) neqS_ok) ?_
      refine arun_do rfl rfl rfl (ex_pick rfl pkAnd) ?_
      refine arun_keepE [1, 5, 33] 0 0 (st' := ⟨83, 0, [(1, (SL 1 c8 t1)), (5, (SL 1 cS x4.1)), (33, (Bo (x4.2 && (x5 != t0))))], [], ⟨0, []⟩⟩) (by kernel_rfl) (by kernel_rfl) ?_
      show AWp _ _ _ _
      rcases Bool.eq_false_or_eq_true (x4.2 && (x5 != t0)) with hb6 | hb6
      · rw [condT hb6] at h
        refine awp_condT (boT hb6) ?_
        refine awp_seq ?_
        refine awp_region ?_
        refine arun_do rfl rfl rfl (ex_assign (eV (v := (Bo false)) rfl)) ?_
        refine arun_keepE [4] 0 0 (st' := ⟨83, 0, [(4, (Bo false))], [], ⟨0, []⟩⟩) (by kernel_rfl) (by kernel_rfl) ?_
        show AWp _ _ _ _
        refine awp_ret ?_
        cases h
        exact ares1 (rtmp rfl (eV rfl))
      · rw [condF hb6] at h
        refine awp_condF (boF hb6) ?_
        refine awp_skip ?_
        show AWp _ _ _ _
        refine awp_seq ?_
        refine awp_region ?_
        refine arun_do rfl rfl rfl (ex_assign (eV (v := (Value.slice none 0 0)) rfl)) ?_
        refine arun_keepE [1, 5, 7] 0 0 (st' := ⟨83, 0, [(1, (SL 1 c8 t1)), (5, (SL 1 cS x4.1)), (7, (Value.slice none 0 0))], [], ⟨0, []⟩⟩) (by kernel_rfl) (by kernel_rfl) ?_
        show AWp _ _ _ _
        refine awp_seq ?_
        refine awp_seq ?_
        refine awp_region ?_
        refine arun_do rfl rfl rfl (ex_assign (eV (v := (I 0)) rfl)) ?_
        refine arun_keepE [1, 5, 7, 8] 0 0 (st' := ⟨83, 0, [(1, (SL 1 c8 t1)), (5, (SL 1 cS x4.1)), (7, (Value.slice none 0 0)), (8, (I 0))], [], ⟨0, []⟩⟩) (by kernel_rfl) (by kernel_rfl) ?_
        show AWp _ _ _ _
        refine awp_block ?_
        refine awp_nilGro 7 1 rfl (by decide) ?_
        refine awp_keepE [1, 5, 7, 8] 0 1 (st' := ⟨83, 0, [(1, (SL 1 c8 t1)), (5, (SL 1 cS x4.1)), (7, (GV 0 0)), (8, (I 0))], [], ⟨1, [(0, ⟨1, (([] : List Str).flatMap cS), true⟩)]⟩⟩) (by kernel_rfl) (by kernel_rfl) ?_
        refine awp_loop (fun n s => ∃ (v7 : Int) (v8 : List Str), s = ⟨83, 0, [(1, (SL 1 c8 t1)), (5, (SL 1 cS x4.1)), (7, (GV 0 v8.length)), (8, (I v7))], [], ⟨1, [(0, ⟨1, ((v8).flatMap cS), true⟩)]⟩⟩ ∧ M_law11_NameBack_l1 t1 x4 n v7 v8 = some r) fuel (Exists.intro 0 (Exists.intro ([] : List Str) (And.intro rfl h))) ?_
        rintro n s ⟨v7, v8, rfl, h⟩ -
        cases n with
        | zero => cases h
        | succ n1 =>
          unfold M_law11_NameBack_l1 at h
          refine awp_seq ?_
          refine awp_seq ?_
          refine awp_region ?_
          refine arun_do rfl rfl rfl (ex_move (eV (v := (I v7)) rfl)) ?_
          refine arun_do rfl rfl rfl (ex_move (eV (v := (SL 1 c8 t1)) rfl)) ?_
          refine arun_do rfl rfl rfl (tx_lenD (xs := t1) ce8 Tryd.underlying22 rfl) ?_
          refine arun_do rfl rfl rfl (ex_bin (vx := (I v7)) (vy := (I (t1.length : Int))) rfl rfl lssI_ok) ?_
          refine arun_keepE [1, 5, 7, 8, 37] 0 1 (st' := ⟨83, 0, [(1, (SL 1 c8 t1)), (5, (SL 1 cS x4.1)), (7, (GV 0 v8.length)), (8, (I v7)), (37, (Bo (decide (v7 < (t1.length : Int)))))], [], ⟨1, [(0, ⟨1, ((v8).flatMap cS), true⟩)]⟩⟩) (by kernel_rfl) (by kernel_rfl) ?_
          show AWp _ _ _ _
          rcases Bool.eq_false_or_eq_true (decide (v7 < (t1.length : Int))) with hb9 | hb9
          · rw [condT hb9] at h
            refine awp_condT (boT hb9) ?_
            refine awp_skip ?_
            show AWp _ _ _ _
            refine awp_seq ?_
            refine awp_block ?_
            refine awp_region ?_
            refine arun_do rfl rfl rfl (ex_move (eV (v := (GV 0 v8.length)) rfl)) ?_
            refine arun_do rfl rfl rfl (ex_buildSliceD (qs := [(0, (S ([97] : Str))), (1, (S ([98, 46, 99] : Str))), (2, (S ([46, 46, 46] : Str))), (3, (S ([120, 45, 121, 95, 122] : Str))), (4, (S ([49, 50, 51, 52, 53, 54, 55, 56] : Str)))]) (cells := (([([97] : Str), ([98, 46, 99] : Str), ([46, 46, 46] : Str), ([120, 45, 121, 95, 122] : Str), ([49, 50, 51, 52, 53, 54, 55, 56] : Str)] : List Str).flatMap cS)) Tryd.underlying27 s_9 (by decide) (evp rfl (evp rfl (evp rfl (evp rfl (evp rfl evp_nil))))) rfl (by kernel_rfl) (by kernel_rfl) (by kernel_rfl)) ?_
            refine arun_do rfl rfl rfl (ex_move (eV (v := (SL 1 c8 t1)) rfl)) ?_
            refine arun_do rfl rfl rfl (ex_move (eV (v := (I v7)) rfl)) ?_
            obtain ⟨x10, hx10, h⟩ := bindS h
            refine arun_do rfl rfl rfl (tx_idxD (c := c8) (xs := t1) (i := v7) ce8 Tryd.underlying22 s_5 rfl rfl hx10) ?_
            refine arun_do rfl rfl rfl (tx_ldD1 (v := (U8 x10)) Tryd.underlying5 rfl rfl rfl) ?_
            obtain ⟨x11, hx11, h⟩ := bindS h
            refine arun_do rfl rfl rfl (ex_bin (vx := (U8 x10)) (vy := (U8 5)) rfl rfl (rem8_ok hx11)) ?_
            obtain ⟨x12, hx12, h⟩ := bindS h
            refine arun_do rfl rfl rfl (tx_idxD (c := cS) (xs := ([([97] : Str), ([98, 46, 99] : Str), ([46, 46, 46] : Str), ([120, 45, 121, 95, 122] : Str), ([49, 50, 51, 52, 53, 54, 55, 56] : Str)] : List Str)) (i := (x11.toNat : Int)) ceS Tryd.underlying27 s_9 rfl rfl hx12) ?_
            refine arun_do rfl rfl rfl (tx_ldD1 (v := (S x12)) Tryd.underlying9 rfl rfl rfl) ?_
            refine arun_do rfl rfl rfl (ex_buildSliceD (qs := [(0, (S x12))]) (cells := (([x12] : List Str).flatMap cS)) Tryd.underlying27 s_9 (by decide) (evp rfl evp_nil) rfl (by kernel_rfl) (by kernel_rfl) (by kernel_rfl)) ?_
            obtain ⟨x13, hx13, h⟩ := bindS h
            refine arun_do rfl rfl rfl (tx_appG (c := cS) (xs := v8) (H' := ⟨1, [(0, ⟨1, ((x13).flatMap cS), true⟩)]⟩) ceS e_9 rfl rfl rfl (tsrcD (ys := ([x12] : List Str)) ceS Tryd.underlying27 s_9 Tryd.underlying27 rfl) hx13 rfl) ?_
            refine arun_do rfl rfl rfl (ex_assign (eV (v := (GV 0 x13.length)) rfl)) ?_
            refine arun_keepE [1, 5, 7, 8] 0 1 (st' := ⟨83, 0, [(1, (SL 1 c8 t1)), (5, (SL 1 cS x4.1)), (7, (GV 0 x13.length)), (8, (I v7))], [], ⟨1, [(0, ⟨1, ((x13).flatMap cS), true⟩)]⟩⟩) (by kernel_rfl) (by kernel_rfl) ?_
            show AWp _ _ _ _
            refine awp_region ?_
            refine arun_do rfl rfl rfl (ex_move (eV (v := (I v7)) rfl)) ?_
            refine arun_do rfl rfl rfl (ex_bin (vx := (I v7)) (vy := (I 1)) rfl rfl addI_ok) ?_
            refine arun_do rfl rfl rfl (ex_assign (eV (v := (I (w64 (v7 + 1)))) rfl)) ?_
            refine arun_keepE [1, 5, 7, 8] 0 1 (st' := ⟨83, 0, [(1, (SL 1 c8 t1)), (5, (SL 1 cS x4.1)), (7, (GV 0 x13.length)), (8, (I (w64 (v7 + 1))))], [], ⟨1, [(0, ⟨1, ((x13).flatMap cS), true⟩)]⟩⟩) (by kernel_rfl) (by kernel_rfl) ?_
            exact Exists.intro n1 (And.intro (Nat.lt_succ_self _) (Exists.intro (w64 (v7 + 1)) (Exists.intro x13 (And.intro rfl h))))
          · rw [condF hb9] at h
            refine awp_condF (boF hb9) ?_
            refine awp_exit ?_
            show AWp _ _ _ _
            refine awp_seq ?_
            refine awp_region ?_
            refine arun_do rfl rfl rfl (ex_move (eV (v := (GV 0 v8.length)) rfl)) ?_
            refine arun_freeze 0 (bk := ⟨1, ((v8).flatMap cS), true⟩) (T' := [(1, (SL 1 c8 t1)), (5, (SL 1 cS x4.1)), (7, (SL 1 cS v8)), (8, (I v7)), (37, (Bo (decide (v7 < (t1.length : Int))))), (52, (SL 1 cS v8))]) (L' := []) rfl (FzT.keep (v := (SL 1 c8 t1)) rfl (FzT.keep (v := (SL 1 cS x4.1)) rfl (fzG ceS rfl rfl (FzT.keep (v := (I v7)) rfl (FzT.keep (v := (Bo (decide (v7 < (t1.length : Int))))) rfl (fzG ceS rfl rfl FzT.nil)))))) (FzL.refl _) ?_
            show ARun _ _ _ _ _ ⟨83, 0, [(1, (SL 1 c8 t1)), (5, (SL 1 cS x4.1)), (7, (SL 1 cS v8)), (8, (I v7)), (37, (Bo (decide (v7 < (t1.length : Int))))), (52, (SL 1 cS v8))], [], ⟨1, []⟩⟩
            obtain ⟨x14, hx14, h⟩ := bindS h
            refine arun_do rfl rfl rfl (ex_call0 (vs := [(SL 1 cS v8)]) (v := (S x14)) rfl en_15 (cargs (evs rfl evs_nil)) rfl (ok_name_Join v8 x14 hx14) rfl) ?_
            obtain ⟨x15, hx15, h⟩ := bindS h
            refine arun_do rfl rfl rfl (ex_call0 (vs := [(S x14)]) (v := (Value.tuple #[(SL 1 cS x15.1), (Bo x15.2)])) rfl en_10 (cargs (evs rfl evs_nil)) rfl (ok_name_Parts x14 x15 hx15) rfl) ?_
            refine arun_do rfl rfl rfl (ex_move (eV (v := (Value.tuple #[(SL 1 cS x15.1), (Bo x15.2)])) rfl)) ?_
            refine arun_do rfl rfl rfl (ex_extract (vx := (Value.tuple #[(SL 1 cS x15.1), (Bo x15.2)])) (v := (SL 1 cS x15.1)) rfl rfl) ?_
            refine arun_do rfl rfl rfl (ex_extract (vx := (Value.tuple #[(SL 1 cS x15.1), (Bo x15.2)])) (v := (Bo x15.2)) rfl rfl) ?_
            refine arun_do rfl rfl rfl (ex_assign (eV (v := (SL 1 cS x15.1)) rfl)) ?_
            refine arun_do rfl rfl rfl (ex_assign (eV (v := (Bo x15.2)) rfl)) ?_
            refine arun_keepE [5, 7, 9, 10] 0 0 (st' := ⟨83, 0, [(5, (SL 1 cS x4.1)), (7, (SL 1 cS v8)), (9, (SL 1 cS x15.1)), (10, (Bo x15.2))], [], ⟨0, []⟩⟩) (by kernel_rfl) (by kernel_rfl) ?_
            show AWp _ _ _ _
            refine awp_seq ?_
            refine awp_seq ?_
            refine awp_region ?_
            refine arun_do rfl rfl rfl (ex_assign (eV (v := (I 0)) rfl)) ?_
            refine arun_keepE [5, 7, 9, 10, 11] 0 0 (st' := ⟨83, 0, [(5, (SL 1 cS x4.1)), (7, (SL 1 cS v8)), (9, (SL 1 cS x15.1)), (10, (Bo x15.2)), (11, (I 0))], [], ⟨0, []⟩⟩) (by kernel_rfl) (by kernel_rfl) ?_
            show AWp _ _ _ _
            refine awp_block ?_
            refine awp_loop (fun n s => ∃ (v16 : Int), s = ⟨83, 0, [(5, (SL 1 cS x4.1)), (7, (SL 1 cS v8)), (9, (SL 1 cS x15.1)), (10, (Bo x15.2)), (11, (I v16))], [], ⟨0, []⟩⟩ ∧ M_law11_NameBack_l2 (M_law11_NameBack_l1 t1 x4 n1) x4 v8 x15 n v16 = some r) fuel (Exists.intro 0 (And.intro rfl h)) ?_
            rintro n s ⟨v16, rfl, h⟩ -
            cases n with
            | zero => cases h
            | succ n2 =>
              unfold M_law11_NameBack_l2 at h
              refine awp_seq ?_
              refine awp_seq ?_
              refine awp_region ?_
              refine arun_do rfl rfl rfl (ex_move (eV (v := (I v16)) rfl)) ?_
              refine arun_do rfl rfl rfl (ex_move (eV (v := (SL 1 cS x4.1)) rfl)) ?_
              refine arun_do rfl rfl rfl (tx_lenD (xs := x4.1) ceS Tryd.underlying27 rfl) ?_
              refine arun_do rfl rfl rfl (ex_bin (vx := (I v16)) (vy := (I (x4.1.length : Int))) rfl rfl lssI_ok) ?_
              refine arun_keepE [5, 7, 9, 10, 11, 60] 0 0 (st' := ⟨83, 0, [(5, (SL 1 cS x4.1)), (7, (SL 1 cS v8)), (9, (SL 1 cS x15.1)), (10, (Bo x15.2)), (11, (I v16)), (60, (Bo (decide (v16 < (x4.1.length : Int)))))], [], ⟨0, []⟩⟩) (by kernel_rfl) (by kernel_rfl) ?_
              show AWp _ _ _ _
              rcases Bool.eq_false_or_eq_true (decide (v16 < (x4.1.length : Int))) with hb17 | hb17
              · rw [condT hb17] at h
                refine awp_condT (boT hb17) ?_
                refine awp_skip ?_
                show AWp _ _ _ _
                refine awp_seq ?_
                refine awp_block ?_
                refine awp_seq ?_
                refine awp_region ?_
                refine arun_do rfl rfl rfl (ex_move (eV (v := (SL 1 cS x4.1)) rfl)) ?_
                refine arun_do rfl rfl rfl (ex_move (eV (v := (I v16)) rfl)) ?_
                obtain ⟨x18, hx18, h⟩ := bindS h
                refine arun_do rfl rfl rfl (tx_idxD (c := cS) (xs := x4.1) (i := v16) ceS Tryd.underlying27 s_9 rfl rfl hx18) ?_
                refine arun_do rfl rfl rfl (tx_ldD1 (v := (S x18)) Tryd.underlying9 rfl rfl rfl) ?_
                obtain ⟨x19, hx19, h⟩ := bindS h
                refine arun_do rfl rfl rfl (ex_call0 (vs := [(S x18)]) (v := (Bo x19)) rfl en_13 (cargs (evs rfl evs_nil)) rfl (ok_name_May x18 x19 hx19) rfl) ?_
                refine arun_do rfl rfl rfl (ex_un (vx := (Bo x19)) rfl notB_ok) ?_
                refine arun_keepE [5, 7, 9, 10, 11, 68] 0 0 (st' := ⟨83, 0, [(5, (SL 1 cS x4.1)), (7, (SL 1 cS v8)), (9, (SL 1 cS x15.1)), (10, (Bo x15.2)), (11, (I v16)), (68, (Bo (!x19)))], [], ⟨0, []⟩⟩) (by kernel_rfl) (by kernel_rfl) ?_
                show AWp _ _ _ _
                rcases Bool.eq_false_or_eq_true (!x19) with hb20 | hb20
                · rw [condT hb20] at h
                  refine awp_condT (boT hb20) ?_
                  refine awp_seq ?_
                  refine awp_region ?_
                  refine arun_do rfl rfl rfl (ex_assign (eV (v := (Bo false)) rfl)) ?_
                  refine arun_keepE [4] 0 0 (st' := ⟨83, 0, [(4, (Bo false))], [], ⟨0, []⟩⟩) (by kernel_rfl) (by kernel_rfl) ?_
                  show AWp _ _ _ _
                  refine awp_ret ?_
                  cases h
                  exact ares1 (rtmp rfl (eV rfl))
                · rw [condF hb20] at h
                  refine awp_condF (boF hb20) ?_
                  refine awp_skip ?_
                  show AWp _ _ _ _
                  refine awp_region ?_
                  refine arun_do rfl rfl rfl (ex_move (eV (v := (I v16)) rfl)) ?_
                  refine arun_do rfl rfl rfl (ex_bin (vx := (I v16)) (vy := (I 1)) rfl rfl addI_ok) ?_
                  refine arun_do rfl rfl rfl (ex_assign (eV (v := (I (w64 (v16 + 1)))) rfl)) ?_
                  refine arun_keepE [5, 7, 9, 10, 11] 0 0 (st' := ⟨83, 0, [(5, (SL 1 cS x4.1)), (7, (SL 1 cS v8)), (9, (SL 1 cS x15.1)), (10, (Bo x15.2)), (11, (I (w64 (v16 + 1))))], [], ⟨0, []⟩⟩) (by kernel_rfl) (by kernel_rfl) ?_
                  exact Exists.intro n2 (And.intro (Nat.lt_succ_self _) (Exists.intro (w64 (v16 + 1)) (And.intro rfl h)))
              · rw [condF hb17] at h
                refine awp_condF (boF hb17) ?_
                refine awp_exit ?_
                show AWp _ _ _ _
                refine awp_seq ?_
                refine awp_region ?_
                refine arun_do rfl rfl rfl (ex_move (eV (v := (Bo x15.2)) rfl)) ?_
                refine arun_do rfl rfl rfl (ex_move (eV (v := (SL 1 cS v8)) rfl)) ?_
                refine arun_do rfl rfl rfl (tx_lenD (xs := v8) ceS Tryd.underlying27 rfl) ?_
                refine arun_do rfl rfl rfl (ex_bin (vx := (I (v8.length : Int))) (vy := (I 7)) rfl rfl leqI_ok) ?_
                refine arun_do rfl rfl rfl (ex_bin (vx := (Bo x15.2)) (vy := (Bo (decide ((v8.length : Int) ≤ 7)))) rfl rfl (eqlB_ok Tryd.underlying4)) ?_
                refine arun_do rfl rfl rfl (ex_move (eV (v := (Bo (x15.2 == (decide ((v8.length : Int) ≤ 7))))) rfl)) ?_
                refine arun_guard (v := (Bo x15.2)) ((x15.2 == (decide ((v8.length : Int) ≤ 7))) == true) rfl rfl rfl (fun hc => ex_move (eV (v := (Bo x15.2)) rfl)) ?_
                refine arun_guard (v := (Bo (!x15.2))) ((x15.2 == (decide ((v8.length : Int) ≤ 7))) == true) rfl rfl rfl (fun hc => ex_un (vx := (Bo x15.2)) (cond_of hc) notB_ok) ?_
                refine arun_guard (v := (Bo (!x15.2))) ((x15.2 == (decide ((v8.length : Int) ≤ 7))) == true) rfl rfl rfl (fun hc => ex_move (eV (v := (Bo (!x15.2))) (cond_of hc))) ?_
                refine arun_guard (v := (SL 1 cS x15.1)) (((x15.2 == (decide ((v8.length : Int) ≤ 7))) == true) && ((!x15.2) == false)) rfl rfl gv_nest (fun hc => ex_move (eV (v := (SL 1 cS x15.1)) rfl)) ?_
                refine arun_guard (v := (SL 1 cS v8)) (((x15.2 == (decide ((v8.length : Int) ≤ 7))) == true) && ((!x15.2) == false)) rfl rfl gv_nest (fun hc => ex_move (eV (v := (SL 1 cS v8)) rfl)) ?_
                obtain ⟨x21, hx21, h⟩ := bindS h
                refine arun_guard (v := (Bo x21)) (((x15.2 == (decide ((v8.length : Int) ≤ 7))) == true) && ((!x15.2) == false)) rfl rfl gv_nest (fun hc => ex_call0 (vs := [(SL 1 cS x15.1), (SL 1 cS v8)]) (v := (Bo x21)) rfl en_12 (cargs (evs (cond_of hc) (evs (cond_of hc) evs_nil))) rfl (ok_ref1_SameTexts x15.1 v8 x21 (gd_of hc hx21)) rfl) ?_
                refine arun_guard (v := (Bo ((!x15.2) || x21))) ((x15.2 == (decide ((v8.length : Int) ≤ 7))) == true) rfl rfl rfl (fun hc => ex_pick (cond_of hc) (pkOrN hc)) ?_
                refine arun_do rfl rfl rfl (ex_pick rfl pkAnd) ?_
                refine arun_do rfl rfl rfl (ex_assign (eV (v := (Bo ((x15.2 == (decide ((v8.length : Int) ≤ 7))) && ((!x15.2) || x21)))) rfl)) ?_
                refine arun_keepE [4] 0 0 (st' := ⟨83, 0, [(4, (Bo ((x15.2 == (decide ((v8.length : Int) ≤ 7))) && ((!x15.2) || x21))))], [], ⟨0, []⟩⟩) (by kernel_rfl) (by kernel_rfl) ?_
                show AWp _ _ _ _
                refine awp_ret ?_
                cases h
                exact ares1 (rtmp rfl (eV rfl))

noncomputable def M_law11_NameForms_l3 (c_1 : (Int → Option Bool)) (c_2 : (Int → Option Bool)) : Nat → Int → Option Bool
  | 0, _ => none
  | n3 + 1, v13 =>
  cond (decide (v13 < (([([47] : Str), ([97, 47] : Str), ([47, 97] : Str), ([97, 47, 47, 98] : Str), ([97, 47, 46, 47, 98] : Str), ([97, 47, 46, 46, 47, 98] : Str), ([97, 47, 98, 47, 99, 47, 100, 47, 101, 47, 102, 47, 103, 47, 104] : Str), ([97, 47, 66] : Str)] : List Str).length : Int))) (Option.bind (getI ([([47] : Str), ([97, 47] : Str), ([47, 97] : Str), ([97, 47, 47, 98] : Str), ([97, 47, 46, 47, 98] : Str), ([97, 47, 46, 46, 47, 98] : Str), ([97, 47, 98, 47, 99, 47, 100, 47, 101, 47, 102, 47, 103, 47, 104] : Str), ([97, 47, 66] : Str)] : List Str) v13) fun (x15 : Str) => Option.bind (M_name_Parts x15) fun (x16 : ((List Str) × Bool)) => cond x16.2 (some false) ((M_law11_NameForms_l3 c_1 c_2 n3) (w64 (v13 + 1)))) (Option.bind (M_name_Parts ([97, 47, 98, 47, 99, 47, 100, 47, 101, 47, 102, 47, 103] : Str)) fun (x18 : ((List Str) × Bool)) => Option.bind (gd ((x18.2 && ((x18.1.length : Int) == 7)) == true) (M_name_Join ([] : (List Str)))) fun (x19 : Str) => some ((x18.2 && ((x18.1.length : Int) == 7)) && (x19 == [])))
noncomputable def M_law11_NameForms_l2 (c_1 : (Int → Option Bool)) : Nat → Int → Option Bool
  | 0, _ => none
  | n2 + 1, v8 =>
  cond (decide (v8 < (([[], ([46] : Str), ([46, 46] : Str), ([49, 50, 51, 52, 53, 54, 55, 56, 57] : Str), ([97, 47, 98] : Str), ([65] : Str), ([32] : Str), ([97, 32, 98] : Str), ([0] : Str), ([195, 169] : Str), ([97, 44] : Str), ([96] : Str), ([123] : Str), ([58] : Str), ([47] : Str)] : List Str).length : Int))) (Option.bind (getI ([[], ([46] : Str), ([46, 46] : Str), ([49, 50, 51, 52, 53, 54, 55, 56, 57] : Str), ([97, 47, 98] : Str), ([65] : Str), ([32] : Str), ([97, 32, 98] : Str), ([0] : Str), ([195, 169] : Str), ([97, 44] : Str), ([96] : Str), ([123] : Str), ([58] : Str), ([47] : Str)] : List Str) v8) fun (x10 : Str) => Option.bind (M_name_May x10) fun (x11 : Bool) => cond x11 (some false) ((M_law11_NameForms_l2 c_1 n2) (w64 (v8 + 1)))) (M_law11_NameForms_l3 c_1 (M_law11_NameForms_l2 c_1 n2) fuel 0)
noncomputable def M_law11_NameForms_l1 : Nat → Int → Option Bool
  | 0, _ => none
  | n1 + 1, v3 =>
  cond (decide (v3 < (([([97] : Str), ([122, 57] : Str), ([46, 46, 46] : Str), ([46, 97] : Str), ([97, 46] : Str), ([45] : Str), ([95] : Str), ([49, 50, 51, 52, 53, 54, 55, 56] : Str), ([46, 46, 97] : Str)] : List Str).length : Int))) (Option.bind (getI ([([97] : Str), ([122, 57] : Str), ([46, 46, 46] : Str), ([46, 97] : Str), ([97, 46] : Str), ([45] : Str), ([95] : Str), ([49, 50, 51, 52, 53, 54, 55, 56] : Str), ([46, 46, 97] : Str)] : List Str) v3) fun (x5 : Str) => Option.bind (M_name_May x5) fun (x6 : Bool) => cond (!x6) (some false) ((M_law11_NameForms_l1 n1) (w64 (v3 + 1)))) (M_law11_NameForms_l2 (M_law11_NameForms_l1 n1) fuel 0)
noncomputable def M_law11_NameForms : Option Bool :=
  Option.bind (M_law11_begun) fun (x1 : Bool) => cond (!x1) (some false) (M_law11_NameForms_l1 fuel 0)
theorem ok_law11_NameForms (r : Bool) (h : M_law11_NameForms = some r) : FFn Tryd.prog 5 [] (Bo r) := by
  refine FFn.of_body (n := 68) Tryd.func5 rfl Tryd.ntmps5 rfl rfl rfl rfl ?_
  show AWp _ _ _ ⟨68, 0, [], [], ⟨0, []⟩⟩
  unfold M_law11_NameForms at h
  refine awp_seq ?_
  refine awp_region ?_
  refine arun_do rfl rfl rfl (ex_assign (eV (v := (Bo false)) rfl)) ?_
  refine arun_keepE [] 0 0 (st' := ⟨68, 0, [], [], ⟨0, []⟩⟩) (by kernel_rfl) (by kernel_rfl) ?_
  show AWp _ _ _ _
  refine awp_seq ?_
  refine awp_seq ?_
  refine awp_region ?_
  obtain ⟨x1, hx1, h⟩ := bindS h
  refine arun_do rfl rfl rfl (ex_call0 (vs := []) (v := (Bo x1)) rfl en_7 (cargs evs_nil) rfl (ok_law11_begun  x1 hx1) rfl) ?_
  refine arun_do rfl rfl rfl (ex_un (vx := (Bo x1)) rfl notB_ok) ?_
  refine arun_keepE [12] 0 0 (st' := ⟨68, 0, [(12, (Bo (!x1)))], [], ⟨0, []⟩⟩) (by kernel_rfl) (by kernel_rfl) ?_
  show AWp _ _ _ _
  rcases Bool.eq_false_or_eq_true (!x1) with hb2 | hb2
  · rw [condT hb2] at h
    refine awp_condT (boT hb2) ?_
    refine awp_seq ?_
    refine awp_region ?_
    refine arun_do rfl rfl rfl (ex_assign (eV (v := (Bo false)) rfl)) ?_
    refine arun_keepE [0] 0 0 (st' := ⟨68, 0, [(0, (Bo false))], [], ⟨0, []⟩⟩) (by kernel_rfl) (by kernel_rfl) ?_
    show AWp _ _ _ _
    refine awp_ret ?_
    cases h
    exact ares1 (rtmp rfl (eV rfl))
  · rw [condF hb2] at h
    refine awp_condF (boF hb2) ?_
    refine awp_skip ?_
    show AWp _ _ _ _
    refine awp_seq ?_
    refine awp_region ?_
    refine arun_do rfl rfl rfl (ex_buildSliceD (qs := [(0, (S ([97] : Str))), (1, (S ([122, 57] : Str))), (2, (S ([46, 46, 46] : Str))), (3, (S ([46, 97] : Str))), (4, (S ([97, 46] : Str))), (5, (S ([45] : Str))), (6, (S ([95] : Str))), (7, (S ([49, 50, 51, 52, 53, 54, 55, 56] : Str))), (8, (S ([46, 46, 97] : Str)))]) (cells := (([([97] : Str), ([122, 57] : Str), ([46, 46, 46] : Str), ([46, 97] : Str), ([97, 46] : Str), ([45] : Str), ([95] : Str), ([49, 50, 51, 52, 53, 54, 55, 56] : Str), ([46, 46, 97] : Str)] : List Str).flatMap cS)) Tryd.underlying27 s_9 (by decide) (evp rfl (evp rfl (evp rfl (evp rfl (evp rfl (evp rfl (evp rfl (evp rfl (evp rfl evp_nil))))))))) rfl (by kernel_rfl) (by kernel_rfl) (by kernel_rfl)) ?_
    refine arun_do rfl rfl rfl (ex_assign (eV (v := (SL 1 cS ([([97] : Str), ([122, 57] : Str), ([46, 46, 46] : Str), ([46, 97] : Str), ([97, 46] : Str), ([45] : Str), ([95] : Str), ([49, 50, 51, 52, 53, 54, 55, 56] : Str), ([46, 46, 97] : Str)] : List Str))) rfl)) ?_
    refine arun_keepE [1] 0 0 (st' := ⟨68, 0, [(1, (SL 1 cS ([([97] : Str), ([122, 57] : Str), ([46, 46, 46] : Str), ([46, 97] : Str), ([97, 46] : Str), ([45] : Str), ([95] : Str), ([49, 50, 51, 52, 53, 54, 55, 56] : Str), ([46, 46, 97] : Str)] : List Str)))], [], ⟨0, []⟩⟩) (by kernel_rfl) (by kernel_rfl) ?_
    show AWp _ _ _ _
    refine awp_seq ?_
    refine awp_region ?_
    refine arun_do rfl rfl rfl (ex_buildSliceD (qs := [(0, (S [])), (1, (S ([46] : Str))), (2, (S ([46, 46] : Str))), (3, (S ([49, 50, 51, 52, 53, 54, 55, 56, 57] : Str))), (4, (S ([97, 47, 98] : Str))), (5, (S ([65] : Str))), (6, (S ([32] : Str))), (7, (S ([97, 32, 98] : Str))), (8, (S ([0] : Str))), (9, (S ([195, 169] : Str))), (10, (S ([97, 44] : Str))), (11, (S ([96] : Str))), (12, (S ([123] : Str))), (13, (S ([58] : Str))), (14, (S ([47] : Str)))]) (cells := (([[], ([46] : Str), ([46, 46] : Str), ([49, 50, 51, 52, 53, 54, 55, 56, 57] : Str), ([97, 47, 98] : Str), ([65] : Str), ([32] : Str), ([97, 32, 98] : Str), ([0] : Str), ([195, 169] : Str), ([97, 44] : Str), ([96] : Str), ([123] : Str), ([58] : Str), ([47] : Str)] : List Str).flatMap cS)) Tryd.underlying27 s_9 (by decide) (evp rfl (evp rfl (evp rfl (evp rfl (evp rfl (evp rfl (evp rfl (evp rfl (evp rfl (evp rfl (evp rfl (evp rfl (evp rfl (evp rfl (evp rfl evp_nil))))))))))))))) rfl (by kernel_rfl) (by kernel_rfl) (by kernel_rfl)) ?_
    refine arun_do rfl rfl rfl (ex_assign (eV (v := (SL 1 cS ([[], ([46] : Str), ([46, 46] : Str), ([49, 50, 51, 52, 53, 54, 55, 56, 57] : Str), ([97, 47, 98] : Str), ([65] : Str), ([32] : Str), ([97, 32, 98] : Str), ([0] : Str), ([195, 169] : Str), ([97, 44] : Str), ([96] : Str), ([123] : Str), ([58] : Str), ([47] : Str)] : List Str))) rfl)) ?_
    refine arun_keepE [1, 2] 0 0 (st' := ⟨68, 0, [(1, (SL 1 cS ([([97] : Str), ([122, 57] : Str), ([46, 46, 46] : Str), ([46, 97] : Str), ([97, 46] : Str), ([45] : Str), ([95] : Str), ([49, 50, 51, 52, 53, 54, 55, 56] : Str), ([46, 46, 97] : Str)] : List Str))), (2, (SL 1 cS ([[], ([46] : Str), ([46, 46] : Str), ([49, 50, 51, 52, 53, 54, 55, 56, 57] : Str), ([97, 47, 98] : Str), ([65] : Str), ([32] : Str), ([97, 32, 98] : Str), ([0] : Str), ([195, 169] : Str), ([97, 44] : Str), ([96] : Str), ([123] : Str), ([58] : Str), ([47] : Str)] : List Str)))], [], ⟨0, []⟩⟩) (by kernel_rfl) (by kernel_rfl) ?_
    show AWp _ _ _ _
    refine awp_seq ?_
    refine awp_seq ?_
    refine awp_region ?_
    refine arun_do rfl rfl rfl (ex_assign (eV (v := (I 0)) rfl)) ?_
    refine arun_keepE [1, 2, 3] 0 0 (st' := ⟨68, 0, [(1, (SL 1 cS ([([97] : Str), ([122, 57] : Str), ([46, 46, 46] : Str), ([46, 97] : Str), ([97, 46] : Str), ([45] : Str), ([95] : Str), ([49, 50, 51, 52, 53, 54, 55, 56] : Str), ([46, 46, 97] : Str)] : List Str))), (2, (SL 1 cS ([[], ([46] : Str), ([46, 46] : Str), ([49, 50, 51, 52, 53, 54, 55, 56, 57] : Str), ([97, 47, 98] : Str), ([65] : Str), ([32] : Str), ([97, 32, 98] : Str), ([0] : Str), ([195, 169] : Str), ([97, 44] : Str), ([96] : Str), ([123] : Str), ([58] : Str), ([47] : Str)] : List Str))), (3, (I 0))], [], ⟨0, []⟩⟩) (by kernel_rfl) (by kernel_rfl) ?_
    show AWp _ _ _ _
    refine awp_block ?_
    refine awp_loop (fun n s => ∃ (v3 : Int), s = ⟨68, 0, [(1, (SL 1 cS ([([97] : Str), ([122, 57] : Str), ([46, 46, 46] : Str), ([46, 97] : Str), ([97, 46] : Str), ([45] : Str), ([95] : Str), ([49, 50, 51, 52, 53, 54, 55, 56] : Str), ([46, 46, 97] : Str)] : List Str))), (2, (SL 1 cS ([[], ([46] : Str), ([46, 46] : Str), ([49, 50, 51, 52, 53, 54, 55, 56, 57] : Str), ([97, 47, 98] : Str), ([65] : Str), ([32] : Str), ([97, 32, 98] : Str), ([0] : Str), ([195, 169] : Str), ([97, 44] : Str), ([96] : Str), ([123] : Str), ([58] : Str), ([47] : Str)] : List Str))), (3, (I v3))], [], ⟨0, []⟩⟩ ∧ M_law11_NameForms_l1 n v3 = some r) fuel (Exists.intro 0 (And.intro rfl h)) ?_
    rintro n s ⟨v3, rfl, h⟩ -
    cases n with
    | zero => cases h
    | succ n1 =>
      unfold M_law11_NameForms_l1 at h
      refine awp_seq ?_
      refine awp_seq ?_
      refine awp_region ?_
      refine arun_do rfl rfl rfl (ex_move (eV (v := (I v3)) rfl)) ?_
      refine arun_do rfl rfl rfl (ex_move (eV (v := (SL 1 cS ([([97] : Str), ([122, 57] : Str), ([46, 46, 46] : Str), ([46, 97] : Str), ([97, 46] : Str), ([45] : Str), ([95] : Str), ([49, 50, 51, 52, 53, 54, 55, 56] : Str), ([46, 46, 97] : Str)] : List Str))) rfl)) ?_
      refine arun_do rfl rfl rfl (tx_lenD (xs := ([([97] : Str), ([122, 57] : Str), ([46, 46, 46] : Str), ([46, 97] : Str), ([97, 46] : Str), ([45] : Str), ([95] : Str), ([49, 50, 51, 52, 53, 54, 55, 56] : Str), ([46, 46, 97] : Str)] : List Str)) ceS Tryd.underlying27 rfl) ?_
      refine arun_do rfl rfl rfl (ex_bin (vx := (I v3)) (vy := (I (([([97] : Str), ([122, 57] : Str), ([46, 46, 46] : Str), ([46, 97] : Str), ([97, 46] : Str), ([45] : Str), ([95] : Str), ([49, 50, 51, 52, 53, 54, 55, 56] : Str), ([46, 46, 97] : Str)] : List Str).length : Int))) rfl rfl lssI_ok) ?_
      refine arun_keepE [1, 2, 3, 18] 0 0 (st' := ⟨68, 0, [(1, (SL 1 cS ([([97] : Str), ([122, 57] : Str), ([46, 46, 46] : Str), ([46, 97] : Str), ([97, 46] : Str), ([45] : Str), ([95] : Str), ([49, 50, 51, 52, 53, 54, 55, 56] : Str), ([46, 46, 97] : Str)] : List Str))), (2, (SL 1 cS ([[], ([46] : Str), ([46, 46] : Str), ([49, 50, 51, 52, 53, 54, 55, 56, 57] : Str), ([97, 47, 98] : Str), ([65] : Str), ([32] : Str), ([97, 32, 98] : Str), ([0] : Str), ([195, 169] : Str), ([97, 44] : Str), ([96] : Str), ([123] : Str), ([58] : Str), ([47] : Str)] : List Str))), (3, (I v3)), (18, (Bo (decide (v3 < (([([97] : Str), ([122, 57] : Str), ([46, 46, 46] : Str), ([46, 97] : Str), ([97, 46] : Str), ([45] : Str), ([95] : Str), ([49, 50, 51, 52, 53, 54, 55, 56] : Str), ([46, 46, 97] : Str)] : List Str).length : Int)))))], [], ⟨0, []⟩⟩) (by kernel_rfl) (by kernel_rfl) ?_
      show AWp _ _ _ _
      rcases Bool.eq_false_or_eq_true (decide (v3 < (([([97] : Str), ([122, 57] : Str), ([46, 46, 46] : Str), ([46, 97] : Str), ([97, 46] : Str), ([45] : Str), ([95] : Str), ([49, 50, 51, 52, 53, 54, 55, 56] : Str), ([46, 46, 97] : Str)] : List Str).length : Int))) with hb4 | hb4
      · rw [condT hb4] at h
        refine awp_condT (boT hb4) ?_
        refine awp_skip ?_
        show AWp _ _ _ _
        refine awp_seq ?_
        refine awp_block ?_
        refine awp_seq ?_
        refine awp_region ?_
        refine arun_do rfl rfl rfl (ex_move (eV (v := (SL 1 cS ([([97] : Str), ([122, 57] : Str), ([46, 46, 46] : Str), ([46, 97] : Str), ([97, 46] : Str), ([45] : Str), ([95] : Str), ([49, 50, 51, 52, 53, 54, 55, 56] : Str), ([46, 46, 97] : Str)] : List Str))) rfl)) ?_
        refine arun_do rfl rfl rfl (ex_move (eV (v := (I v3)) rfl)) ?_
        obtain ⟨x5, hx5, h⟩ := bindS h
        refine arun_do rfl rfl rfl (tx_idxD (c := cS) (xs := ([([97] : Str), ([122, 57] : Str), ([46, 46, 46] : Str), ([46, 97] : Str), ([97, 46] : Str), ([45] : Str), ([95] : Str), ([49, 50, 51, 52, 53, 54, 55, 56] : Str), ([46, 46, 97] : Str)] : List Str)) (i := v3) ceS Tryd.underlying27 s_9 rfl rfl hx5) ?_
        refine arun_do rfl rfl rfl (tx_ldD1 (v := (S x5)) Tryd.underlying9 rfl rfl rfl) ?_
        obtain ⟨x6, hx6, h⟩ := bindS h
        refine arun_do rfl rfl rfl (ex_call0 (vs := [(S x5)]) (v := (Bo x6)) rfl en_13 (cargs (evs rfl evs_nil)) rfl (ok_name_May x5 x6 hx6) rfl) ?_
        refine arun_do rfl rfl rfl (ex_un (vx := (Bo x6)) rfl notB_ok) ?_
        refine arun_keepE [1, 2, 3, 26] 0 0 (st' := ⟨68, 0, [(1, (SL 1 cS ([([97] : Str), ([122, 57] : Str), ([46, 46, 46] : Str), ([46, 97] : Str), ([97, 46] : Str), ([45] : Str), ([95] : Str), ([49, 50, 51, 52, 53, 54, 55, 56] : Str), ([46, 46, 97] : Str)] : List Str))), (2, (SL 1 cS ([[], ([46] : Str), ([46, 46] : Str), ([49, 50, 51, 52, 53, 54, 55, 56, 57] : Str), ([97, 47, 98] : Str), ([65] : Str), ([32] : Str), ([97, 32, 98] : Str), ([0] : Str), ([195, 169] : Str), ([97, 44] : Str), ([96] : Str), ([123] : Str), ([58] : Str), ([47] : Str)] : List Str))), (3, (I v3)), (26, (Bo (!x6)))], [], ⟨0, []⟩⟩) (by kernel_rfl) (by kernel_rfl) ?_
        show AWp _ _ _ _
        rcases Bool.eq_false_or_eq_true (!x6) with hb7 | hb7
        · rw [condT hb7] at h
          refine awp_condT (boT hb7) ?_
          refine awp_seq ?_
          refine awp_region ?_
          refine arun_do rfl rfl rfl (ex_assign (eV (v := (Bo false)) rfl)) ?_
          refine arun_keepE [0] 0 0 (st' := ⟨68, 0, [(0, (Bo false))], [], ⟨0, []⟩⟩) (by kernel_rfl) (by kernel_rfl) ?_
          show AWp _ _ _ _
          refine awp_ret ?_
          cases h
          exact ares1 (rtmp rfl (eV rfl))
        · rw [condF hb7] at h
          refine awp_condF (boF hb7) ?_
          refine awp_skip ?_
          show AWp _ _ _ _
          refine awp_region ?_
          refine arun_do rfl rfl rfl (ex_move (eV (v := (I v3)) rfl)) ?_
          refine arun_do rfl rfl rfl (ex_bin (vx := (I v3)) (vy := (I 1)) rfl rfl addI_ok) ?_
          refine arun_do rfl rfl rfl (ex_assign (eV (v := (I (w64 (v3 + 1)))) rfl)) ?_
          refine arun_keepE [1, 2, 3] 0 0 (st' := ⟨68, 0, [(1, (SL 1 cS ([([97] : Str), ([122, 57] : Str), ([46, 46, 46] : Str), ([46, 97] : Str), ([97, 46] : Str), ([45] : Str), ([95] : Str), ([49, 50, 51, 52, 53, 54, 55, 56] : Str), ([46, 46, 97] : Str)] : List Str))), (2, (SL 1 cS ([[], ([46] : Str), ([46, 46] : Str), ([49, 50, 51, 52, 53, 54, 55, 56, 57] : Str), ([97, 47, 98] : Str), ([65] : Str), ([32] : Str), ([97, 32, 98] : Str), ([0] : Str), ([195, 169] : Str), ([97, 44] : Str), ([96] : Str), ([123] : Str), ([58] : Str), ([47] : Str)] : List Str))), (3, (I (w64 (v3 + 1))))], [], ⟨0, []⟩⟩) (by kernel_rfl) (by kernel_rfl) ?_
          exact Exists.intro n1 (And.intro (Nat.lt_succ_self _) (Exists.intro (w64 (v3 + 1)) (And.intro rfl h)))
      · rw [condF hb4] at h
        refine awp_condF (boF hb4) ?_
        refine awp_exit ?_
        show AWp _ _ _ _
        refine awp_seq ?_
        refine awp_seq ?_
        refine awp_region ?_
        refine arun_do rfl rfl rfl (ex_assign (eV (v := (I 0)) rfl)) ?_
        refine arun_keepE [2, 4] 0 0 (st' := ⟨68, 0, [(2, (SL 1 cS ([[], ([46] : Str), ([46, 46] : Str), ([49, 50, 51, 52, 53, 54, 55, 56, 57] : Str), ([97, 47, 98] : Str), ([65] : Str), ([32] : Str), ([97, 32, 98] : Str), ([0] : Str), ([195, 169] : Str), ([97, 44] : Str), ([96] : Str), ([123] : Str), ([58] : Str), ([47] : Str)] : List Str))), (4, (I 0))], [], ⟨0, []⟩⟩) (by kernel_rfl) (by kernel_rfl) ?_
        show AWp _ _ _ _
        refine awp_block ?_
        refine awp_loop (fun n s => ∃ (v8 : Int), s = ⟨68, 0, [(2, (SL 1 cS ([[], ([46] : Str), ([46, 46] : Str), ([49, 50, 51, 52, 53, 54, 55, 56, 57] : Str), ([97, 47, 98] : Str), ([65] : Str), ([32] : Str), ([97, 32, 98] : Str), ([0] : Str), ([195, 169] : Str), ([97, 44] : Str), ([96] : Str), ([123] : Str), ([58] : Str), ([47] : Str)] : List Str))), (4, (I v8))], [], ⟨0, []⟩⟩ ∧ M_law11_NameForms_l2 (M_law11_NameForms_l1 n1) n v8 = some r) fuel (Exists.intro 0 (And.intro rfl h)) ?_
        rintro n s ⟨v8, rfl, h⟩ -
        cases n with
        | zero => cases h
        | succ n2 =>
          unfold M_law11_NameForms_l2 at h
          refine awp_seq ?_
          refine awp_seq ?_
          refine awp_region ?_
          refine arun_do rfl rfl rfl (ex_move (eV (v := (I v8)) rfl)) ?_
          refine arun_do rfl rfl rfl (ex_move (eV (v := (SL 1 cS ([[], ([46] : Str), ([46, 46] : Str), ([49, 50, 51, 52, 53, 54, 55, 56, 57] : Str), ([97, 47, 98] : Str), ([65] : Str), ([32] : Str), ([97, 32, 98] : Str), ([0] : Str), ([195, 169] : Str), ([97, 44] : Str), ([96] : Str), ([123] : Str), ([58] : Str), ([47] : Str)] : List Str))) rfl)) ?_
          refine arun_do rfl rfl rfl (tx_lenD (xs := ([[], ([46] : Str), ([46, 46] : Str), ([49, 50, 51, 52, 53, 54, 55, 56, 57] : Str), ([97, 47, 98] : Str), ([65] : Str), ([32] : Str), ([97, 32, 98] : Str), ([0] : Str), ([195, 169] : Str), ([97, 44] : Str), ([96] : Str), ([123] : Str), ([58] : Str), ([47] : Str)] : List Str)) ceS Tryd.underlying27 rfl) ?_
          refine arun_do rfl rfl rfl (ex_bin (vx := (I v8)) (vy := (I (([[], ([46] : Str), ([46, 46] : Str), ([49, 50, 51, 52, 53, 54, 55, 56, 57] : Str), ([97, 47, 98] : Str), ([65] : Str), ([32] : Str), ([97, 32, 98] : Str), ([0] : Str), ([195, 169] : Str), ([97, 44] : Str), ([96] : Str), ([123] : Str), ([58] : Str), ([47] : Str)] : List Str).length : Int))) rfl rfl lssI_ok) ?_
          refine arun_keepE [2, 4, 30] 0 0 (st' := ⟨68, 0, [(2, (SL 1 cS ([[], ([46] : Str), ([46, 46] : Str), ([49, 50, 51, 52, 53, 54, 55, 56, 57] : Str), ([97, 47, 98] : Str), ([65] : Str), ([32] : Str), ([97, 32, 98] : Str), ([0] : Str), ([195, 169] : Str), ([97, 44] : Str), ([96] : Str), ([123] : Str), ([58] : Str), ([47] : Str)] : List Str))), (4, (I v8)), (30, (Bo (decide (v8 < (([[], ([46] : Str), ([46, 46] : Str), ([49, 50, 51, 52, 53, 54, 55, 56, 57] : Str), ([97, 47, 98] : Str), ([65] : Str), ([32] : Str), ([97, 32, 98] : Str), ([0] : Str), ([195, 169] : Str), ([97, 44] : Str), ([96] : Str), ([123] : Str), ([58] : Str), ([47] : Str)] : List Str).length : Int)))))], [], ⟨0, []⟩⟩) (by kernel_rfl) (by kernel_rfl) ?_
          show AWp _ _ _ _
          rcases Bool.eq_false_or_eq_true (decide (v8 < (([[], ([46] : Str), ([46, 46] : Str), ([49, 50, 51, 52, 53, 54, 55, 56, 57] : Str), ([97, 47, 98] : Str), ([65] : Str), ([32] : Str), ([97, 32, 98] : Str), ([0] : Str), ([195, 169] : Str), ([97, 44] : Str), ([96] : Str), ([123] : Str), ([58] : Str), ([47] : Str)] : List Str).length : Int))) with hb9 | hb9
          · rw [condT hb9] at h
            refine awp_condT (boT hb9) ?_
            refine awp_skip ?_
            show AWp _ _ _ _
            refine awp_seq ?_
            refine awp_block ?_
            refine awp_seq ?_
            refine awp_region ?_
            refine arun_do rfl rfl rfl (ex_move (eV (v := (SL 1 cS ([[], ([46] : Str), ([46, 46] : Str), ([49, 50, 51, 52, 53, 54, 55, 56, 57] : Str), ([97, 47, 98] : Str), ([65] : Str), ([32] : Str), ([97, 32, 98] : Str), ([0] : Str), ([195, 169] : Str), ([97, 44] : Str), ([96] : Str), ([123] : Str), ([58] : Str), ([47] : Str)] : List Str))) rfl)) ?_
            refine arun_do rfl rfl rfl (ex_move (eV (v := (I v8)) rfl)) ?_
            obtain ⟨x10, hx10, h⟩ := bindS h
            refine arun_do rfl rfl rfl (tx_idxD (c := cS) (xs := ([[], ([46] : Str), ([46, 46] : Str), ([49, 50, 51, 52, 53, 54, 55, 56, 57] : Str), ([97, 47, 98] : Str), ([65] : Str), ([32] : Str), ([97, 32, 98] : Str), ([0] : Str), ([195, 169] : Str), ([97, 44] : Str), ([96] : Str), ([123] : Str), ([58] : Str), ([47] : Str)] : List Str)) (i := v8) ceS Tryd.underlying27 s_9 rfl rfl hx10) ?_
            refine arun_do rfl rfl rfl (tx_ldD1 (v := (S x10)) Tryd.underlying9 rfl rfl rfl) ?_
            obtain ⟨x11, hx11, h⟩ := bindS h
            refine arun_do rfl rfl rfl (ex_call0 (vs := [(S x10)]) (v := (Bo x11)) rfl en_13 (cargs (evs rfl evs_nil)) rfl (ok_name_May x10 x11 hx11) rfl) ?_
            refine arun_keepE [2, 4, 37] 0 0 (st' := ⟨68, 0, [(2, (SL 1 cS ([[], ([46] : Str), ([46, 46] : Str), ([49, 50, 51, 52, 53, 54, 55, 56, 57] : Str), ([97, 47, 98] : Str), ([65] : Str), ([32] : Str), ([97, 32, 98] : Str), ([0] : Str), ([195, 169] : Str), ([97, 44] : Str), ([96] : Str), ([123] : Str), ([58] : Str), ([47] : Str)] : List Str))), (4, (I v8)), (37, (Bo x11))], [], ⟨0, []⟩⟩) (by kernel_rfl) (by kernel_rfl) ?_
            show AWp _ _ _ _
            rcases Bool.eq_false_or_eq_true x11 with hb12 | hb12
            · rw [condT hb12] at h
              refine awp_condT (boT hb12) ?_
              refine awp_seq ?_
              refine awp_region ?_
              refine arun_do rfl rfl rfl (ex_assign (eV (v := (Bo false)) rfl)) ?_
              refine arun_keepE [0] 0 0 (st' := ⟨68, 0, [(0, (Bo false))], [], ⟨0, []⟩⟩) (by kernel_rfl) (by kernel_rfl) ?_
              show AWp _ _ _ _
              refine awp_ret ?_
              cases h
              exact ares1 (rtmp rfl (eV rfl))
            · rw [condF hb12] at h
              refine awp_condF (boF hb12) ?_
              refine awp_skip ?_
              show AWp _ _ _ _
              refine awp_region ?_
              refine arun_do rfl rfl rfl (ex_move (eV (v := (I v8)) rfl)) ?_
              refine arun_do rfl rfl rfl (ex_bin (vx := (I v8)) (vy := (I 1)) rfl rfl addI_ok) ?_
              refine arun_do rfl rfl rfl (ex_assign (eV (v := (I (w64 (v8 + 1)))) rfl)) ?_
              refine arun_keepE [2, 4] 0 0 (st' := ⟨68, 0, [(2, (SL 1 cS ([[], ([46] : Str), ([46, 46] : Str), ([49, 50, 51, 52, 53, 54, 55, 56, 57] : Str), ([97, 47, 98] : Str), ([65] : Str), ([32] : Str), ([97, 32, 98] : Str), ([0] : Str), ([195, 169] : Str), ([97, 44] : Str), ([96] : Str), ([123] : Str), ([58] : Str), ([47] : Str)] : List Str))), (4, (I (w64 (v8 + 1))))], [], ⟨0, []⟩⟩) (by kernel_rfl) (by kernel_rfl) ?_
              exact Exists.intro n2 (And.intro (Nat.lt_succ_self _) (Exists.intro (w64 (v8 + 1)) (And.intro rfl h)))
          · rw [condF hb9] at h
            refine awp_condF (boF hb9) ?_
            refine awp_exit ?_
            show AWp _ _ _ _
            refine awp_seq ?_
            refine awp_region ?_
            refine arun_do rfl rfl rfl (ex_buildSliceD (qs := [(0, (S ([47] : Str))), (1, (S ([97, 47] : Str))), (2, (S ([47, 97] : Str))), (3, (S ([97, 47, 47, 98] : Str))), (4, (S ([97, 47, 46, 47, 98] : Str))), (5, (S ([97, 47, 46, 46, 47, 98] : Str))), (6, (S ([97, 47, 98, 47, 99, 47, 100, 47, 101, 47, 102, 47, 103, 47, 104] : Str))), (7, (S ([97, 47, 66] : Str)))]) (cells := (([([47] : Str), ([97, 47] : Str), ([47, 97] : Str), ([97, 47, 47, 98] : Str), ([97, 47, 46, 47, 98] : Str), ([97, 47, 46, 46, 47, 98] : Str), ([97, 47, 98, 47, 99, 47, 100, 47, 101, 47, 102, 47, 103, 47, 104] : Str), ([97, 47, 66] : Str)] : List Str).flatMap cS)) Tryd.underlying27 s_9 (by decide) (evp rfl (evp rfl (evp rfl (evp rfl (evp rfl (evp rfl (evp rfl (evp rfl evp_nil)))))))) rfl (by kernel_rfl) (by kernel_rfl) (by kernel_rfl)) ?_
            refine arun_do rfl rfl rfl (ex_assign (eV (v := (SL 1 cS ([([47] : Str), ([97, 47] : Str), ([47, 97] : Str), ([97, 47, 47, 98] : Str), ([97, 47, 46, 47, 98] : Str), ([97, 47, 46, 46, 47, 98] : Str), ([97, 47, 98, 47, 99, 47, 100, 47, 101, 47, 102, 47, 103, 47, 104] : Str), ([97, 47, 66] : Str)] : List Str))) rfl)) ?_
            refine arun_keepE [5] 0 0 (st' := ⟨68, 0, [(5, (SL 1 cS ([([47] : Str), ([97, 47] : Str), ([47, 97] : Str), ([97, 47, 47, 98] : Str), ([97, 47, 46, 47, 98] : Str), ([97, 47, 46, 46, 47, 98] : Str), ([97, 47, 98, 47, 99, 47, 100, 47, 101, 47, 102, 47, 103, 47, 104] : Str), ([97, 47, 66] : Str)] : List Str)))], [], ⟨0, []⟩⟩) (by kernel_rfl) (by kernel_rfl) ?_
            show AWp _ _ _ _
            refine awp_seq ?_
            refine awp_seq ?_
            refine awp_region ?_
            refine arun_do rfl rfl rfl (ex_assign (eV (v := (I 0)) rfl)) ?_
            refine arun_keepE [5, 6] 0 0 (st' := ⟨68, 0, [(5, (SL 1 cS ([([47] : Str), ([97, 47] : Str), ([47, 97] : Str), ([97, 47, 47, 98] : Str), ([97, 47, 46, 47, 98] : Str), ([97, 47, 46, 46, 47, 98] : Str), ([97, 47, 98, 47, 99, 47, 100, 47, 101, 47, 102, 47, 103, 47, 104] : Str), ([97, 47, 66] : Str)] : List Str))), (6, (I 0))], [], ⟨0, []⟩⟩) (by kernel_rfl) (by kernel_rfl) ?_
            show AWp _ _ _ _
            refine awp_block ?_
            refine awp_loop (fun n s => ∃ (v13 : Int), s = ⟨68, 0, [(5, (SL 1 cS ([([47] : Str), ([97, 47] : Str), ([47, 97] : Str), ([97, 47, 47, 98] : Str), ([97, 47, 46, 47, 98] : Str), ([97, 47, 46, 46, 47, 98] : Str), ([97, 47, 98, 47, 99, 47, 100, 47, 101, 47, 102, 47, 103, 47, 104] : Str), ([97, 47, 66] : Str)] : List Str))), (6, (I v13))], [], ⟨0, []⟩⟩ ∧ M_law11_NameForms_l3 (M_law11_NameForms_l1 n1) (M_law11_NameForms_l2 (M_law11_NameForms_l1 n1) n2) n v13 = some r) fuel (Exists.intro 0 (And.intro rfl h)) ?_
            rintro n s ⟨v13, rfl, h⟩ -
            cases n with
            | zero => cases h
            | succ n3 =>
              unfold M_law11_NameForms_l3 at h
              refine awp_seq ?_
              refine awp_seq ?_
              refine awp_region ?_
              refine arun_do rfl rfl rfl (ex_move (eV (v := (I v13)) rfl)) ?_
              refine arun_do rfl rfl rfl (ex_move (eV (v := (SL 1 cS ([([47] : Str), ([97, 47] : Str), ([47, 97] : Str), ([97, 47, 47, 98] : Str), ([97, 47, 46, 47, 98] : Str), ([97, 47, 46, 46, 47, 98] : Str), ([97, 47, 98, 47, 99, 47, 100, 47, 101, 47, 102, 47, 103, 47, 104] : Str), ([97, 47, 66] : Str)] : List Str))) rfl)) ?_
              refine arun_do rfl rfl rfl (tx_lenD (xs := ([([47] : Str), ([97, 47] : Str), ([47, 97] : Str), ([97, 47, 47, 98] : Str), ([97, 47, 46, 47, 98] : Str), ([97, 47, 46, 46, 47, 98] : Str), ([97, 47, 98, 47, 99, 47, 100, 47, 101, 47, 102, 47, 103, 47, 104] : Str), ([97, 47, 66] : Str)] : List Str)) ceS Tryd.underlying27 rfl) ?_
              refine arun_do rfl rfl rfl (ex_bin (vx := (I v13)) (vy := (I (([([47] : Str), ([97, 47] : Str), ([47, 97] : Str), ([97, 47, 47, 98] : Str), ([97, 47, 46, 47, 98] : Str), ([97, 47, 46, 46, 47, 98] : Str), ([97, 47, 98, 47, 99, 47, 100, 47, 101, 47, 102, 47, 103, 47, 104] : Str), ([97, 47, 66] : Str)] : List Str).length : Int))) rfl rfl lssI_ok) ?_
              refine arun_keepE [5, 6, 42] 0 0 (st' := ⟨68, 0, [(5, (SL 1 cS ([([47] : Str), ([97, 47] : Str), ([47, 97] : Str), ([97, 47, 47, 98] : Str), ([97, 47, 46, 47, 98] : Str), ([97, 47, 46, 46, 47, 98] : Str), ([97, 47, 98, 47, 99, 47, 100, 47, 101, 47, 102, 47, 103, 47, 104] : Str), ([97, 47, 66] : Str)] : List Str))), (6, (I v13)), (42, (Bo (decide (v13 < (([([47] : Str), ([97, 47] : Str), ([47, 97] : Str), ([97, 47, 47, 98] : Str), ([97, 47, 46, 47, 98] : Str), ([97, 47, 46, 46, 47, 98] : Str), ([97, 47, 98, 47, 99, 47, 100, 47, 101, 47, 102, 47, 103, 47, 104] : Str), ([97, 47, 66] : Str)] : List Str).length : Int)))))], [], ⟨0, []⟩⟩) (by kernel_rfl) (by kernel_rfl) ?_
              show AWp _ _ _ _
              rcases Bool.eq_false_or_eq_true (decide (v13 < (([([47] : Str), ([97, 47] : Str), ([47, 97] : Str), ([97, 47, 47, 98] : Str), ([97, 47, 46, 47, 98] : Str), ([97, 47, 46, 46, 47, 98] : Str), ([97, 47, 98, 47, 99, 47, 100, 47, 101, 47, 102, 47, 103, 47, 104] : Str), ([97, 47, 66] : Str)] : List Str).length : Int))) with hb14 | hb14
              · rw [condT hb14] at h
                refine awp_condT (boT hb14) ?_
                refine awp_skip ?_
                show AWp _ _ _ _
                refine awp_seq ?_
                refine awp_block ?_
                refine awp_seq ?_
                refine awp_region ?_
                refine arun_do rfl rfl rfl (ex_move (eV (v := (SL 1 cS ([([47] : Str), ([97, 47] : Str), ([47, 97] : Str), ([97, 47, 47, 98] : Str), ([97, 47, 46, 47, 98] : Str), ([97, 47, 46, 46, 47, 98] : Str), ([97, 47, 98, 47, 99, 47, 100, 47, 101, 47, 102, 47, 103, 47, 104] : Str), ([97, 47, 66] : Str)] : List Str))) rfl)) ?_
                refine arun_do rfl rfl rfl (ex_move (eV (v := (I v13)) rfl)) ?_
                obtain ⟨x15, hx15, h⟩ := bindS h
                refine arun_do rfl rfl rfl (tx_idxD (c := cS) (xs := ([([47] : Str), ([97, 47] : Str), ([47, 97] : Str), ([97, 47, 47, 98] : Str), ([97, 47, 46, 47, 98] : Str), ([97, 47, 46, 46, 47, 98] : Str), ([97, 47, 98, 47, 99, 47, 100, 47, 101, 47, 102, 47, 103, 47, 104] : Str), ([97, 47, 66] : Str)] : List Str)) (i := v13) ceS Tryd.underlying27 s_9 rfl rfl hx15) ?_
                refine arun_do rfl rfl rfl (tx_ldD1 (v := (S x15)) Tryd.underlying9 rfl rfl rfl) ?_
                obtain ⟨x16, hx16, h⟩ := bindS h
                refine arun_do rfl rfl rfl (ex_call0 (vs := [(S x15)]) (v := (Value.tuple #[(SL 1 cS x16.1), (Bo x16.2)])) rfl en_10 (cargs (evs rfl evs_nil)) rfl (ok_name_Parts x15 x16 hx16) rfl) ?_
                refine arun_do rfl rfl rfl (ex_move (eV (v := (Value.tuple #[(SL 1 cS x16.1), (Bo x16.2)])) rfl)) ?_
                refine arun_do rfl rfl rfl (ex_extract (vx := (Value.tuple #[(SL 1 cS x16.1), (Bo x16.2)])) (v := (SL 1 cS x16.1)) rfl rfl) ?_
                refine arun_do rfl rfl rfl (ex_extract (vx := (Value.tuple #[(SL 1 cS x16.1), (Bo x16.2)])) (v := (Bo x16.2)) rfl rfl) ?_
                refine arun_do rfl rfl rfl (ex_assign (eV (v := (SL 1 cS x16.1)) rfl)) ?_
                refine arun_do rfl rfl rfl (ex_assign (eV (v := (Bo x16.2)) rfl)) ?_
                refine arun_keepE [5, 6, 8] 0 0 (st' := ⟨68, 0, [(5, (SL 1 cS ([([47] : Str), ([97, 47] : Str), ([47, 97] : Str), ([97, 47, 47, 98] : Str), ([97, 47, 46, 47, 98] : Str), ([97, 47, 46, 46, 47, 98] : Str), ([97, 47, 98, 47, 99, 47, 100, 47, 101, 47, 102, 47, 103, 47, 104] : Str), ([97, 47, 66] : Str)] : List Str))), (6, (I v13)), (8, (Bo x16.2))], [], ⟨0, []⟩⟩) (by kernel_rfl) (by kernel_rfl) ?_
                show AWp _ _ _ _
                refine awp_seq ?_
                refine awp_region ?_
                refine arun_do rfl rfl rfl (ex_move (eV (v := (Bo x16.2)) rfl)) ?_
                refine arun_keepE [5, 6, 53] 0 0 (st' := ⟨68, 0, [(5, (SL 1 cS ([([47] : Str), ([97, 47] : Str), ([47, 97] : Str), ([97, 47, 47, 98] : Str), ([97, 47, 46, 47, 98] : Str), ([97, 47, 46, 46, 47, 98] : Str), ([97, 47, 98, 47, 99, 47, 100, 47, 101, 47, 102, 47, 103, 47, 104] : Str), ([97, 47, 66] : Str)] : List Str))), (6, (I v13)), (53, (Bo x16.2))], [], ⟨0, []⟩⟩) (by kernel_rfl) (by kernel_rfl) ?_
                show AWp _ _ _ _
                rcases Bool.eq_false_or_eq_true x16.2 with hb17 | hb17
                · rw [condT hb17] at h
                  refine awp_condT (boT hb17) ?_
                  refine awp_seq ?_
                  refine awp_region ?_
                  refine arun_do rfl rfl rfl (ex_assign (eV (v := (Bo false)) rfl)) ?_
                  refine arun_keepE [0] 0 0 (st' := ⟨68, 0, [(0, (Bo false))], [], ⟨0, []⟩⟩) (by kernel_rfl) (by kernel_rfl) ?_
                  show AWp _ _ _ _
                  refine awp_ret ?_
                  cases h
                  exact ares1 (rtmp rfl (eV rfl))
                · rw [condF hb17] at h
                  refine awp_condF (boF hb17) ?_
                  refine awp_skip ?_
                  show AWp _ _ _ _
                  refine awp_region ?_
                  refine arun_do rfl rfl rfl (ex_move (eV (v := (I v13)) rfl)) ?_
                  refine arun_do rfl rfl rfl (ex_bin (vx := (I v13)) (vy := (I 1)) rfl rfl addI_ok) ?_
                  refine arun_do rfl rfl rfl (ex_assign (eV (v := (I (w64 (v13 + 1)))) rfl)) ?_
                  refine arun_keepE [5, 6] 0 0 (st' := ⟨68, 0, [(5, (SL 1 cS ([([47] : Str), ([97, 47] : Str), ([47, 97] : Str), ([97, 47, 47, 98] : Str), ([97, 47, 46, 47, 98] : Str), ([97, 47, 46, 46, 47, 98] : Str), ([97, 47, 98, 47, 99, 47, 100, 47, 101, 47, 102, 47, 103, 47, 104] : Str), ([97, 47, 66] : Str)] : List Str))), (6, (I (w64 (v13 + 1))))], [], ⟨0, []⟩⟩) (by kernel_rfl) (by kernel_rfl) ?_
                  exact Exists.intro n3 (And.intro (Nat.lt_succ_self _) (Exists.intro (w64 (v13 + 1)) (And.intro rfl h)))
              · rw [condF hb14] at h
                refine awp_condF (boF hb14) ?_
                refine awp_exit ?_
                show AWp _ _ _ _
                refine awp_seq ?_
                refine awp_region ?_
                obtain ⟨x18, hx18, h⟩ := bindS h
                refine arun_do rfl rfl rfl (ex_call0 (vs := [(S ([97, 47, 98, 47, 99, 47, 100, 47, 101, 47, 102, 47, 103] : Str))]) (v := (Value.tuple #[(SL 1 cS x18.1), (Bo x18.2)])) rfl en_10 (cargs (evs rfl evs_nil)) rfl (ok_name_Parts ([97, 47, 98, 47, 99, 47, 100, 47, 101, 47, 102, 47, 103] : Str) x18 hx18) rfl) ?_
                refine arun_do rfl rfl rfl (ex_move (eV (v := (Value.tuple #[(SL 1 cS x18.1), (Bo x18.2)])) rfl)) ?_
                refine arun_do rfl rfl rfl (ex_extract (vx := (Value.tuple #[(SL 1 cS x18.1), (Bo x18.2)])) (v := (SL 1 cS x18.1)) rfl rfl) ?_
                refine arun_do rfl rfl rfl (ex_extract (vx := (Value.tuple #[(SL 1 cS x18.1), (Bo x18.2)])) (v := (Bo x18.2)) rfl rfl) ?_
                refine arun_do rfl rfl rfl (ex_assign (eV (v := (SL 1 cS x18.1)) rfl)) ?_
                refine arun_do rfl rfl rfl (ex_assign (eV (v := (Bo x18.2)) rfl)) ?_
                refine arun_keepE [9, 10] 0 0 (st' := ⟨68, 0, [(9, (SL 1 cS x18.1)), (10, (Bo x18.2))], [], ⟨0, []⟩⟩) (by kernel_rfl) (by kernel_rfl) ?_
                show AWp _ _ _ _
                refine awp_seq ?_
                refine awp_region ?_
                refine arun_do rfl rfl rfl (ex_move (eV (v := (Bo x18.2)) rfl)) ?_
                refine arun_do rfl rfl rfl (ex_move (eV (v := (Bo x18.2)) rfl)) ?_
                refine arun_guard (v := (SL 1 cS x18.1)) (x18.2 == true) rfl rfl rfl (fun hc => ex_move (eV (v := (SL 1 cS x18.1)) rfl)) ?_
                refine arun_guard (v := (I (x18.1.length : Int))) (x18.2 == true) rfl rfl rfl (fun hc => tx_lenD (xs := x18.1) ceS Tryd.underlying27 (cond_of hc)) ?_
                refine arun_guard (v := (Bo ((x18.1.length : Int) == 7))) (x18.2 == true) rfl rfl rfl (fun hc => ex_bin (vx := (I (x18.1.length : Int))) (vy := (I 7)) (cond_of hc) rfl eqlI_ok) ?_
                refine arun_do rfl rfl rfl (ex_pick rfl pkAnd) ?_
                refine arun_do rfl rfl rfl (ex_move (eV (v := (Bo (x18.2 && ((x18.1.length : Int) == 7)))) rfl)) ?_
                obtain ⟨x19, hx19, h⟩ := bindS h
                refine arun_guard (v := (S x19)) ((x18.2 && ((x18.1.length : Int) == 7)) == true) rfl rfl rfl (fun hc => ex_call0 (vs := [(SL 1 cS [])]) (v := (S x19)) rfl en_15 (cargs (evsN (s := 0) rfl evs_nil)) rfl (ok_name_Join ([] : (List Str)) x19 (gd_of hc hx19)) rfl) ?_
                refine arun_guard (v := (Bo (x19 == []))) ((x18.2 && ((x18.1.length : Int) == 7)) == true) rfl rfl rfl (fun hc => ex_bin (vx := (S x19)) (vy := (S [])) (cond_of hc) rfl eqlS_ok) ?_
                refine arun_do rfl rfl rfl (ex_pick rfl pkAnd) ?_
                refine arun_do rfl rfl rfl (ex_assign (eV (v := (Bo ((x18.2 && ((x18.1.length : Int) == 7)) && (x19 == [])))) rfl)) ?_
                refine arun_keepE [0] 0 0 (st' := ⟨68, 0, [(0, (Bo ((x18.2 && ((x18.1.length : Int) == 7)) && (x19 == []))))], [], ⟨0, []⟩⟩) (by kernel_rfl) (by kernel_rfl) ?_
                show AWp _ _ _ _
                refine awp_ret ?_
                cases h
                exact ares1 (rtmp rfl (eV rfl))

end Go.Proofs
