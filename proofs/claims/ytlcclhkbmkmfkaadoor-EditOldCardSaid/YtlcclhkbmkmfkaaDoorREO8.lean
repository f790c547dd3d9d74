/- Pure models of functions of the program, and that its code does what they say: palimpref11 Parts, palimpref11 Kids. Written by a program. -/
import Derived.Test.YtlcclhkbmkmfkaaDoorREO7
import Derived.Test.YtlcclhkbmkmfkaaDoorREOB
set_option maxRecDepth 20000
set_option maxHeartbeats 4000000
namespace Go.Proofs
open Go Go.Fhl
set_option linter.unusedVariables false
set_option linter.unusedSimpArgs false
noncomputable def M_ref11_Parts_k1 (c_1 : (Int → Int → List Str → Option ((List Str) × Bool))) (t0 : Str) (v3 : Int) (y6 : Int) (y7 : List Str) : Option ((List Str) × Bool) :=
  c_1 y6 (w64 (v3 + 1)) y7
noncomputable def M_ref11_Parts_l1 (t0 : Str) : Nat → Int → Int → List Str → Option ((List Str) × Bool)
  | 0, _, _, _ => none
  | n1 + 1, v2, v3, v4 =>
  cond (decide (v3 ≤ (t0.length : Int))) (Option.bind (gd ((decide (v3 < (t0.length : Int))) == true) (getI t0 v3)) fun (x8 : UInt8) => cond ((decide (v3 < (t0.length : Int))) && (x8 != 47)) (M_ref11_Parts_k1 (M_ref11_Parts_l1 t0 n1) t0 v3 v2 v4) (Option.bind (slL t0 v2 v3) fun (x10 : Str) => Option.bind (M_ref11_MayName x10) fun (x11 : Bool) => cond ((!x11) || (decide (((v4.length : Nat) : Int) ≥ 7))) (some ([], false)) (Option.bind (slL t0 v2 v3) fun (x13 : Str) => Option.bind (appL 16 v4 ([x13] : List Str)) fun (x14 : List Str) => M_ref11_Parts_k1 (M_ref11_Parts_l1 t0 n1) t0 v3 (w64 (v3 + 1)) x14))) (some (v4, true))
noncomputable def M_ref11_Parts (t0 : Str) : Option ((List Str) × Bool) :=
  cond (t0 == []) (some ([], true)) (M_ref11_Parts_l1 t0 fuel 0 0 ([] : List Str))
theorem ok_ref11_Parts (t0 : Str) (r : ((List Str) × Bool)) (h : M_ref11_Parts t0 = some r) : FFn Tryd.prog 26 [(S t0)] (Value.tuple #[(SL 1 cS r.1), (Bo r.2)]) := by
  refine FFn.of_body (n := 46) Tryd.func26 rfl Tryd.ntmps26 rfl rfl rfl rfl ?_
  show AWp _ _ _ ⟨46, 0, [(0, (S t0))], [], ⟨0, []⟩⟩
  unfold M_ref11_Parts at h
  refine awp_seq ?_
  refine awp_region ?_
  refine arun_do rfl rfl rfl (ex_assign (eV (v := (Value.slice none 0 0)) rfl)) ?_
  refine arun_do rfl rfl rfl (ex_assign (eV (v := (Bo false)) rfl)) ?_
  refine arun_keepE [0] 0 0 (st' := ⟨46, 0, [(0, (S t0))], [], ⟨0, []⟩⟩) (by kernel_rfl) (by kernel_rfl) ?_
  show AWp _ _ _ _
  refine awp_seq ?_
  refine awp_seq ?_
  refine awp_region ?_
  refine arun_do rfl rfl rfl (ex_move (eV (v := (S t0)) rfl)) ?_
  refine arun_do rfl rfl rfl (ex_bin (vx := (S t0)) (vy := (S [])) rfl rfl eqlS_ok) ?_
  refine arun_keepE [0, 8] 0 0 (st' := ⟨46, 0, [(0, (S t0)), (8, (Bo (t0 == [])))], [], ⟨0, []⟩⟩) (by kernel_rfl) (by kernel_rfl) ?_
  show AWp _ _ _ _
  rcases Bool.eq_false_or_eq_true (t0 == []) with hb1 | hb1
  · rw [condT hb1] at h
    refine awp_condT (boT hb1) ?_
    refine awp_seq ?_
    refine awp_region ?_
    refine arun_do rfl rfl rfl (ex_assign (eV (v := (Value.slice none 0 0)) rfl)) ?_
    refine arun_do rfl rfl rfl (ex_assign (eV (v := (Bo true)) rfl)) ?_
    refine arun_keepE [2, 3] 0 0 (st' := ⟨46, 0, [(2, (Value.slice none 0 0)), (3, (Bo true))], [], ⟨0, []⟩⟩) (by kernel_rfl) (by kernel_rfl) ?_
    show AWp _ _ _ _
    refine awp_ret ?_
    cases h
    exact aresN rfl (L2.cons (rtmp rfl (eN rfl)) (L2.cons (rtmp rfl (eV rfl)) L2.nil)) rfl
  · rw [condF hb1] at h
    refine awp_condF (boF hb1) ?_
    refine awp_skip ?_
    show AWp _ _ _ _
    refine awp_seq ?_
    refine awp_region ?_
    refine arun_do rfl rfl rfl (ex_assign (eV (v := (Value.slice none 0 0)) rfl)) ?_
    refine arun_keepE [0, 4] 0 0 (st' := ⟨46, 0, [(0, (S t0)), (4, (Value.slice none 0 0))], [], ⟨0, []⟩⟩) (by kernel_rfl) (by kernel_rfl) ?_
    show AWp _ _ _ _
    refine awp_seq ?_
    refine awp_region ?_
    refine arun_do rfl rfl rfl (ex_assign (eV (v := (I 0)) rfl)) ?_
    refine arun_keepE [0, 4, 5] 0 0 (st' := ⟨46, 0, [(0, (S t0)), (4, (Value.slice none 0 0)), (5, (I 0))], [], ⟨0, []⟩⟩) (by kernel_rfl) (by kernel_rfl) ?_
    show AWp _ _ _ _
    refine awp_seq ?_
    refine awp_seq ?_
    refine awp_region ?_
    refine arun_do rfl rfl rfl (ex_assign (eV (v := (I 0)) rfl)) ?_
    refine arun_keepE [0, 4, 5, 6] 0 0 (st' := ⟨46, 0, [(0, (S t0)), (4, (Value.slice none 0 0)), (5, (I 0)), (6, (I 0))], [], ⟨0, []⟩⟩) (by kernel_rfl) (by kernel_rfl) ?_
    show AWp _ _ _ _
    refine awp_block ?_
    refine awp_nilGro 4 1 rfl (by decide) ?_
    refine awp_keepE [0, 4, 5, 6] 0 1 (st' := ⟨46, 0, [(0, (S t0)), (4, (GV 0 0)), (5, (I 0)), (6, (I 0))], [], ⟨1, [(0, ⟨1, (([] : List Str).flatMap cS), true⟩)]⟩⟩) (by kernel_rfl) (by kernel_rfl) ?_
    refine awp_loop (fun n s => ∃ (v2 : Int) (v3 : Int) (v4 : List Str), s = ⟨46, 0, [(0, (S t0)), (4, (GV 0 v4.length)), (5, (I v2)), (6, (I v3))], [], ⟨1, [(0, ⟨1, ((v4).flatMap cS), true⟩)]⟩⟩ ∧ M_ref11_Parts_l1 t0 n v2 v3 v4 = some r) fuel (Exists.intro 0 (Exists.intro 0 (Exists.intro ([] : List Str) (And.intro rfl h)))) ?_
    rintro n s ⟨v2, v3, v4, rfl, h⟩ -
    cases n with
    | zero => cases h
    | succ n1 =>
      unfold M_ref11_Parts_l1 at h
      refine awp_seq ?_
      refine awp_seq ?_
      refine awp_region ?_
      refine arun_do rfl rfl rfl (ex_move (eV (v := (I v3)) rfl)) ?_
      refine arun_do rfl rfl rfl (ex_move (eV (v := (S t0)) rfl)) ?_
      refine arun_do rfl rfl rfl (tx_lenS Tryd.underlying9 rfl) ?_
      refine arun_do rfl rfl rfl (ex_bin (vx := (I v3)) (vy := (I (t0.length : Int))) rfl rfl leqI_ok) ?_
      refine arun_keepE [0, 4, 5, 6, 12] 0 1 (st' := ⟨46, 0, [(0, (S t0)), (4, (GV 0 v4.length)), (5, (I v2)), (6, (I v3)), (12, (Bo (decide (v3 ≤ (t0.length : Int)))))], [], ⟨1, [(0, ⟨1, ((v4).flatMap cS), true⟩)]⟩⟩) (by kernel_rfl) (by kernel_rfl) ?_
      show AWp _ _ _ _
      rcases Bool.eq_false_or_eq_true (decide (v3 ≤ (t0.length : Int))) with hb5 | hb5
      · rw [condT hb5] at h
        refine awp_condT (boT hb5) ?_
        refine awp_skip ?_
        show AWp _ _ _ _
        refine awp_seqJ (fun s => ∃ (y6 : Int) (y7 : List Str), s = ⟨46, 0, [(0, (S t0)), (4, (GV 0 y7.length)), (5, (I y6)), (6, (I v3))], [], ⟨1, [(0, ⟨1, ((y7).flatMap cS), true⟩)]⟩⟩ ∧ M_ref11_Parts_k1 (M_ref11_Parts_l1 t0 n1) t0 v3 y6 y7 = some r) ?_ ?_
        · refine awp_block ?_
          refine awp_seq ?_
          refine awp_seq ?_
          refine awp_region ?_
          refine arun_do rfl rfl rfl (ex_move (eV (v := (I v3)) rfl)) ?_
          refine arun_do rfl rfl rfl (ex_move (eV (v := (S t0)) rfl)) ?_
          refine arun_do rfl rfl rfl (tx_lenS Tryd.underlying9 rfl) ?_
          refine arun_do rfl rfl rfl (ex_bin (vx := (I v3)) (vy := (I (t0.length : Int))) rfl rfl lssI_ok) ?_
          refine arun_do rfl rfl rfl (ex_move (eV (v := (Bo (decide (v3 < (t0.length : Int))))) rfl)) ?_
          refine arun_guard (v := (S t0)) ((decide (v3 < (t0.length : Int))) == true) rfl rfl rfl (fun hc => ex_move (eV (v := (S t0)) rfl)) ?_
          refine arun_guard (v := (I v3)) ((decide (v3 < (t0.length : Int))) == true) rfl rfl rfl (fun hc => ex_move (eV (v := (I v3)) rfl)) ?_
          obtain ⟨x8, hx8, h⟩ := bindS h
          refine arun_guard (v := (U8 x8)) ((decide (v3 < (t0.length : Int))) == true) rfl rfl rfl (fun hc => tx_idxS (u := t0) (i := v3) Tryd.underlying9 (cond_of hc) (cond_of hc) (gd_of hc hx8)) ?_
          refine arun_guard (v := (Bo (x8 != 47))) ((decide (v3 < (t0.length : Int))) == true) rfl rfl rfl (fun hc => ex_bin (vx := (U8 x8)) (vy := (U8 47)) (cond_of hc) rfl neq8_ok) ?_
          refine arun_do rfl rfl rfl (ex_pick rfl pkAnd) ?_
          refine arun_keepE [0, 4, 5, 6, 24] 0 1 (st' := ⟨46, 0, [(0, (S t0)), (4, (GV 0 v4.length)), (5, (I v2)), (6, (I v3)), (24, (Bo ((decide (v3 < (t0.length : Int))) && (x8 != 47))))], [], ⟨1, [(0, ⟨1, ((v4).flatMap cS), true⟩)]⟩⟩) (by kernel_rfl) (by kernel_rfl) ?_
          show AWp _ _ _ _
          rcases Bool.eq_false_or_eq_true ((decide (v3 < (t0.length : Int))) && (x8 != 47)) with hb9 | hb9
          · rw [condT hb9] at h
            refine awp_condT (boT hb9) ?_
            refine awp_keepE [0, 4, 5, 6] 0 1 (st' := ⟨46, 0, [(0, (S t0)), (4, (GV 0 v4.length)), (5, (I v2)), (6, (I v3))], [], ⟨1, [(0, ⟨1, ((v4).flatMap cS), true⟩)]⟩⟩) (by kernel_rfl) (by kernel_rfl) ?_
            refine awp_exit ?_
            exact (Exists.intro v2 (Exists.intro v4 (And.intro rfl h)))
          · rw [condF hb9] at h
            refine awp_condF (boF hb9) ?_
            refine awp_skip ?_
            show AWp _ _ _ _
            refine awp_seq ?_
            refine awp_seq ?_
            refine awp_region ?_
            refine arun_do rfl rfl rfl (ex_move (eV (v := (S t0)) rfl)) ?_
            refine arun_do rfl rfl rfl (ex_move (eV (v := (I v2)) rfl)) ?_
            refine arun_do rfl rfl rfl (ex_move (eV (v := (I v3)) rfl)) ?_
            obtain ⟨x10, hx10, h⟩ := bindS h
            refine arun_do rfl rfl rfl (tx_slS (u := t0) Tryd.underlying9 rfl (loX (l := v2) rfl) (hiX (l := v3) rfl) hx10) ?_
            obtain ⟨x11, hx11, h⟩ := bindS h
            refine arun_do rfl rfl rfl (ex_call0 (vs := [(S x10)]) (v := (Bo x11)) rfl en_42 (cargs (evs rfl evs_nil)) rfl (ok_ref11_MayName x10 x11 hx11) rfl) ?_
            refine arun_do rfl rfl rfl (ex_un (vx := (Bo x11)) rfl notB_ok) ?_
            refine arun_do rfl rfl rfl (ex_move (eV (v := (Bo (!x11))) rfl)) ?_
            refine arun_guard (v := (GV 0 v4.length)) ((!x11) == false) rfl rfl rfl (fun hc => ex_move (eV (v := (GV 0 v4.length)) rfl)) ?_
            refine arun_guard (v := (I ((v4.length : Nat) : Int))) ((!x11) == false) rfl rfl rfl (fun hc => ex_lenN (n := v4.length) Tryd.underlying60 (cond_of hc)) ?_
            refine arun_guard (v := (Bo (decide (((v4.length : Nat) : Int) ≥ 7)))) ((!x11) == false) rfl rfl rfl (fun hc => ex_bin (vx := (I ((v4.length : Nat) : Int))) (vy := (I 7)) (cond_of hc) rfl geqI_ok) ?_
            refine arun_do rfl rfl rfl (ex_pick rfl pkOr) ?_
            refine arun_keepE [0, 4, 5, 6, 35] 0 1 (st' := ⟨46, 0, [(0, (S t0)), (4, (GV 0 v4.length)), (5, (I v2)), (6, (I v3)), (35, (Bo ((!x11) || (decide (((v4.length : Nat) : Int) ≥ 7)))))], [], ⟨1, [(0, ⟨1, ((v4).flatMap cS), true⟩)]⟩⟩) (by kernel_rfl) (by kernel_rfl) ?_
            show AWp _ _ _ _
            rcases Bool.eq_false_or_eq_true ((!x11) || (decide (((v4.length : Nat) : Int) ≥ 7))) with hb12 | hb12
            · rw [condT hb12] at h
              refine awp_condT (boT hb12) ?_
              refine awp_seq ?_
              refine awp_region ?_
              refine arun_do rfl rfl rfl (ex_assign (eV (v := (Value.slice none 0 0)) rfl)) ?_
              refine arun_do rfl rfl rfl (ex_assign (eV (v := (Bo false)) rfl)) ?_
              refine arun_keepE [2, 3] 0 0 (st' := ⟨46, 0, [(2, (Value.slice none 0 0)), (3, (Bo false))], [], ⟨0, []⟩⟩) (by kernel_rfl) (by kernel_rfl) ?_
              show AWp _ _ _ _
              refine awp_ret ?_
              cases h
              exact aresN rfl (L2.cons (rtmp rfl (eN rfl)) (L2.cons (rtmp rfl (eV rfl)) L2.nil)) rfl
            · rw [condF hb12] at h
              refine awp_condF (boF hb12) ?_
              refine awp_skip ?_
              show AWp _ _ _ _
              refine awp_seq ?_
              refine awp_region ?_
              refine arun_do rfl rfl rfl (ex_move (eV (v := (GV 0 v4.length)) rfl)) ?_
              refine arun_do rfl rfl rfl (ex_move (eV (v := (S t0)) rfl)) ?_
              refine arun_do rfl rfl rfl (ex_move (eV (v := (I v2)) rfl)) ?_
              refine arun_do rfl rfl rfl (ex_move (eV (v := (I v3)) rfl)) ?_
              obtain ⟨x13, hx13, h⟩ := bindS h
              refine arun_do rfl rfl rfl (tx_slS (u := t0) Tryd.underlying9 rfl (loX (l := v2) rfl) (hiX (l := v3) rfl) hx13) ?_
              refine arun_do rfl rfl rfl (ex_buildSliceD (qs := [(0, (S x13))]) (cells := (([x13] : List Str).flatMap cS)) Tryd.underlying60 s_9 (by decide) (evp rfl evp_nil) rfl (by kernel_rfl) (by kernel_rfl) (by kernel_rfl)) ?_
              obtain ⟨x14, hx14, h⟩ := bindS h
              refine arun_do rfl rfl rfl (tx_appG (c := cS) (xs := v4) (H' := ⟨1, [(0, ⟨1, ((x14).flatMap cS), true⟩)]⟩) ceS e_9 rfl rfl rfl (tsrcD (ys := ([x13] : List Str)) ceS Tryd.underlying60 s_9 Tryd.underlying60 rfl) hx14 rfl) ?_
              refine arun_do rfl rfl rfl (ex_assign (eV (v := (GV 0 x14.length)) rfl)) ?_
              refine arun_keepE [0, 4, 6] 0 1 (st' := ⟨46, 0, [(0, (S t0)), (4, (GV 0 x14.length)), (6, (I v3))], [], ⟨1, [(0, ⟨1, ((x14).flatMap cS), true⟩)]⟩⟩) (by kernel_rfl) (by kernel_rfl) ?_
              show AWp _ _ _ _
              refine awp_region ?_
              refine arun_do rfl rfl rfl (ex_move (eV (v := (I v3)) rfl)) ?_
              refine arun_do rfl rfl rfl (ex_bin (vx := (I v3)) (vy := (I 1)) rfl rfl addI_ok) ?_
              refine arun_do rfl rfl rfl (ex_assign (eV (v := (I (w64 (v3 + 1)))) rfl)) ?_
              refine arun_keepE [0, 4, 5, 6] 0 1 (st' := ⟨46, 0, [(0, (S t0)), (4, (GV 0 x14.length)), (5, (I (w64 (v3 + 1)))), (6, (I v3))], [], ⟨1, [(0, ⟨1, ((x14).flatMap cS), true⟩)]⟩⟩) (by kernel_rfl) (by kernel_rfl) ?_
              exact (Exists.intro (w64 (v3 + 1)) (Exists.intro x14 (And.intro rfl h)))
        · rintro s ⟨y6, y7, rfl, h⟩
          unfold M_ref11_Parts_k1 at h
          refine awp_region ?_
          refine arun_do rfl rfl rfl (ex_move (eV (v := (I v3)) rfl)) ?_
          refine arun_do rfl rfl rfl (ex_bin (vx := (I v3)) (vy := (I 1)) rfl rfl addI_ok) ?_
          refine arun_do rfl rfl rfl (ex_assign (eV (v := (I (w64 (v3 + 1)))) rfl)) ?_
          refine arun_keepE [0, 4, 5, 6] 0 1 (st' := ⟨46, 0, [(0, (S t0)), (4, (GV 0 y7.length)), (5, (I y6)), (6, (I (w64 (v3 + 1))))], [], ⟨1, [(0, ⟨1, ((y7).flatMap cS), true⟩)]⟩⟩) (by kernel_rfl) (by kernel_rfl) ?_
          exact Exists.intro n1 (And.intro (Nat.lt_succ_self _) (Exists.intro y6 (Exists.intro (w64 (v3 + 1)) (Exists.intro y7 (And.intro rfl h)))))
      · rw [condF hb5] at h
        refine awp_condF (boF hb5) ?_
        refine awp_exit ?_
        show AWp _ _ _ _
        refine awp_seq ?_
        refine awp_region ?_
        refine arun_do rfl rfl rfl (ex_move (eV (v := (GV 0 v4.length)) rfl)) ?_
        refine arun_do rfl rfl rfl (ex_assign (eV (v := (GV 0 v4.length)) rfl)) ?_
        refine arun_do rfl rfl rfl (ex_assign (eV (v := (Bo true)) rfl)) ?_
        refine arun_keepE [2, 3] 0 1 (st' := ⟨46, 0, [(2, (GV 0 v4.length)), (3, (Bo true))], [], ⟨1, [(0, ⟨1, ((v4).flatMap cS), true⟩)]⟩⟩) (by kernel_rfl) (by kernel_rfl) ?_
        show AWp _ _ _ _
        refine awp_freeze 0 (bk := ⟨1, ((v4).flatMap cS), true⟩) (T' := [(2, (SL 1 cS v4)), (3, (Bo true))]) (L' := []) rfl (fzG ceS rfl rfl (FzT.keep (v := (Bo true)) rfl FzT.nil)) (FzL.refl _) ?_
        show AWp _ _ _ ⟨46, 0, [(2, (SL 1 cS v4)), (3, (Bo true))], [], ⟨1, []⟩⟩
        refine awp_ret ?_
        cases h
        exact aresN rfl (L2.cons (rtmp rfl (eV rfl)) (L2.cons (rtmp rfl (eV rfl)) L2.nil)) rfl

noncomputable def M_ref11_Kids_k1 (c_1 : (Int → List Int → Option (List Int))) (t0 : (List G_api_Node)) (t1 : Int) (v1 : Int) (y4 : List Int) : Option (List Int) :=
  c_1 (w64 (v1 + 1)) y4
noncomputable def M_ref11_Kids_l2 (c_1 : (Int → List Int → Option (List Int))) (t0 : (List G_api_Node)) (t1 : Int) (v1 : Int) : Nat → Int → List Int → Option (List Int)
  | 0, _, _ => none
  | n2 + 1, v10, v11 =>
  Option.bind (gd ((decide (v10 > 0)) == true) (getI v11 (w64 (v10 - 1)))) fun (x12 : Int) => Option.bind (gd ((decide (v10 > 0)) == true) (getI t0 x12)) fun (x13 : G_api_Node) => Option.bind (gd ((decide (v10 > 0)) == true) (getI t0 v1)) fun (x14 : G_api_Node) => cond ((decide (v10 > 0)) && (!(ltS x13.Name x14.Name || x13.Name == x14.Name))) (Option.bind (getI v11 v10) fun (x16 : Int) => Option.bind (getI v11 (w64 (v10 - 1))) fun (x17 : Int) => Option.bind (getI v11 (w64 (v10 - 1))) fun (x18 : Int) => Option.bind (setI v11 (w64 (v10 - 1)) x16) fun (x19 : List Int) => Option.bind (getI x19 v10) fun (x20 : Int) => Option.bind (setI x19 v10 x17) fun (x21 : List Int) => (M_ref11_Kids_l2 c_1 t0 t1 v1 n2) (w64 (v10 - 1)) x21) (M_ref11_Kids_k1 c_1 t0 t1 v1 v11)
noncomputable def M_ref11_Kids_l1 (t0 : (List G_api_Node)) (t1 : Int) : Nat → Int → List Int → Option (List Int)
  | 0, _, _ => none
  | n1 + 1, v1, v2 =>
  cond (decide (v1 < (t0.length : Int))) (Option.bind (getI t0 v1) fun (x5 : G_api_Node) => Option.bind (gd ((x5.Kind != 1) == true) (getI t0 v1)) fun (x6 : G_api_Node) => Option.bind (gd (((x5.Kind != 1) && (x6.Kind != 2)) == false) (getI t0 v1)) fun (x7 : G_api_Node) => cond (((x5.Kind != 1) && (x6.Kind != 2)) || (x7.Up != t1)) (M_ref11_Kids_k1 (M_ref11_Kids_l1 t0 t1 n1) t0 t1 v1 v2) (Option.bind (appL 8 v2 ([v1] : List Int)) fun (x9 : List Int) => M_ref11_Kids_l2 (M_ref11_Kids_l1 t0 t1 n1) t0 t1 v1 fuel ((v2.length : Nat) : Int) x9)) (some v2)
noncomputable def M_ref11_Kids (t0 : (List G_api_Node)) (t1 : Int) : Option (List Int) :=
  M_ref11_Kids_l1 t0 t1 fuel 1 ([] : List Int)
theorem ok_ref11_Kids (t0 : (List G_api_Node)) (t1 : Int) (r : (List Int)) (h : M_ref11_Kids t0 t1 = some r) : FFn Tryd.prog 57 [(SL 5 c_api_Node t0), (I t1)] (SL 1 cI r) := by
  refine FFn.of_body (n := 81) Tryd.func57 rfl Tryd.ntmps57 rfl rfl rfl rfl ?_
  show AWp _ _ _ ⟨81, 0, [(0, (SL 5 c_api_Node t0)), (1, (I t1))], [], ⟨0, []⟩⟩
  unfold M_ref11_Kids at h
  refine awp_seq ?_
  refine awp_region ?_
  refine arun_do rfl rfl rfl (ex_assign (eV (v := (Value.slice none 0 0)) rfl)) ?_
  refine arun_keepE [0, 1] 0 0 (st' := ⟨81, 0, [(0, (SL 5 c_api_Node t0)), (1, (I t1))], [], ⟨0, []⟩⟩) (by kernel_rfl) (by kernel_rfl) ?_
  show AWp _ _ _ _
  refine awp_seq ?_
  refine awp_region ?_
  refine arun_do rfl rfl rfl (ex_assign (eV (v := (Value.slice none 0 0)) rfl)) ?_
  refine arun_keepE [0, 1, 5] 0 0 (st' := ⟨81, 0, [(0, (SL 5 c_api_Node t0)), (1, (I t1)), (5, (Value.slice none 0 0))], [], ⟨0, []⟩⟩) (by kernel_rfl) (by kernel_rfl) ?_
  show AWp _ _ _ _
  refine awp_seq ?_
  refine awp_seq ?_
  refine awp_region ?_
  refine arun_do rfl rfl rfl (ex_assign (eV (v := (I 1)) rfl)) ?_
  refine arun_keepE [0, 1, 5, 6] 0 0 (st' := ⟨81, 0, [(0, (SL 5 c_api_Node t0)), (1, (I t1)), (5, (Value.slice none 0 0)), (6, (I 1))], [], ⟨0, []⟩⟩) (by kernel_rfl) (by kernel_rfl) ?_
  show AWp _ _ _ _
  refine awp_block ?_
  refine awp_nilGro 5 1 rfl (by decide) ?_
  refine awp_keepE [0, 1, 5, 6] 0 1 (st' := ⟨81, 0, [(0, (SL 5 c_api_Node t0)), (1, (I t1)), (5, (GV 0 0)), (6, (I 1))], [], ⟨1, [(0, ⟨1, (([] : List Int).flatMap cI), true⟩)]⟩⟩) (by kernel_rfl) (by kernel_rfl) ?_
  refine awp_loop (fun n s => ∃ (v1 : Int) (v2 : List Int), s = ⟨81, 0, [(0, (SL 5 c_api_Node t0)), (1, (I t1)), (5, (GV 0 v2.length)), (6, (I v1))], [], ⟨1, [(0, ⟨1, ((v2).flatMap cI), true⟩)]⟩⟩ ∧ M_ref11_Kids_l1 t0 t1 n v1 v2 = some r) fuel (Exists.intro 1 (Exists.intro ([] : List Int) (And.intro rfl h))) ?_
  rintro n s ⟨v1, v2, rfl, h⟩ -
  cases n with
  | zero => cases h
  | succ n1 =>
    unfold M_ref11_Kids_l1 at h
    refine awp_seq ?_
    refine awp_seq ?_
    refine awp_region ?_
    refine arun_do rfl rfl rfl (ex_move (eV (v := (I v1)) rfl)) ?_
    refine arun_do rfl rfl rfl (ex_move (eV (v := (SL 5 c_api_Node t0)) rfl)) ?_
    refine arun_do rfl rfl rfl (tx_lenD (xs := t0) ce_api_Node Tryd.underlying25 rfl) ?_
    refine arun_do rfl rfl rfl (ex_bin (vx := (I v1)) (vy := (I (t0.length : Int))) rfl rfl lssI_ok) ?_
    refine arun_keepE [0, 1, 5, 6, 11] 0 1 (st' := ⟨81, 0, [(0, (SL 5 c_api_Node t0)), (1, (I t1)), (5, (GV 0 v2.length)), (6, (I v1)), (11, (Bo (decide (v1 < (t0.length : Int)))))], [], ⟨1, [(0, ⟨1, ((v2).flatMap cI), true⟩)]⟩⟩) (by kernel_rfl) (by kernel_rfl) ?_
    show AWp _ _ _ _
    rcases Bool.eq_false_or_eq_true (decide (v1 < (t0.length : Int))) with hb3 | hb3
    · rw [condT hb3] at h
      refine awp_condT (boT hb3) ?_
      refine awp_skip ?_
      show AWp _ _ _ _
      refine awp_seqJ (fun s => ∃ (y4 : List Int), s = ⟨81, 0, [(0, (SL 5 c_api_Node t0)), (1, (I t1)), (5, (GV 0 y4.length)), (6, (I v1))], [], ⟨1, [(0, ⟨1, ((y4).flatMap cI), true⟩)]⟩⟩ ∧ M_ref11_Kids_k1 (M_ref11_Kids_l1 t0 t1 n1) t0 t1 v1 y4 = some r) ?_ ?_
      · refine awp_block ?_
        refine awp_seq ?_
        refine awp_seq ?_
        refine awp_region ?_
        refine arun_do rfl rfl rfl (ex_move (eV (v := (SL 5 c_api_Node t0)) rfl)) ?_
        refine arun_do rfl rfl rfl (ex_move (eV (v := (I v1)) rfl)) ?_
        obtain ⟨x5, hx5, h⟩ := bindS h
        refine arun_do rfl rfl rfl (tx_idxD (c := c_api_Node) (xs := t0) (i := v1) ce_api_Node Tryd.underlying25 s_39 rfl rfl hx5) ?_
        refine arun_do rfl rfl rfl (ex_fieldAddrD (vs := (List.drop 0 (c_api_Node x5))) Tryd.underlying39 rfl s_3 (by decide) rfl rfl) ?_
        refine arun_do rfl rfl rfl (tx_ldD1 (v := (I x5.Kind)) Tryd.underlying3 rfl rfl rfl) ?_
        refine arun_do rfl rfl rfl (ex_bin (vx := (I x5.Kind)) (vy := (I 1)) rfl rfl neqI_ok) ?_
        refine arun_do rfl rfl rfl (ex_move (eV (v := (Bo (x5.Kind != 1))) rfl)) ?_
        refine arun_guard (v := (SL 5 c_api_Node t0)) ((x5.Kind != 1) == true) rfl rfl rfl (fun hc => ex_move (eV (v := (SL 5 c_api_Node t0)) rfl)) ?_
        refine arun_guard (v := (I v1)) ((x5.Kind != 1) == true) rfl rfl rfl (fun hc => ex_move (eV (v := (I v1)) rfl)) ?_
        obtain ⟨x6, hx6, h⟩ := bindS h
        refine arun_guard (v := (DP (c_api_Node x6))) ((x5.Kind != 1) == true) rfl rfl rfl (fun hc => tx_idxD (c := c_api_Node) (xs := t0) (i := v1) ce_api_Node Tryd.underlying25 s_39 (cond_of hc) (cond_of hc) (gd_of hc hx6)) ?_
        refine arun_guard (v := (DP (List.drop 0 (c_api_Node x6)))) ((x5.Kind != 1) == true) rfl rfl rfl (fun hc => ex_fieldAddrD (vs := (List.drop 0 (c_api_Node x6))) Tryd.underlying39 rfl s_3 (by decide) (cond_of hc) rfl) ?_
        refine arun_guard (v := (I x6.Kind)) ((x5.Kind != 1) == true) rfl rfl rfl (fun hc => tx_ldD1 (v := (I x6.Kind)) Tryd.underlying3 rfl (cond_of hc) rfl) ?_
        refine arun_guard (v := (Bo (x6.Kind != 2))) ((x5.Kind != 1) == true) rfl rfl rfl (fun hc => ex_bin (vx := (I x6.Kind)) (vy := (I 2)) (cond_of hc) rfl neqI_ok) ?_
        refine arun_do rfl rfl rfl (ex_pick rfl pkAnd) ?_
        refine arun_do rfl rfl rfl (ex_move (eV (v := (Bo ((x5.Kind != 1) && (x6.Kind != 2)))) rfl)) ?_
        refine arun_guard (v := (SL 5 c_api_Node t0)) (((x5.Kind != 1) && (x6.Kind != 2)) == false) rfl rfl rfl (fun hc => ex_move (eV (v := (SL 5 c_api_Node t0)) rfl)) ?_
        refine arun_guard (v := (I v1)) (((x5.Kind != 1) && (x6.Kind != 2)) == false) rfl rfl rfl (fun hc => ex_move (eV (v := (I v1)) rfl)) ?_
        obtain ⟨x7, hx7, h⟩ := bindS h
        refine arun_guard (v := (DP (c_api_Node x7))) (((x5.Kind != 1) && (x6.Kind != 2)) == false) rfl rfl rfl (fun hc => tx_idxD (c := c_api_Node) (xs := t0) (i := v1) ce_api_Node Tryd.underlying25 s_39 (cond_of hc) (cond_of hc) (gd_of hc hx7)) ?_
        refine arun_guard (v := (DP (List.drop 1 (c_api_Node x7)))) (((x5.Kind != 1) && (x6.Kind != 2)) == false) rfl rfl rfl (fun hc => ex_fieldAddrD (vs := (List.drop 1 (c_api_Node x7))) Tryd.underlying39 rfl s_3 (by decide) (cond_of hc) rfl) ?_
        refine arun_guard (v := (I x7.Up)) (((x5.Kind != 1) && (x6.Kind != 2)) == false) rfl rfl rfl (fun hc => tx_ldD1 (v := (I x7.Up)) Tryd.underlying3 rfl (cond_of hc) rfl) ?_
        refine arun_guard (v := (I t1)) (((x5.Kind != 1) && (x6.Kind != 2)) == false) rfl rfl rfl (fun hc => ex_move (eV (v := (I t1)) rfl)) ?_
        refine arun_guard (v := (Bo (x7.Up != t1))) (((x5.Kind != 1) && (x6.Kind != 2)) == false) rfl rfl rfl (fun hc => ex_bin (vx := (I x7.Up)) (vy := (I t1)) (cond_of hc) (cond_of hc) neqI_ok) ?_
        refine arun_do rfl rfl rfl (ex_pick rfl pkOr) ?_
        refine arun_keepE [0, 1, 5, 6, 36] 0 1 (st' := ⟨81, 0, [(0, (SL 5 c_api_Node t0)), (1, (I t1)), (5, (GV 0 v2.length)), (6, (I v1)), (36, (Bo (((x5.Kind != 1) && (x6.Kind != 2)) || (x7.Up != t1))))], [], ⟨1, [(0, ⟨1, ((v2).flatMap cI), true⟩)]⟩⟩) (by kernel_rfl) (by kernel_rfl) ?_
        show AWp _ _ _ _
        rcases Bool.eq_false_or_eq_true (((x5.Kind != 1) && (x6.Kind != 2)) || (x7.Up != t1)) with hb8 | hb8
        · rw [condT hb8] at h
          refine awp_condT (boT hb8) ?_
          refine awp_keepE [0, 1, 5, 6] 0 1 (st' := ⟨81, 0, [(0, (SL 5 c_api_Node t0)), (1, (I t1)), (5, (GV 0 v2.length)), (6, (I v1))], [], ⟨1, [(0, ⟨1, ((v2).flatMap cI), true⟩)]⟩⟩) (by kernel_rfl) (by kernel_rfl) ?_
          refine awp_exit ?_
          exact (Exists.intro v2 (And.intro rfl h))
        · rw [condF hb8] at h
          refine awp_condF (boF hb8) ?_
          refine awp_skip ?_
          show AWp _ _ _ _
          refine awp_seq ?_
          refine awp_region ?_
          refine arun_do rfl rfl rfl (ex_move (eV (v := (GV 0 v2.length)) rfl)) ?_
          refine arun_do rfl rfl rfl (ex_lenN (n := v2.length) Tryd.underlying29 rfl) ?_
          refine arun_do rfl rfl rfl (ex_assign (eV (v := (I ((v2.length : Nat) : Int))) rfl)) ?_
          refine arun_keepE [0, 1, 5, 6, 7] 0 1 (st' := ⟨81, 0, [(0, (SL 5 c_api_Node t0)), (1, (I t1)), (5, (GV 0 v2.length)), (6, (I v1)), (7, (I ((v2.length : Nat) : Int)))], [], ⟨1, [(0, ⟨1, ((v2).flatMap cI), true⟩)]⟩⟩) (by kernel_rfl) (by kernel_rfl) ?_
          show AWp _ _ _ _
          refine awp_seq ?_
          refine awp_region ?_
          refine arun_do rfl rfl rfl (ex_move (eV (v := (GV 0 v2.length)) rfl)) ?_
          refine arun_do rfl rfl rfl (ex_move (eV (v := (I v1)) rfl)) ?_
          refine arun_do rfl rfl rfl (ex_buildSliceD (qs := [(0, (I v1))]) (cells := (([v1] : List Int).flatMap cI)) Tryd.underlying29 s_3 (by decide) (evp rfl evp_nil) rfl (by kernel_rfl) (by kernel_rfl) (by kernel_rfl)) ?_
          obtain ⟨x9, hx9, h⟩ := bindS h
          refine arun_do rfl rfl rfl (tx_appG (c := cI) (xs := v2) (H' := ⟨1, [(0, ⟨1, ((x9).flatMap cI), true⟩)]⟩) ceI e_3 rfl rfl rfl (tsrcD (ys := ([v1] : List Int)) ceI Tryd.underlying29 s_3 Tryd.underlying29 rfl) hx9 rfl) ?_
          refine arun_do rfl rfl rfl (ex_assign (eV (v := (GV 0 x9.length)) rfl)) ?_
          refine arun_keepE [0, 1, 5, 6, 7] 0 1 (st' := ⟨81, 0, [(0, (SL 5 c_api_Node t0)), (1, (I t1)), (5, (GV 0 x9.length)), (6, (I v1)), (7, (I ((v2.length : Nat) : Int)))], [], ⟨1, [(0, ⟨1, ((x9).flatMap cI), true⟩)]⟩⟩) (by kernel_rfl) (by kernel_rfl) ?_
          show AWp _ _ _ _
          refine awp_block ?_
          refine awp_loop (fun n s => ∃ (v10 : Int) (v11 : List Int), s = ⟨81, 0, [(0, (SL 5 c_api_Node t0)), (1, (I t1)), (5, (GV 0 v11.length)), (6, (I v1)), (7, (I v10))], [], ⟨1, [(0, ⟨1, ((v11).flatMap cI), true⟩)]⟩⟩ ∧ M_ref11_Kids_l2 (M_ref11_Kids_l1 t0 t1 n1) t0 t1 v1 n v10 v11 = some r) fuel (Exists.intro ((v2.length : Nat) : Int) (Exists.intro x9 (And.intro rfl h))) ?_
          rintro n s ⟨v10, v11, rfl, h⟩ -
          cases n with
          | zero => cases h
          | succ n2 =>
            unfold M_ref11_Kids_l2 at h
            refine awp_seq ?_
            refine awp_seq ?_
            obtain ⟨x12, hx12, h⟩ := bindS h
            obtain ⟨x13, hx13, h⟩ := bindS h
            obtain ⟨x14, hx14, h⟩ := bindS h
            refine awp_kn [0, 1, 5, 6, 7, 61] 0 1 (st' := ⟨81, 0, [(0, (SL 5 c_api_Node t0)), (1, (I t1)), (5, (GV 0 v11.length)), (6, (I v1)), (7, (I v10)), (61, (Bo ((decide (v10 > 0)) && (!(ltS x13.Name x14.Name || x13.Name == x14.Name)))))], [], ⟨1, [(0, ⟨1, ((v11).flatMap cI), true⟩)]⟩⟩) (awp_draw (T := [(I v10), (Bo (decide (v10 > 0))), (Bo (decide (v10 > 0))), (cond ((decide (v10 > 0)) == true) (SL 5 c_api_Node t0) skipV), (cond ((decide (v10 > 0)) == true) (GV 0 v11.length) skipV), (cond ((decide (v10 > 0)) == true) (I v10) skipV), (cond ((decide (v10 > 0)) == true) (I (w64 (v10 - 1))) skipV), (cond ((decide (v10 > 0)) == true) (GP 0 ((w64 (v10 - 1)).toNat * 1) (List.flatMap cI v11).length) skipV), (cond ((decide (v10 > 0)) == true) (I x12) skipV), (cond ((decide (v10 > 0)) == true) (DP (c_api_Node x13)) skipV), (cond ((decide (v10 > 0)) == true) (DP (List.drop 2 (c_api_Node x13))) skipV), (cond ((decide (v10 > 0)) == true) (S x13.Name) skipV), (cond ((decide (v10 > 0)) == true) (SL 5 c_api_Node t0) skipV), (cond ((decide (v10 > 0)) == true) (I v1) skipV), (cond ((decide (v10 > 0)) == true) (DP (c_api_Node x14)) skipV), (cond ((decide (v10 > 0)) == true) (DP (List.drop 2 (c_api_Node x14))) skipV), (cond ((decide (v10 > 0)) == true) (S x14.Name) skipV), (cond ((decide (v10 > 0)) == true) (Bo (!(ltS x13.Name x14.Name || x13.Name == x14.Name))) skipV), (Bo ((decide (v10 > 0)) && (!(ltS x13.Name x14.Name || x13.Name == x14.Name))))]) (LH := [([], ⟨1, [(0, ⟨1, ((v11).flatMap cI), true⟩)]⟩)]) (D := [⟨[(7, none)], [], [0], false⟩, ⟨[(43, some 0)], [0], [0], false⟩, ⟨[(44, some 1)], [0, 1], [0], false⟩, ⟨[(0, none), (45, some 2)], [0, 1, 2], [0], false⟩, ⟨[(5, none), (45, some 2)], [0, 1, 2], [0], false⟩, ⟨[(7, none), (45, some 2)], [0, 1, 2], [0], false⟩, ⟨[(48, some 5), (45, some 2)], [0, 1, 2, 5], [0], false⟩, ⟨[(47, some 4), (49, some 6), (45, some 2)], [0, 1, 2, 4, 5, 6], [0], false⟩, ⟨[(50, some 7), (45, some 2)], [0, 1, 2, 4, 5, 6, 7], [0], false⟩, ⟨[(46, some 3), (51, some 8), (45, some 2)], [0, 1, 2, 3, 4, 5, 6, 7, 8], [0], false⟩, ⟨[(52, some 9), (45, some 2)], [0, 1, 2, 3, 4, 5, 6, 7, 8, 9], [0], false⟩, ⟨[(53, some 10), (45, some 2)], [0, 1, 2, 3, 4, 5, 6, 7, 8, 9, 10], [0], false⟩, ⟨[(0, none), (45, some 2)], [0, 1, 2], [0], false⟩, ⟨[(6, none), (45, some 2)], [0, 1, 2], [0], false⟩, ⟨[(55, some 12), (56, some 13), (45, some 2)], [0, 1, 2, 12, 13], [0], false⟩, ⟨[(57, some 14), (45, some 2)], [0, 1, 2, 12, 13, 14], [0], false⟩, ⟨[(58, some 15), (45, some 2)], [0, 1, 2, 12, 13, 14, 15], [0], false⟩, ⟨[(54, some 11), (59, some 16), (45, some 2)], [0, 1, 2, 3, 4, 5, 6, 7, 8, 9, 10, 11, 12, 13, 14, 15, 16], [0], false⟩, ⟨[(45, some 2), (60, some 17)], [0, 1, 2, 3, 4, 5, 6, 7, 8, 9, 10, 11, 12, 13, 14, 15, 16, 17], [0], false⟩]) (S := []) (plan := [0, 1, 2, 3, 4, 5, 6, 7, 8, 9, 10, 11, 12, 13, 14, 15, 16, 17, 18]) mo (by kernel_rfl) rfl rfl rfl (dcons (dstep1 (Tm := [(7, (I v10))]) (L := []) (H := ⟨1, [(0, ⟨1, ((v11).flatMap cI), true⟩)]⟩) rfl rfl rfl rfl rfl (astep_do rfl (ex_move (eV (v := (I v10)) rfl)))) (dcons (dstep1 (Tm := [(43, (I v10))]) (L := []) (H := ⟨1, [(0, ⟨1, ((v11).flatMap cI), true⟩)]⟩) rfl rfl rfl rfl rfl (astep_do rfl (ex_bin (vx := (I v10)) (vy := (I 0)) rfl rfl gtrI_ok))) (dcons (dstep1 (Tm := [(44, (Bo (decide (v10 > 0))))]) (L := []) (H := ⟨1, [(0, ⟨1, ((v11).flatMap cI), true⟩)]⟩) rfl rfl rfl rfl rfl (astep_do rfl (ex_move (eV (v := (Bo (decide (v10 > 0)))) rfl)))) (dcons (dstep1 (Tm := [(0, (SL 5 c_api_Node t0)), (45, (Bo (decide (v10 > 0))))]) (L := []) (H := ⟨1, [(0, ⟨1, ((v11).flatMap cI), true⟩)]⟩) rfl rfl rfl rfl rfl (astep_guard (v := (SL 5 c_api_Node t0)) ((decide (v10 > 0)) == true) rfl (fun hc => ex_move (eV (v := (SL 5 c_api_Node t0)) rfl)))) (dcons (dstep1 (Tm := [(5, (GV 0 v11.length)), (45, (Bo (decide (v10 > 0))))]) (L := []) (H := ⟨1, [(0, ⟨1, ((v11).flatMap cI), true⟩)]⟩) rfl rfl rfl rfl rfl (astep_guard (v := (GV 0 v11.length)) ((decide (v10 > 0)) == true) rfl (fun hc => ex_move (eV (v := (GV 0 v11.length)) rfl)))) (dcons (dstep1 (Tm := [(7, (I v10)), (45, (Bo (decide (v10 > 0))))]) (L := []) (H := ⟨1, [(0, ⟨1, ((v11).flatMap cI), true⟩)]⟩) rfl rfl rfl rfl rfl (astep_guard (v := (I v10)) ((decide (v10 > 0)) == true) rfl (fun hc => ex_move (eV (v := (I v10)) rfl)))) (dcons (dstep1 (Tm := [(48, (cond ((decide (v10 > 0)) == true) (I v10) skipV)), (45, (Bo (decide (v10 > 0))))]) (L := []) (H := ⟨1, [(0, ⟨1, ((v11).flatMap cI), true⟩)]⟩) rfl rfl rfl rfl rfl (astep_guard (v := (I (w64 (v10 - 1)))) ((decide (v10 > 0)) == true) rfl (fun hc => ex_bin (vx := (I v10)) (vy := (I 1)) (cond_of hc) rfl subI_ok))) (dcons (dstep1 (Tm := [(47, (cond ((decide (v10 > 0)) == true) (GV 0 v11.length) skipV)), (49, (cond ((decide (v10 > 0)) == true) (I (w64 (v10 - 1))) skipV)), (45, (Bo (decide (v10 > 0))))]) (L := []) (H := ⟨1, [(0, ⟨1, ((v11).flatMap cI), true⟩)]⟩) rfl rfl rfl rfl rfl (astep_guard (v := (GP 0 ((w64 (v10 - 1)).toNat * 1) (List.flatMap cI v11).length)) ((decide (v10 > 0)) == true) rfl (fun hc => tx_idxG (c := cI) (xs := v11) (i := (w64 (v10 - 1))) ceI Tryd.underlying29 s_3 (cond_of hc) (cond_of hc) rfl rfl (gd_of hc hx12)))) (dcons (dstep1 (Tm := [(50, (cond ((decide (v10 > 0)) == true) (GP 0 ((w64 (v10 - 1)).toNat * 1) (List.flatMap cI v11).length) skipV)), (45, (Bo (decide (v10 > 0))))]) (L := []) (H := ⟨1, [(0, ⟨1, ((v11).flatMap cI), true⟩)]⟩) rfl rfl rfl rfl rfl (astep_guard (v := (I x12)) ((decide (v10 > 0)) == true) rfl (fun hc => tx_ldG (v := (I x12)) (s := 1) (cond_of hc) rfl (part_elem (off := 0) (v := (I x12)) ceI (gd_of hc hx12) Tryd.underlying3 rfl (by decide) rfl)))) (dcons (dstep1 (Tm := [(46, (cond ((decide (v10 > 0)) == true) (SL 5 c_api_Node t0) skipV)), (51, (cond ((decide (v10 > 0)) == true) (I x12) skipV)), (45, (Bo (decide (v10 > 0))))]) (L := []) (H := ⟨1, [(0, ⟨1, ((v11).flatMap cI), true⟩)]⟩) rfl rfl rfl rfl rfl (astep_guard (v := (DP (c_api_Node x13))) ((decide (v10 > 0)) == true) rfl (fun hc => tx_idxD (c := c_api_Node) (xs := t0) (i := x12) ce_api_Node Tryd.underlying25 s_39 (cond_of hc) (cond_of hc) (gd_of hc hx13)))) (dcons (dstep1 (Tm := [(52, (cond ((decide (v10 > 0)) == true) (DP (c_api_Node x13)) skipV)), (45, (Bo (decide (v10 > 0))))]) (L := []) (H := ⟨1, [(0, ⟨1, ((v11).flatMap cI), true⟩)]⟩) rfl rfl rfl rfl rfl (astep_guard (v := (DP (List.drop 2 (c_api_Node x13)))) ((decide (v10 > 0)) == true) rfl (fun hc => ex_fieldAddrD (vs := (List.drop 2 (c_api_Node x13))) Tryd.underlying39 rfl s_9 (by decide) (cond_of hc) rfl))) (dcons (dstep1 (Tm := [(53, (cond ((decide (v10 > 0)) == true) (DP (List.drop 2 (c_api_Node x13))) skipV)), (45, (Bo (decide (v10 > 0))))]) (L := []) (H := ⟨1, [(0, ⟨1, ((v11).flatMap cI), true⟩)]⟩) rfl rfl rfl rfl rfl (astep_guard (v := (S x13.Name)) ((decide (v10 > 0)) == true) rfl (fun hc => tx_ldD1 (v := (S x13.Name)) Tryd.underlying9 rfl (cond_of hc) rfl))) (dcons (dstep1 (Tm := [(0, (SL 5 c_api_Node t0)), (45, (Bo (decide (v10 > 0))))]) (L := []) (H := ⟨1, [(0, ⟨1, ((v11).flatMap cI), true⟩)]⟩) rfl rfl rfl rfl rfl (astep_guard (v := (SL 5 c_api_Node t0)) ((decide (v10 > 0)) == true) rfl (fun hc => ex_move (eV (v := (SL 5 c_api_Node t0)) rfl)))) (dcons (dstep1 (Tm := [(6, (I v1)), (45, (Bo (decide (v10 > 0))))]) (L := []) (H := ⟨1, [(0, ⟨1, ((v11).flatMap cI), true⟩)]⟩) rfl rfl rfl rfl rfl (astep_guard (v := (I v1)) ((decide (v10 > 0)) == true) rfl (fun hc => ex_move (eV (v := (I v1)) rfl)))) (dcons (dstep1 (Tm := [(55, (cond ((decide (v10 > 0)) == true) (SL 5 c_api_Node t0) skipV)), (56, (cond ((decide (v10 > 0)) == true) (I v1) skipV)), (45, (Bo (decide (v10 > 0))))]) (L := []) (H := ⟨1, [(0, ⟨1, ((v11).flatMap cI), true⟩)]⟩) rfl rfl rfl rfl rfl (astep_guard (v := (DP (c_api_Node x14))) ((decide (v10 > 0)) == true) rfl (fun hc => tx_idxD (c := c_api_Node) (xs := t0) (i := v1) ce_api_Node Tryd.underlying25 s_39 (cond_of hc) (cond_of hc) (gd_of hc hx14)))) (dcons (dstep1 (Tm := [(57, (cond ((decide (v10 > 0)) == true) (DP (c_api_Node x14)) skipV)), (45, (Bo (decide (v10 > 0))))]) (L := []) (H := ⟨1, [(0, ⟨1, ((v11).flatMap cI), true⟩)]⟩) rfl rfl rfl rfl rfl (astep_guard (v := (DP (List.drop 2 (c_api_Node x14)))) ((decide (v10 > 0)) == true) rfl (fun hc => ex_fieldAddrD (vs := (List.drop 2 (c_api_Node x14))) Tryd.underlying39 rfl s_9 (by decide) (cond_of hc) rfl))) (dcons (dstep1 (Tm := [(58, (cond ((decide (v10 > 0)) == true) (DP (List.drop 2 (c_api_Node x14))) skipV)), (45, (Bo (decide (v10 > 0))))]) (L := []) (H := ⟨1, [(0, ⟨1, ((v11).flatMap cI), true⟩)]⟩) rfl rfl rfl rfl rfl (astep_guard (v := (S x14.Name)) ((decide (v10 > 0)) == true) rfl (fun hc => tx_ldD1 (v := (S x14.Name)) Tryd.underlying9 rfl (cond_of hc) rfl))) (dcons (dstep1 (Tm := [(54, (cond ((decide (v10 > 0)) == true) (S x13.Name) skipV)), (59, (cond ((decide (v10 > 0)) == true) (S x14.Name) skipV)), (45, (Bo (decide (v10 > 0))))]) (L := []) (H := ⟨1, [(0, ⟨1, ((v11).flatMap cI), true⟩)]⟩) rfl rfl rfl rfl rfl (astep_guard (v := (Bo (!(ltS x13.Name x14.Name || x13.Name == x14.Name)))) ((decide (v10 > 0)) == true) rfl (fun hc => ex_bin (vx := (S x13.Name)) (vy := (S x14.Name)) (cond_of hc) (cond_of hc) gtrS_ok))) (dcons (dstep1 (Tm := [(45, (Bo (decide (v10 > 0)))), (60, (cond ((decide (v10 > 0)) == true) (Bo (!(ltS x13.Name x14.Name || x13.Name == x14.Name))) skipV))]) (L := []) (H := ⟨1, [(0, ⟨1, ((v11).flatMap cI), true⟩)]⟩) rfl rfl rfl rfl rfl (astep_do rfl (ex_pick rfl pkAnd))) dnil))))))))))))))))))) ⟨rfl, rfl⟩) (by kernel_rfl) (by kernel_rfl) ?_
            show AWp _ _ _ _
            rcases Bool.eq_false_or_eq_true ((decide (v10 > 0)) && (!(ltS x13.Name x14.Name || x13.Name == x14.Name))) with hb15 | hb15
            · rw [condT hb15] at h
              refine awp_condT (boT hb15) ?_
              refine awp_skip ?_
              show AWp _ _ _ _
              refine awp_block ?_
              refine awp_seq ?_
              obtain ⟨x16, hx16, h⟩ := bindS h
              obtain ⟨x17, hx17, h⟩ := bindS h
              obtain ⟨x18, hx18, h⟩ := bindS h
              obtain ⟨x19, hx19, h⟩ := bindS h
              obtain ⟨x20, hx20, h⟩ := bindS h
              obtain ⟨x21, hx21, h⟩ := bindS h
              refine awp_knR [0, 1, 5, 6, 7] 0 1 [(0, (SL 5 c_api_Node t0)), (1, (I t1)), (5, (GV 0 x21.length)), (6, (I v1)), (7, (I v10))] (st' := ⟨81, 0, [(0, (SL 5 c_api_Node t0)), (1, (I t1)), (5, (GV 0 v11.length)), (6, (I v1)), (7, (I v10))], [], ⟨1, [(0, ⟨1, ((x21).flatMap cI), true⟩)]⟩⟩) (awp_draw (T := [(GV 0 v11.length), (I v10), (I (w64 (v10 - 1))), (GV 0 v11.length), (I v10), (GV 0 v11.length), (I v10), (GP 0 (v10.toNat * 1) (List.flatMap cI v11).length), (I x16), (GV 0 v11.length), (I v10), (I (w64 (v10 - 1))), (GP 0 ((w64 (v10 - 1)).toNat * 1) (List.flatMap cI v11).length), (I x17), (GP 0 ((w64 (v10 - 1)).toNat * 1) (List.flatMap cI v11).length), undef, (GP 0 (v10.toNat * 1) (List.flatMap cI x19).length), undef]) (LH := [([], ⟨1, [(0, ⟨1, ((v11).flatMap cI), true⟩)]⟩), ([], ⟨1, [(0, ⟨1, ((x19).flatMap cI), true⟩)]⟩), ([], ⟨1, [(0, ⟨1, ((x21).flatMap cI), true⟩)]⟩)]) (D := [⟨[(5, none)], [], [0], false⟩, ⟨[(7, none)], [], [0], false⟩, ⟨[(63, some 1)], [1], [0], false⟩, ⟨[(5, none)], [], [0, 1], false⟩, ⟨[(7, none)], [], [0, 1], false⟩, ⟨[(5, none)], [], [0], false⟩, ⟨[(7, none)], [], [0], false⟩, ⟨[(67, some 5), (68, some 6)], [5, 6], [0], false⟩, ⟨[(69, some 7)], [5, 6, 7], [0], false⟩, ⟨[(5, none)], [], [0], false⟩, ⟨[(7, none)], [], [0], false⟩, ⟨[(72, some 10)], [10], [0], false⟩, ⟨[(71, some 9), (73, some 11)], [9, 10, 11], [0], false⟩, ⟨[(74, some 12)], [9, 10, 11, 12], [0], false⟩, ⟨[(62, some 0), (64, some 2)], [0, 1, 2, 5, 6, 7, 8, 9, 10, 11, 12, 13], [0], false⟩, ⟨[(76, some 14), (70, some 8)], [0, 1, 2, 5, 6, 7, 8, 9, 10, 11, 12, 13, 14], [0], true⟩, ⟨[(65, some 3), (66, some 4)], [0, 1, 2, 3, 4, 5, 6, 7, 8, 9, 10, 11, 12, 13, 14, 15], [1], false⟩, ⟨[(77, some 16), (75, some 13)], [0, 1, 2, 3, 4, 5, 6, 7, 8, 9, 10, 11, 12, 13, 14, 15, 16], [1], true⟩]) (S := [15, 17]) (plan := [0, 1, 2, 3, 4, 5, 6, 7, 8, 9, 10, 11, 12, 13, 14, 15, 16, 17]) mo (by kernel_rfl) rfl rfl rfl (dcons (dstep1 (Tm := [(5, (GV 0 v11.length))]) (L := []) (H := ⟨1, [(0, ⟨1, ((v11).flatMap cI), true⟩)]⟩) rfl rfl rfl rfl rfl (astep_do rfl (ex_move (eV (v := (GV 0 v11.length)) rfl)))) (dcons (dstep1 (Tm := [(7, (I v10))]) (L := []) (H := ⟨1, [(0, ⟨1, ((v11).flatMap cI), true⟩)]⟩) rfl rfl rfl rfl rfl (astep_do rfl (ex_move (eV (v := (I v10)) rfl)))) (dcons (dstep1 (Tm := [(63, (I v10))]) (L := []) (H := ⟨1, [(0, ⟨1, ((v11).flatMap cI), true⟩)]⟩) rfl rfl rfl rfl rfl (astep_do rfl (ex_bin (vx := (I v10)) (vy := (I 1)) rfl rfl subI_ok))) (dcons (dstepN (by intro k hk; simp only [List.mem_cons, List.not_mem_nil, or_false] at hk; rcases hk with rfl | rfl <;> exact ⟨[(5, (GV 0 v11.length))], _, _, _, _, _, rfl, rfl, rfl, rfl, astep_do rfl (ex_move (eV (v := (GV 0 v11.length)) rfl))⟩)) (dcons (dstepN (by intro k hk; simp only [List.mem_cons, List.not_mem_nil, or_false] at hk; rcases hk with rfl | rfl <;> exact ⟨[(7, (I v10))], _, _, _, _, _, rfl, rfl, rfl, rfl, astep_do rfl (ex_move (eV (v := (I v10)) rfl))⟩)) (dcons (dstep1 (Tm := [(5, (GV 0 v11.length))]) (L := []) (H := ⟨1, [(0, ⟨1, ((v11).flatMap cI), true⟩)]⟩) rfl rfl rfl rfl rfl (astep_do rfl (ex_move (eV (v := (GV 0 v11.length)) rfl)))) (dcons (dstep1 (Tm := [(7, (I v10))]) (L := []) (H := ⟨1, [(0, ⟨1, ((v11).flatMap cI), true⟩)]⟩) rfl rfl rfl rfl rfl (astep_do rfl (ex_move (eV (v := (I v10)) rfl)))) (dcons (dstep1 (Tm := [(67, (GV 0 v11.length)), (68, (I v10))]) (L := []) (H := ⟨1, [(0, ⟨1, ((v11).flatMap cI), true⟩)]⟩) rfl rfl rfl rfl rfl (astep_do rfl (tx_idxG (c := cI) (xs := v11) (i := v10) ceI Tryd.underlying29 s_3 rfl rfl rfl rfl hx16))) (dcons (dstep1 (Tm := [(69, (GP 0 (v10.toNat * 1) (List.flatMap cI v11).length))]) (L := []) (H := ⟨1, [(0, ⟨1, ((v11).flatMap cI), true⟩)]⟩) rfl rfl rfl rfl rfl (astep_do rfl (tx_ldG (v := (I x16)) (s := 1) rfl rfl (part_elem (off := 0) (v := (I x16)) ceI hx16 Tryd.underlying3 rfl (by decide) rfl)))) (dcons (dstep1 (Tm := [(5, (GV 0 v11.length))]) (L := []) (H := ⟨1, [(0, ⟨1, ((v11).flatMap cI), true⟩)]⟩) rfl rfl rfl rfl rfl (astep_do rfl (ex_move (eV (v := (GV 0 v11.length)) rfl)))) (dcons (dstep1 (Tm := [(7, (I v10))]) (L := []) (H := ⟨1, [(0, ⟨1, ((v11).flatMap cI), true⟩)]⟩) rfl rfl rfl rfl rfl (astep_do rfl (ex_move (eV (v := (I v10)) rfl)))) (dcons (dstep1 (Tm := [(72, (I v10))]) (L := []) (H := ⟨1, [(0, ⟨1, ((v11).flatMap cI), true⟩)]⟩) rfl rfl rfl rfl rfl (astep_do rfl (ex_bin (vx := (I v10)) (vy := (I 1)) rfl rfl subI_ok))) (dcons (dstep1 (Tm := [(71, (GV 0 v11.length)), (73, (I (w64 (v10 - 1))))]) (L := []) (H := ⟨1, [(0, ⟨1, ((v11).flatMap cI), true⟩)]⟩) rfl rfl rfl rfl rfl (astep_do rfl (tx_idxG (c := cI) (xs := v11) (i := (w64 (v10 - 1))) ceI Tryd.underlying29 s_3 rfl rfl rfl rfl hx17))) (dcons (dstep1 (Tm := [(74, (GP 0 ((w64 (v10 - 1)).toNat * 1) (List.flatMap cI v11).length))]) (L := []) (H := ⟨1, [(0, ⟨1, ((v11).flatMap cI), true⟩)]⟩) rfl rfl rfl rfl rfl (astep_do rfl (tx_ldG (v := (I x17)) (s := 1) rfl rfl (part_elem (off := 0) (v := (I x17)) ceI hx17 Tryd.underlying3 rfl (by decide) rfl)))) (dcons (dstep1 (Tm := [(62, (GV 0 v11.length)), (64, (I (w64 (v10 - 1))))]) (L := []) (H := ⟨1, [(0, ⟨1, ((v11).flatMap cI), true⟩)]⟩) rfl rfl rfl rfl rfl (astep_do rfl (tx_idxG (c := cI) (xs := v11) (i := (w64 (v10 - 1))) ceI Tryd.underlying29 s_3 rfl rfl rfl rfl hx18))) (dcons (dstep1 (Tm := [(76, (GP 0 ((w64 (v10 - 1)).toNat * 1) (List.flatMap cI v11).length)), (70, (I x16))]) (L := []) (H := ⟨1, [(0, ⟨1, ((v11).flatMap cI), true⟩)]⟩) rfl rfl rfl rfl rfl (astep_do rfl (tx_stG (c := cI) (xs := v11) (e := x16) (H' := ⟨1, [(0, ⟨1, ((x19).flatMap cI), true⟩)]⟩) ceI s_3 rfl (eV (v := (I x16)) rfl) rfl rfl hx19 rfl))) (dcons (dstep1 (Tm := [(65, (GV 0 v11.length)), (66, (I v10))]) (L := []) (H := ⟨1, [(0, ⟨1, ((x19).flatMap cI), true⟩)]⟩) rfl rfl rfl rfl rfl (astep_do rfl (tx_idxG (c := cI) (xs := x19) (i := v10) ceI Tryd.underlying29 s_3 rfl rfl rfl (setI_len hx19) hx20))) (dcons (dstep1 (Tm := [(77, (GP 0 (v10.toNat * 1) (List.flatMap cI x19).length)), (75, (I x17))]) (L := []) (H := ⟨1, [(0, ⟨1, ((x19).flatMap cI), true⟩)]⟩) rfl rfl rfl rfl rfl (astep_do rfl (tx_stG (c := cI) (xs := x19) (e := x17) (H' := ⟨1, [(0, ⟨1, ((x21).flatMap cI), true⟩)]⟩) ceI s_3 rfl (eV (v := (I x17)) rfl) rfl rfl hx21 rfl))) dnil)))))))))))))))))) ⟨rfl, rfl⟩) (by kernel_rfl) (by kernel_rfl) (ReT.keep (v := (SL 5 c_api_Node t0)) rfl (ReT.keep (v := (I t1)) rfl (ReT.gv rfl (Eq.trans (setI_len hx19) (setI_len hx21)) (ReT.keep (v := (I v1)) rfl (ReT.keep (v := (I v10)) rfl ReT.nil))))) ?_
              show AWp _ _ _ _
              refine awp_region ?_
              refine arun_do rfl rfl rfl (ex_move (eV (v := (I v10)) rfl)) ?_
              refine arun_do rfl rfl rfl (ex_bin (vx := (I v10)) (vy := (I 1)) rfl rfl subI_ok) ?_
              refine arun_do rfl rfl rfl (ex_assign (eV (v := (I (w64 (v10 - 1)))) rfl)) ?_
              refine arun_keepE [0, 1, 5, 6, 7] 0 1 (st' := ⟨81, 0, [(0, (SL 5 c_api_Node t0)), (1, (I t1)), (5, (GV 0 x21.length)), (6, (I v1)), (7, (I (w64 (v10 - 1))))], [], ⟨1, [(0, ⟨1, ((x21).flatMap cI), true⟩)]⟩⟩) (by kernel_rfl) (by kernel_rfl) ?_
              exact Exists.intro n2 (And.intro (Nat.lt_succ_self _) (Exists.intro (w64 (v10 - 1)) (Exists.intro x21 (And.intro rfl h))))
            · rw [condF hb15] at h
              refine awp_condF (boF hb15) ?_
              refine awp_keepE [0, 1, 5, 6] 0 1 (st' := ⟨81, 0, [(0, (SL 5 c_api_Node t0)), (1, (I t1)), (5, (GV 0 v11.length)), (6, (I v1))], [], ⟨1, [(0, ⟨1, ((v11).flatMap cI), true⟩)]⟩⟩) (by kernel_rfl) (by kernel_rfl) ?_
              refine awp_exit ?_
              exact (Exists.intro v11 (And.intro rfl h))
      · rintro s ⟨y4, rfl, h⟩
        unfold M_ref11_Kids_k1 at h
        refine awp_region ?_
        refine arun_do rfl rfl rfl (ex_move (eV (v := (I v1)) rfl)) ?_
        refine arun_do rfl rfl rfl (ex_bin (vx := (I v1)) (vy := (I 1)) rfl rfl addI_ok) ?_
        refine arun_do rfl rfl rfl (ex_assign (eV (v := (I (w64 (v1 + 1)))) rfl)) ?_
        refine arun_keepE [0, 1, 5, 6] 0 1 (st' := ⟨81, 0, [(0, (SL 5 c_api_Node t0)), (1, (I t1)), (5, (GV 0 y4.length)), (6, (I (w64 (v1 + 1))))], [], ⟨1, [(0, ⟨1, ((y4).flatMap cI), true⟩)]⟩⟩) (by kernel_rfl) (by kernel_rfl) ?_
        exact Exists.intro n1 (And.intro (Nat.lt_succ_self _) (Exists.intro (w64 (v1 + 1)) (Exists.intro y4 (And.intro rfl h))))
    · rw [condF hb3] at h
      refine awp_condF (boF hb3) ?_
      refine awp_exit ?_
      show AWp _ _ _ _
      refine awp_seq ?_
      refine awp_region ?_
      refine arun_do rfl rfl rfl (ex_move (eV (v := (GV 0 v2.length)) rfl)) ?_
      refine arun_do rfl rfl rfl (ex_assign (eV (v := (GV 0 v2.length)) rfl)) ?_
      refine arun_keepE [4] 0 1 (st' := ⟨81, 0, [(4, (GV 0 v2.length))], [], ⟨1, [(0, ⟨1, ((v2).flatMap cI), true⟩)]⟩⟩) (by kernel_rfl) (by kernel_rfl) ?_
      show AWp _ _ _ _
      refine awp_freeze 0 (bk := ⟨1, ((v2).flatMap cI), true⟩) (T' := [(4, (SL 1 cI v2))]) (L' := []) rfl (fzG ceI rfl rfl FzT.nil) (FzL.refl _) ?_
      show AWp _ _ _ ⟨81, 0, [(4, (SL 1 cI v2))], [], ⟨1, []⟩⟩
      refine awp_ret ?_
      cases h
      exact ares1 (rtmp rfl (eV rfl))

end Go.Proofs
