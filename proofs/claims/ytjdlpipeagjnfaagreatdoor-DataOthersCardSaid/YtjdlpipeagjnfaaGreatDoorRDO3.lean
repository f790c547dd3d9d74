/- Pure models of functions of the program, and that its code does what they say: strings Split, name plain, name May, name Parts, walk files at, node Kids$1 at a closure. Written by a program. -/
import Derived.Test.YtjdlpipeagjnfaaGreatDoorRDO2
import Derived.Test.YtjdlpipeagjnfaaGreatDoorRDOB
import Derived.Test.YtjdlpipeagjnfaaGreatDoorRDOX
set_option maxRecDepth 20000
set_option maxHeartbeats 4000000
namespace Go.Proofs
open Go Go.Fhl
set_option linter.unusedVariables false
set_option linter.unusedSimpArgs false
noncomputable def M_strings_Split (t0 : Str) (t1 : Str) : Option (List Str) :=
  Option.bind (M_strings_genSplit t0 t1 0 (-1)) fun (x1 : (List Str)) => some x1
theorem ok_strings_Split (t0 : Str) (t1 : Str) (r : (List Str)) (h : M_strings_Split t0 t1 = some r) : FFn Tryz.prog 71 [(S t0), (S t1)] (SL 1 cS r) := by
  refine FFn.of_body (n := 8) Tryz.func71 rfl Tryz.ntmps71 rfl rfl rfl rfl ?_
  show AWp _ _ _ ⟨8, 0, [(0, (S t0)), (1, (S t1))], [], ⟨0, []⟩⟩
  unfold M_strings_Split at h
  refine awp_seq ?_
  refine awr ?_
  refine ado rfl rfl rfl (eas (eV (v := (Value.slice none 0 0)) rfl)) ?_
  refine ake [0, 1] 0 0 (st' := ⟨8, 0, [(0, (S t0)), (1, (S t1))], [], ⟨0, []⟩⟩) (by kernel_rfl) (by kernel_rfl) ?_
  show AWp _ _ _ _
  refine awp_seq ?_
  refine awr ?_
  refine ado rfl rfl rfl (emv (eV (v := (S t0)) rfl)) ?_
  refine ado rfl rfl rfl (emv (eV (v := (S t1)) rfl)) ?_
  obtain ⟨x1, hx1, h⟩ := bindS h
  refine ado rfl rfl rfl (ex_call0 (vs := [(S t0), (S t1), (I 0), (I (-1))]) (v := (SL 1 cS x1)) rfl en_93 (cargs (evs rfl (evs rfl (evs rfl (evs rfl evs_nil))))) rfl (ok_strings_genSplit t0 t1 0 (-1) x1 hx1) rfl) ?_
  refine ado rfl rfl rfl (eas (eV (v := (SL 1 cS x1)) rfl)) ?_
  refine ake [4] 0 0 (st' := ⟨8, 0, [(4, (SL 1 cS x1))], [], ⟨0, []⟩⟩) (by kernel_rfl) (by kernel_rfl) ?_
  show AWp _ _ _ _
  refine awp_ret ?_
  cases h
  exact ares1 (rtmp rfl (eV rfl))

noncomputable def M_name_plain_l1 (t0 : Str) : Nat → Int → Option Bool
  | 0, _ => none
  | n1 + 1, v1 =>
  cond (decide (v1 < (t0.length : Int))) (Option.bind (getI t0 v1) fun (x3 : UInt8) => Option.bind (M_strings_IndexByte ([97, 98, 99, 100, 101, 102, 103, 104, 105, 106, 107, 108, 109, 110, 111, 112, 113, 114, 115, 116, 117, 118, 119, 120, 121, 122, 48, 49, 50, 51, 52, 53, 54, 55, 56, 57, 46, 95, 45] : Str) x3) fun (x4 : Int) => cond (decide (x4 < 0)) (some false) ((M_name_plain_l1 t0 n1) (w64 (v1 + 1)))) (some true)
noncomputable def M_name_plain (t0 : Str) : Option Bool :=
  M_name_plain_l1 t0 fuel 0
theorem ok_name_plain (t0 : Str) (r : Bool) (h : M_name_plain t0 = some r) : FFn Tryz.prog 94 [(S t0)] (Bo r) := by
  refine FFn.of_body (n := 16) Tryz.func94 rfl Tryz.ntmps94 rfl rfl rfl rfl ?_
  show AWp _ _ _ ⟨16, 0, [(0, (S t0))], [], ⟨0, []⟩⟩
  unfold M_name_plain at h
  refine awp_seq ?_
  refine awr ?_
  refine ado rfl rfl rfl (eas (eV (v := (Bo false)) rfl)) ?_
  refine ake [0] 0 0 (st' := ⟨16, 0, [(0, (S t0))], [], ⟨0, []⟩⟩) (by kernel_rfl) (by kernel_rfl) ?_
  show AWp _ _ _ _
  refine awp_seq ?_
  refine awp_seq ?_
  refine awr ?_
  refine ado rfl rfl rfl (emv (eV (v := (S t0)) rfl)) ?_
  refine ado rfl rfl rfl (tx_sbD Tryz.underlying9 Tryz.underlying22 Tryz.underlying5 rfl) ?_
  refine ado rfl rfl rfl (tx_lenD (xs := t0) ce8 Tryz.underlying22 rfl) ?_
  refine ado rfl rfl rfl (emv (eV (v := (I 0)) rfl)) ?_
  refine ake [6, 7, 8] 0 0 (st' := ⟨16, 0, [(6, (SL 1 c8 t0)), (7, (I (t0.length : Int))), (8, (I 0))], [], ⟨0, []⟩⟩) (by kernel_rfl) (by kernel_rfl) ?_
  show AWp _ _ _ _
  refine awp_block ?_
  refine awp_loop (fun n s => ∃ (v1 : Int), s = ⟨16, 0, [(6, (SL 1 c8 t0)), (7, (I (t0.length : Int))), (8, (I v1))], [], ⟨0, []⟩⟩ ∧ M_name_plain_l1 t0 n v1 = some r) fuel (Exists.intro 0 (And.intro rfl h)) ?_
  rintro n s ⟨v1, rfl, h⟩ -
  cases n with
  | zero => cases h
  | succ n1 =>
    unfold M_name_plain_l1 at h
    refine awp_seq ?_
    refine awr ?_
    refine ado rfl rfl rfl (ex_bin (vx := (I v1)) (vy := (I (t0.length : Int))) rfl rfl lssI_ok) ?_
    refine ake [6, 7, 8, 9] 0 0 (st' := ⟨16, 0, [(6, (SL 1 c8 t0)), (7, (I (t0.length : Int))), (8, (I v1)), (9, (Bo (decide (v1 < (t0.length : Int)))))], [], ⟨0, []⟩⟩) (by kernel_rfl) (by kernel_rfl) ?_
    show AWp _ _ _ _
    refine awp_seq ?_
    rcases Bool.eq_false_or_eq_true (decide (v1 < (t0.length : Int))) with hb2 | hb2
    · rw [condT hb2] at h
      refine awp_condT (boT hb2) ?_
      refine awp_skip ?_
      show AWp _ _ _ _
      refine awp_seq ?_
      refine awp_block ?_
      refine awp_seq ?_
      refine awr ?_
      obtain ⟨x3, hx3, h⟩ := bindS h
      refine ado rfl rfl rfl (tx_idxD (c := c8) (xs := t0) (i := v1) ce8 Tryz.underlying22 s_5 rfl rfl hx3) ?_
      refine ado rfl rfl rfl (tx_ldD1 (v := (U8 x3)) Tryz.underlying5 rfl rfl rfl) ?_
      refine ado rfl rfl rfl (eas (eV (v := (U8 x3)) rfl)) ?_
      refine ake [4, 6, 7, 8] 0 0 (st' := ⟨16, 0, [(4, (U8 x3)), (6, (SL 1 c8 t0)), (7, (I (t0.length : Int))), (8, (I v1))], [], ⟨0, []⟩⟩) (by kernel_rfl) (by kernel_rfl) ?_
      show AWp _ _ _ _
      refine awp_seq ?_
      refine awr ?_
      refine ado rfl rfl rfl (emv (eV (v := (U8 x3)) rfl)) ?_
      obtain ⟨x4, hx4, h⟩ := bindS h
      refine ado rfl rfl rfl (ex_call0 (vs := [(S ([97, 98, 99, 100, 101, 102, 103, 104, 105, 106, 107, 108, 109, 110, 111, 112, 113, 114, 115, 116, 117, 118, 119, 120, 121, 122, 48, 49, 50, 51, 52, 53, 54, 55, 56, 57, 46, 95, 45] : Str)), (U8 x3)]) (v := (I x4)) rfl en_106 (cargs (evs rfl (evs rfl evs_nil))) rfl (ok_strings_IndexByte ([97, 98, 99, 100, 101, 102, 103, 104, 105, 106, 107, 108, 109, 110, 111, 112, 113, 114, 115, 116, 117, 118, 119, 120, 121, 122, 48, 49, 50, 51, 52, 53, 54, 55, 56, 57, 46, 95, 45] : Str) x3 x4 hx4) rfl) ?_
      refine ado rfl rfl rfl (ex_bin (vx := (I x4)) (vy := (I 0)) rfl rfl lssI_ok) ?_
      refine ake [6, 7, 8, 14] 0 0 (st' := ⟨16, 0, [(6, (SL 1 c8 t0)), (7, (I (t0.length : Int))), (8, (I v1)), (14, (Bo (decide (x4 < 0))))], [], ⟨0, []⟩⟩) (by kernel_rfl) (by kernel_rfl) ?_
      show AWp _ _ _ _
      rcases Bool.eq_false_or_eq_true (decide (x4 < 0)) with hb5 | hb5
      · rw [condT hb5] at h
        refine awp_condT (boT hb5) ?_
        refine awp_seq ?_
        refine awr ?_
        refine ado rfl rfl rfl (eas (eV (v := (Bo false)) rfl)) ?_
        refine ake [2] 0 0 (st' := ⟨16, 0, [(2, (Bo false))], [], ⟨0, []⟩⟩) (by kernel_rfl) (by kernel_rfl) ?_
        show AWp _ _ _ _
        refine awp_ret ?_
        cases h
        exact ares1 (rtmp rfl (eV rfl))
      · rw [condF hb5] at h
        refine awp_condF (boF hb5) ?_
        refine awp_skip ?_
        show AWp _ _ _ _
        refine awr ?_
        refine ado rfl rfl rfl (ex_bin (vx := (I v1)) (vy := (I 1)) rfl rfl addI_ok) ?_
        refine ado rfl rfl rfl (emv (eV (v := (I (w64 (v1 + 1)))) rfl)) ?_
        refine ake [6, 7, 8] 0 0 (st' := ⟨16, 0, [(6, (SL 1 c8 t0)), (7, (I (t0.length : Int))), (8, (I (w64 (v1 + 1))))], [], ⟨0, []⟩⟩) (by kernel_rfl) (by kernel_rfl) ?_
        exact Exists.intro n1 (And.intro (Nat.lt_succ_self _) (Exists.intro (w64 (v1 + 1)) (And.intro rfl h)))
    · rw [condF hb2] at h
      refine awp_condF (boF hb2) ?_
      refine awp_exit ?_
      show AWp _ _ _ _
      refine awp_seq ?_
      refine awr ?_
      refine ado rfl rfl rfl (eas (eV (v := (Bo true)) rfl)) ?_
      refine ake [2] 0 0 (st' := ⟨16, 0, [(2, (Bo true))], [], ⟨0, []⟩⟩) (by kernel_rfl) (by kernel_rfl) ?_
      show AWp _ _ _ _
      refine awp_ret ?_
      cases h
      exact ares1 (rtmp rfl (eV rfl))

noncomputable def M_name_May (t0 : Str) : Option Bool :=
  Option.bind (gd (((t0 != []) && (decide ((t0.length : Int) ≤ 8))) == true) (M_name_plain t0)) fun (x1 : Bool) => some (((((t0 != []) && (decide ((t0.length : Int) ≤ 8))) && x1) && (t0 != ([46] : Str))) && (t0 != ([46, 46] : Str)))
theorem ok_name_May (t0 : Str) (r : Bool) (h : M_name_May t0 = some r) : FFn Tryz.prog 72 [(S t0)] (Bo r) := by
  refine FFn.of_body (n := 22) Tryz.func72 rfl Tryz.ntmps72 rfl rfl rfl rfl ?_
  show AWp _ _ _ ⟨22, 0, [(0, (S t0))], [], ⟨0, []⟩⟩
  unfold M_name_May at h
  refine awp_seq ?_
  refine awr ?_
  refine ado rfl rfl rfl (eas (eV (v := (Bo false)) rfl)) ?_
  refine ake [0] 0 0 (st' := ⟨22, 0, [(0, (S t0))], [], ⟨0, []⟩⟩) (by kernel_rfl) (by kernel_rfl) ?_
  show AWp _ _ _ _
  refine awp_seq ?_
  refine awr ?_
  refine ado rfl rfl rfl (emv (eV (v := (S t0)) rfl)) ?_
  refine ado rfl rfl rfl (ex_bin (vx := (S t0)) (vy := (S [])) rfl rfl neqS_ok) ?_
  refine ado rfl rfl rfl (emv (eV (v := (Bo (t0 != []))) rfl)) ?_
  refine arun_guard (v := (S t0)) ((t0 != []) == true) rfl rfl rfl (fun hc => emv (eV (v := (S t0)) rfl)) ?_
  refine arun_guard (v := (I (t0.length : Int))) ((t0 != []) == true) rfl rfl rfl (fun hc => tx_lenS Tryz.underlying9 (cond_of hc)) ?_
  refine arun_guard (v := (Bo (decide ((t0.length : Int) ≤ 8)))) ((t0 != []) == true) rfl rfl rfl (fun hc => ex_bin (vx := (I (t0.length : Int))) (vy := (I 8)) (cond_of hc) rfl leqI_ok) ?_
  refine ado rfl rfl rfl (ex_pick rfl pkAnd) ?_
  refine ado rfl rfl rfl (emv (eV (v := (Bo ((t0 != []) && (decide ((t0.length : Int) ≤ 8))))) rfl)) ?_
  refine arun_guard (v := (S t0)) (((t0 != []) && (decide ((t0.length : Int) ≤ 8))) == true) rfl rfl rfl (fun hc => emv (eV (v := (S t0)) rfl)) ?_
  obtain ⟨x1, hx1, h⟩ := bindS h
  refine arun_guard (v := (Bo x1)) (((t0 != []) && (decide ((t0.length : Int) ≤ 8))) == true) rfl rfl rfl (fun hc => ex_call0 (vs := [(S t0)]) (v := (Bo x1)) rfl en_94 (cargs (evs (cond_of hc) evs_nil)) rfl (ok_name_plain t0 x1 (gd_of hc hx1)) rfl) ?_
  refine ado rfl rfl rfl (ex_pick rfl pkAnd) ?_
  refine ado rfl rfl rfl (emv (eV (v := (Bo (((t0 != []) && (decide ((t0.length : Int) ≤ 8))) && x1))) rfl)) ?_
  refine arun_guard (v := (S t0)) ((((t0 != []) && (decide ((t0.length : Int) ≤ 8))) && x1) == true) rfl rfl rfl (fun hc => emv (eV (v := (S t0)) rfl)) ?_
  refine arun_guard (v := (Bo (t0 != ([46] : Str)))) ((((t0 != []) && (decide ((t0.length : Int) ≤ 8))) && x1) == true) rfl rfl rfl (fun hc => ex_bin (vx := (S t0)) (vy := (S ([46] : Str))) (cond_of hc) rfl neqS_ok) ?_
  refine ado rfl rfl rfl (ex_pick rfl pkAnd) ?_
  refine ado rfl rfl rfl (emv (eV (v := (Bo ((((t0 != []) && (decide ((t0.length : Int) ≤ 8))) && x1) && (t0 != ([46] : Str))))) rfl)) ?_
  refine arun_guard (v := (S t0)) (((((t0 != []) && (decide ((t0.length : Int) ≤ 8))) && x1) && (t0 != ([46] : Str))) == true) rfl rfl rfl (fun hc => emv (eV (v := (S t0)) rfl)) ?_
  refine arun_guard (v := (Bo (t0 != ([46, 46] : Str)))) (((((t0 != []) && (decide ((t0.length : Int) ≤ 8))) && x1) && (t0 != ([46] : Str))) == true) rfl rfl rfl (fun hc => ex_bin (vx := (S t0)) (vy := (S ([46, 46] : Str))) (cond_of hc) rfl neqS_ok) ?_
  refine ado rfl rfl rfl (ex_pick rfl pkAnd) ?_
  refine ado rfl rfl rfl (eas (eV (v := (Bo (((((t0 != []) && (decide ((t0.length : Int) ≤ 8))) && x1) && (t0 != ([46] : Str))) && (t0 != ([46, 46] : Str))))) rfl)) ?_
  refine ake [2] 0 0 (st' := ⟨22, 0, [(2, (Bo (((((t0 != []) && (decide ((t0.length : Int) ≤ 8))) && x1) && (t0 != ([46] : Str))) && (t0 != ([46, 46] : Str)))))], [], ⟨0, []⟩⟩) (by kernel_rfl) (by kernel_rfl) ?_
  show AWp _ _ _ _
  refine awp_ret ?_
  cases h
  exact ares1 (rtmp rfl (eV rfl))

noncomputable def M_name_Parts_l1 (x2 : (List Str)) : Nat → Int → Option ((List Str) × Bool)
  | 0, _ => none
  | n1 + 1, v4 =>
  cond (decide (v4 < (x2.length : Int))) (Option.bind (getI x2 v4) fun (x6 : Str) => Option.bind (M_name_May x6) fun (x7 : Bool) => cond (!x7) (some ([], false)) ((M_name_Parts_l1 x2 n1) (w64 (v4 + 1)))) (some (x2, true))
noncomputable def M_name_Parts (t0 : Str) : Option ((List Str) × Bool) :=
  cond (t0 == []) (some ([], true)) (Option.bind (M_strings_Split t0 ([47] : Str)) fun (x2 : (List Str)) => cond (decide ((x2.length : Int) ≥ 8)) (some ([], false)) (M_name_Parts_l1 x2 fuel 0))
theorem ok_name_Parts (t0 : Str) (r : ((List Str) × Bool)) (h : M_name_Parts t0 = some r) : FFn Tryz.prog 57 [(S t0)] (Value.tuple #[(SL 1 cS r.1), (Bo r.2)]) := by
  refine FFn.of_body (n := 25) Tryz.func57 rfl Tryz.ntmps57 rfl rfl rfl rfl ?_
  show AWp _ _ _ ⟨25, 0, [(0, (S t0))], [], ⟨0, []⟩⟩
  unfold M_name_Parts at h
  refine awp_seq ?_
  refine awr ?_
  refine ado rfl rfl rfl (eas (eV (v := (Value.slice none 0 0)) rfl)) ?_
  refine ado rfl rfl rfl (eas (eV (v := (Bo false)) rfl)) ?_
  refine ake [0] 0 0 (st' := ⟨25, 0, [(0, (S t0))], [], ⟨0, []⟩⟩) (by kernel_rfl) (by kernel_rfl) ?_
  show AWp _ _ _ _
  refine awp_seq ?_
  refine awp_seq ?_
  refine awr ?_
  refine ado rfl rfl rfl (emv (eV (v := (S t0)) rfl)) ?_
  refine ado rfl rfl rfl (ex_bin (vx := (S t0)) (vy := (S [])) rfl rfl eqlS_ok) ?_
  refine ake [0, 8] 0 0 (st' := ⟨25, 0, [(0, (S t0)), (8, (Bo (t0 == [])))], [], ⟨0, []⟩⟩) (by kernel_rfl) (by kernel_rfl) ?_
  show AWp _ _ _ _
  rcases Bool.eq_false_or_eq_true (t0 == []) with hb1 | hb1
  · rw [condT hb1] at h
    refine awp_condT (boT hb1) ?_
    refine awp_seq ?_
    refine awr ?_
    refine ado rfl rfl rfl (eas (eV (v := (Value.slice none 0 0)) rfl)) ?_
    refine ado rfl rfl rfl (eas (eV (v := (Bo true)) rfl)) ?_
    refine ake [2, 3] 0 0 (st' := ⟨25, 0, [(2, (Value.slice none 0 0)), (3, (Bo true))], [], ⟨0, []⟩⟩) (by kernel_rfl) (by kernel_rfl) ?_
    show AWp _ _ _ _
    refine awp_ret ?_
    cases h
    exact aresN rfl (L2.cons (rtmp rfl (eN rfl)) (L2.cons (rtmp rfl (eV rfl)) L2.nil)) rfl
  · rw [condF hb1] at h
    refine awp_condF (boF hb1) ?_
    refine awp_skip ?_
    show AWp _ _ _ _
    refine awp_seq ?_
    refine awr ?_
    refine ado rfl rfl rfl (emv (eV (v := (S t0)) rfl)) ?_
    obtain ⟨x2, hx2, h⟩ := bindS h
    refine ado rfl rfl rfl (ex_call0 (vs := [(S t0), (S ([47] : Str))]) (v := (SL 1 cS x2)) rfl en_71 (cargs (evs rfl (evs rfl evs_nil))) rfl (ok_strings_Split t0 ([47] : Str) x2 hx2) rfl) ?_
    refine ado rfl rfl rfl (eas (eV (v := (SL 1 cS x2)) rfl)) ?_
    refine ake [4] 0 0 (st' := ⟨25, 0, [(4, (SL 1 cS x2))], [], ⟨0, []⟩⟩) (by kernel_rfl) (by kernel_rfl) ?_
    show AWp _ _ _ _
    refine awp_seq ?_
    refine awp_seq ?_
    refine awr ?_
    refine ado rfl rfl rfl (emv (eV (v := (SL 1 cS x2)) rfl)) ?_
    refine ado rfl rfl rfl (tx_lenD (xs := x2) ceS Tryz.underlying48 rfl) ?_
    refine ado rfl rfl rfl (ex_bin (vx := (I (x2.length : Int))) (vy := (I 8)) rfl rfl geqI_ok) ?_
    refine ake [4, 13] 0 0 (st' := ⟨25, 0, [(4, (SL 1 cS x2)), (13, (Bo (decide ((x2.length : Int) ≥ 8))))], [], ⟨0, []⟩⟩) (by kernel_rfl) (by kernel_rfl) ?_
    show AWp _ _ _ _
    rcases Bool.eq_false_or_eq_true (decide ((x2.length : Int) ≥ 8)) with hb3 | hb3
    · rw [condT hb3] at h
      refine awp_condT (boT hb3) ?_
      refine awp_seq ?_
      refine awr ?_
      refine ado rfl rfl rfl (eas (eV (v := (Value.slice none 0 0)) rfl)) ?_
      refine ado rfl rfl rfl (eas (eV (v := (Bo false)) rfl)) ?_
      refine ake [2, 3] 0 0 (st' := ⟨25, 0, [(2, (Value.slice none 0 0)), (3, (Bo false))], [], ⟨0, []⟩⟩) (by kernel_rfl) (by kernel_rfl) ?_
      show AWp _ _ _ _
      refine awp_ret ?_
      cases h
      exact aresN rfl (L2.cons (rtmp rfl (eN rfl)) (L2.cons (rtmp rfl (eV rfl)) L2.nil)) rfl
    · rw [condF hb3] at h
      refine awp_condF (boF hb3) ?_
      refine awp_skip ?_
      show AWp _ _ _ _
      refine awp_seq ?_
      refine awp_seq ?_
      refine awr ?_
      refine ado rfl rfl rfl (emv (eV (v := (SL 1 cS x2)) rfl)) ?_
      refine ado rfl rfl rfl (tx_lenD (xs := x2) ceS Tryz.underlying48 rfl) ?_
      refine ado rfl rfl rfl (emv (eV (v := (I 0)) rfl)) ?_
      refine ake [4, 14, 15, 16] 0 0 (st' := ⟨25, 0, [(4, (SL 1 cS x2)), (14, (SL 1 cS x2)), (15, (I (x2.length : Int))), (16, (I 0))], [], ⟨0, []⟩⟩) (by kernel_rfl) (by kernel_rfl) ?_
      show AWp _ _ _ _
      refine awp_block ?_
      refine awp_loop (fun n s => ∃ (v4 : Int), s = ⟨25, 0, [(4, (SL 1 cS x2)), (14, (SL 1 cS x2)), (15, (I (x2.length : Int))), (16, (I v4))], [], ⟨0, []⟩⟩ ∧ M_name_Parts_l1 x2 n v4 = some r) fuel (Exists.intro 0 (And.intro rfl h)) ?_
      rintro n s ⟨v4, rfl, h⟩ -
      cases n with
      | zero => cases h
      | succ n1 =>
        unfold M_name_Parts_l1 at h
        refine awp_seq ?_
        refine awr ?_
        refine ado rfl rfl rfl (ex_bin (vx := (I v4)) (vy := (I (x2.length : Int))) rfl rfl lssI_ok) ?_
        refine ake [4, 14, 15, 16, 17] 0 0 (st' := ⟨25, 0, [(4, (SL 1 cS x2)), (14, (SL 1 cS x2)), (15, (I (x2.length : Int))), (16, (I v4)), (17, (Bo (decide (v4 < (x2.length : Int)))))], [], ⟨0, []⟩⟩) (by kernel_rfl) (by kernel_rfl) ?_
        show AWp _ _ _ _
        refine awp_seq ?_
        rcases Bool.eq_false_or_eq_true (decide (v4 < (x2.length : Int))) with hb5 | hb5
        · rw [condT hb5] at h
          refine awp_condT (boT hb5) ?_
          refine awp_skip ?_
          show AWp _ _ _ _
          refine awp_seq ?_
          refine awp_block ?_
          refine awp_seq ?_
          refine awr ?_
          obtain ⟨x6, hx6, h⟩ := bindS h
          refine ado rfl rfl rfl (tx_idxD (c := cS) (xs := x2) (i := v4) ceS Tryz.underlying48 s_9 rfl rfl hx6) ?_
          refine ado rfl rfl rfl (tx_ldD1 (v := (S x6)) Tryz.underlying9 rfl rfl rfl) ?_
          refine ado rfl rfl rfl (eas (eV (v := (S x6)) rfl)) ?_
          refine ake [4, 6, 14, 15, 16] 0 0 (st' := ⟨25, 0, [(4, (SL 1 cS x2)), (6, (S x6)), (14, (SL 1 cS x2)), (15, (I (x2.length : Int))), (16, (I v4))], [], ⟨0, []⟩⟩) (by kernel_rfl) (by kernel_rfl) ?_
          show AWp _ _ _ _
          refine awp_seq ?_
          refine awr ?_
          refine ado rfl rfl rfl (emv (eV (v := (S x6)) rfl)) ?_
          obtain ⟨x7, hx7, h⟩ := bindS h
          refine ado rfl rfl rfl (ex_call0 (vs := [(S x6)]) (v := (Bo x7)) rfl en_72 (cargs (evs rfl evs_nil)) rfl (ok_name_May x6 x7 hx7) rfl) ?_
          refine ado rfl rfl rfl (ex_un (vx := (Bo x7)) rfl notB_ok) ?_
          refine ake [4, 14, 15, 16, 22] 0 0 (st' := ⟨25, 0, [(4, (SL 1 cS x2)), (14, (SL 1 cS x2)), (15, (I (x2.length : Int))), (16, (I v4)), (22, (Bo (!x7)))], [], ⟨0, []⟩⟩) (by kernel_rfl) (by kernel_rfl) ?_
          show AWp _ _ _ _
          rcases Bool.eq_false_or_eq_true (!x7) with hb8 | hb8
          · rw [condT hb8] at h
            refine awp_condT (boT hb8) ?_
            refine awp_seq ?_
            refine awr ?_
            refine ado rfl rfl rfl (eas (eV (v := (Value.slice none 0 0)) rfl)) ?_
            refine ado rfl rfl rfl (eas (eV (v := (Bo false)) rfl)) ?_
            refine ake [2, 3] 0 0 (st' := ⟨25, 0, [(2, (Value.slice none 0 0)), (3, (Bo false))], [], ⟨0, []⟩⟩) (by kernel_rfl) (by kernel_rfl) ?_
            show AWp _ _ _ _
            refine awp_ret ?_
            cases h
            exact aresN rfl (L2.cons (rtmp rfl (eN rfl)) (L2.cons (rtmp rfl (eV rfl)) L2.nil)) rfl
          · rw [condF hb8] at h
            refine awp_condF (boF hb8) ?_
            refine awp_skip ?_
            show AWp _ _ _ _
            refine awr ?_
            refine ado rfl rfl rfl (ex_bin (vx := (I v4)) (vy := (I 1)) rfl rfl addI_ok) ?_
            refine ado rfl rfl rfl (emv (eV (v := (I (w64 (v4 + 1)))) rfl)) ?_
            refine ake [4, 14, 15, 16] 0 0 (st' := ⟨25, 0, [(4, (SL 1 cS x2)), (14, (SL 1 cS x2)), (15, (I (x2.length : Int))), (16, (I (w64 (v4 + 1))))], [], ⟨0, []⟩⟩) (by kernel_rfl) (by kernel_rfl) ?_
            exact Exists.intro n1 (And.intro (Nat.lt_succ_self _) (Exists.intro (w64 (v4 + 1)) (And.intro rfl h)))
        · rw [condF hb5] at h
          refine awp_condF (boF hb5) ?_
          refine awp_exit ?_
          show AWp _ _ _ _
          refine awp_seq ?_
          refine awr ?_
          refine ado rfl rfl rfl (emv (eV (v := (SL 1 cS x2)) rfl)) ?_
          refine ado rfl rfl rfl (eas (eV (v := (SL 1 cS x2)) rfl)) ?_
          refine ado rfl rfl rfl (eas (eV (v := (Bo true)) rfl)) ?_
          refine ake [2, 3] 0 0 (st' := ⟨25, 0, [(2, (SL 1 cS x2)), (3, (Bo true))], [], ⟨0, []⟩⟩) (by kernel_rfl) (by kernel_rfl) ?_
          show AWp _ _ _ _
          refine awp_ret ?_
          cases h
          exact aresN rfl (L2.cons (rtmp rfl (eV rfl)) (L2.cons (rtmp rfl (eV rfl)) L2.nil)) rfl

noncomputable def M_walk_files_at (t0 : G_walk_files) (t1 : Int) : Option G_api_Node :=
  cond ((decide (t1 < 0)) || (decide (t1 ≥ (t0.Set.length : Int)))) (some (G_api_Node.mk 0 0 [] [] 0)) (Option.bind (getI t0.Set t1) fun (x2 : G_api_Node) => some x2)
theorem ok_walk_files_at (t0 : G_walk_files) (t1 : Int) (r : G_api_Node) (h : M_walk_files_at t0 t1 = some r) : FFn Tryz.prog 73 [(Value.agg (c_walk_files t0).toArray), (I t1)] (Value.agg (cNd r).toArray) := by
  refine FFn.of_body (n := 20) Tryz.func73 rfl Tryz.ntmps73 rfl rfl rfl rfl ?_
  show AWp _ _ _ ⟨20, 0, [(0, (Value.agg (c_walk_files t0).toArray)), (1, (I t1))], [], ⟨0, []⟩⟩
  unfold M_walk_files_at at h
  refine awp_seq ?_
  refine awr ?_
  refine ado rfl rfl rfl (ex_box (vx := (Value.agg (c_walk_files t0).toArray)) (cs := (c_walk_files t0)) (k := 0) (L' := [(c_walk_files t0)]) (eV (v := (Value.agg (c_walk_files t0).toArray)) rfl) rfl rfl rfl) ?_
  refine ado rfl rfl rfl (ex_alloc (k := 1) (zs := (cNd (G_api_Node.mk 0 0 [] [] 0))) (L' := [(c_walk_files t0), (cNd (G_api_Node.mk 0 0 [] [] 0))]) z_38 rfl rfl rfl rfl) ?_
  refine ake [1, 2, 4] 2 0 (st' := ⟨20, 0, [(1, (I t1)), (2, (LP 0 0)), (4, (LP 1 0))], [(c_walk_files t0), (cNd (G_api_Node.mk 0 0 [] [] 0))], ⟨0, []⟩⟩) (by kernel_rfl) (by kernel_rfl) ?_
  show AWp _ _ _ _
  refine awp_seq ?_
  refine awp_seq ?_
  refine awr ?_
  refine ado rfl rfl rfl (emv (eV (v := (I t1)) rfl)) ?_
  refine ado rfl rfl rfl (ex_bin (vx := (I t1)) (vy := (I 0)) rfl rfl lssI_ok) ?_
  refine ado rfl rfl rfl (emv (eV (v := (Bo (decide (t1 < 0)))) rfl)) ?_
  refine arun_guard (v := (I t1)) ((decide (t1 < 0)) == false) rfl rfl rfl (fun hc => emv (eV (v := (I t1)) rfl)) ?_
  refine arun_guard (v := (LP 0 0)) ((decide (t1 < 0)) == false) rfl rfl rfl (fun hc => ex_fieldAddr (v := (LP 0 0)) Tryz.underlying90 rfl s_25 (by decide) rfl rfl) ?_
  refine arun_guard (v := (SL 5 cNd t0.Set)) ((decide (t1 < 0)) == false) rfl rfl rfl (fun hc => tx_ldL1 (v := (SL 5 cNd t0.Set)) Tryz.underlying25 rfl (cond_of hc) rfl rfl) ?_
  refine arun_guard (v := (I (t0.Set.length : Int))) ((decide (t1 < 0)) == false) rfl rfl rfl (fun hc => tx_lenD (xs := t0.Set) ce_api_Node Tryz.underlying25 (cond_of hc)) ?_
  refine arun_guard (v := (Bo (decide (t1 ≥ (t0.Set.length : Int))))) ((decide (t1 < 0)) == false) rfl rfl rfl (fun hc => ex_bin (vx := (I t1)) (vy := (I (t0.Set.length : Int))) (cond_of hc) (cond_of hc) geqI_ok) ?_
  refine ado rfl rfl rfl (ex_pick rfl pkOr) ?_
  refine ake [1, 2, 4, 13] 2 0 (st' := ⟨20, 0, [(1, (I t1)), (2, (LP 0 0)), (4, (LP 1 0)), (13, (Bo ((decide (t1 < 0)) || (decide (t1 ≥ (t0.Set.length : Int))))))], [(c_walk_files t0), (cNd (G_api_Node.mk 0 0 [] [] 0))], ⟨0, []⟩⟩) (by kernel_rfl) (by kernel_rfl) ?_
  show AWp _ _ _ _
  rcases Bool.eq_false_or_eq_true ((decide (t1 < 0)) || (decide (t1 ≥ (t0.Set.length : Int)))) with hb1 | hb1
  · rw [condT hb1] at h
    refine awp_condT (boT hb1) ?_
    refine awp_seq ?_
    refine awr ?_
    refine ado rfl rfl rfl (ex_build (qs := []) (v := (Value.agg (cNd (G_api_Node.mk 0 0 [] [] 0)).toArray)) evp_nil (by kernel_rfl)) ?_
    refine arun_do0 rfl rfl (ex_storeL (vy := (Value.agg (cNd (G_api_Node.mk 0 0 [] [] 0)).toArray)) (cs := (cNd (G_api_Node.mk 0 0 [] [] 0))) (vs := (cNd (G_api_Node.mk 0 0 [] [] 0))) (L' := [(c_walk_files t0), (cNd (G_api_Node.mk 0 0 [] [] 0))]) rfl (eV (v := (Value.agg (cNd (G_api_Node.mk 0 0 [] [] 0)).toArray)) rfl) rfl s_38 rfl (Nat.le_of_ble_eq_true rfl) (by kernel_rfl)) ?_
    refine ake [4] 2 0 (st' := ⟨20, 0, [(4, (LP 1 0))], [(c_walk_files t0), (cNd (G_api_Node.mk 0 0 [] [] 0))], ⟨0, []⟩⟩) (by kernel_rfl) (by kernel_rfl) ?_
    show AWp _ _ _ _
    refine awp_ret ?_
    cases h
    exact ares1 (rcellL rfl rfl rfl (partA Tryz.underlying38 rfl s_38 (by decide) (Nat.le_of_ble_eq_true rfl) rfl))
  · rw [condF hb1] at h
    refine awp_condF (boF hb1) ?_
    refine awp_skip ?_
    show AWp _ _ _ _
    refine awp_seq ?_
    refine awr ?_
    refine ado rfl rfl rfl (ex_fieldAddr (v := (LP 0 0)) Tryz.underlying90 rfl s_25 (by decide) rfl rfl) ?_
    refine ado rfl rfl rfl (tx_ldL1 (v := (SL 5 cNd t0.Set)) Tryz.underlying25 rfl rfl rfl rfl) ?_
    refine ado rfl rfl rfl (emv (eV (v := (I t1)) rfl)) ?_
    obtain ⟨x2, hx2, h⟩ := bindS h
    refine ado rfl rfl rfl (tx_idxD (c := cNd) (xs := t0.Set) (i := t1) ce_api_Node Tryz.underlying25 s_38 rfl rfl hx2) ?_
    refine ado rfl rfl rfl (tx_ldDA (vs := (cNd x2)) Tryz.underlying38 rfl s_38 (by decide) rfl (Nat.le_of_ble_eq_true rfl) rfl) ?_
    refine arun_do0 rfl rfl (ex_storeL (vy := (Value.agg (cNd x2).toArray)) (cs := (cNd (G_api_Node.mk 0 0 [] [] 0))) (vs := (cNd x2)) (L' := [(c_walk_files t0), (cNd x2)]) rfl (eV (v := (Value.agg (cNd x2).toArray)) rfl) rfl s_38 rfl (Nat.le_of_ble_eq_true rfl) (by kernel_rfl)) ?_
    refine ake [4] 2 0 (st' := ⟨20, 0, [(4, (LP 1 0))], [(c_walk_files t0), (cNd x2)], ⟨0, []⟩⟩) (by kernel_rfl) (by kernel_rfl) ?_
    show AWp _ _ _ _
    refine awp_ret ?_
    cases h
    exact ares1 (rcellL rfl rfl rfl (partA Tryz.underlying38 rfl s_38 (by decide) (Nat.le_of_ble_eq_true rfl) rfl))

noncomputable def M_node_Kids_1 (t0 : Int) (t1 : Int) (u0 : (List G_api_Node)) : Option Int :=
  Option.bind (getI u0 t0) fun (x1 : G_api_Node) => Option.bind (getI u0 t1) fun (x2 : G_api_Node) => Option.bind (M_strings_Compare x1.Name x2.Name) fun (x3 : Int) => some x3
theorem ok_node_Kids_1 (t0 : Int) (t1 : Int) (u0 : (List G_api_Node)) (r : Int) (h : M_node_Kids_1 t0 t1 u0 = some r) : FFn Tryz.prog 50 [(I t0), (I t1), (DP [(SL 5 cNd u0)])] (I r) := by
  refine FFn.of_body (n := 17) Tryz.func50 rfl Tryz.ntmps50 rfl rfl rfl rfl ?_
  show AWp _ _ _ ⟨17, 0, [(0, (I t0)), (1, (I t1)), (2, (DP [(SL 5 cNd u0)]))], [], ⟨0, []⟩⟩
  unfold M_node_Kids_1 at h
  refine awp_seq ?_
  refine awr ?_
  refine ado rfl rfl rfl (eas (eV (v := (I 0)) rfl)) ?_
  refine ake [0, 1, 2] 0 0 (st' := ⟨17, 0, [(0, (I t0)), (1, (I t1)), (2, (DP [(SL 5 cNd u0)]))], [], ⟨0, []⟩⟩) (by kernel_rfl) (by kernel_rfl) ?_
  show AWp _ _ _ _
  refine awp_seq ?_
  obtain ⟨x1, hx1, h⟩ := bindS h
  obtain ⟨x2, hx2, h⟩ := bindS h
  obtain ⟨x3, hx3, h⟩ := bindS h
  refine awp_kn [5] 0 0 (st' := ⟨17, 0, [(5, (I x3))], [], ⟨0, []⟩⟩) (awp_draw (T := [(SL 5 cNd u0), (I t0), (DP (cNd x1)), (DP (List.drop 2 (cNd x1))), (S x1.Name), (SL 5 cNd u0), (I t1), (DP (cNd x2)), (DP (List.drop 2 (cNd x2))), (S x2.Name), (I x3), (I x3)]) (LH := [([], ⟨0, []⟩)]) (D := [⟨[(2, none)], [], [0], false⟩, ⟨[(0, none)], [], [0], false⟩, ⟨[(6, some 0), (7, some 1)], [0, 1], [0], false⟩, ⟨[(8, some 2)], [0, 1, 2], [0], false⟩, ⟨[(9, some 3)], [0, 1, 2, 3], [0], false⟩, ⟨[(2, none)], [], [0], false⟩, ⟨[(1, none)], [], [0], false⟩, ⟨[(11, some 5), (12, some 6)], [5, 6], [0], false⟩, ⟨[(13, some 7)], [5, 6, 7], [0], false⟩, ⟨[(14, some 8)], [5, 6, 7, 8], [0], false⟩, ⟨[(10, some 4), (15, some 9)], [0, 1, 2, 3, 4, 5, 6, 7, 8, 9], [0], false⟩, ⟨[(16, some 10)], [0, 1, 2, 3, 4, 5, 6, 7, 8, 9, 10], [0], false⟩]) (S := []) (plan := [0, 1, 2, 3, 4, 5, 6, 7, 8, 9, 10, 11]) mo (by kernel_rfl) rfl rfl rfl (dcons (dstep1 (Tm := [(2, (DP [(SL 5 cNd u0)]))]) (L := []) (H := ⟨0, []⟩) rfl rfl rfl rfl rfl (astep_do rfl (tx_ldD1 (v := (SL 5 cNd u0)) Tryz.underlying25 rfl rfl rfl))) (dcons (dstep1 (Tm := [(0, (I t0))]) (L := []) (H := ⟨0, []⟩) rfl rfl rfl rfl rfl (astep_do rfl (emv (eV (v := (I t0)) rfl)))) (dcons (dstep1 (Tm := [(6, (SL 5 cNd u0)), (7, (I t0))]) (L := []) (H := ⟨0, []⟩) rfl rfl rfl rfl rfl (astep_do rfl (tx_idxD (c := cNd) (xs := u0) (i := t0) ce_api_Node Tryz.underlying25 s_38 rfl rfl hx1))) (dcons (dstep1 (Tm := [(8, (DP (cNd x1)))]) (L := []) (H := ⟨0, []⟩) rfl rfl rfl rfl rfl (astep_do rfl (ex_fieldAddrD (vs := (List.drop 2 (cNd x1))) Tryz.underlying38 rfl s_9 (by decide) rfl rfl))) (dcons (dstep1 (Tm := [(9, (DP (List.drop 2 (cNd x1))))]) (L := []) (H := ⟨0, []⟩) rfl rfl rfl rfl rfl (astep_do rfl (tx_ldD1 (v := (S x1.Name)) Tryz.underlying9 rfl rfl rfl))) (dcons (dstep1 (Tm := [(2, (DP [(SL 5 cNd u0)]))]) (L := []) (H := ⟨0, []⟩) rfl rfl rfl rfl rfl (astep_do rfl (tx_ldD1 (v := (SL 5 cNd u0)) Tryz.underlying25 rfl rfl rfl))) (dcons (dstep1 (Tm := [(1, (I t1))]) (L := []) (H := ⟨0, []⟩) rfl rfl rfl rfl rfl (astep_do rfl (emv (eV (v := (I t1)) rfl)))) (dcons (dstep1 (Tm := [(11, (SL 5 cNd u0)), (12, (I t1))]) (L := []) (H := ⟨0, []⟩) rfl rfl rfl rfl rfl (astep_do rfl (tx_idxD (c := cNd) (xs := u0) (i := t1) ce_api_Node Tryz.underlying25 s_38 rfl rfl hx2))) (dcons (dstep1 (Tm := [(13, (DP (cNd x2)))]) (L := []) (H := ⟨0, []⟩) rfl rfl rfl rfl rfl (astep_do rfl (ex_fieldAddrD (vs := (List.drop 2 (cNd x2))) Tryz.underlying38 rfl s_9 (by decide) rfl rfl))) (dcons (dstep1 (Tm := [(14, (DP (List.drop 2 (cNd x2))))]) (L := []) (H := ⟨0, []⟩) rfl rfl rfl rfl rfl (astep_do rfl (tx_ldD1 (v := (S x2.Name)) Tryz.underlying9 rfl rfl rfl))) (dcons (dstep1 (Tm := [(10, (S x1.Name)), (15, (S x2.Name))]) (L := []) (H := ⟨0, []⟩) rfl rfl rfl rfl rfl (astep_do rfl (ex_call0 (vs := [(S x1.Name), (S x2.Name)]) (v := (I x3)) rfl en_51 (cargs (evs rfl (evs rfl evs_nil))) rfl (ok_strings_Compare x1.Name x2.Name x3 hx3) rfl))) (dcons (dstep1 (Tm := [(16, (I x3))]) (L := []) (H := ⟨0, []⟩) rfl rfl rfl rfl rfl (astep_do rfl (eas (eV (v := (I x3)) rfl)))) dnil)))))))))))) ⟨rfl, rfl⟩) (by kernel_rfl) (by kernel_rfl) ?_
  show AWp _ _ _ _
  refine awp_ret ?_
  cases h
  exact ares1 (rtmp rfl (eV rfl))

end Go.Proofs
