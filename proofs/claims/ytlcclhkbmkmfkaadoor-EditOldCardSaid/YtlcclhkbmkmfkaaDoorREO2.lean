/- Pure models of functions of the program, and that its code does what they say: slices pdqsortCmpFunc[int] at a closure, slices SortFunc[[]int,int] at a closure, node Kids, node Kid. Written by a program. -/
import Derived.Test.YtlcclhkbmkmfkaaDoorREO1
import Derived.Test.YtlcclhkbmkmfkaaDoorREOB
import Derived.Test.YtlcclhkbmkmfkaaDoorREOX
set_option maxRecDepth 20000
set_option maxHeartbeats 4000000
namespace Go.Proofs
open Go Go.Fhl
set_option linter.unusedVariables false
set_option linter.unusedSimpArgs false
noncomputable def M_slices_pdqsortCmpFunc_int_c37_k1 (c_1 : (Option (Unit × List Int))) (t0 : List Int) (t1 : Int) (t2 : Int) (t3 : Int) (t4_0 : (List G_api_Node)) : Option (Unit × List Int) :=
  none
noncomputable def M_slices_pdqsortCmpFunc_int_c37_l1 (t0 : List Int) (t1 : Int) (t2 : Int) (t3 : Int) (t4_0 : (List G_api_Node)) : Nat → Option (Unit × List Int)
  | 0 => none
  | n1 + 1 =>
  cond (decide ((w64 (t2 - t1)) ≤ 12)) (Option.bind (withLen t0 (M_slices_insertionSortCmpFunc_int_c37 t0 t1 t2 t4_0)) fun (x2 : (Unit × List Int)) => some ((), x2.2)) (cond (t3 == 0) (none) (cond (!true) (none) (M_slices_pdqsortCmpFunc_int_c37_k1 (M_slices_pdqsortCmpFunc_int_c37_l1 t0 t1 t2 t3 t4_0 n1) t0 t1 t2 t3 t4_0)))
noncomputable def M_slices_pdqsortCmpFunc_int_c37 (t0 : List Int) (t1 : Int) (t2 : Int) (t3 : Int) (t4_0 : (List G_api_Node)) : Option (Unit × List Int) :=
  M_slices_pdqsortCmpFunc_int_c37_l1 t0 t1 t2 t3 t4_0 fuel
theorem ok_slices_pdqsortCmpFunc_int_c37 (t0 : List Int) (t1 : Int) (t2 : Int) (t3 : Int) (t4_0 : (List G_api_Node)) (r : (Unit × List Int)) (h : M_slices_pdqsortCmpFunc_int_c37 t0 t1 t2 t3 t4_0 = some r) : F1n Tryd.prog 53 [(GV 0 t0.length), (I t1), (I t2), (I t3), (Value.func (Fn.func 37) #[] #[(DP [(SL 5 c_api_Node t4_0)])])] ⟨1, (t0).flatMap cI, true⟩ (Value.tuple #[]) ⟨1, (r.2).flatMap cI, true⟩ := by
  refine F1n.of_body (n := 148) Tryd.func53 rfl Tryd.ntmps53 rfl rfl rfl rfl ?_
  show AWp _ _ _ ⟨148, 1, [(0, (GV 0 t0.length)), (1, (I t1)), (2, (I t2)), (3, (I t3)), (4, (Value.func (Fn.func 37) #[] #[(DP [(SL 5 c_api_Node t4_0)])]))], [], ⟨1, [(0, ⟨1, ((t0).flatMap cI), true⟩)]⟩⟩
  unfold M_slices_pdqsortCmpFunc_int_c37 at h
  refine awp_seq ?_
  refine awp_region ?_
  refine arun_do rfl rfl rfl (ex_assign (eV (v := (Bo true)) rfl)) ?_
  refine arun_keepE [0, 1, 2, 3, 4, 10] 0 1 (st' := ⟨148, 1, [(0, (GV 0 t0.length)), (1, (I t1)), (2, (I t2)), (3, (I t3)), (4, (Value.func (Fn.func 37) #[] #[(DP [(SL 5 c_api_Node t4_0)])])), (10, (Bo true))], [], ⟨1, [(0, ⟨1, ((t0).flatMap cI), true⟩)]⟩⟩) (by kernel_rfl) (by kernel_rfl) ?_
  show AWp _ _ _ _
  refine awp_seq ?_
  refine awp_region ?_
  refine arun_do rfl rfl rfl (ex_assign (eV (v := (Bo true)) rfl)) ?_
  refine arun_keepE [0, 1, 2, 3, 4, 10, 11] 0 1 (st' := ⟨148, 1, [(0, (GV 0 t0.length)), (1, (I t1)), (2, (I t2)), (3, (I t3)), (4, (Value.func (Fn.func 37) #[] #[(DP [(SL 5 c_api_Node t4_0)])])), (10, (Bo true)), (11, (Bo true))], [], ⟨1, [(0, ⟨1, ((t0).flatMap cI), true⟩)]⟩⟩) (by kernel_rfl) (by kernel_rfl) ?_
  show AWp _ _ _ _
  refine awp_block ?_
  refine awp_loop (fun n s => s = ⟨148, 1, [(0, (GV 0 t0.length)), (1, (I t1)), (2, (I t2)), (3, (I t3)), (4, (Value.func (Fn.func 37) #[] #[(DP [(SL 5 c_api_Node t4_0)])])), (10, (Bo true)), (11, (Bo true))], [], ⟨1, [(0, ⟨1, ((t0).flatMap cI), true⟩)]⟩⟩ ∧ M_slices_pdqsortCmpFunc_int_c37_l1 t0 t1 t2 t3 t4_0 n  = some r) fuel (And.intro rfl h) ?_
  rintro n s ⟨rfl, h⟩ -
  cases n with
  | zero => cases h
  | succ n1 =>
    unfold M_slices_pdqsortCmpFunc_int_c37_l1 at h
    refine awp_block ?_
    refine awp_seq ?_
    refine awp_region ?_
    refine arun_do rfl rfl rfl (ex_move (eV (v := (I t2)) rfl)) ?_
    refine arun_do rfl rfl rfl (ex_move (eV (v := (I t1)) rfl)) ?_
    refine arun_do rfl rfl rfl (ex_bin (vx := (I t2)) (vy := (I t1)) rfl rfl subI_ok) ?_
    refine arun_do rfl rfl rfl (ex_assign (eV (v := (I (w64 (t2 - t1)))) rfl)) ?_
    refine arun_keepE [0, 1, 2, 3, 4, 10, 11, 12] 0 1 (st' := ⟨148, 1, [(0, (GV 0 t0.length)), (1, (I t1)), (2, (I t2)), (3, (I t3)), (4, (Value.func (Fn.func 37) #[] #[(DP [(SL 5 c_api_Node t4_0)])])), (10, (Bo true)), (11, (Bo true)), (12, (I (w64 (t2 - t1))))], [], ⟨1, [(0, ⟨1, ((t0).flatMap cI), true⟩)]⟩⟩) (by kernel_rfl) (by kernel_rfl) ?_
    show AWp _ _ _ _
    refine awp_seq ?_
    refine awp_seq ?_
    refine awp_region ?_
    refine arun_do rfl rfl rfl (ex_move (eV (v := (I (w64 (t2 - t1)))) rfl)) ?_
    refine arun_do rfl rfl rfl (ex_bin (vx := (I (w64 (t2 - t1)))) (vy := (I 12)) rfl rfl leqI_ok) ?_
    refine arun_keepE [0, 1, 2, 3, 4, 10, 11, 12, 25] 0 1 (st' := ⟨148, 1, [(0, (GV 0 t0.length)), (1, (I t1)), (2, (I t2)), (3, (I t3)), (4, (Value.func (Fn.func 37) #[] #[(DP [(SL 5 c_api_Node t4_0)])])), (10, (Bo true)), (11, (Bo true)), (12, (I (w64 (t2 - t1)))), (25, (Bo (decide ((w64 (t2 - t1)) ≤ 12))))], [], ⟨1, [(0, ⟨1, ((t0).flatMap cI), true⟩)]⟩⟩) (by kernel_rfl) (by kernel_rfl) ?_
    show AWp _ _ _ _
    rcases Bool.eq_false_or_eq_true (decide ((w64 (t2 - t1)) ≤ 12)) with hb1 | hb1
    · rw [condT hb1] at h
      refine awp_condT (boT hb1) ?_
      refine awp_seq ?_
      refine awp_region ?_
      refine arun_do rfl rfl rfl (ex_move (eV (v := (GV 0 t0.length)) rfl)) ?_
      refine arun_do rfl rfl rfl (ex_move (eV (v := (I t1)) rfl)) ?_
      refine arun_do rfl rfl rfl (ex_move (eV (v := (I t2)) rfl)) ?_
      refine arun_do rfl rfl rfl (ex_move (eV (v := (Value.func (Fn.func 37) #[] #[(DP [(SL 5 c_api_Node t4_0)])])) rfl)) ?_
      obtain ⟨x2, hx2, h⟩ := bindS h
      refine arun_do rfl rfl rfl (ex_callM (vs := [(GV 0 t0.length), (I t1), (I t2), (Value.func (Fn.func 37) #[] #[(DP [(SL 5 c_api_Node t4_0)])])]) (vs' := [(GV 0 t0.length), (I t1), (I t2), (Value.func (Fn.func 37) #[] #[(DP [(SL 5 c_api_Node t4_0)])])]) (v := (Value.tuple #[])) (n := 0) (b := ⟨1, ((t0).flatMap cI), true⟩) (b' := ⟨1, ((x2.2).flatMap cI), true⟩) (H' := ⟨1, [(0, ⟨1, ((x2.2).flatMap cI), true⟩)]⟩) rfl en_68 (cargs (evs rfl (evs rfl (evs rfl (evs rfl evs_nil))))) rfl (.cons (.inr (.inr (.inl ⟨_, rfl, rfl⟩))) (.cons (.inl ⟨rfl, rfl⟩) (.cons (.inl ⟨rfl, rfl⟩) (.cons (.inr (.inr (.inr (.inr ⟨_, _, _, rfl, rfl, (.cons (.inl ⟨rfl, rfl⟩) .nil)⟩)))) .nil)))) (ok_slices_insertionSortCmpFunc_int_c37 t0 t1 t2 t4_0 x2 (withLen_of hx2)) rfl rfl) ?_
      refine arun_keepE [] 0 1 (st' := ⟨148, 1, [], [], ⟨1, [(0, ⟨1, ((x2.2).flatMap cI), true⟩)]⟩⟩) (by kernel_rfl) (by kernel_rfl) ?_
      show AWp _ _ _ _
      refine awp_ret ?_
      cases h
      exact And.intro (aresN rfl L2.nil rfl) rfl
    · rw [condF hb1] at h
      refine awp_condF (boF hb1) ?_
      refine awp_skip ?_
      show AWp _ _ _ _
      refine awp_seq ?_
      refine awp_seq ?_
      refine awp_region ?_
      refine arun_do rfl rfl rfl (ex_move (eV (v := (I t3)) rfl)) ?_
      refine arun_do rfl rfl rfl (ex_bin (vx := (I t3)) (vy := (I 0)) rfl rfl eqlI_ok) ?_
      refine arun_keepE [0, 1, 2, 3, 4, 10, 11, 12, 32] 0 1 (st' := ⟨148, 1, [(0, (GV 0 t0.length)), (1, (I t1)), (2, (I t2)), (3, (I t3)), (4, (Value.func (Fn.func 37) #[] #[(DP [(SL 5 c_api_Node t4_0)])])), (10, (Bo true)), (11, (Bo true)), (12, (I (w64 (t2 - t1)))), (32, (Bo (t3 == 0)))], [], ⟨1, [(0, ⟨1, ((t0).flatMap cI), true⟩)]⟩⟩) (by kernel_rfl) (by kernel_rfl) ?_
      show AWp _ _ _ _
      rcases Bool.eq_false_or_eq_true (t3 == 0) with hb3 | hb3
      · rw [condT hb3] at h
        refine awp_condT (boT hb3) ?_
        refine awp_seq ?_
        cases h
      · rw [condF hb3] at h
        refine awp_condF (boF hb3) ?_
        refine awp_skip ?_
        show AWp _ _ _ _
        refine awp_seqJ (fun s => s = ⟨148, 1, [(0, (GV 0 t0.length)), (1, (I t1)), (2, (I t2)), (3, (I t3)), (4, (Value.func (Fn.func 37) #[] #[(DP [(SL 5 c_api_Node t4_0)])])), (10, (Bo true)), (11, (Bo true)), (12, (I (w64 (t2 - t1))))], [], ⟨1, [(0, ⟨1, ((t0).flatMap cI), true⟩)]⟩⟩ ∧ M_slices_pdqsortCmpFunc_int_c37_k1 (M_slices_pdqsortCmpFunc_int_c37_l1 t0 t1 t2 t3 t4_0 n1) t0 t1 t2 t3 t4_0 = some r) ?_ ?_
        · refine awp_seq ?_
          refine awp_region ?_
          refine arun_do rfl rfl rfl (ex_move (eV (v := (Bo true)) rfl)) ?_
          refine arun_do rfl rfl rfl (ex_un (vx := (Bo true)) rfl notB_ok) ?_
          refine arun_keepE [0, 1, 2, 3, 4, 10, 11, 12, 39] 0 1 (st' := ⟨148, 1, [(0, (GV 0 t0.length)), (1, (I t1)), (2, (I t2)), (3, (I t3)), (4, (Value.func (Fn.func 37) #[] #[(DP [(SL 5 c_api_Node t4_0)])])), (10, (Bo true)), (11, (Bo true)), (12, (I (w64 (t2 - t1)))), (39, (Bo (!true)))], [], ⟨1, [(0, ⟨1, ((t0).flatMap cI), true⟩)]⟩⟩) (by kernel_rfl) (by kernel_rfl) ?_
          show AWp _ _ _ _
          rcases Bool.eq_false_or_eq_true (!true) with hb4 | hb4
          · rw [condT hb4] at h
            refine awp_condT (boT hb4) ?_
            refine awp_seq ?_
            cases h
          · rw [condF hb4] at h
            refine awp_condF (boF hb4) ?_
            refine awp_keepE [0, 1, 2, 3, 4, 10, 11, 12] 0 1 (st' := ⟨148, 1, [(0, (GV 0 t0.length)), (1, (I t1)), (2, (I t2)), (3, (I t3)), (4, (Value.func (Fn.func 37) #[] #[(DP [(SL 5 c_api_Node t4_0)])])), (10, (Bo true)), (11, (Bo true)), (12, (I (w64 (t2 - t1))))], [], ⟨1, [(0, ⟨1, ((t0).flatMap cI), true⟩)]⟩⟩) (by kernel_rfl) (by kernel_rfl) ?_
            refine awp_skip ?_
            exact (And.intro rfl h)
        · rintro s ⟨rfl, h⟩
          unfold M_slices_pdqsortCmpFunc_int_c37_k1 at h
          refine awp_seq ?_
          cases h

noncomputable def M_slices_SortFunc_int_int_c37 (t0 : List Int) (t1_0 : (List G_api_Node)) : Option (Unit × List Int) :=
  Option.bind (M_math_bits_Len (UInt64.ofInt ((t0.length : Nat) : Int))) fun (x1 : Int) => Option.bind (withLen t0 (M_slices_pdqsortCmpFunc_int_c37 t0 0 ((t0.length : Nat) : Int) x1 t1_0)) fun (x2 : (Unit × List Int)) => some ((), x2.2)
theorem ok_slices_SortFunc_int_int_c37 (t0 : List Int) (t1_0 : (List G_api_Node)) (r : (Unit × List Int)) (h : M_slices_SortFunc_int_int_c37 t0 t1_0 = some r) : F1n Tryd.prog 36 [(GV 0 t0.length), (Value.func (Fn.func 37) #[] #[(DP [(SL 5 c_api_Node t1_0)])])] ⟨1, (t0).flatMap cI, true⟩ (Value.tuple #[]) ⟨1, (r.2).flatMap cI, true⟩ := by
  refine F1n.of_body (n := 14) Tryd.func36 rfl Tryd.ntmps36 rfl rfl rfl rfl ?_
  show AWp _ _ _ ⟨14, 1, [(0, (GV 0 t0.length)), (1, (Value.func (Fn.func 37) #[] #[(DP [(SL 5 c_api_Node t1_0)])]))], [], ⟨1, [(0, ⟨1, ((t0).flatMap cI), true⟩)]⟩⟩
  unfold M_slices_SortFunc_int_int_c37 at h
  refine awp_seq ?_
  refine awp_region ?_
  refine arun_do rfl rfl rfl (ex_move (eV (v := (GV 0 t0.length)) rfl)) ?_
  refine arun_do rfl rfl rfl (ex_lenN (n := t0.length) Tryd.underlying29 rfl) ?_
  refine arun_do rfl rfl rfl (ex_assign (eV (v := (I ((t0.length : Nat) : Int))) rfl)) ?_
  refine arun_keepE [0, 1, 4] 0 1 (st' := ⟨14, 1, [(0, (GV 0 t0.length)), (1, (Value.func (Fn.func 37) #[] #[(DP [(SL 5 c_api_Node t1_0)])])), (4, (I ((t0.length : Nat) : Int)))], [], ⟨1, [(0, ⟨1, ((t0).flatMap cI), true⟩)]⟩⟩) (by kernel_rfl) (by kernel_rfl) ?_
  show AWp _ _ _ _
  refine awp_region ?_
  refine arun_do rfl rfl rfl (ex_move (eV (v := (GV 0 t0.length)) rfl)) ?_
  refine arun_do rfl rfl rfl (ex_move (eV (v := (I ((t0.length : Nat) : Int))) rfl)) ?_
  refine arun_do rfl rfl rfl (ex_move (eV (v := (I ((t0.length : Nat) : Int))) rfl)) ?_
  refine arun_do rfl rfl rfl (tx_64_u64 Tryd.underlying3 Tryd.underlying86 rfl) ?_
  obtain ⟨x1, hx1, h⟩ := bindS h
  refine arun_do rfl rfl rfl (ex_call0 (vs := [(U64 (UInt64.ofInt ((t0.length : Nat) : Int)))]) (v := (I x1)) rfl en_54 (cargs (evs rfl evs_nil)) rfl (ok_math_bits_Len (UInt64.ofInt ((t0.length : Nat) : Int)) x1 hx1) rfl) ?_
  refine arun_do rfl rfl rfl (ex_move (eV (v := (Value.func (Fn.func 37) #[] #[(DP [(SL 5 c_api_Node t1_0)])])) rfl)) ?_
  obtain ⟨x2, hx2, h⟩ := bindS h
  refine arun_do rfl rfl rfl (ex_callM (vs := [(GV 0 t0.length), (I 0), (I ((t0.length : Nat) : Int)), (I x1), (Value.func (Fn.func 37) #[] #[(DP [(SL 5 c_api_Node t1_0)])])]) (vs' := [(GV 0 t0.length), (I 0), (I ((t0.length : Nat) : Int)), (I x1), (Value.func (Fn.func 37) #[] #[(DP [(SL 5 c_api_Node t1_0)])])]) (v := (Value.tuple #[])) (n := 0) (b := ⟨1, ((t0).flatMap cI), true⟩) (b' := ⟨1, ((x2.2).flatMap cI), true⟩) (H' := ⟨1, [(0, ⟨1, ((x2.2).flatMap cI), true⟩)]⟩) rfl en_53 (cargs (evs rfl (evs rfl (evs rfl (evs rfl (evs rfl evs_nil)))))) rfl (.cons (.inr (.inr (.inl ⟨_, rfl, rfl⟩))) (.cons (.inl ⟨rfl, rfl⟩) (.cons (.inl ⟨rfl, rfl⟩) (.cons (.inl ⟨rfl, rfl⟩) (.cons (.inr (.inr (.inr (.inr ⟨_, _, _, rfl, rfl, (.cons (.inl ⟨rfl, rfl⟩) .nil)⟩)))) .nil))))) (ok_slices_pdqsortCmpFunc_int_c37 t0 0 ((t0.length : Nat) : Int) x1 t1_0 x2 (withLen_of hx2)) rfl rfl) ?_
  refine arun_keepE [] 0 1 (st' := ⟨14, 1, [], [], ⟨1, [(0, ⟨1, ((x2.2).flatMap cI), true⟩)]⟩⟩) (by kernel_rfl) (by kernel_rfl) ?_
  cases h
  exact And.intro (aresN rfl L2.nil rfl) rfl

noncomputable def M_node_Kids_k1 (c_1 : (Int → List Int → Option (List Int))) (t0 : (List G_api_Node)) (t1 : Int) (v1 : Int) (y4 : List Int) : Option (List Int) :=
  c_1 (w64 (v1 + 1)) y4
noncomputable def M_node_Kids_l1 (t0 : (List G_api_Node)) (t1 : Int) : Nat → Int → List Int → Option (List Int)
  | 0, _, _ => none
  | n1 + 1, v1, v2 =>
  cond (decide (v1 < (t0.length : Int))) (Option.bind (getI t0 v1) fun (x5 : G_api_Node) => cond (((decide (v1 > 0)) && ((x5.Kind == 1) || (x5.Kind == 2))) && (x5.Up == t1)) (Option.bind (appL 8 v2 ([v1] : List Int)) fun (x7 : List Int) => M_node_Kids_k1 (M_node_Kids_l1 t0 t1 n1) t0 t1 v1 x7) (M_node_Kids_k1 (M_node_Kids_l1 t0 t1 n1) t0 t1 v1 v2)) (Option.bind (withLen v2 (M_slices_SortFunc_int_int_c37 v2 t0)) fun (x8 : (Unit × List Int)) => some x8.2)
noncomputable def M_node_Kids (t0 : (List G_api_Node)) (t1 : Int) : Option (List Int) :=
  M_node_Kids_l1 t0 t1 fuel 0 ([] : List Int)
theorem ok_node_Kids (t0 : (List G_api_Node)) (t1 : Int) (r : (List Int)) (h : M_node_Kids t0 t1 = some r) : FFn Tryd.prog 24 [(SL 5 c_api_Node t0), (I t1)] (SL 1 cI r) := by
  refine FFn.of_body (n := 42) Tryd.func24 rfl Tryd.ntmps24 rfl rfl rfl rfl ?_
  show AWp _ _ _ ⟨42, 0, [(0, (SL 5 c_api_Node t0)), (1, (I t1))], [], ⟨0, []⟩⟩
  unfold M_node_Kids at h
  refine awp_seq ?_
  refine awp_region ?_
  refine arun_do rfl rfl rfl (ex_boxD (vx := (SL 5 c_api_Node t0)) (cs := [(SL 5 c_api_Node t0)]) (eV (v := (SL 5 c_api_Node t0)) rfl) rfl rfl) ?_
  refine arun_do rfl rfl rfl (ex_assign (eV (v := (Value.slice none 0 0)) rfl)) ?_
  refine arun_keepE [1, 2] 0 0 (st' := ⟨42, 0, [(1, (I t1)), (2, (DP [(SL 5 c_api_Node t0)]))], [], ⟨0, []⟩⟩) (by kernel_rfl) (by kernel_rfl) ?_
  show AWp _ _ _ _
  refine awp_seq ?_
  refine awp_region ?_
  refine arun_do rfl rfl rfl (ex_assign (eV (v := (Value.slice none 0 0)) rfl)) ?_
  refine arun_keepE [1, 2, 5] 0 0 (st' := ⟨42, 0, [(1, (I t1)), (2, (DP [(SL 5 c_api_Node t0)])), (5, (Value.slice none 0 0))], [], ⟨0, []⟩⟩) (by kernel_rfl) (by kernel_rfl) ?_
  show AWp _ _ _ _
  refine awp_seq ?_
  refine awp_seq ?_
  refine awp_region ?_
  refine arun_do rfl rfl rfl (tx_ldD1 (v := (SL 5 c_api_Node t0)) Tryd.underlying25 rfl rfl rfl) ?_
  refine arun_do rfl rfl rfl (tx_lenD (xs := t0) ce_api_Node Tryd.underlying25 rfl) ?_
  refine arun_do rfl rfl rfl (ex_move (eV (v := (I 0)) rfl)) ?_
  refine arun_keepE [1, 2, 5, 8, 9, 10] 0 0 (st' := ⟨42, 0, [(1, (I t1)), (2, (DP [(SL 5 c_api_Node t0)])), (5, (Value.slice none 0 0)), (8, (SL 5 c_api_Node t0)), (9, (I (t0.length : Int))), (10, (I 0))], [], ⟨0, []⟩⟩) (by kernel_rfl) (by kernel_rfl) ?_
  show AWp _ _ _ _
  refine awp_block ?_
  refine awp_nilGro 5 1 rfl (by decide) ?_
  refine awp_keepE [1, 2, 5, 8, 9, 10] 0 1 (st' := ⟨42, 0, [(1, (I t1)), (2, (DP [(SL 5 c_api_Node t0)])), (5, (GV 0 0)), (8, (SL 5 c_api_Node t0)), (9, (I (t0.length : Int))), (10, (I 0))], [], ⟨1, [(0, ⟨1, (([] : List Int).flatMap cI), true⟩)]⟩⟩) (by kernel_rfl) (by kernel_rfl) ?_
  refine awp_loop (fun n s => ∃ (v1 : Int) (v2 : List Int), s = ⟨42, 0, [(1, (I t1)), (2, (DP [(SL 5 c_api_Node t0)])), (5, (GV 0 v2.length)), (8, (SL 5 c_api_Node t0)), (9, (I (t0.length : Int))), (10, (I v1))], [], ⟨1, [(0, ⟨1, ((v2).flatMap cI), true⟩)]⟩⟩ ∧ M_node_Kids_l1 t0 t1 n v1 v2 = some r) fuel (Exists.intro 0 (Exists.intro ([] : List Int) (And.intro rfl h))) ?_
  rintro n s ⟨v1, v2, rfl, h⟩ -
  cases n with
  | zero => cases h
  | succ n1 =>
    unfold M_node_Kids_l1 at h
    refine awp_seq ?_
    refine awp_region ?_
    refine arun_do rfl rfl rfl (ex_bin (vx := (I v1)) (vy := (I (t0.length : Int))) rfl rfl lssI_ok) ?_
    refine arun_keepE [1, 2, 5, 8, 9, 10, 11] 0 1 (st' := ⟨42, 0, [(1, (I t1)), (2, (DP [(SL 5 c_api_Node t0)])), (5, (GV 0 v2.length)), (8, (SL 5 c_api_Node t0)), (9, (I (t0.length : Int))), (10, (I v1)), (11, (Bo (decide (v1 < (t0.length : Int)))))], [], ⟨1, [(0, ⟨1, ((v2).flatMap cI), true⟩)]⟩⟩) (by kernel_rfl) (by kernel_rfl) ?_
    show AWp _ _ _ _
    refine awp_seq ?_
    rcases Bool.eq_false_or_eq_true (decide (v1 < (t0.length : Int))) with hb3 | hb3
    · rw [condT hb3] at h
      refine awp_condT (boT hb3) ?_
      refine awp_skip ?_
      show AWp _ _ _ _
      refine awp_seqJ (fun s => ∃ (y4 : List Int), s = ⟨42, 0, [(1, (I t1)), (2, (DP [(SL 5 c_api_Node t0)])), (5, (GV 0 y4.length)), (8, (SL 5 c_api_Node t0)), (9, (I (t0.length : Int))), (10, (I v1))], [], ⟨1, [(0, ⟨1, ((y4).flatMap cI), true⟩)]⟩⟩ ∧ M_node_Kids_k1 (M_node_Kids_l1 t0 t1 n1) t0 t1 v1 y4 = some r) ?_ ?_
      · refine awp_block ?_
        refine awp_seq ?_
        refine awp_region ?_
        refine arun_do rfl rfl rfl (ex_move (eV (v := (I v1)) rfl)) ?_
        obtain ⟨x5, hx5, h⟩ := bindS h
        refine arun_do rfl rfl rfl (tx_idxD (c := c_api_Node) (xs := t0) (i := v1) ce_api_Node Tryd.underlying25 s_39 rfl rfl hx5) ?_
        refine arun_do rfl rfl rfl (tx_ldDA (vs := (c_api_Node x5)) Tryd.underlying39 rfl s_39 (by decide) rfl (Nat.le_of_ble_eq_true rfl) rfl) ?_
        refine arun_do rfl rfl rfl (ex_alloc (k := 0) (zs := (c_api_Node (G_api_Node.mk 0 0 [] [] 0))) (L' := [(c_api_Node (G_api_Node.mk 0 0 [] [] 0))]) z_39 rfl rfl rfl rfl) ?_
        refine arun_do rfl rfl rfl (ex_assign (eV (v := (I v1)) rfl)) ?_
        refine arun_do0 rfl rfl (ex_storeL (vy := (Value.agg (c_api_Node x5).toArray)) (cs := (c_api_Node (G_api_Node.mk 0 0 [] [] 0))) (vs := (c_api_Node x5)) (L' := [(c_api_Node x5)]) rfl (eV (v := (Value.agg (c_api_Node x5).toArray)) rfl) rfl s_39 rfl (Nat.le_of_ble_eq_true rfl) (by kernel_rfl)) ?_
        refine arun_keepE [1, 2, 5, 6, 7, 8, 9, 10] 1 1 (st' := ⟨42, 0, [(1, (I t1)), (2, (DP [(SL 5 c_api_Node t0)])), (5, (GV 0 v2.length)), (6, (I v1)), (7, (LP 0 0)), (8, (SL 5 c_api_Node t0)), (9, (I (t0.length : Int))), (10, (I v1))], [(c_api_Node x5)], ⟨1, [(0, ⟨1, ((v2).flatMap cI), true⟩)]⟩⟩) (by kernel_rfl) (by kernel_rfl) ?_
        show AWp _ _ _ _
        refine awp_seq ?_
        refine awp_region ?_
        refine arun_do rfl rfl rfl (ex_move (eV (v := (I v1)) rfl)) ?_
        refine arun_do rfl rfl rfl (ex_bin (vx := (I v1)) (vy := (I 0)) rfl rfl gtrI_ok) ?_
        refine arun_do rfl rfl rfl (ex_move (eV (v := (Bo (decide (v1 > 0)))) rfl)) ?_
        refine arun_guard (v := (LP 0 0)) ((decide (v1 > 0)) == true) rfl rfl rfl (fun hc => ex_fieldAddr (v := (LP 0 0)) Tryd.underlying39 rfl s_3 (by decide) rfl rfl) ?_
        refine arun_guard (v := (I x5.Kind)) ((decide (v1 > 0)) == true) rfl rfl rfl (fun hc => tx_ldL1 (v := (I x5.Kind)) Tryd.underlying3 rfl (cond_of hc) rfl rfl) ?_
        refine arun_guard (v := (Bo (x5.Kind == 1))) ((decide (v1 > 0)) == true) rfl rfl rfl (fun hc => ex_bin (vx := (I x5.Kind)) (vy := (I 1)) (cond_of hc) rfl eqlI_ok) ?_
        refine arun_guard (v := (Bo (x5.Kind == 1))) ((decide (v1 > 0)) == true) rfl rfl rfl (fun hc => ex_move (eV (v := (Bo (x5.Kind == 1))) (cond_of hc))) ?_
        refine arun_guard (v := (LP 0 0)) (((decide (v1 > 0)) == true) && ((x5.Kind == 1) == false)) rfl rfl gv_nest (fun hc => ex_fieldAddr (v := (LP 0 0)) Tryd.underlying39 rfl s_3 (by decide) rfl rfl) ?_
        refine arun_guard (v := (I x5.Kind)) (((decide (v1 > 0)) == true) && ((x5.Kind == 1) == false)) rfl rfl gv_nest (fun hc => tx_ldL1 (v := (I x5.Kind)) Tryd.underlying3 rfl (cond_of hc) rfl rfl) ?_
        refine arun_guard (v := (Bo (x5.Kind == 2))) (((decide (v1 > 0)) == true) && ((x5.Kind == 1) == false)) rfl rfl gv_nest (fun hc => ex_bin (vx := (I x5.Kind)) (vy := (I 2)) (cond_of hc) rfl eqlI_ok) ?_
        refine arun_guard (v := (Bo ((x5.Kind == 1) || (x5.Kind == 2)))) ((decide (v1 > 0)) == true) rfl rfl rfl (fun hc => ex_pick (cond_of hc) (pkOrN hc)) ?_
        refine arun_do rfl rfl rfl (ex_pick rfl pkAnd) ?_
        refine arun_do rfl rfl rfl (ex_move (eV (v := (Bo ((decide (v1 > 0)) && ((x5.Kind == 1) || (x5.Kind == 2))))) rfl)) ?_
        refine arun_guard (v := (LP 0 1)) (((decide (v1 > 0)) && ((x5.Kind == 1) || (x5.Kind == 2))) == true) rfl rfl rfl (fun hc => ex_fieldAddr (v := (LP 0 1)) Tryd.underlying39 rfl s_3 (by decide) rfl rfl) ?_
        refine arun_guard (v := (I x5.Up)) (((decide (v1 > 0)) && ((x5.Kind == 1) || (x5.Kind == 2))) == true) rfl rfl rfl (fun hc => tx_ldL1 (v := (I x5.Up)) Tryd.underlying3 rfl (cond_of hc) rfl rfl) ?_
        refine arun_guard (v := (I t1)) (((decide (v1 > 0)) && ((x5.Kind == 1) || (x5.Kind == 2))) == true) rfl rfl rfl (fun hc => ex_move (eV (v := (I t1)) rfl)) ?_
        refine arun_guard (v := (Bo (x5.Up == t1))) (((decide (v1 > 0)) && ((x5.Kind == 1) || (x5.Kind == 2))) == true) rfl rfl rfl (fun hc => ex_bin (vx := (I x5.Up)) (vy := (I t1)) (cond_of hc) (cond_of hc) eqlI_ok) ?_
        refine arun_do rfl rfl rfl (ex_pick rfl pkAnd) ?_
        refine arun_keepE [1, 2, 5, 6, 8, 9, 10, 32] 0 1 (st' := ⟨42, 0, [(1, (I t1)), (2, (DP [(SL 5 c_api_Node t0)])), (5, (GV 0 v2.length)), (6, (I v1)), (8, (SL 5 c_api_Node t0)), (9, (I (t0.length : Int))), (10, (I v1)), (32, (Bo (((decide (v1 > 0)) && ((x5.Kind == 1) || (x5.Kind == 2))) && (x5.Up == t1))))], [], ⟨1, [(0, ⟨1, ((v2).flatMap cI), true⟩)]⟩⟩) (by kernel_rfl) (by kernel_rfl) ?_
        show AWp _ _ _ _
        rcases Bool.eq_false_or_eq_true (((decide (v1 > 0)) && ((x5.Kind == 1) || (x5.Kind == 2))) && (x5.Up == t1)) with hb6 | hb6
        · rw [condT hb6] at h
          refine awp_condT (boT hb6) ?_
          refine awp_region ?_
          refine arun_do rfl rfl rfl (ex_move (eV (v := (GV 0 v2.length)) rfl)) ?_
          refine arun_do rfl rfl rfl (ex_move (eV (v := (I v1)) rfl)) ?_
          refine arun_do rfl rfl rfl (ex_buildSliceD (qs := [(0, (I v1))]) (cells := (([v1] : List Int).flatMap cI)) Tryd.underlying29 s_3 (by decide) (evp rfl evp_nil) rfl (by kernel_rfl) (by kernel_rfl) (by kernel_rfl)) ?_
          obtain ⟨x7, hx7, h⟩ := bindS h
          refine arun_do rfl rfl rfl (tx_appG (c := cI) (xs := v2) (H' := ⟨1, [(0, ⟨1, ((x7).flatMap cI), true⟩)]⟩) ceI e_3 rfl rfl rfl (tsrcD (ys := ([v1] : List Int)) ceI Tryd.underlying29 s_3 Tryd.underlying29 rfl) hx7 rfl) ?_
          refine arun_do rfl rfl rfl (ex_assign (eV (v := (GV 0 x7.length)) rfl)) ?_
          refine arun_keepE [1, 2, 5, 8, 9, 10] 0 1 (st' := ⟨42, 0, [(1, (I t1)), (2, (DP [(SL 5 c_api_Node t0)])), (5, (GV 0 x7.length)), (8, (SL 5 c_api_Node t0)), (9, (I (t0.length : Int))), (10, (I v1))], [], ⟨1, [(0, ⟨1, ((x7).flatMap cI), true⟩)]⟩⟩) (by kernel_rfl) (by kernel_rfl) ?_
          exact (Exists.intro x7 (And.intro rfl h))
        · rw [condF hb6] at h
          refine awp_condF (boF hb6) ?_
          refine awp_keepE [1, 2, 5, 8, 9, 10] 0 1 (st' := ⟨42, 0, [(1, (I t1)), (2, (DP [(SL 5 c_api_Node t0)])), (5, (GV 0 v2.length)), (8, (SL 5 c_api_Node t0)), (9, (I (t0.length : Int))), (10, (I v1))], [], ⟨1, [(0, ⟨1, ((v2).flatMap cI), true⟩)]⟩⟩) (by kernel_rfl) (by kernel_rfl) ?_
          refine awp_skip ?_
          exact (Exists.intro v2 (And.intro rfl h))
      · rintro s ⟨y4, rfl, h⟩
        unfold M_node_Kids_k1 at h
        refine awp_region ?_
        refine arun_do rfl rfl rfl (ex_bin (vx := (I v1)) (vy := (I 1)) rfl rfl addI_ok) ?_
        refine arun_do rfl rfl rfl (ex_move (eV (v := (I (w64 (v1 + 1)))) rfl)) ?_
        refine arun_keepE [1, 2, 5, 8, 9, 10] 0 1 (st' := ⟨42, 0, [(1, (I t1)), (2, (DP [(SL 5 c_api_Node t0)])), (5, (GV 0 y4.length)), (8, (SL 5 c_api_Node t0)), (9, (I (t0.length : Int))), (10, (I (w64 (v1 + 1))))], [], ⟨1, [(0, ⟨1, ((y4).flatMap cI), true⟩)]⟩⟩) (by kernel_rfl) (by kernel_rfl) ?_
        exact Exists.intro n1 (And.intro (Nat.lt_succ_self _) (Exists.intro (w64 (v1 + 1)) (Exists.intro y4 (And.intro rfl h))))
    · rw [condF hb3] at h
      refine awp_condF (boF hb3) ?_
      refine awp_exit ?_
      show AWp _ _ _ _
      refine awp_seq ?_
      refine awp_region ?_
      refine arun_do rfl rfl rfl (ex_move (eV (v := (GV 0 v2.length)) rfl)) ?_
      refine arun_do rfl rfl rfl (ex_makeFunc (vs := [(DP [(SL 5 c_api_Node t0)])]) rfl rfl) ?_
      obtain ⟨x8, hx8, h⟩ := bindS h
      refine arun_do rfl rfl rfl (ex_callM (vs := [(GV 0 v2.length), (Value.func (Fn.func 37) #[] #[(DP [(SL 5 c_api_Node t0)])])]) (vs' := [(GV 0 v2.length), (Value.func (Fn.func 37) #[] #[(DP [(SL 5 c_api_Node t0)])])]) (v := (Value.tuple #[])) (n := 0) (b := ⟨1, ((v2).flatMap cI), true⟩) (b' := ⟨1, ((x8.2).flatMap cI), true⟩) (H' := ⟨1, [(0, ⟨1, ((x8.2).flatMap cI), true⟩)]⟩) rfl en_36 (cargs (evs rfl (evs rfl evs_nil))) rfl (.cons (.inr (.inr (.inl ⟨_, rfl, rfl⟩))) (.cons (.inr (.inr (.inr (.inr ⟨_, _, _, rfl, rfl, (.cons (.inl ⟨rfl, rfl⟩) .nil)⟩)))) .nil)) (ok_slices_SortFunc_int_int_c37 v2 t0 x8 (withLen_of hx8)) rfl rfl) ?_
      refine arun_keepE [5] 0 1 (st' := ⟨42, 0, [(5, (GV 0 v2.length))], [], ⟨1, [(0, ⟨1, ((x8.2).flatMap cI), true⟩)]⟩⟩) (by kernel_rfl) (by kernel_rfl) ?_
      show AWp _ _ _ _
      refine awp_seq ?_
      refine awp_region ?_
      refine arun_do rfl rfl rfl (ex_move (eV (v := (GV 0 v2.length)) rfl)) ?_
      refine arun_do rfl rfl rfl (ex_assign (eV (v := (GV 0 v2.length)) rfl)) ?_
      refine arun_keepE [4] 0 1 (st' := ⟨42, 0, [(4, (GV 0 v2.length))], [], ⟨1, [(0, ⟨1, ((x8.2).flatMap cI), true⟩)]⟩⟩) (by kernel_rfl) (by kernel_rfl) ?_
      show AWp _ _ _ _
      refine awp_freeze 0 (bk := ⟨1, ((x8.2).flatMap cI), true⟩) (T' := [(4, (SL 1 cI x8.2))]) (L' := []) rfl (fzG ceI rfl (withLen_len hx8) FzT.nil) (FzL.refl _) ?_
      show AWp _ _ _ ⟨42, 0, [(4, (SL 1 cI x8.2))], [], ⟨1, []⟩⟩
      refine awp_ret ?_
      cases h
      exact ares1 (rtmp rfl (eV rfl))

noncomputable def M_node_Kid_l1 (t0 : (List G_api_Node)) (t2 : Str) (x1 : (List Int)) : Nat → Int → Option (Int × Bool)
  | 0, _ => none
  | n1 + 1, v2 =>
  cond (decide (v2 < (x1.length : Int))) (Option.bind (getI x1 v2) fun (x4 : Int) => Option.bind (getI t0 x4) fun (x5 : G_api_Node) => cond (x5.Name == t2) (some (x4, true)) ((M_node_Kid_l1 t0 t2 x1 n1) (w64 (v2 + 1)))) (some (0, false))
noncomputable def M_node_Kid (t0 : (List G_api_Node)) (t1 : Int) (t2 : Str) : Option (Int × Bool) :=
  Option.bind (M_node_Kids t0 t1) fun (x1 : (List Int)) => M_node_Kid_l1 t0 t2 x1 fuel 0
theorem ok_node_Kid (t0 : (List G_api_Node)) (t1 : Int) (t2 : Str) (r : (Int × Bool)) (h : M_node_Kid t0 t1 t2 = some r) : FFn Tryd.prog 33 [(SL 5 c_api_Node t0), (I t1), (S t2)] (Value.tuple #[(I r.1), (Bo r.2)]) := by
  refine FFn.of_body (n := 27) Tryd.func33 rfl Tryd.ntmps33 rfl rfl rfl rfl ?_
  show AWp _ _ _ ⟨27, 0, [(0, (SL 5 c_api_Node t0)), (1, (I t1)), (2, (S t2))], [], ⟨0, []⟩⟩
  unfold M_node_Kid at h
  refine awp_seq ?_
  refine awp_region ?_
  refine arun_do rfl rfl rfl (ex_assign (eV (v := (I 0)) rfl)) ?_
  refine arun_do rfl rfl rfl (ex_assign (eV (v := (Bo false)) rfl)) ?_
  refine arun_keepE [0, 1, 2] 0 0 (st' := ⟨27, 0, [(0, (SL 5 c_api_Node t0)), (1, (I t1)), (2, (S t2))], [], ⟨0, []⟩⟩) (by kernel_rfl) (by kernel_rfl) ?_
  show AWp _ _ _ _
  refine awp_seq ?_
  refine awp_seq ?_
  refine awp_region ?_
  refine arun_do rfl rfl rfl (ex_move (eV (v := (SL 5 c_api_Node t0)) rfl)) ?_
  refine arun_do rfl rfl rfl (ex_move (eV (v := (I t1)) rfl)) ?_
  obtain ⟨x1, hx1, h⟩ := bindS h
  refine arun_do rfl rfl rfl (ex_call0 (vs := [(SL 5 c_api_Node t0), (I t1)]) (v := (SL 1 cI x1)) rfl en_24 (cargs (evs rfl (evs rfl evs_nil))) rfl (ok_node_Kids t0 t1 x1 hx1) rfl) ?_
  refine arun_do rfl rfl rfl (tx_lenD (xs := x1) ceI Tryd.underlying29 rfl) ?_
  refine arun_do rfl rfl rfl (ex_move (eV (v := (I 0)) rfl)) ?_
  refine arun_keepE [0, 2, 12, 13, 14] 0 0 (st' := ⟨27, 0, [(0, (SL 5 c_api_Node t0)), (2, (S t2)), (12, (SL 1 cI x1)), (13, (I (x1.length : Int))), (14, (I 0))], [], ⟨0, []⟩⟩) (by kernel_rfl) (by kernel_rfl) ?_
  show AWp _ _ _ _
  refine awp_block ?_
  refine awp_loop (fun n s => ∃ (v2 : Int), s = ⟨27, 0, [(0, (SL 5 c_api_Node t0)), (2, (S t2)), (12, (SL 1 cI x1)), (13, (I (x1.length : Int))), (14, (I v2))], [], ⟨0, []⟩⟩ ∧ M_node_Kid_l1 t0 t2 x1 n v2 = some r) fuel (Exists.intro 0 (And.intro rfl h)) ?_
  rintro n s ⟨v2, rfl, h⟩ -
  cases n with
  | zero => cases h
  | succ n1 =>
    unfold M_node_Kid_l1 at h
    refine awp_seq ?_
    refine awp_region ?_
    refine arun_do rfl rfl rfl (ex_bin (vx := (I v2)) (vy := (I (x1.length : Int))) rfl rfl lssI_ok) ?_
    refine arun_keepE [0, 2, 12, 13, 14, 15] 0 0 (st' := ⟨27, 0, [(0, (SL 5 c_api_Node t0)), (2, (S t2)), (12, (SL 1 cI x1)), (13, (I (x1.length : Int))), (14, (I v2)), (15, (Bo (decide (v2 < (x1.length : Int)))))], [], ⟨0, []⟩⟩) (by kernel_rfl) (by kernel_rfl) ?_
    show AWp _ _ _ _
    refine awp_seq ?_
    rcases Bool.eq_false_or_eq_true (decide (v2 < (x1.length : Int))) with hb3 | hb3
    · rw [condT hb3] at h
      refine awp_condT (boT hb3) ?_
      refine awp_skip ?_
      show AWp _ _ _ _
      refine awp_seq ?_
      refine awp_block ?_
      refine awp_seq ?_
      refine awp_region ?_
      obtain ⟨x4, hx4, h⟩ := bindS h
      refine arun_do rfl rfl rfl (tx_idxD (c := cI) (xs := x1) (i := v2) ceI Tryd.underlying29 s_3 rfl rfl hx4) ?_
      refine arun_do rfl rfl rfl (tx_ldD1 (v := (I x4)) Tryd.underlying3 rfl rfl rfl) ?_
      refine arun_do rfl rfl rfl (ex_assign (eV (v := (I x4)) rfl)) ?_
      refine arun_keepE [0, 2, 9, 12, 13, 14] 0 0 (st' := ⟨27, 0, [(0, (SL 5 c_api_Node t0)), (2, (S t2)), (9, (I x4)), (12, (SL 1 cI x1)), (13, (I (x1.length : Int))), (14, (I v2))], [], ⟨0, []⟩⟩) (by kernel_rfl) (by kernel_rfl) ?_
      show AWp _ _ _ _
      refine awp_seq ?_
      refine awp_region ?_
      refine arun_do rfl rfl rfl (ex_move (eV (v := (SL 5 c_api_Node t0)) rfl)) ?_
      refine arun_do rfl rfl rfl (ex_move (eV (v := (I x4)) rfl)) ?_
      obtain ⟨x5, hx5, h⟩ := bindS h
      refine arun_do rfl rfl rfl (tx_idxD (c := c_api_Node) (xs := t0) (i := x4) ce_api_Node Tryd.underlying25 s_39 rfl rfl hx5) ?_
      refine arun_do rfl rfl rfl (ex_fieldAddrD (vs := (List.drop 2 (c_api_Node x5))) Tryd.underlying39 rfl s_9 (by decide) rfl rfl) ?_
      refine arun_do rfl rfl rfl (tx_ldD1 (v := (S x5.Name)) Tryd.underlying9 rfl rfl rfl) ?_
      refine arun_do rfl rfl rfl (ex_move (eV (v := (S t2)) rfl)) ?_
      refine arun_do rfl rfl rfl (ex_bin (vx := (S x5.Name)) (vy := (S t2)) rfl rfl eqlS_ok) ?_
      refine arun_keepE [0, 2, 9, 12, 13, 14, 24] 0 0 (st' := ⟨27, 0, [(0, (SL 5 c_api_Node t0)), (2, (S t2)), (9, (I x4)), (12, (SL 1 cI x1)), (13, (I (x1.length : Int))), (14, (I v2)), (24, (Bo (x5.Name == t2)))], [], ⟨0, []⟩⟩) (by kernel_rfl) (by kernel_rfl) ?_
      show AWp _ _ _ _
      rcases Bool.eq_false_or_eq_true (x5.Name == t2) with hb6 | hb6
      · rw [condT hb6] at h
        refine awp_condT (boT hb6) ?_
        refine awp_seq ?_
        refine awp_region ?_
        refine arun_do rfl rfl rfl (ex_move (eV (v := (I x4)) rfl)) ?_
        refine arun_do rfl rfl rfl (ex_assign (eV (v := (I x4)) rfl)) ?_
        refine arun_do rfl rfl rfl (ex_assign (eV (v := (Bo true)) rfl)) ?_
        refine arun_keepE [6, 7] 0 0 (st' := ⟨27, 0, [(6, (I x4)), (7, (Bo true))], [], ⟨0, []⟩⟩) (by kernel_rfl) (by kernel_rfl) ?_
        show AWp _ _ _ _
        refine awp_ret ?_
        cases h
        exact aresN rfl (L2.cons (rtmp rfl (eV rfl)) (L2.cons (rtmp rfl (eV rfl)) L2.nil)) rfl
      · rw [condF hb6] at h
        refine awp_condF (boF hb6) ?_
        refine awp_skip ?_
        show AWp _ _ _ _
        refine awp_region ?_
        refine arun_do rfl rfl rfl (ex_bin (vx := (I v2)) (vy := (I 1)) rfl rfl addI_ok) ?_
        refine arun_do rfl rfl rfl (ex_move (eV (v := (I (w64 (v2 + 1)))) rfl)) ?_
        refine arun_keepE [0, 2, 12, 13, 14] 0 0 (st' := ⟨27, 0, [(0, (SL 5 c_api_Node t0)), (2, (S t2)), (12, (SL 1 cI x1)), (13, (I (x1.length : Int))), (14, (I (w64 (v2 + 1))))], [], ⟨0, []⟩⟩) (by kernel_rfl) (by kernel_rfl) ?_
        exact Exists.intro n1 (And.intro (Nat.lt_succ_self _) (Exists.intro (w64 (v2 + 1)) (And.intro rfl h)))
    · rw [condF hb3] at h
      refine awp_condF (boF hb3) ?_
      refine awp_exit ?_
      show AWp _ _ _ _
      refine awp_seq ?_
      refine awp_region ?_
      refine arun_do rfl rfl rfl (ex_assign (eV (v := (I 0)) rfl)) ?_
      refine arun_do rfl rfl rfl (ex_assign (eV (v := (Bo false)) rfl)) ?_
      refine arun_keepE [6, 7] 0 0 (st' := ⟨27, 0, [(6, (I 0)), (7, (Bo false))], [], ⟨0, []⟩⟩) (by kernel_rfl) (by kernel_rfl) ?_
      show AWp _ _ _ _
      refine awp_ret ?_
      cases h
      exact aresN rfl (L2.cons (rtmp rfl (eV rfl)) (L2.cons (rtmp rfl (eV rfl)) L2.nil)) rfl

end Go.Proofs
