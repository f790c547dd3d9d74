/- Pure models of functions of the program, and that its code does what they say: name Parts, name Join, palimplaw11 begun, palimpmade Made, palimpmade Picks Num. Written by a program. -/
import Derived.Test.YtlidaeklambcgaaDoorR110
import Derived.Test.YtlidaeklambcgaaDoorR11B
import Derived.Test.YtlidaeklambcgaaDoorR11X
set_option maxRecDepth 20000
set_option maxHeartbeats 4000000
namespace Go.Proofs
open Go Go.Fhl
set_option linter.unusedVariables false
set_option linter.unusedSimpArgs false
noncomputable def M_name_Parts_l1 (x2 : (List Str)) : Nat → Int → Option ((List Str) × Bool)
  | 0, _ => none
  | n1 + 1, v4 =>
  cond (decide (v4 < (x2.length : Int))) (Option.bind (getI x2 v4) fun (x6 : Str) => Option.bind (M_name_May x6) fun (x7 : Bool) => cond (!x7) (some ([], false)) ((M_name_Parts_l1 x2 n1) (w64 (v4 + 1)))) (some (x2, true))
noncomputable def M_name_Parts (t0 : Str) : Option ((List Str) × Bool) :=
  cond (t0 == []) (some ([], true)) (Option.bind (M_strings_Split t0 ([47] : Str)) fun (x2 : (List Str)) => cond (decide ((x2.length : Int) ≥ 8)) (some ([], false)) (M_name_Parts_l1 x2 fuel 0))
theorem ok_name_Parts (t0 : Str) (r : ((List Str) × Bool)) (h : M_name_Parts t0 = some r) : FFn Tryd.prog 10 [(S t0)] (Value.tuple #[(SL 1 cS r.1), (Bo r.2)]) := by
  refine FFn.of_body (n := 25) Tryd.func10 rfl Tryd.ntmps10 rfl rfl rfl rfl ?_
  show AWp _ _ _ ⟨25, 0, [(0, (S t0))], [], ⟨0, []⟩⟩
  unfold M_name_Parts at h
  refine awp_seq ?_
  refine awp_region ?_
  refine arun_do rfl rfl rfl (ex_assign (eV (v := (Value.slice none 0 0)) rfl)) ?_
  refine arun_do rfl rfl rfl (ex_assign (eV (v := (Bo false)) rfl)) ?_
  refine arun_keepE [0] 0 0 (st' := ⟨25, 0, [(0, (S t0))], [], ⟨0, []⟩⟩) (by kernel_rfl) (by kernel_rfl) ?_
  show AWp _ _ _ _
  refine awp_seq ?_
  refine awp_seq ?_
  refine awp_region ?_
  refine arun_do rfl rfl rfl (ex_move (eV (v := (S t0)) rfl)) ?_
  refine arun_do rfl rfl rfl (ex_bin (vx := (S t0)) (vy := (S [])) rfl rfl eqlS_ok) ?_
  refine arun_keepE [0, 8] 0 0 (st' := ⟨25, 0, [(0, (S t0)), (8, (Bo (t0 == [])))], [], ⟨0, []⟩⟩) (by kernel_rfl) (by kernel_rfl) ?_
  show AWp _ _ _ _
  rcases Bool.eq_false_or_eq_true (t0 == []) with hb1 | hb1
  · rw [condT hb1] at h
    refine awp_condT (boT hb1) ?_
    refine awp_seq ?_
    refine awp_region ?_
    refine arun_do rfl rfl rfl (ex_assign (eV (v := (Value.slice none 0 0)) rfl)) ?_
    refine arun_do rfl rfl rfl (ex_assign (eV (v := (Bo true)) rfl)) ?_
    refine arun_keepE [2, 3] 0 0 (st' := ⟨25, 0, [(2, (Value.slice none 0 0)), (3, (Bo true))], [], ⟨0, []⟩⟩) (by kernel_rfl) (by kernel_rfl) ?_
    show AWp _ _ _ _
    refine awp_ret ?_
    cases h
    exact aresN rfl (L2.cons (rtmp rfl (eN rfl)) (L2.cons (rtmp rfl (eV rfl)) L2.nil)) rfl
  · rw [condF hb1] at h
    refine awp_condF (boF hb1) ?_
    refine awp_skip ?_
    show AWp _ _ _ _
    refine awp_seq ?_
    refine awp_region ?_
    refine arun_do rfl rfl rfl (ex_move (eV (v := (S t0)) rfl)) ?_
    obtain ⟨x2, hx2, h⟩ := bindS h
    refine arun_do rfl rfl rfl (ex_call0 (vs := [(S t0), (S ([47] : Str))]) (v := (SL 1 cS x2)) rfl en_17 (cargs (evs rfl (evs rfl evs_nil))) rfl (ok_strings_Split t0 ([47] : Str) x2 hx2) rfl) ?_
    refine arun_do rfl rfl rfl (ex_assign (eV (v := (SL 1 cS x2)) rfl)) ?_
    refine arun_keepE [4] 0 0 (st' := ⟨25, 0, [(4, (SL 1 cS x2))], [], ⟨0, []⟩⟩) (by kernel_rfl) (by kernel_rfl) ?_
    show AWp _ _ _ _
    refine awp_seq ?_
    refine awp_seq ?_
    refine awp_region ?_
    refine arun_do rfl rfl rfl (ex_move (eV (v := (SL 1 cS x2)) rfl)) ?_
    refine arun_do rfl rfl rfl (tx_lenD (xs := x2) ceS Tryd.underlying27 rfl) ?_
    refine arun_do rfl rfl rfl (ex_bin (vx := (I (x2.length : Int))) (vy := (I 8)) rfl rfl geqI_ok) ?_
    refine arun_keepE [4, 13] 0 0 (st' := ⟨25, 0, [(4, (SL 1 cS x2)), (13, (Bo (decide ((x2.length : Int) ≥ 8))))], [], ⟨0, []⟩⟩) (by kernel_rfl) (by kernel_rfl) ?_
    show AWp _ _ _ _
    rcases Bool.eq_false_or_eq_true (decide ((x2.length : Int) ≥ 8)) with hb3 | hb3
    · rw [condT hb3] at h
      refine awp_condT (boT hb3) ?_
      refine awp_seq ?_
      refine awp_region ?_
      refine arun_do rfl rfl rfl (ex_assign (eV (v := (Value.slice none 0 0)) rfl)) ?_
      refine arun_do rfl rfl rfl (ex_assign (eV (v := (Bo false)) rfl)) ?_
      refine arun_keepE [2, 3] 0 0 (st' := ⟨25, 0, [(2, (Value.slice none 0 0)), (3, (Bo false))], [], ⟨0, []⟩⟩) (by kernel_rfl) (by kernel_rfl) ?_
      show AWp _ _ _ _
      refine awp_ret ?_
      cases h
      exact aresN rfl (L2.cons (rtmp rfl (eN rfl)) (L2.cons (rtmp rfl (eV rfl)) L2.nil)) rfl
    · rw [condF hb3] at h
      refine awp_condF (boF hb3) ?_
      refine awp_skip ?_
      show AWp _ _ _ _
      refine awp_seq ?_
      refine awp_seq ?_
      refine awp_region ?_
      refine arun_do rfl rfl rfl (ex_move (eV (v := (SL 1 cS x2)) rfl)) ?_
      refine arun_do rfl rfl rfl (tx_lenD (xs := x2) ceS Tryd.underlying27 rfl) ?_
      refine arun_do rfl rfl rfl (ex_move (eV (v := (I 0)) rfl)) ?_
      refine arun_keepE [4, 14, 15, 16] 0 0 (st' := ⟨25, 0, [(4, (SL 1 cS x2)), (14, (SL 1 cS x2)), (15, (I (x2.length : Int))), (16, (I 0))], [], ⟨0, []⟩⟩) (by kernel_rfl) (by kernel_rfl) ?_
      show AWp _ _ _ _
      refine awp_block ?_
      refine awp_loop (fun n s => ∃ (v4 : Int), s = ⟨25, 0, [(4, (SL 1 cS x2)), (14, (SL 1 cS x2)), (15, (I (x2.length : Int))), (16, (I v4))], [], ⟨0, []⟩⟩ ∧ M_name_Parts_l1 x2 n v4 = some r) fuel (Exists.intro 0 (And.intro rfl h)) ?_
      rintro n s ⟨v4, rfl, h⟩ -
      cases n with
      | zero => cases h
      | succ n1 =>
        unfold M_name_Parts_l1 at h
        refine awp_seq ?_
        refine awp_region ?_
        refine arun_do rfl rfl rfl (ex_bin (vx := (I v4)) (vy := (I (x2.length : Int))) rfl rfl lssI_ok) ?_
        refine arun_keepE [4, 14, 15, 16, 17] 0 0 (st' := ⟨25, 0, [(4, (SL 1 cS x2)), (14, (SL 1 cS x2)), (15, (I (x2.length : Int))), (16, (I v4)), (17, (Bo (decide (v4 < (x2.length : Int)))))], [], ⟨0, []⟩⟩) (by kernel_rfl) (by kernel_rfl) ?_
        show AWp _ _ _ _
        refine awp_seq ?_
        rcases Bool.eq_false_or_eq_true (decide (v4 < (x2.length : Int))) with hb5 | hb5
        · rw [condT hb5] at h
          refine awp_condT (boT hb5) ?_
          refine awp_skip ?_
          show AWp _ _ _ _
          refine awp_seq ?_
          refine awp_block ?_
          refine awp_seq ?_
          refine awp_region ?_
          obtain ⟨x6, hx6, h⟩ := bindS h
          refine arun_do rfl rfl rfl (tx_idxD (c := cS) (xs := x2) (i := v4) ceS Tryd.underlying27 s_9 rfl rfl hx6) ?_
          refine arun_do rfl rfl rfl (tx_ldD1 (v := (S x6)) Tryd.underlying9 rfl rfl rfl) ?_
          refine arun_do rfl rfl rfl (ex_assign (eV (v := (S x6)) rfl)) ?_
          refine arun_keepE [4, 6, 14, 15, 16] 0 0 (st' := ⟨25, 0, [(4, (SL 1 cS x2)), (6, (S x6)), (14, (SL 1 cS x2)), (15, (I (x2.length : Int))), (16, (I v4))], [], ⟨0, []⟩⟩) (by kernel_rfl) (by kernel_rfl) ?_
          show AWp _ _ _ _
          refine awp_seq ?_
          refine awp_region ?_
          refine arun_do rfl rfl rfl (ex_move (eV (v := (S x6)) rfl)) ?_
          obtain ⟨x7, hx7, h⟩ := bindS h
          refine arun_do rfl rfl rfl (ex_call0 (vs := [(S x6)]) (v := (Bo x7)) rfl en_13 (cargs (evs rfl evs_nil)) rfl (ok_name_May x6 x7 hx7) rfl) ?_
          refine arun_do rfl rfl rfl (ex_un (vx := (Bo x7)) rfl notB_ok) ?_
          refine arun_keepE [4, 14, 15, 16, 22] 0 0 (st' := ⟨25, 0, [(4, (SL 1 cS x2)), (14, (SL 1 cS x2)), (15, (I (x2.length : Int))), (16, (I v4)), (22, (Bo (!x7)))], [], ⟨0, []⟩⟩) (by kernel_rfl) (by kernel_rfl) ?_
          show AWp _ _ _ _
          rcases Bool.eq_false_or_eq_true (!x7) with hb8 | hb8
          · rw [condT hb8] at h
            refine awp_condT (boT hb8) ?_
            refine awp_seq ?_
            refine awp_region ?_
            refine arun_do rfl rfl rfl (ex_assign (eV (v := (Value.slice none 0 0)) rfl)) ?_
            refine arun_do rfl rfl rfl (ex_assign (eV (v := (Bo false)) rfl)) ?_
            refine arun_keepE [2, 3] 0 0 (st' := ⟨25, 0, [(2, (Value.slice none 0 0)), (3, (Bo false))], [], ⟨0, []⟩⟩) (by kernel_rfl) (by kernel_rfl) ?_
            show AWp _ _ _ _
            refine awp_ret ?_
            cases h
            exact aresN rfl (L2.cons (rtmp rfl (eN rfl)) (L2.cons (rtmp rfl (eV rfl)) L2.nil)) rfl
          · rw [condF hb8] at h
            refine awp_condF (boF hb8) ?_
            refine awp_skip ?_
            show AWp _ _ _ _
            refine awp_region ?_
            refine arun_do rfl rfl rfl (ex_bin (vx := (I v4)) (vy := (I 1)) rfl rfl addI_ok) ?_
            refine arun_do rfl rfl rfl (ex_move (eV (v := (I (w64 (v4 + 1)))) rfl)) ?_
            refine arun_keepE [4, 14, 15, 16] 0 0 (st' := ⟨25, 0, [(4, (SL 1 cS x2)), (14, (SL 1 cS x2)), (15, (I (x2.length : Int))), (16, (I (w64 (v4 + 1))))], [], ⟨0, []⟩⟩) (by kernel_rfl) (by kernel_rfl) ?_
            exact Exists.intro n1 (And.intro (Nat.lt_succ_self _) (Exists.intro (w64 (v4 + 1)) (And.intro rfl h)))
        · rw [condF hb5] at h
          refine awp_condF (boF hb5) ?_
          refine awp_exit ?_
          show AWp _ _ _ _
          refine awp_seq ?_
          refine awp_region ?_
          refine arun_do rfl rfl rfl (ex_move (eV (v := (SL 1 cS x2)) rfl)) ?_
          refine arun_do rfl rfl rfl (ex_assign (eV (v := (SL 1 cS x2)) rfl)) ?_
          refine arun_do rfl rfl rfl (ex_assign (eV (v := (Bo true)) rfl)) ?_
          refine arun_keepE [2, 3] 0 0 (st' := ⟨25, 0, [(2, (SL 1 cS x2)), (3, (Bo true))], [], ⟨0, []⟩⟩) (by kernel_rfl) (by kernel_rfl) ?_
          show AWp _ _ _ _
          refine awp_ret ?_
          cases h
          exact aresN rfl (L2.cons (rtmp rfl (eV rfl)) (L2.cons (rtmp rfl (eV rfl)) L2.nil)) rfl

noncomputable def M_name_Join (t0 : (List Str)) : Option Str :=
  Option.bind (M_strings_Join t0 ([47] : Str)) fun (x1 : Str) => some x1
theorem ok_name_Join (t0 : (List Str)) (r : Str) (h : M_name_Join t0 = some r) : FFn Tryd.prog 15 [(SL 1 cS t0)] (S r) := by
  refine FFn.of_body (n := 5) Tryd.func15 rfl Tryd.ntmps15 rfl rfl rfl rfl ?_
  show AWp _ _ _ ⟨5, 0, [(0, (SL 1 cS t0))], [], ⟨0, []⟩⟩
  unfold M_name_Join at h
  refine awp_seq ?_
  refine awp_region ?_
  refine arun_do rfl rfl rfl (ex_assign (eV (v := (S [])) rfl)) ?_
  refine arun_keepE [0] 0 0 (st' := ⟨5, 0, [(0, (SL 1 cS t0))], [], ⟨0, []⟩⟩) (by kernel_rfl) (by kernel_rfl) ?_
  show AWp _ _ _ _
  refine awp_seq ?_
  refine awp_region ?_
  refine arun_do rfl rfl rfl (ex_move (eV (v := (SL 1 cS t0)) rfl)) ?_
  obtain ⟨x1, hx1, h⟩ := bindS h
  refine arun_do rfl rfl rfl (ex_call0 (vs := [(SL 1 cS t0), (S ([47] : Str))]) (v := (S x1)) rfl en_19 (cargs (evs rfl (evs rfl evs_nil))) rfl (ok_strings_Join t0 ([47] : Str) x1 hx1) rfl) ?_
  refine arun_do rfl rfl rfl (ex_assign (eV (v := (S x1)) rfl)) ?_
  refine arun_keepE [2] 0 0 (st' := ⟨5, 0, [(2, (S x1))], [], ⟨0, []⟩⟩) (by kernel_rfl) (by kernel_rfl) ?_
  show AWp _ _ _ _
  refine awp_ret ?_
  cases h
  exact ares1 (rtmp rfl (eV rfl))

noncomputable def M_law11_begun : Option Bool :=
  Option.bind (M_name_Parts ([97, 47, 98] : Str)) fun (x1 : ((List Str) × Bool)) => Option.bind (M_name_Parts ([47, 97] : Str)) fun (x2 : ((List Str) × Bool)) => Option.bind (M_name_Parts ([] : Str)) fun (x3 : ((List Str) × Bool)) => Option.bind (gd ((x1.2 && ((x1.1.length : Int) == 2)) == true) (getI x1.1 1)) fun (x4 : Str) => Option.bind (gd ((((((x1.2 && ((x1.1.length : Int) == 2)) && (x4 == ([98] : Str))) && (!x2.2)) && x3.2) && ((x3.1.length : Int) == 0)) == true) (M_name_Join ([([97] : Str), ([98] : Str)] : List Str))) fun (x5 : Str) => Option.bind (gd (((((((x1.2 && ((x1.1.length : Int) == 2)) && (x4 == ([98] : Str))) && (!x2.2)) && x3.2) && ((x3.1.length : Int) == 0)) && (x5 == ([97, 47, 98] : Str))) == true) (M_name_May ([97, 46, 98] : Str))) fun (x6 : Bool) => Option.bind (gd ((((((((x1.2 && ((x1.1.length : Int) == 2)) && (x4 == ([98] : Str))) && (!x2.2)) && x3.2) && ((x3.1.length : Int) == 0)) && (x5 == ([97, 47, 98] : Str))) && x6) == true) (M_name_May ([46, 46] : Str))) fun (x7 : Bool) => Option.bind (gd (((((((((x1.2 && ((x1.1.length : Int) == 2)) && (x4 == ([98] : Str))) && (!x2.2)) && x3.2) && ((x3.1.length : Int) == 0)) && (x5 == ([97, 47, 98] : Str))) && x6) && (!x7)) == true) (M_name_May ([65] : Str))) fun (x8 : Bool) => some (((((((((x1.2 && ((x1.1.length : Int) == 2)) && (x4 == ([98] : Str))) && (!x2.2)) && x3.2) && ((x3.1.length : Int) == 0)) && (x5 == ([97, 47, 98] : Str))) && x6) && (!x7)) && (!x8))
theorem ok_law11_begun (r : Bool) (h : M_law11_begun = some r) : FFn Tryd.prog 7 [] (Bo r) := by
  refine FFn.of_body (n := 59) Tryd.func7 rfl Tryd.ntmps7 rfl rfl rfl rfl ?_
  show AWp _ _ _ ⟨59, 0, [], [], ⟨0, []⟩⟩
  unfold M_law11_begun at h
  refine awp_seq ?_
  refine awp_region ?_
  refine arun_do rfl rfl rfl (ex_assign (eV (v := (Bo false)) rfl)) ?_
  refine arun_keepE [] 0 0 (st' := ⟨59, 0, [], [], ⟨0, []⟩⟩) (by kernel_rfl) (by kernel_rfl) ?_
  show AWp _ _ _ _
  refine awp_seq ?_
  refine awp_region ?_
  obtain ⟨x1, hx1, h⟩ := bindS h
  refine arun_do rfl rfl rfl (ex_call0 (vs := [(S ([97, 47, 98] : Str))]) (v := (Value.tuple #[(SL 1 cS x1.1), (Bo x1.2)])) rfl en_10 (cargs (evs rfl evs_nil)) rfl (ok_name_Parts ([97, 47, 98] : Str) x1 hx1) rfl) ?_
  refine arun_do rfl rfl rfl (ex_move (eV (v := (Value.tuple #[(SL 1 cS x1.1), (Bo x1.2)])) rfl)) ?_
  refine arun_do rfl rfl rfl (ex_extract (vx := (Value.tuple #[(SL 1 cS x1.1), (Bo x1.2)])) (v := (SL 1 cS x1.1)) rfl rfl) ?_
  refine arun_do rfl rfl rfl (ex_extract (vx := (Value.tuple #[(SL 1 cS x1.1), (Bo x1.2)])) (v := (Bo x1.2)) rfl rfl) ?_
  refine arun_do rfl rfl rfl (ex_assign (eV (v := (SL 1 cS x1.1)) rfl)) ?_
  refine arun_do rfl rfl rfl (ex_assign (eV (v := (Bo x1.2)) rfl)) ?_
  refine arun_keepE [1, 2] 0 0 (st' := ⟨59, 0, [(1, (SL 1 cS x1.1)), (2, (Bo x1.2))], [], ⟨0, []⟩⟩) (by kernel_rfl) (by kernel_rfl) ?_
  show AWp _ _ _ _
  refine awp_seq ?_
  refine awp_region ?_
  obtain ⟨x2, hx2, h⟩ := bindS h
  refine arun_do rfl rfl rfl (ex_call0 (vs := [(S ([47, 97] : Str))]) (v := (Value.tuple #[(SL 1 cS x2.1), (Bo x2.2)])) rfl en_10 (cargs (evs rfl evs_nil)) rfl (ok_name_Parts ([47, 97] : Str) x2 hx2) rfl) ?_
  refine arun_do rfl rfl rfl (ex_move (eV (v := (Value.tuple #[(SL 1 cS x2.1), (Bo x2.2)])) rfl)) ?_
  refine arun_do rfl rfl rfl (ex_extract (vx := (Value.tuple #[(SL 1 cS x2.1), (Bo x2.2)])) (v := (SL 1 cS x2.1)) rfl rfl) ?_
  refine arun_do rfl rfl rfl (ex_extract (vx := (Value.tuple #[(SL 1 cS x2.1), (Bo x2.2)])) (v := (Bo x2.2)) rfl rfl) ?_
  refine arun_do rfl rfl rfl (ex_assign (eV (v := (SL 1 cS x2.1)) rfl)) ?_
  refine arun_do rfl rfl rfl (ex_assign (eV (v := (Bo x2.2)) rfl)) ?_
  refine arun_keepE [1, 2, 4] 0 0 (st' := ⟨59, 0, [(1, (SL 1 cS x1.1)), (2, (Bo x1.2)), (4, (Bo x2.2))], [], ⟨0, []⟩⟩) (by kernel_rfl) (by kernel_rfl) ?_
  show AWp _ _ _ _
  refine awp_seq ?_
  refine awp_region ?_
  obtain ⟨x3, hx3, h⟩ := bindS h
  refine arun_do rfl rfl rfl (ex_call0 (vs := [(S [])]) (v := (Value.tuple #[(SL 1 cS x3.1), (Bo x3.2)])) rfl en_10 (cargs (evs rfl evs_nil)) rfl (ok_name_Parts ([] : Str) x3 hx3) rfl) ?_
  refine arun_do rfl rfl rfl (ex_move (eV (v := (Value.tuple #[(SL 1 cS x3.1), (Bo x3.2)])) rfl)) ?_
  refine arun_do rfl rfl rfl (ex_extract (vx := (Value.tuple #[(SL 1 cS x3.1), (Bo x3.2)])) (v := (SL 1 cS x3.1)) rfl rfl) ?_
  refine arun_do rfl rfl rfl (ex_extract (vx := (Value.tuple #[(SL 1 cS x3.1), (Bo x3.2)])) (v := (Bo x3.2)) rfl rfl) ?_
  refine arun_do rfl rfl rfl (ex_assign (eV (v := (SL 1 cS x3.1)) rfl)) ?_
  refine arun_do rfl rfl rfl (ex_assign (eV (v := (Bo x3.2)) rfl)) ?_
  refine arun_keepE [1, 2, 4, 5, 6] 0 0 (st' := ⟨59, 0, [(1, (SL 1 cS x1.1)), (2, (Bo x1.2)), (4, (Bo x2.2)), (5, (SL 1 cS x3.1)), (6, (Bo x3.2))], [], ⟨0, []⟩⟩) (by kernel_rfl) (by kernel_rfl) ?_
  show AWp _ _ _ _
  refine awp_seq ?_
  refine awp_region ?_
  refine arun_do rfl rfl rfl (ex_move (eV (v := (Bo x1.2)) rfl)) ?_
  refine arun_do rfl rfl rfl (ex_move (eV (v := (Bo x1.2)) rfl)) ?_
  refine arun_guard (v := (SL 1 cS x1.1)) (x1.2 == true) rfl rfl rfl (fun hc => ex_move (eV (v := (SL 1 cS x1.1)) rfl)) ?_
  refine arun_guard (v := (I (x1.1.length : Int))) (x1.2 == true) rfl rfl rfl (fun hc => tx_lenD (xs := x1.1) ceS Tryd.underlying27 (cond_of hc)) ?_
  refine arun_guard (v := (Bo ((x1.1.length : Int) == 2))) (x1.2 == true) rfl rfl rfl (fun hc => ex_bin (vx := (I (x1.1.length : Int))) (vy := (I 2)) (cond_of hc) rfl eqlI_ok) ?_
  refine arun_do rfl rfl rfl (ex_pick rfl pkAnd) ?_
  refine arun_do rfl rfl rfl (ex_move (eV (v := (Bo (x1.2 && ((x1.1.length : Int) == 2)))) rfl)) ?_
  refine arun_guard (v := (SL 1 cS x1.1)) ((x1.2 && ((x1.1.length : Int) == 2)) == true) rfl rfl rfl (fun hc => ex_move (eV (v := (SL 1 cS x1.1)) rfl)) ?_
  obtain ⟨x4, hx4, h⟩ := bindS h
  refine arun_guard (v := (DP (cS x4))) ((x1.2 && ((x1.1.length : Int) == 2)) == true) rfl rfl rfl (fun hc => tx_idxD (c := cS) (xs := x1.1) (i := 1) ceS Tryd.underlying27 s_9 (cond_of hc) rfl (gd_of hc hx4)) ?_
  refine arun_guard (v := (S x4)) ((x1.2 && ((x1.1.length : Int) == 2)) == true) rfl rfl rfl (fun hc => tx_ldD1 (v := (S x4)) Tryd.underlying9 rfl (cond_of hc) rfl) ?_
  refine arun_guard (v := (Bo (x4 == ([98] : Str)))) ((x1.2 && ((x1.1.length : Int) == 2)) == true) rfl rfl rfl (fun hc => ex_bin (vx := (S x4)) (vy := (S ([98] : Str))) (cond_of hc) rfl eqlS_ok) ?_
  refine arun_do rfl rfl rfl (ex_pick rfl pkAnd) ?_
  refine arun_do rfl rfl rfl (ex_move (eV (v := (Bo ((x1.2 && ((x1.1.length : Int) == 2)) && (x4 == ([98] : Str))))) rfl)) ?_
  refine arun_guard (v := (Bo x2.2)) (((x1.2 && ((x1.1.length : Int) == 2)) && (x4 == ([98] : Str))) == true) rfl rfl rfl (fun hc => ex_move (eV (v := (Bo x2.2)) rfl)) ?_
  refine arun_guard (v := (Bo (!x2.2))) (((x1.2 && ((x1.1.length : Int) == 2)) && (x4 == ([98] : Str))) == true) rfl rfl rfl (fun hc => ex_un (vx := (Bo x2.2)) (cond_of hc) notB_ok) ?_
  refine arun_do rfl rfl rfl (ex_pick rfl pkAnd) ?_
  refine arun_do rfl rfl rfl (ex_move (eV (v := (Bo (((x1.2 && ((x1.1.length : Int) == 2)) && (x4 == ([98] : Str))) && (!x2.2)))) rfl)) ?_
  refine arun_guard (v := (Bo x3.2)) ((((x1.2 && ((x1.1.length : Int) == 2)) && (x4 == ([98] : Str))) && (!x2.2)) == true) rfl rfl rfl (fun hc => ex_move (eV (v := (Bo x3.2)) rfl)) ?_
  refine arun_do rfl rfl rfl (ex_pick rfl pkAnd) ?_
  refine arun_do rfl rfl rfl (ex_move (eV (v := (Bo ((((x1.2 && ((x1.1.length : Int) == 2)) && (x4 == ([98] : Str))) && (!x2.2)) && x3.2))) rfl)) ?_
  refine arun_guard (v := (SL 1 cS x3.1)) (((((x1.2 && ((x1.1.length : Int) == 2)) && (x4 == ([98] : Str))) && (!x2.2)) && x3.2) == true) rfl rfl rfl (fun hc => ex_move (eV (v := (SL 1 cS x3.1)) rfl)) ?_
  refine arun_guard (v := (I (x3.1.length : Int))) (((((x1.2 && ((x1.1.length : Int) == 2)) && (x4 == ([98] : Str))) && (!x2.2)) && x3.2) == true) rfl rfl rfl (fun hc => tx_lenD (xs := x3.1) ceS Tryd.underlying27 (cond_of hc)) ?_
  refine arun_guard (v := (Bo ((x3.1.length : Int) == 0))) (((((x1.2 && ((x1.1.length : Int) == 2)) && (x4 == ([98] : Str))) && (!x2.2)) && x3.2) == true) rfl rfl rfl (fun hc => ex_bin (vx := (I (x3.1.length : Int))) (vy := (I 0)) (cond_of hc) rfl eqlI_ok) ?_
  refine arun_do rfl rfl rfl (ex_pick rfl pkAnd) ?_
  refine arun_do rfl rfl rfl (ex_move (eV (v := (Bo (((((x1.2 && ((x1.1.length : Int) == 2)) && (x4 == ([98] : Str))) && (!x2.2)) && x3.2) && ((x3.1.length : Int) == 0)))) rfl)) ?_
  refine arun_guard (v := (SL 1 cS ([([97] : Str), ([98] : Str)] : List Str))) ((((((x1.2 && ((x1.1.length : Int) == 2)) && (x4 == ([98] : Str))) && (!x2.2)) && x3.2) && ((x3.1.length : Int) == 0)) == true) rfl rfl rfl (fun hc => ex_buildSliceD (qs := [(0, (S ([97] : Str))), (1, (S ([98] : Str)))]) (cells := (([([97] : Str), ([98] : Str)] : List Str).flatMap cS)) Tryd.underlying27 s_9 (by decide) (evp rfl (evp rfl evp_nil)) rfl (by kernel_rfl) (by kernel_rfl) (by kernel_rfl)) ?_
  obtain ⟨x5, hx5, h⟩ := bindS h
  refine arun_guard (v := (S x5)) ((((((x1.2 && ((x1.1.length : Int) == 2)) && (x4 == ([98] : Str))) && (!x2.2)) && x3.2) && ((x3.1.length : Int) == 0)) == true) rfl rfl rfl (fun hc => ex_call0 (vs := [(SL 1 cS ([([97] : Str), ([98] : Str)] : List Str))]) (v := (S x5)) rfl en_15 (cargs (evs (cond_of hc) evs_nil)) rfl (ok_name_Join ([([97] : Str), ([98] : Str)] : List Str) x5 (gd_of hc hx5)) rfl) ?_
  refine arun_guard (v := (Bo (x5 == ([97, 47, 98] : Str)))) ((((((x1.2 && ((x1.1.length : Int) == 2)) && (x4 == ([98] : Str))) && (!x2.2)) && x3.2) && ((x3.1.length : Int) == 0)) == true) rfl rfl rfl (fun hc => ex_bin (vx := (S x5)) (vy := (S ([97, 47, 98] : Str))) (cond_of hc) rfl eqlS_ok) ?_
  refine arun_do rfl rfl rfl (ex_pick rfl pkAnd) ?_
  refine arun_do rfl rfl rfl (ex_move (eV (v := (Bo ((((((x1.2 && ((x1.1.length : Int) == 2)) && (x4 == ([98] : Str))) && (!x2.2)) && x3.2) && ((x3.1.length : Int) == 0)) && (x5 == ([97, 47, 98] : Str))))) rfl)) ?_
  obtain ⟨x6, hx6, h⟩ := bindS h
  refine arun_guard (v := (Bo x6)) (((((((x1.2 && ((x1.1.length : Int) == 2)) && (x4 == ([98] : Str))) && (!x2.2)) && x3.2) && ((x3.1.length : Int) == 0)) && (x5 == ([97, 47, 98] : Str))) == true) rfl rfl rfl (fun hc => ex_call0 (vs := [(S ([97, 46, 98] : Str))]) (v := (Bo x6)) rfl en_13 (cargs (evs rfl evs_nil)) rfl (ok_name_May ([97, 46, 98] : Str) x6 (gd_of hc hx6)) rfl) ?_
  refine arun_do rfl rfl rfl (ex_pick rfl pkAnd) ?_
  refine arun_do rfl rfl rfl (ex_move (eV (v := (Bo (((((((x1.2 && ((x1.1.length : Int) == 2)) && (x4 == ([98] : Str))) && (!x2.2)) && x3.2) && ((x3.1.length : Int) == 0)) && (x5 == ([97, 47, 98] : Str))) && x6))) rfl)) ?_
  obtain ⟨x7, hx7, h⟩ := bindS h
  refine arun_guard (v := (Bo x7)) ((((((((x1.2 && ((x1.1.length : Int) == 2)) && (x4 == ([98] : Str))) && (!x2.2)) && x3.2) && ((x3.1.length : Int) == 0)) && (x5 == ([97, 47, 98] : Str))) && x6) == true) rfl rfl rfl (fun hc => ex_call0 (vs := [(S ([46, 46] : Str))]) (v := (Bo x7)) rfl en_13 (cargs (evs rfl evs_nil)) rfl (ok_name_May ([46, 46] : Str) x7 (gd_of hc hx7)) rfl) ?_
  refine arun_guard (v := (Bo (!x7))) ((((((((x1.2 && ((x1.1.length : Int) == 2)) && (x4 == ([98] : Str))) && (!x2.2)) && x3.2) && ((x3.1.length : Int) == 0)) && (x5 == ([97, 47, 98] : Str))) && x6) == true) rfl rfl rfl (fun hc => ex_un (vx := (Bo x7)) (cond_of hc) notB_ok) ?_
  refine arun_do rfl rfl rfl (ex_pick rfl pkAnd) ?_
  refine arun_do rfl rfl rfl (ex_move (eV (v := (Bo ((((((((x1.2 && ((x1.1.length : Int) == 2)) && (x4 == ([98] : Str))) && (!x2.2)) && x3.2) && ((x3.1.length : Int) == 0)) && (x5 == ([97, 47, 98] : Str))) && x6) && (!x7)))) rfl)) ?_
  obtain ⟨x8, hx8, h⟩ := bindS h
  refine arun_guard (v := (Bo x8)) (((((((((x1.2 && ((x1.1.length : Int) == 2)) && (x4 == ([98] : Str))) && (!x2.2)) && x3.2) && ((x3.1.length : Int) == 0)) && (x5 == ([97, 47, 98] : Str))) && x6) && (!x7)) == true) rfl rfl rfl (fun hc => ex_call0 (vs := [(S ([65] : Str))]) (v := (Bo x8)) rfl en_13 (cargs (evs rfl evs_nil)) rfl (ok_name_May ([65] : Str) x8 (gd_of hc hx8)) rfl) ?_
  refine arun_guard (v := (Bo (!x8))) (((((((((x1.2 && ((x1.1.length : Int) == 2)) && (x4 == ([98] : Str))) && (!x2.2)) && x3.2) && ((x3.1.length : Int) == 0)) && (x5 == ([97, 47, 98] : Str))) && x6) && (!x7)) == true) rfl rfl rfl (fun hc => ex_un (vx := (Bo x8)) (cond_of hc) notB_ok) ?_
  refine arun_do rfl rfl rfl (ex_pick rfl pkAnd) ?_
  refine arun_do rfl rfl rfl (ex_assign (eV (v := (Bo (((((((((x1.2 && ((x1.1.length : Int) == 2)) && (x4 == ([98] : Str))) && (!x2.2)) && x3.2) && ((x3.1.length : Int) == 0)) && (x5 == ([97, 47, 98] : Str))) && x6) && (!x7)) && (!x8)))) rfl)) ?_
  refine arun_keepE [0] 0 0 (st' := ⟨59, 0, [(0, (Bo (((((((((x1.2 && ((x1.1.length : Int) == 2)) && (x4 == ([98] : Str))) && (!x2.2)) && x3.2) && ((x3.1.length : Int) == 0)) && (x5 == ([97, 47, 98] : Str))) && x6) && (!x7)) && (!x8))))], [], ⟨0, []⟩⟩) (by kernel_rfl) (by kernel_rfl) ?_
  show AWp _ _ _ _
  refine awp_ret ?_
  cases h
  exact ares1 (rtmp rfl (eV rfl))

noncomputable def M_made_Made (t0 : (List UInt8)) : Option G_palimpmade_Picks :=
  some (G_palimpmade_Picks.mk t0 0)
theorem ok_made_Made (t0 : (List UInt8)) (r : G_palimpmade_Picks) (h : M_made_Made t0 = some r) : FNw Tryd.prog 8 [(SL 1 c8 t0)] ⟨1, (c_palimpmade_Picks r), false⟩ := by
  refine FNw.of_body (n := 6) Tryd.func8 rfl Tryd.ntmps8 rfl rfl rfl ?_
  show AWp _ _ _ ⟨6, 0, [(0, (SL 1 c8 t0))], [], ⟨0, []⟩⟩
  unfold M_made_Made at h
  refine awp_seq ?_
  refine awp_region ?_
  refine arun_do rfl rfl rfl (ex_assign (eV (v := (Value.pointer none)) rfl)) ?_
  refine arun_keepE [0] 0 0 (st' := ⟨6, 0, [(0, (SL 1 c8 t0))], [], ⟨0, []⟩⟩) (by kernel_rfl) (by kernel_rfl) ?_
  show AWp _ _ _ _
  refine awp_seq ?_
  refine awp_region ?_
  refine arun_do rfl rfl rfl (ex_move (eV (v := (SL 1 c8 t0)) rfl)) ?_
  refine arun_do rfl rfl rfl (ex_build (qs := [(0, (SL 1 c8 t0))]) (v := (Value.agg (c_palimpmade_Picks (G_palimpmade_Picks.mk t0 0)).toArray)) (evp rfl evp_nil) (by kernel_rfl)) ?_
  refine arun_do rfl rfl rfl (ex_boxH (vx := (Value.agg (c_palimpmade_Picks (G_palimpmade_Picks.mk t0 0)).toArray)) (cs := (c_palimpmade_Picks (G_palimpmade_Picks.mk t0 0))) (k := 0) (H' := ⟨1, [(0, ⟨1, (c_palimpmade_Picks (G_palimpmade_Picks.mk t0 0)), false⟩)]⟩) (eV (v := (Value.agg (c_palimpmade_Picks (G_palimpmade_Picks.mk t0 0)).toArray)) rfl) rfl rfl rfl rfl) ?_
  refine arun_do rfl rfl rfl (ex_assign (eV (v := (NP 0 0)) rfl)) ?_
  refine arun_keepE [2] 0 1 (st' := ⟨6, 0, [(2, (NP 0 0))], [], ⟨1, [(0, ⟨1, (c_palimpmade_Picks (G_palimpmade_Picks.mk t0 0)), false⟩)]⟩⟩) (by kernel_rfl) (by kernel_rfl) ?_
  show AWp _ _ _ _
  refine awp_ret ?_
  cases h
  exact And.intro (ares1 (rtmp rfl (eV rfl))) (And.intro rfl rfl)

noncomputable def M_made_Picks_Num (t0 : G_palimpmade_Picks) (t1 : Int) : Option (Int × G_palimpmade_Picks) :=
  cond ((decide (t0.n ≥ (t0.l.length : Int))) || (decide (t1 < 1))) (some (0, t0)) (Option.bind (getI t0.l (w64 ((w64 (t0.n + 1)) - 1))) fun (x2 : UInt8) => Option.bind (remI (x2.toNat : Int) t1) fun (x3 : Int) => some (x3, (G_palimpmade_Picks.mk t0.l (w64 (t0.n + 1)))))
theorem ok_made_Picks_Num (t0 : G_palimpmade_Picks) (t1 : Int) (r : (Int × G_palimpmade_Picks)) (h : M_made_Picks_Num t0 t1 = some r) : F1n Tryd.prog 16 [(NP 0 0), (I t1)] ⟨1, (c_palimpmade_Picks t0), false⟩ (I r.1) ⟨1, (c_palimpmade_Picks r.2), false⟩ := by
  refine F1n.of_body (n := 40) Tryd.func16 rfl Tryd.ntmps16 rfl rfl rfl rfl ?_
  show AWp _ _ _ ⟨40, 1, [(0, (NP 0 0)), (1, (I t1))], [], ⟨1, [(0, ⟨1, (c_palimpmade_Picks t0), false⟩)]⟩⟩
  unfold M_made_Picks_Num at h
  refine awp_seq ?_
  refine awp_region ?_
  refine arun_do rfl rfl rfl (ex_assign (eV (v := (I 0)) rfl)) ?_
  refine arun_keepE [0, 1] 0 1 (st' := ⟨40, 1, [(0, (NP 0 0)), (1, (I t1))], [], ⟨1, [(0, ⟨1, (c_palimpmade_Picks t0), false⟩)]⟩⟩) (by kernel_rfl) (by kernel_rfl) ?_
  show AWp _ _ _ _
  refine awp_seq ?_
  refine awp_seq ?_
  refine awp_kn [0, 1, 18] 0 1 (st' := ⟨40, 1, [(0, (NP 0 0)), (1, (I t1)), (18, (Bo ((decide (t0.n ≥ (t0.l.length : Int))) || (decide (t1 < 1)))))], [], ⟨1, [(0, ⟨1, (c_palimpmade_Picks t0), false⟩)]⟩⟩) (awp_draw (T := [(NP 0 0), (NP 0 0), (NP 0 1), (I t0.n), (NP 0 0), (NP 0 0), (NP 0 0), (SL 1 c8 t0.l), (I (t0.l.length : Int)), (Bo (decide (t0.n ≥ (t0.l.length : Int)))), (Bo (decide (t0.n ≥ (t0.l.length : Int)))), (cond ((decide (t0.n ≥ (t0.l.length : Int))) == false) (I t1) skipV), (cond ((decide (t0.n ≥ (t0.l.length : Int))) == false) (Bo (decide (t1 < 1))) skipV), (Bo ((decide (t0.n ≥ (t0.l.length : Int))) || (decide (t1 < 1))))]) (LH := [([], ⟨1, [(0, ⟨1, (c_palimpmade_Picks t0), false⟩)]⟩)]) (D := [⟨[(0, none)], [], [0], false⟩, ⟨[(5, some 0)], [0], [0], false⟩, ⟨[(6, some 1)], [0, 1], [0], false⟩, ⟨[(7, some 2)], [0, 1, 2], [0], false⟩, ⟨[(0, none)], [], [0], false⟩, ⟨[(9, some 4)], [4], [0], false⟩, ⟨[(10, some 5)], [4, 5], [0], false⟩, ⟨[(11, some 6)], [4, 5, 6], [0], false⟩, ⟨[(12, some 7)], [4, 5, 6, 7], [0], false⟩, ⟨[(8, some 3), (13, some 8)], [0, 1, 2, 3, 4, 5, 6, 7, 8], [0], false⟩, ⟨[(14, some 9)], [0, 1, 2, 3, 4, 5, 6, 7, 8, 9], [0], false⟩, ⟨[(1, none), (15, some 10)], [0, 1, 2, 3, 4, 5, 6, 7, 8, 9, 10], [0], false⟩, ⟨[(16, some 11), (15, some 10)], [0, 1, 2, 3, 4, 5, 6, 7, 8, 9, 10, 11], [0], false⟩, ⟨[(15, some 10), (17, some 12)], [0, 1, 2, 3, 4, 5, 6, 7, 8, 9, 10, 11, 12], [0], false⟩]) (S := []) (plan := [0, 1, 2, 3, 4, 5, 6, 7, 8, 9, 10, 11, 12, 13]) mo (by kernel_rfl) rfl rfl rfl (dcons (dstep1 (Tm := [(0, (NP 0 0))]) (L := []) (H := ⟨1, [(0, ⟨1, (c_palimpmade_Picks t0), false⟩)]⟩) rfl rfl rfl rfl rfl (astep_do rfl (ex_move (eV (v := (NP 0 0)) rfl)))) (dcons (dstep1 (Tm := [(5, (NP 0 0))]) (L := []) (H := ⟨1, [(0, ⟨1, (c_palimpmade_Picks t0), false⟩)]⟩) rfl rfl rfl rfl rfl (astep_do rfl (ex_nilCheck (p := ⟨0, 0, none⟩) rfl))) (dcons (dstep1 (Tm := [(6, (NP 0 0))]) (L := []) (H := ⟨1, [(0, ⟨1, (c_palimpmade_Picks t0), false⟩)]⟩) rfl rfl rfl rfl rfl (astep_do rfl (ex_fieldAddr (v := (NP 0 1)) Tryd.underlying36 rfl s_3 (by decide) rfl rfl))) (dcons (dstep1 (Tm := [(7, (NP 0 1))]) (L := []) (H := ⟨1, [(0, ⟨1, (c_palimpmade_Picks t0), false⟩)]⟩) rfl rfl rfl rfl rfl (astep_do rfl (tx_ldF (v := (I t0.n)) (s := 1) rfl rfl (part1 Tryd.underlying3 rfl rfl)))) (dcons (dstep1 (Tm := [(0, (NP 0 0))]) (L := []) (H := ⟨1, [(0, ⟨1, (c_palimpmade_Picks t0), false⟩)]⟩) rfl rfl rfl rfl rfl (astep_do rfl (ex_move (eV (v := (NP 0 0)) rfl)))) (dcons (dstep1 (Tm := [(9, (NP 0 0))]) (L := []) (H := ⟨1, [(0, ⟨1, (c_palimpmade_Picks t0), false⟩)]⟩) rfl rfl rfl rfl rfl (astep_do rfl (ex_nilCheck (p := ⟨0, 0, none⟩) rfl))) (dcons (dstep1 (Tm := [(10, (NP 0 0))]) (L := []) (H := ⟨1, [(0, ⟨1, (c_palimpmade_Picks t0), false⟩)]⟩) rfl rfl rfl rfl rfl (astep_do rfl (ex_fieldAddr (v := (NP 0 0)) Tryd.underlying36 rfl s_22 (by decide) rfl rfl))) (dcons (dstep1 (Tm := [(11, (NP 0 0))]) (L := []) (H := ⟨1, [(0, ⟨1, (c_palimpmade_Picks t0), false⟩)]⟩) rfl rfl rfl rfl rfl (astep_do rfl (tx_ldF (v := (SL 1 c8 t0.l)) (s := 1) rfl rfl (part1 Tryd.underlying22 rfl rfl)))) (dcons (dstep1 (Tm := [(12, (SL 1 c8 t0.l))]) (L := []) (H := ⟨1, [(0, ⟨1, (c_palimpmade_Picks t0), false⟩)]⟩) rfl rfl rfl rfl rfl (astep_do rfl (tx_lenD (xs := t0.l) ce8 Tryd.underlying22 rfl))) (dcons (dstep1 (Tm := [(8, (I t0.n)), (13, (I (t0.l.length : Int)))]) (L := []) (H := ⟨1, [(0, ⟨1, (c_palimpmade_Picks t0), false⟩)]⟩) rfl rfl rfl rfl rfl (astep_do rfl (ex_bin (vx := (I t0.n)) (vy := (I (t0.l.length : Int))) rfl rfl geqI_ok))) (dcons (dstep1 (Tm := [(14, (Bo (decide (t0.n ≥ (t0.l.length : Int)))))]) (L := []) (H := ⟨1, [(0, ⟨1, (c_palimpmade_Picks t0), false⟩)]⟩) rfl rfl rfl rfl rfl (astep_do rfl (ex_move (eV (v := (Bo (decide (t0.n ≥ (t0.l.length : Int))))) rfl)))) (dcons (dstep1 (Tm := [(1, (I t1)), (15, (Bo (decide (t0.n ≥ (t0.l.length : Int)))))]) (L := []) (H := ⟨1, [(0, ⟨1, (c_palimpmade_Picks t0), false⟩)]⟩) rfl rfl rfl rfl rfl (astep_guard (v := (I t1)) ((decide (t0.n ≥ (t0.l.length : Int))) == false) rfl (fun hc => ex_move (eV (v := (I t1)) rfl)))) (dcons (dstep1 (Tm := [(16, (cond ((decide (t0.n ≥ (t0.l.length : Int))) == false) (I t1) skipV)), (15, (Bo (decide (t0.n ≥ (t0.l.length : Int)))))]) (L := []) (H := ⟨1, [(0, ⟨1, (c_palimpmade_Picks t0), false⟩)]⟩) rfl rfl rfl rfl rfl (astep_guard (v := (Bo (decide (t1 < 1)))) ((decide (t0.n ≥ (t0.l.length : Int))) == false) rfl (fun hc => ex_bin (vx := (I t1)) (vy := (I 1)) (cond_of hc) rfl lssI_ok))) (dcons (dstep1 (Tm := [(15, (Bo (decide (t0.n ≥ (t0.l.length : Int))))), (17, (cond ((decide (t0.n ≥ (t0.l.length : Int))) == false) (Bo (decide (t1 < 1))) skipV))]) (L := []) (H := ⟨1, [(0, ⟨1, (c_palimpmade_Picks t0), false⟩)]⟩) rfl rfl rfl rfl rfl (astep_do rfl (ex_pick rfl pkOr))) dnil)))))))))))))) ⟨rfl, rfl⟩) (by kernel_rfl) (by kernel_rfl) ?_
  show AWp _ _ _ _
  rcases Bool.eq_false_or_eq_true ((decide (t0.n ≥ (t0.l.length : Int))) || (decide (t1 < 1))) with hb1 | hb1
  · rw [condT hb1] at h
    refine awp_condT (boT hb1) ?_
    refine awp_seq ?_
    refine awp_region ?_
    refine arun_do rfl rfl rfl (ex_assign (eV (v := (I 0)) rfl)) ?_
    refine arun_keepE [4] 0 1 (st' := ⟨40, 1, [(4, (I 0))], [], ⟨1, [(0, ⟨1, (c_palimpmade_Picks t0), false⟩)]⟩⟩) (by kernel_rfl) (by kernel_rfl) ?_
    show AWp _ _ _ _
    refine awp_ret ?_
    cases h
    exact And.intro (ares1 (rtmp rfl (eV rfl))) rfl
  · rw [condF hb1] at h
    refine awp_condF (boF hb1) ?_
    refine awp_skip ?_
    show AWp _ _ _ _
    refine awp_seq ?_
    refine awp_region ?_
    refine arun_do rfl rfl rfl (ex_move (eV (v := (NP 0 0)) rfl)) ?_
    refine arun_do rfl rfl rfl (ex_nilCheck (p := ⟨0, 0, none⟩) rfl) ?_
    refine arun_do rfl rfl rfl (ex_fieldAddr (v := (NP 0 1)) Tryd.underlying36 rfl s_3 (by decide) rfl rfl) ?_
    refine arun_do rfl rfl rfl (tx_ldF (v := (I t0.n)) (s := 1) rfl rfl (part1 Tryd.underlying3 rfl rfl)) ?_
    refine arun_do rfl rfl rfl (ex_bin (vx := (I t0.n)) (vy := (I 1)) rfl rfl addI_ok) ?_
    refine arun_do rfl rfl rfl (ex_nilCheck (p := ⟨0, 0, none⟩) rfl) ?_
    refine arun_do rfl rfl rfl (ex_fieldAddr (v := (NP 0 1)) Tryd.underlying36 rfl s_3 (by decide) rfl rfl) ?_
    refine arun_do0 rfl rfl (ex_storeF (vy := (I (w64 (t0.n + 1)))) (b := ⟨1, (c_palimpmade_Picks t0), false⟩) (vs := [(I (w64 (t0.n + 1)))]) (H' := ⟨1, [(0, ⟨1, (c_palimpmade_Picks (G_palimpmade_Picks.mk t0.l (w64 (t0.n + 1)))), false⟩)]⟩) rfl (eV (v := (I (w64 (t0.n + 1)))) rfl) rfl s_3 rfl rfl (Nat.le_of_ble_eq_true rfl) rfl (by simp) (by kernel_rfl)) ?_
    refine arun_keepE [0, 1] 0 1 (st' := ⟨40, 1, [(0, (NP 0 0)), (1, (I t1))], [], ⟨1, [(0, ⟨1, (c_palimpmade_Picks (G_palimpmade_Picks.mk t0.l (w64 (t0.n + 1)))), false⟩)]⟩⟩) (by kernel_rfl) (by kernel_rfl) ?_
    show AWp _ _ _ _
    refine awp_seq ?_
    obtain ⟨x2, hx2, h⟩ := bindS h
    obtain ⟨x3, hx3, h⟩ := bindS h
    refine awp_kn [4] 0 1 (st' := ⟨40, 1, [(4, (I x3))], [], ⟨1, [(0, ⟨1, (c_palimpmade_Picks (G_palimpmade_Picks.mk t0.l (w64 (t0.n + 1)))), false⟩)]⟩⟩) (awp_draw (T := [(NP 0 0), (NP 0 0), (NP 0 0), (SL 1 c8 t0.l), (NP 0 0), (NP 0 0), (NP 0 1), (I (w64 (t0.n + 1))), (I (w64 ((w64 (t0.n + 1)) - 1))), (DP (c8 x2)), (U8 x2), (I (x2.toNat : Int)), (I t1), (I x3), (I x3)]) (LH := [([], ⟨1, [(0, ⟨1, (c_palimpmade_Picks (G_palimpmade_Picks.mk t0.l (w64 (t0.n + 1)))), false⟩)]⟩)]) (D := [⟨[(0, none)], [], [0], false⟩, ⟨[(26, some 0)], [0], [0], false⟩, ⟨[(27, some 1)], [0, 1], [0], false⟩, ⟨[(28, some 2)], [0, 1, 2], [0], false⟩, ⟨[(0, none)], [], [0], false⟩, ⟨[(30, some 4)], [4], [0], false⟩, ⟨[(31, some 5)], [4, 5], [0], false⟩, ⟨[(32, some 6)], [4, 5, 6], [0], false⟩, ⟨[(33, some 7)], [4, 5, 6, 7], [0], false⟩, ⟨[(29, some 3), (34, some 8)], [0, 1, 2, 3, 4, 5, 6, 7, 8], [0], false⟩, ⟨[(35, some 9)], [0, 1, 2, 3, 4, 5, 6, 7, 8, 9], [0], false⟩, ⟨[(36, some 10)], [0, 1, 2, 3, 4, 5, 6, 7, 8, 9, 10], [0], false⟩, ⟨[(1, none)], [], [0], false⟩, ⟨[(37, some 11), (38, some 12)], [0, 1, 2, 3, 4, 5, 6, 7, 8, 9, 10, 11, 12], [0], false⟩, ⟨[(39, some 13)], [0, 1, 2, 3, 4, 5, 6, 7, 8, 9, 10, 11, 12, 13], [0], false⟩]) (S := []) (plan := [0, 1, 2, 3, 4, 5, 6, 7, 8, 9, 10, 11, 12, 13, 14]) mo (by kernel_rfl) rfl rfl rfl (dcons (dstep1 (Tm := [(0, (NP 0 0))]) (L := []) (H := ⟨1, [(0, ⟨1, (c_palimpmade_Picks (G_palimpmade_Picks.mk t0.l (w64 (t0.n + 1)))), false⟩)]⟩) rfl rfl rfl rfl rfl (astep_do rfl (ex_move (eV (v := (NP 0 0)) rfl)))) (dcons (dstep1 (Tm := [(26, (NP 0 0))]) (L := []) (H := ⟨1, [(0, ⟨1, (c_palimpmade_Picks (G_palimpmade_Picks.mk t0.l (w64 (t0.n + 1)))), false⟩)]⟩) rfl rfl rfl rfl rfl (astep_do rfl (ex_nilCheck (p := ⟨0, 0, none⟩) rfl))) (dcons (dstep1 (Tm := [(27, (NP 0 0))]) (L := []) (H := ⟨1, [(0, ⟨1, (c_palimpmade_Picks (G_palimpmade_Picks.mk t0.l (w64 (t0.n + 1)))), false⟩)]⟩) rfl rfl rfl rfl rfl (astep_do rfl (ex_fieldAddr (v := (NP 0 0)) Tryd.underlying36 rfl s_22 (by decide) rfl rfl))) (dcons (dstep1 (Tm := [(28, (NP 0 0))]) (L := []) (H := ⟨1, [(0, ⟨1, (c_palimpmade_Picks (G_palimpmade_Picks.mk t0.l (w64 (t0.n + 1)))), false⟩)]⟩) rfl rfl rfl rfl rfl (astep_do rfl (tx_ldF (v := (SL 1 c8 t0.l)) (s := 1) rfl rfl (part1 Tryd.underlying22 rfl rfl)))) (dcons (dstep1 (Tm := [(0, (NP 0 0))]) (L := []) (H := ⟨1, [(0, ⟨1, (c_palimpmade_Picks (G_palimpmade_Picks.mk t0.l (w64 (t0.n + 1)))), false⟩)]⟩) rfl rfl rfl rfl rfl (astep_do rfl (ex_move (eV (v := (NP 0 0)) rfl)))) (dcons (dstep1 (Tm := [(30, (NP 0 0))]) (L := []) (H := ⟨1, [(0, ⟨1, (c_palimpmade_Picks (G_palimpmade_Picks.mk t0.l (w64 (t0.n + 1)))), false⟩)]⟩) rfl rfl rfl rfl rfl (astep_do rfl (ex_nilCheck (p := ⟨0, 0, none⟩) rfl))) (dcons (dstep1 (Tm := [(31, (NP 0 0))]) (L := []) (H := ⟨1, [(0, ⟨1, (c_palimpmade_Picks (G_palimpmade_Picks.mk t0.l (w64 (t0.n + 1)))), false⟩)]⟩) rfl rfl rfl rfl rfl (astep_do rfl (ex_fieldAddr (v := (NP 0 1)) Tryd.underlying36 rfl s_3 (by decide) rfl rfl))) (dcons (dstep1 (Tm := [(32, (NP 0 1))]) (L := []) (H := ⟨1, [(0, ⟨1, (c_palimpmade_Picks (G_palimpmade_Picks.mk t0.l (w64 (t0.n + 1)))), false⟩)]⟩) rfl rfl rfl rfl rfl (astep_do rfl (tx_ldF (v := (I (w64 (t0.n + 1)))) (s := 1) rfl rfl (part1 Tryd.underlying3 rfl rfl)))) (dcons (dstep1 (Tm := [(33, (I (w64 (t0.n + 1))))]) (L := []) (H := ⟨1, [(0, ⟨1, (c_palimpmade_Picks (G_palimpmade_Picks.mk t0.l (w64 (t0.n + 1)))), false⟩)]⟩) rfl rfl rfl rfl rfl (astep_do rfl (ex_bin (vx := (I (w64 (t0.n + 1)))) (vy := (I 1)) rfl rfl subI_ok))) (dcons (dstep1 (Tm := [(29, (SL 1 c8 t0.l)), (34, (I (w64 ((w64 (t0.n + 1)) - 1))))]) (L := []) (H := ⟨1, [(0, ⟨1, (c_palimpmade_Picks (G_palimpmade_Picks.mk t0.l (w64 (t0.n + 1)))), false⟩)]⟩) rfl rfl rfl rfl rfl (astep_do rfl (tx_idxD (c := c8) (xs := t0.l) (i := (w64 ((w64 (t0.n + 1)) - 1))) ce8 Tryd.underlying22 s_5 rfl rfl hx2))) (dcons (dstep1 (Tm := [(35, (DP (c8 x2)))]) (L := []) (H := ⟨1, [(0, ⟨1, (c_palimpmade_Picks (G_palimpmade_Picks.mk t0.l (w64 (t0.n + 1)))), false⟩)]⟩) rfl rfl rfl rfl rfl (astep_do rfl (tx_ldD1 (v := (U8 x2)) Tryd.underlying5 rfl rfl rfl))) (dcons (dstep1 (Tm := [(36, (U8 x2))]) (L := []) (H := ⟨1, [(0, ⟨1, (c_palimpmade_Picks (G_palimpmade_Picks.mk t0.l (w64 (t0.n + 1)))), false⟩)]⟩) rfl rfl rfl rfl rfl (astep_do rfl (tx_8_64 Tryd.underlying5 Tryd.underlying3 rfl))) (dcons (dstep1 (Tm := [(1, (I t1))]) (L := []) (H := ⟨1, [(0, ⟨1, (c_palimpmade_Picks (G_palimpmade_Picks.mk t0.l (w64 (t0.n + 1)))), false⟩)]⟩) rfl rfl rfl rfl rfl (astep_do rfl (ex_move (eV (v := (I t1)) rfl)))) (dcons (dstep1 (Tm := [(37, (I (x2.toNat : Int))), (38, (I t1))]) (L := []) (H := ⟨1, [(0, ⟨1, (c_palimpmade_Picks (G_palimpmade_Picks.mk t0.l (w64 (t0.n + 1)))), false⟩)]⟩) rfl rfl rfl rfl rfl (astep_do rfl (ex_bin (vx := (I (x2.toNat : Int))) (vy := (I t1)) rfl rfl (remI_ok hx3)))) (dcons (dstep1 (Tm := [(39, (I x3))]) (L := []) (H := ⟨1, [(0, ⟨1, (c_palimpmade_Picks (G_palimpmade_Picks.mk t0.l (w64 (t0.n + 1)))), false⟩)]⟩) rfl rfl rfl rfl rfl (astep_do rfl (ex_assign (eV (v := (I x3)) rfl)))) dnil))))))))))))))) ⟨rfl, rfl⟩) (by kernel_rfl) (by kernel_rfl) ?_
    show AWp _ _ _ _
    refine awp_ret ?_
    cases h
    exact And.intro (ares1 (rtmp rfl (eV rfl))) rfl

end Go.Proofs
