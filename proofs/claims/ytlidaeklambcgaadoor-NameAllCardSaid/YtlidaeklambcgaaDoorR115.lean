/- Pure models of functions of the program, and that its code does what they say: palimplaw11 NameEach. Written by a program. -/
import Derived.Test.YtlidaeklambcgaaDoorR110
import Derived.Test.YtlidaeklambcgaaDoorR111
import Derived.Test.YtlidaeklambcgaaDoorR112
import Derived.Test.YtlidaeklambcgaaDoorR113
import Derived.Test.YtlidaeklambcgaaDoorR11B
set_option maxRecDepth 20000
set_option maxHeartbeats 4000000
namespace Go.Proofs
open Go Go.Fhl
set_option linter.unusedVariables false
set_option linter.unusedSimpArgs false
noncomputable def M_law11_NameEach (t0 : Str) (t1 : UInt8) : Option Bool :=
  Option.bind (M_law11_begun) fun (x1 : Bool) => cond (!x1) (some false) (cond (decide ((t0.length : Int) > 40)) (some true) (Option.bind (M_name_Parts t0) fun (x4 : ((List Str) × Bool)) => Option.bind (M_name_May t0) fun (x5 : Bool) => Option.bind (gd ((x4.2 && ((x4.1.length : Int) == 1)) == true) (getI x4.1 0)) fun (x6 : Str) => cond ((x5 != ((x4.2 && ((x4.1.length : Int) == 1)) && (x6 == t0))) || ((x4.2 && (t0 != [])) && ((x4.1.length : Int) == 0))) (some false) (Option.bind (M_made_Made ([t1] : List UInt8)) fun (x8 : G_palimpmade_Picks) => Option.bind (M_made_Picks_Path x8 ) fun (x9 : (Str × G_palimpmade_Picks)) => Option.bind (M_name_Parts x9.1) fun (x10 : ((List Str) × Bool)) => Option.bind (M_name_Join ([x9.1, t0] : List Str)) fun (x11 : Str) => Option.bind (M_name_Parts x11) fun (x12 : ((List Str) × Bool)) => cond ((x9.1 == []) || (decide ((x4.1.length : Int) > 2))) (some (((x10.1.length : Int) == 0) == ((x9.1 == []) || (!x10.2)))) (cond (((x12.2 == ((x10.2 && x4.2) && (t0 != []))) == true) && ((!x12.2) == false)) (Option.bind (appL 16 ([] : List Str) x10.1) fun (x14 : List Str) => Option.bind (appL 16 x14 x4.1) fun (x15 : List Str) => Option.bind (M_ref1_SameTexts x12.1 x15) fun (x16 : Bool) => some ((x12.2 == ((x10.2 && x4.2) && (t0 != []))) && ((!x12.2) || x16))) (some ((x12.2 == ((x10.2 && x4.2) && (t0 != []))) && (!x12.2)))))))
theorem ok_law11_NameEach (t0 : Str) (t1 : UInt8) (r : Bool) (h : M_law11_NameEach t0 t1 = some r) : FFn Tryd.prog 6 [(S t0), (U8 t1)] (Bo r) := by
  refine FFn.of_body (n := 107) Tryd.func6 rfl Tryd.ntmps6 rfl rfl rfl rfl ?_
  show AWp _ _ _ ⟨107, 0, [(0, (S t0)), (1, (U8 t1))], [], ⟨0, []⟩⟩
  unfold M_law11_NameEach at h
  refine awp_seq ?_
  refine awp_region ?_
  refine arun_do rfl rfl rfl (ex_assign (eV (v := (Bo false)) rfl)) ?_
  refine arun_keepE [0, 1] 0 0 (st' := ⟨107, 0, [(0, (S t0)), (1, (U8 t1))], [], ⟨0, []⟩⟩) (by kernel_rfl) (by kernel_rfl) ?_
  show AWp _ _ _ _
  refine awp_seq ?_
  refine awp_seq ?_
  refine awp_region ?_
  obtain ⟨x1, hx1, h⟩ := bindS h
  refine arun_do rfl rfl rfl (ex_call0 (vs := []) (v := (Bo x1)) rfl en_7 (cargs evs_nil) rfl (ok_law11_begun  x1 hx1) rfl) ?_
  refine arun_do rfl rfl rfl (ex_un (vx := (Bo x1)) rfl notB_ok) ?_
  refine arun_keepE [0, 1, 13] 0 0 (st' := ⟨107, 0, [(0, (S t0)), (1, (U8 t1)), (13, (Bo (!x1)))], [], ⟨0, []⟩⟩) (by kernel_rfl) (by kernel_rfl) ?_
  show AWp _ _ _ _
  rcases Bool.eq_false_or_eq_true (!x1) with hb2 | hb2
  · rw [condT hb2] at h
    refine awp_condT (boT hb2) ?_
    refine awp_seq ?_
    refine awp_region ?_
    refine arun_do rfl rfl rfl (ex_assign (eV (v := (Bo false)) rfl)) ?_
    refine arun_keepE [4] 0 0 (st' := ⟨107, 0, [(4, (Bo false))], [], ⟨0, []⟩⟩) (by kernel_rfl) (by kernel_rfl) ?_
    show AWp _ _ _ _
    refine awp_ret ?_
    cases h
    exact ares1 (rtmp rfl (eV rfl))
  · rw [condF hb2] at h
    refine awp_condF (boF hb2) ?_
    refine awp_skip ?_
    show AWp _ _ _ _
    refine awp_seq ?_
    refine awp_seq ?_
    refine awp_region ?_
    refine arun_do rfl rfl rfl (ex_move (eV (v := (S t0)) rfl)) ?_
    refine arun_do rfl rfl rfl (tx_lenS Tryd.underlying9 rfl) ?_
    refine arun_do rfl rfl rfl (ex_bin (vx := (I (t0.length : Int))) (vy := (I 40)) rfl rfl gtrI_ok) ?_
    refine arun_keepE [0, 1, 16] 0 0 (st' := ⟨107, 0, [(0, (S t0)), (1, (U8 t1)), (16, (Bo (decide ((t0.length : Int) > 40))))], [], ⟨0, []⟩⟩) (by kernel_rfl) (by kernel_rfl) ?_
    show AWp _ _ _ _
    rcases Bool.eq_false_or_eq_true (decide ((t0.length : Int) > 40)) with hb3 | hb3
    · rw [condT hb3] at h
      refine awp_condT (boT hb3) ?_
      refine awp_seq ?_
      refine awp_region ?_
      refine arun_do rfl rfl rfl (ex_assign (eV (v := (Bo true)) rfl)) ?_
      refine arun_keepE [4] 0 0 (st' := ⟨107, 0, [(4, (Bo true))], [], ⟨0, []⟩⟩) (by kernel_rfl) (by kernel_rfl) ?_
      show AWp _ _ _ _
      refine awp_ret ?_
      cases h
      exact ares1 (rtmp rfl (eV rfl))
    · rw [condF hb3] at h
      refine awp_condF (boF hb3) ?_
      refine awp_skip ?_
      show AWp _ _ _ _
      refine awp_seq ?_
      refine awp_region ?_
      refine arun_do rfl rfl rfl (ex_move (eV (v := (S t0)) rfl)) ?_
      obtain ⟨x4, hx4, h⟩ := bindS h
      refine arun_do rfl rfl rfl (ex_call0 (vs := [(S t0)]) (v := (Value.tuple #[(SL 1 cS x4.1), (Bo x4.2)])) rfl en_10 (cargs (evs rfl evs_nil)) rfl (ok_name_Parts t0 x4 hx4) rfl) ?_
      refine arun_do rfl rfl rfl (ex_move (eV (v := (Value.tuple #[(SL 1 cS x4.1), (Bo x4.2)])) rfl)) ?_
      refine arun_do rfl rfl rfl (ex_extract (vx := (Value.tuple #[(SL 1 cS x4.1), (Bo x4.2)])) (v := (SL 1 cS x4.1)) rfl rfl) ?_
      refine arun_do rfl rfl rfl (ex_extract (vx := (Value.tuple #[(SL 1 cS x4.1), (Bo x4.2)])) (v := (Bo x4.2)) rfl rfl) ?_
      refine arun_do rfl rfl rfl (ex_assign (eV (v := (SL 1 cS x4.1)) rfl)) ?_
      refine arun_do rfl rfl rfl (ex_assign (eV (v := (Bo x4.2)) rfl)) ?_
      refine arun_keepE [0, 1, 5, 6] 0 0 (st' := ⟨107, 0, [(0, (S t0)), (1, (U8 t1)), (5, (SL 1 cS x4.1)), (6, (Bo x4.2))], [], ⟨0, []⟩⟩) (by kernel_rfl) (by kernel_rfl) ?_
      show AWp _ _ _ _
      refine awp_seq ?_
      refine awp_seq ?_
      refine awp_region ?_
      refine arun_do rfl rfl rfl (ex_move (eV (v := (S t0)) rfl)) ?_
      obtain ⟨x5, hx5, h⟩ := bindS h
      refine arun_do rfl rfl rfl (ex_call0 (vs := [(S t0)]) (v := (Bo x5)) rfl en_13 (cargs (evs rfl evs_nil)) rfl (ok_name_May t0 x5 hx5) rfl) ?_
      refine arun_do rfl rfl rfl (ex_move (eV (v := (Bo x4.2)) rfl)) ?_
      refine arun_do rfl rfl rfl (ex_move (eV (v := (Bo x4.2)) rfl)) ?_
      refine arun_guard (v := (SL 1 cS x4.1)) (x4.2 == true) rfl rfl rfl (fun hc => ex_move (eV (v := (SL 1 cS x4.1)) rfl)) ?_
      refine arun_guard (v := (I (x4.1.length : Int))) (x4.2 == true) rfl rfl rfl (fun hc => tx_lenD (xs := x4.1) ceS Tryd.underlying27 (cond_of hc)) ?_
      refine arun_guard (v := (Bo ((x4.1.length : Int) == 1))) (x4.2 == true) rfl rfl rfl (fun hc => ex_bin (vx := (I (x4.1.length : Int))) (vy := (I 1)) (cond_of hc) rfl eqlI_ok) ?_
      refine arun_do rfl rfl rfl (ex_pick rfl pkAnd) ?_
      refine arun_do rfl rfl rfl (ex_move (eV (v := (Bo (x4.2 && ((x4.1.length : Int) == 1)))) rfl)) ?_
      refine arun_guard (v := (SL 1 cS x4.1)) ((x4.2 && ((x4.1.length : Int) == 1)) == true) rfl rfl rfl (fun hc => ex_move (eV (v := (SL 1 cS x4.1)) rfl)) ?_
      obtain ⟨x6, hx6, h⟩ := bindS h
      refine arun_guard (v := (DP (cS x6))) ((x4.2 && ((x4.1.length : Int) == 1)) == true) rfl rfl rfl (fun hc => tx_idxD (c := cS) (xs := x4.1) (i := 0) ceS Tryd.underlying27 s_9 (cond_of hc) rfl (gd_of hc hx6)) ?_
      refine arun_guard (v := (S x6)) ((x4.2 && ((x4.1.length : Int) == 1)) == true) rfl rfl rfl (fun hc => tx_ldD1 (v := (S x6)) Tryd.underlying9 rfl (cond_of hc) rfl) ?_
      refine arun_guard (v := (S t0)) ((x4.2 && ((x4.1.length : Int) == 1)) == true) rfl rfl rfl (fun hc => ex_move (eV (v := (S t0)) rfl)) ?_
      refine arun_guard (v := (Bo (x6 == t0))) ((x4.2 && ((x4.1.length : Int) == 1)) == true) rfl rfl rfl (fun hc => ex_bin (vx := (S x6)) (vy := (S t0)) (cond_of hc) (cond_of hc) eqlS_ok) ?_
      refine arun_do rfl rfl rfl (ex_pick rfl pkAnd) ?_
      refine arun_do rfl rfl rfl (ex_bin (vx := (Bo x5)) (vy := (Bo ((x4.2 && ((x4.1.length : Int) == 1)) && (x6 == t0)))) rfl rfl (neqB_ok Tryd.underlying4)) ?_
      refine arun_do rfl rfl rfl (ex_move (eV (v := (Bo (x5 != ((x4.2 && ((x4.1.length : Int) == 1)) && (x6 == t0))))) rfl)) ?_
      refine arun_guard (v := (Bo x4.2)) ((x5 != ((x4.2 && ((x4.1.length : Int) == 1)) && (x6 == t0))) == false) rfl rfl rfl (fun hc => ex_move (eV (v := (Bo x4.2)) rfl)) ?_
      refine arun_guard (v := (Bo x4.2)) ((x5 != ((x4.2 && ((x4.1.length : Int) == 1)) && (x6 == t0))) == false) rfl rfl rfl (fun hc => ex_move (eV (v := (Bo x4.2)) (cond_of hc))) ?_
      refine arun_guard (v := (S t0)) (((x5 != ((x4.2 && ((x4.1.length : Int) == 1)) && (x6 == t0))) == false) && (x4.2 == true)) rfl rfl gv_nest (fun hc => ex_move (eV (v := (S t0)) rfl)) ?_
      refine arun_guard (v := (Bo (t0 != []))) (((x5 != ((x4.2 && ((x4.1.length : Int) == 1)) && (x6 == t0))) == false) && (x4.2 == true)) rfl rfl gv_nest (fun hc => ex_bin (vx := (S t0)) (vy := (S [])) (cond_of hc) rfl neqS_ok) ?_
      refine arun_guard (v := (Bo (x4.2 && (t0 != [])))) ((x5 != ((x4.2 && ((x4.1.length : Int) == 1)) && (x6 == t0))) == false) rfl rfl rfl (fun hc => ex_pick (cond_of hc) (pkAndN hc)) ?_
      refine arun_guard (v := (Bo (x4.2 && (t0 != [])))) ((x5 != ((x4.2 && ((x4.1.length : Int) == 1)) && (x6 == t0))) == false) rfl rfl rfl (fun hc => ex_move (eV (v := (Bo (x4.2 && (t0 != [])))) (cond_of hc))) ?_
      refine arun_guard (v := (SL 1 cS x4.1)) (((x5 != ((x4.2 && ((x4.1.length : Int) == 1)) && (x6 == t0))) == false) && ((x4.2 && (t0 != [])) == true)) rfl rfl gv_nest (fun hc => ex_move (eV (v := (SL 1 cS x4.1)) rfl)) ?_
      refine arun_guard (v := (I (x4.1.length : Int))) (((x5 != ((x4.2 && ((x4.1.length : Int) == 1)) && (x6 == t0))) == false) && ((x4.2 && (t0 != [])) == true)) rfl rfl gv_nest (fun hc => tx_lenD (xs := x4.1) ceS Tryd.underlying27 (cond_of hc)) ?_
      refine arun_guard (v := (Bo ((x4.1.length : Int) == 0))) (((x5 != ((x4.2 && ((x4.1.length : Int) == 1)) && (x6 == t0))) == false) && ((x4.2 && (t0 != [])) == true)) rfl rfl gv_nest (fun hc => ex_bin (vx := (I (x4.1.length : Int))) (vy := (I 0)) (cond_of hc) rfl eqlI_ok) ?_
      refine arun_guard (v := (Bo ((x4.2 && (t0 != [])) && ((x4.1.length : Int) == 0)))) ((x5 != ((x4.2 && ((x4.1.length : Int) == 1)) && (x6 == t0))) == false) rfl rfl rfl (fun hc => ex_pick (cond_of hc) (pkAndN hc)) ?_
      refine arun_do rfl rfl rfl (ex_pick rfl pkOr) ?_
      refine arun_keepE [0, 1, 5, 6, 49] 0 0 (st' := ⟨107, 0, [(0, (S t0)), (1, (U8 t1)), (5, (SL 1 cS x4.1)), (6, (Bo x4.2)), (49, (Bo ((x5 != ((x4.2 && ((x4.1.length : Int) == 1)) && (x6 == t0))) || ((x4.2 && (t0 != [])) && ((x4.1.length : Int) == 0)))))], [], ⟨0, []⟩⟩) (by kernel_rfl) (by kernel_rfl) ?_
      show AWp _ _ _ _
      rcases Bool.eq_false_or_eq_true ((x5 != ((x4.2 && ((x4.1.length : Int) == 1)) && (x6 == t0))) || ((x4.2 && (t0 != [])) && ((x4.1.length : Int) == 0))) with hb7 | hb7
      · rw [condT hb7] at h
        refine awp_condT (boT hb7) ?_
        refine awp_seq ?_
        refine awp_region ?_
        refine arun_do rfl rfl rfl (ex_assign (eV (v := (Bo false)) rfl)) ?_
        refine arun_keepE [4] 0 0 (st' := ⟨107, 0, [(4, (Bo false))], [], ⟨0, []⟩⟩) (by kernel_rfl) (by kernel_rfl) ?_
        show AWp _ _ _ _
        refine awp_ret ?_
        cases h
        exact ares1 (rtmp rfl (eV rfl))
      · rw [condF hb7] at h
        refine awp_condF (boF hb7) ?_
        refine awp_skip ?_
        show AWp _ _ _ _
        refine awp_seq ?_
        refine awp_region ?_
        refine arun_do rfl rfl rfl (ex_move (eV (v := (U8 t1)) rfl)) ?_
        refine arun_do rfl rfl rfl (ex_buildSliceD (qs := [(0, (U8 t1))]) (cells := (([t1] : List UInt8).flatMap c8)) Tryd.underlying22 s_5 (by decide) (evp rfl evp_nil) rfl (by kernel_rfl) (by kernel_rfl) (by kernel_rfl)) ?_
        obtain ⟨x8, hx8, h⟩ := bindS h
        refine arun_do rfl rfl rfl (ex_callNew (vs := [(SL 1 c8 ([t1] : List UInt8))]) (k := 0) (b := ⟨1, (c_palimpmade_Picks x8), false⟩) (H' := ⟨1, [(0, ⟨1, (c_palimpmade_Picks x8), false⟩)]⟩) rfl en_8 (cargs (evs rfl evs_nil)) rfl (ok_made_Made ([t1] : List UInt8) x8 hx8) rfl rfl rfl) ?_
        obtain ⟨x9, hx9, h⟩ := bindS h
        refine arun_do rfl rfl rfl (ex_call1 (vs := [(NP 0 0)]) (vs' := [(NP 0 0)]) (v := (S x9.1)) (n := 0) (b := ⟨1, (c_palimpmade_Picks x8), false⟩) (b' := ⟨1, (c_palimpmade_Picks x9.2), false⟩) (H' := ⟨1, [(0, ⟨1, (c_palimpmade_Picks x9.2), false⟩)]⟩) rfl en_9 (cargs (evs rfl evs_nil)) rfl rfl (.cons (.inr ⟨_, rfl, rfl⟩) .nil) (ok_made_Picks_Path x8  x9 hx9) rfl rfl) ?_
        refine arun_do rfl rfl rfl (ex_assign (eV (v := (S x9.1)) rfl)) ?_
        refine arun_keepE [0, 5, 6, 7] 0 0 (st' := ⟨107, 0, [(0, (S t0)), (5, (SL 1 cS x4.1)), (6, (Bo x4.2)), (7, (S x9.1))], [], ⟨0, []⟩⟩) (by kernel_rfl) (by kernel_rfl) ?_
        show AWp _ _ _ _
        refine awp_seq ?_
        refine awp_region ?_
        refine arun_do rfl rfl rfl (ex_move (eV (v := (S x9.1)) rfl)) ?_
        obtain ⟨x10, hx10, h⟩ := bindS h
        refine arun_do rfl rfl rfl (ex_call0 (vs := [(S x9.1)]) (v := (Value.tuple #[(SL 1 cS x10.1), (Bo x10.2)])) rfl en_10 (cargs (evs rfl evs_nil)) rfl (ok_name_Parts x9.1 x10 hx10) rfl) ?_
        refine arun_do rfl rfl rfl (ex_move (eV (v := (Value.tuple #[(SL 1 cS x10.1), (Bo x10.2)])) rfl)) ?_
        refine arun_do rfl rfl rfl (ex_extract (vx := (Value.tuple #[(SL 1 cS x10.1), (Bo x10.2)])) (v := (SL 1 cS x10.1)) rfl rfl) ?_
        refine arun_do rfl rfl rfl (ex_extract (vx := (Value.tuple #[(SL 1 cS x10.1), (Bo x10.2)])) (v := (Bo x10.2)) rfl rfl) ?_
        refine arun_do rfl rfl rfl (ex_assign (eV (v := (SL 1 cS x10.1)) rfl)) ?_
        refine arun_do rfl rfl rfl (ex_assign (eV (v := (Bo x10.2)) rfl)) ?_
        refine arun_keepE [0, 5, 6, 7, 8, 9] 0 0 (st' := ⟨107, 0, [(0, (S t0)), (5, (SL 1 cS x4.1)), (6, (Bo x4.2)), (7, (S x9.1)), (8, (SL 1 cS x10.1)), (9, (Bo x10.2))], [], ⟨0, []⟩⟩) (by kernel_rfl) (by kernel_rfl) ?_
        show AWp _ _ _ _
        refine awp_seq ?_
        refine awp_region ?_
        refine arun_do rfl rfl rfl (ex_move (eV (v := (S x9.1)) rfl)) ?_
        refine arun_do rfl rfl rfl (ex_move (eV (v := (S t0)) rfl)) ?_
        refine arun_do rfl rfl rfl (ex_buildSliceD (qs := [(0, (S x9.1)), (1, (S t0))]) (cells := (([x9.1, t0] : List Str).flatMap cS)) Tryd.underlying27 s_9 (by decide) (evp rfl (evp rfl evp_nil)) rfl (by kernel_rfl) (by kernel_rfl) (by kernel_rfl)) ?_
        obtain ⟨x11, hx11, h⟩ := bindS h
        refine arun_do rfl rfl rfl (ex_call0 (vs := [(SL 1 cS ([x9.1, t0] : List Str))]) (v := (S x11)) rfl en_15 (cargs (evs rfl evs_nil)) rfl (ok_name_Join ([x9.1, t0] : List Str) x11 hx11) rfl) ?_
        obtain ⟨x12, hx12, h⟩ := bindS h
        refine arun_do rfl rfl rfl (ex_call0 (vs := [(S x11)]) (v := (Value.tuple #[(SL 1 cS x12.1), (Bo x12.2)])) rfl en_10 (cargs (evs rfl evs_nil)) rfl (ok_name_Parts x11 x12 hx12) rfl) ?_
        refine arun_do rfl rfl rfl (ex_move (eV (v := (Value.tuple #[(SL 1 cS x12.1), (Bo x12.2)])) rfl)) ?_
        refine arun_do rfl rfl rfl (ex_extract (vx := (Value.tuple #[(SL 1 cS x12.1), (Bo x12.2)])) (v := (SL 1 cS x12.1)) rfl rfl) ?_
        refine arun_do rfl rfl rfl (ex_extract (vx := (Value.tuple #[(SL 1 cS x12.1), (Bo x12.2)])) (v := (Bo x12.2)) rfl rfl) ?_
        refine arun_do rfl rfl rfl (ex_assign (eV (v := (SL 1 cS x12.1)) rfl)) ?_
        refine arun_do rfl rfl rfl (ex_assign (eV (v := (Bo x12.2)) rfl)) ?_
        refine arun_keepE [0, 5, 6, 7, 8, 9, 10, 11] 0 0 (st' := ⟨107, 0, [(0, (S t0)), (5, (SL 1 cS x4.1)), (6, (Bo x4.2)), (7, (S x9.1)), (8, (SL 1 cS x10.1)), (9, (Bo x10.2)), (10, (SL 1 cS x12.1)), (11, (Bo x12.2))], [], ⟨0, []⟩⟩) (by kernel_rfl) (by kernel_rfl) ?_
        show AWp _ _ _ _
        refine awp_seq ?_
        refine awp_seq ?_
        refine awp_region ?_
        refine arun_do rfl rfl rfl (ex_move (eV (v := (S x9.1)) rfl)) ?_
        refine arun_do rfl rfl rfl (ex_bin (vx := (S x9.1)) (vy := (S [])) rfl rfl eqlS_ok) ?_
        refine arun_do rfl rfl rfl (ex_move (eV (v := (Bo (x9.1 == []))) rfl)) ?_
        refine arun_guard (v := (SL 1 cS x4.1)) ((x9.1 == []) == false) rfl rfl rfl (fun hc => ex_move (eV (v := (SL 1 cS x4.1)) rfl)) ?_
        refine arun_guard (v := (I (x4.1.length : Int))) ((x9.1 == []) == false) rfl rfl rfl (fun hc => tx_lenD (xs := x4.1) ceS Tryd.underlying27 (cond_of hc)) ?_
        refine arun_guard (v := (Bo (decide ((x4.1.length : Int) > 2)))) ((x9.1 == []) == false) rfl rfl rfl (fun hc => ex_bin (vx := (I (x4.1.length : Int))) (vy := (I 2)) (cond_of hc) rfl gtrI_ok) ?_
        refine arun_do rfl rfl rfl (ex_pick rfl pkOr) ?_
        refine arun_keepE [0, 5, 6, 7, 8, 9, 10, 11, 73] 0 0 (st' := ⟨107, 0, [(0, (S t0)), (5, (SL 1 cS x4.1)), (6, (Bo x4.2)), (7, (S x9.1)), (8, (SL 1 cS x10.1)), (9, (Bo x10.2)), (10, (SL 1 cS x12.1)), (11, (Bo x12.2)), (73, (Bo ((x9.1 == []) || (decide ((x4.1.length : Int) > 2)))))], [], ⟨0, []⟩⟩) (by kernel_rfl) (by kernel_rfl) ?_
        show AWp _ _ _ _
        rcases Bool.eq_false_or_eq_true ((x9.1 == []) || (decide ((x4.1.length : Int) > 2))) with hb13 | hb13
        · rw [condT hb13] at h
          refine awp_condT (boT hb13) ?_
          refine awp_seq ?_
          refine awp_region ?_
          refine arun_do rfl rfl rfl (ex_move (eV (v := (SL 1 cS x10.1)) rfl)) ?_
          refine arun_do rfl rfl rfl (tx_lenD (xs := x10.1) ceS Tryd.underlying27 rfl) ?_
          refine arun_do rfl rfl rfl (ex_bin (vx := (I (x10.1.length : Int))) (vy := (I 0)) rfl rfl eqlI_ok) ?_
          refine arun_do rfl rfl rfl (ex_move (eV (v := (S x9.1)) rfl)) ?_
          refine arun_do rfl rfl rfl (ex_bin (vx := (S x9.1)) (vy := (S [])) rfl rfl eqlS_ok) ?_
          refine arun_do rfl rfl rfl (ex_move (eV (v := (Bo (x9.1 == []))) rfl)) ?_
          refine arun_guard (v := (Bo x10.2)) ((x9.1 == []) == false) rfl rfl rfl (fun hc => ex_move (eV (v := (Bo x10.2)) rfl)) ?_
          refine arun_guard (v := (Bo (!x10.2))) ((x9.1 == []) == false) rfl rfl rfl (fun hc => ex_un (vx := (Bo x10.2)) (cond_of hc) notB_ok) ?_
          refine arun_do rfl rfl rfl (ex_pick rfl pkOr) ?_
          refine arun_do rfl rfl rfl (ex_bin (vx := (Bo ((x10.1.length : Int) == 0))) (vy := (Bo ((x9.1 == []) || (!x10.2)))) rfl rfl (eqlB_ok Tryd.underlying4)) ?_
          refine arun_do rfl rfl rfl (ex_assign (eV (v := (Bo (((x10.1.length : Int) == 0) == ((x9.1 == []) || (!x10.2))))) rfl)) ?_
          refine arun_keepE [4] 0 0 (st' := ⟨107, 0, [(4, (Bo (((x10.1.length : Int) == 0) == ((x9.1 == []) || (!x10.2)))))], [], ⟨0, []⟩⟩) (by kernel_rfl) (by kernel_rfl) ?_
          show AWp _ _ _ _
          refine awp_ret ?_
          cases h
          exact ares1 (rtmp rfl (eV rfl))
        · rw [condF hb13] at h
          refine awp_condF (boF hb13) ?_
          refine awp_skip ?_
          show AWp _ _ _ _
          refine awp_seq ?_
          rcases Bool.eq_false_or_eq_true (((x12.2 == ((x10.2 && x4.2) && (t0 != []))) == true) && ((!x12.2) == false)) with hg13_0 | hg13_0
          · rw [condT hg13_0] at h
            refine awp_region ?_
            refine arun_do rfl rfl rfl (ex_move (eV (v := (Bo x12.2)) rfl)) ?_
            refine arun_do rfl rfl rfl (ex_move (eV (v := (Bo x10.2)) rfl)) ?_
            refine arun_do rfl rfl rfl (ex_move (eV (v := (Bo x10.2)) rfl)) ?_
            refine arun_guard (v := (Bo x4.2)) (x10.2 == true) rfl rfl rfl (fun hc => ex_move (eV (v := (Bo x4.2)) rfl)) ?_
            refine arun_do rfl rfl rfl (ex_pick rfl pkAnd) ?_
            refine arun_do rfl rfl rfl (ex_move (eV (v := (Bo (x10.2 && x4.2))) rfl)) ?_
            refine arun_guard (v := (S t0)) ((x10.2 && x4.2) == true) rfl rfl rfl (fun hc => ex_move (eV (v := (S t0)) rfl)) ?_
            refine arun_guard (v := (Bo (t0 != []))) ((x10.2 && x4.2) == true) rfl rfl rfl (fun hc => ex_bin (vx := (S t0)) (vy := (S [])) (cond_of hc) rfl neqS_ok) ?_
            refine arun_do rfl rfl rfl (ex_pick rfl pkAnd) ?_
            refine arun_do rfl rfl rfl (ex_bin (vx := (Bo x12.2)) (vy := (Bo ((x10.2 && x4.2) && (t0 != [])))) rfl rfl (eqlB_ok Tryd.underlying4)) ?_
            refine arun_do rfl rfl rfl (ex_move (eV (v := (Bo (x12.2 == ((x10.2 && x4.2) && (t0 != []))))) rfl)) ?_
            refine arun_guard (v := (Bo x12.2)) ((x12.2 == ((x10.2 && x4.2) && (t0 != []))) == true) rfl rfl rfl (fun hc => ex_move (eV (v := (Bo x12.2)) rfl)) ?_
            refine arun_guard (v := (Bo (!x12.2))) ((x12.2 == ((x10.2 && x4.2) && (t0 != []))) == true) rfl rfl rfl (fun hc => ex_un (vx := (Bo x12.2)) (cond_of hc) notB_ok) ?_
            refine arun_guard (v := (Bo (!x12.2))) ((x12.2 == ((x10.2 && x4.2) && (t0 != []))) == true) rfl rfl rfl (fun hc => ex_move (eV (v := (Bo (!x12.2))) (cond_of hc))) ?_
            refine arun_do rfl rfl (gT gv_nest hg13_0) (ex_move (eV (v := (SL 1 cS x12.1)) rfl)) ?_
            refine arun_do rfl rfl (gT gv_nest hg13_0) (ex_buildSliceG (k := 0) (qs := []) (cells := (([] : List Str).flatMap cS)) (H' := ⟨1, [(0, ⟨1, (([] : List Str).flatMap cS), true⟩)]⟩) Tryd.underlying27 s_9 (by decide) (by decide) evp_nil rfl (by kernel_rfl) (by kernel_rfl) (by kernel_rfl) rfl rfl) ?_
            refine arun_do rfl rfl (gT gv_nest hg13_0) (ex_move (eV (v := (SL 1 cS x10.1)) rfl)) ?_
            obtain ⟨x14, hx14, h⟩ := bindS h
            refine arun_do rfl rfl (gT gv_nest hg13_0) (tx_appG (c := cS) (xs := []) (H' := ⟨1, [(0, ⟨1, ((x14).flatMap cS), true⟩)]⟩) ceS e_9 rfl rfl rfl (tsrcD (ys := x10.1) ceS Tryd.underlying27 s_9 Tryd.underlying27 rfl) hx14 rfl) ?_
            refine arun_do rfl rfl (gT gv_nest hg13_0) (ex_move (eV (v := (SL 1 cS x4.1)) rfl)) ?_
            obtain ⟨x15, hx15, h⟩ := bindS h
            refine arun_do rfl rfl (gT gv_nest hg13_0) (tx_appG (c := cS) (xs := x14) (H' := ⟨1, [(0, ⟨1, ((x15).flatMap cS), true⟩)]⟩) ceS e_9 rfl rfl rfl (tsrcD (ys := x4.1) ceS Tryd.underlying27 s_9 Tryd.underlying27 rfl) hx15 rfl) ?_
            refine arun_freeze 0 (bk := ⟨1, ((x15).flatMap cS), true⟩) (T' := [(0, (S t0)), (5, (SL 1 cS x4.1)), (6, (Bo x4.2)), (7, (S x9.1)), (8, (SL 1 cS x10.1)), (9, (Bo x10.2)), (10, (SL 1 cS x12.1)), (11, (Bo x12.2)), (73, (Bo ((x9.1 == []) || (decide ((x4.1.length : Int) > 2))))), (84, (Bo x12.2)), (85, (Bo x10.2)), (86, (Bo x10.2)), (87, (cond (x10.2 == true) (Bo x4.2) skipV)), (88, (Bo (x10.2 && x4.2))), (89, (Bo (x10.2 && x4.2))), (90, (cond ((x10.2 && x4.2) == true) (S t0) skipV)), (91, (cond ((x10.2 && x4.2) == true) (Bo (t0 != [])) skipV)), (92, (Bo ((x10.2 && x4.2) && (t0 != [])))), (93, (Bo (x12.2 == ((x10.2 && x4.2) && (t0 != []))))), (94, (Bo (x12.2 == ((x10.2 && x4.2) && (t0 != []))))), (95, (cond ((x12.2 == ((x10.2 && x4.2) && (t0 != []))) == true) (Bo x12.2) skipV)), (96, (cond ((x12.2 == ((x10.2 && x4.2) && (t0 != []))) == true) (Bo (!x12.2)) skipV)), (97, (cond ((x12.2 == ((x10.2 && x4.2) && (t0 != []))) == true) (Bo (!x12.2)) skipV)), (98, (SL 1 cS x12.1)), (100, (SL 1 cS x10.1)), (102, (SL 1 cS x4.1)), (103, (SL 1 cS x15))]) (L' := []) rfl (FzT.keep (v := (S t0)) rfl (FzT.keep (v := (SL 1 cS x4.1)) rfl (FzT.keep (v := (Bo x4.2)) rfl (FzT.keep (v := (S x9.1)) rfl (FzT.keep (v := (SL 1 cS x10.1)) rfl (FzT.keep (v := (Bo x10.2)) rfl (FzT.keep (v := (SL 1 cS x12.1)) rfl (FzT.keep (v := (Bo x12.2)) rfl (FzT.keep (v := (Bo ((x9.1 == []) || (decide ((x4.1.length : Int) > 2))))) rfl (FzT.keep (v := (Bo x12.2)) rfl (FzT.keep (v := (Bo x10.2)) rfl (FzT.keep (v := (Bo x10.2)) rfl (FzT.keep (v := (cond (x10.2 == true) (Bo x4.2) skipV)) rfl (FzT.keep (v := (Bo (x10.2 && x4.2))) rfl (FzT.keep (v := (Bo (x10.2 && x4.2))) rfl (FzT.keep (v := (cond ((x10.2 && x4.2) == true) (S t0) skipV)) rfl (FzT.keep (v := (cond ((x10.2 && x4.2) == true) (Bo (t0 != [])) skipV)) rfl (FzT.keep (v := (Bo ((x10.2 && x4.2) && (t0 != [])))) rfl (FzT.keep (v := (Bo (x12.2 == ((x10.2 && x4.2) && (t0 != []))))) rfl (FzT.keep (v := (Bo (x12.2 == ((x10.2 && x4.2) && (t0 != []))))) rfl (FzT.keep (v := (cond ((x12.2 == ((x10.2 && x4.2) && (t0 != []))) == true) (Bo x12.2) skipV)) rfl (FzT.keep (v := (cond ((x12.2 == ((x10.2 && x4.2) && (t0 != []))) == true) (Bo (!x12.2)) skipV)) rfl (FzT.keep (v := (cond ((x12.2 == ((x10.2 && x4.2) && (t0 != []))) == true) (Bo (!x12.2)) skipV)) rfl (FzT.keep (v := (SL 1 cS x12.1)) rfl (FzT.keep (v := (SL 1 cS x10.1)) rfl (FzT.keep (v := (SL 1 cS x4.1)) rfl (fzG ceS rfl rfl FzT.nil))))))))))))))))))))))))))) (FzL.refl _) ?_
            show ARun _ _ _ _ _ ⟨107, 0, [(0, (S t0)), (5, (SL 1 cS x4.1)), (6, (Bo x4.2)), (7, (S x9.1)), (8, (SL 1 cS x10.1)), (9, (Bo x10.2)), (10, (SL 1 cS x12.1)), (11, (Bo x12.2)), (73, (Bo ((x9.1 == []) || (decide ((x4.1.length : Int) > 2))))), (84, (Bo x12.2)), (85, (Bo x10.2)), (86, (Bo x10.2)), (87, (cond (x10.2 == true) (Bo x4.2) skipV)), (88, (Bo (x10.2 && x4.2))), (89, (Bo (x10.2 && x4.2))), (90, (cond ((x10.2 && x4.2) == true) (S t0) skipV)), (91, (cond ((x10.2 && x4.2) == true) (Bo (t0 != [])) skipV)), (92, (Bo ((x10.2 && x4.2) && (t0 != [])))), (93, (Bo (x12.2 == ((x10.2 && x4.2) && (t0 != []))))), (94, (Bo (x12.2 == ((x10.2 && x4.2) && (t0 != []))))), (95, (cond ((x12.2 == ((x10.2 && x4.2) && (t0 != []))) == true) (Bo x12.2) skipV)), (96, (cond ((x12.2 == ((x10.2 && x4.2) && (t0 != []))) == true) (Bo (!x12.2)) skipV)), (97, (cond ((x12.2 == ((x10.2 && x4.2) && (t0 != []))) == true) (Bo (!x12.2)) skipV)), (98, (SL 1 cS x12.1)), (100, (SL 1 cS x10.1)), (102, (SL 1 cS x4.1)), (103, (SL 1 cS x15))], [], ⟨1, []⟩⟩
            obtain ⟨x16, hx16, h⟩ := bindS h
            refine arun_do rfl rfl (gT gv_nest hg13_0) (ex_call0 (vs := [(SL 1 cS x12.1), (SL 1 cS x15)]) (v := (Bo x16)) rfl en_12 (cargs (evs rfl (evs rfl evs_nil))) rfl (ok_ref1_SameTexts x12.1 x15 x16 hx16) rfl) ?_
            refine arun_guard (v := (Bo ((!x12.2) || x16))) ((x12.2 == ((x10.2 && x4.2) && (t0 != []))) == true) rfl rfl rfl (fun hc => ex_pick (cond_of hc) pkOrD) ?_
            refine arun_do rfl rfl rfl (ex_pick rfl pkAnd) ?_
            refine arun_do rfl rfl rfl (ex_assign (eV (v := (Bo ((x12.2 == ((x10.2 && x4.2) && (t0 != []))) && ((!x12.2) || x16)))) rfl)) ?_
            refine arun_keepE [4] 0 0 (st' := ⟨107, 0, [(4, (Bo ((x12.2 == ((x10.2 && x4.2) && (t0 != []))) && ((!x12.2) || x16))))], [], ⟨0, []⟩⟩) (by kernel_rfl) (by kernel_rfl) ?_
            show AWp _ _ _ _
            refine awp_ret ?_
            cases h
            exact ares1 (rtmp rfl (eV rfl))
          · rw [condF hg13_0] at h
            refine awp_region ?_
            refine arun_do rfl rfl rfl (ex_move (eV (v := (Bo x12.2)) rfl)) ?_
            refine arun_do rfl rfl rfl (ex_move (eV (v := (Bo x10.2)) rfl)) ?_
            refine arun_do rfl rfl rfl (ex_move (eV (v := (Bo x10.2)) rfl)) ?_
            refine arun_guard (v := (Bo x4.2)) (x10.2 == true) rfl rfl rfl (fun hc => ex_move (eV (v := (Bo x4.2)) rfl)) ?_
            refine arun_do rfl rfl rfl (ex_pick rfl pkAnd) ?_
            refine arun_do rfl rfl rfl (ex_move (eV (v := (Bo (x10.2 && x4.2))) rfl)) ?_
            refine arun_guard (v := (S t0)) ((x10.2 && x4.2) == true) rfl rfl rfl (fun hc => ex_move (eV (v := (S t0)) rfl)) ?_
            refine arun_guard (v := (Bo (t0 != []))) ((x10.2 && x4.2) == true) rfl rfl rfl (fun hc => ex_bin (vx := (S t0)) (vy := (S [])) (cond_of hc) rfl neqS_ok) ?_
            refine arun_do rfl rfl rfl (ex_pick rfl pkAnd) ?_
            refine arun_do rfl rfl rfl (ex_bin (vx := (Bo x12.2)) (vy := (Bo ((x10.2 && x4.2) && (t0 != [])))) rfl rfl (eqlB_ok Tryd.underlying4)) ?_
            refine arun_do rfl rfl rfl (ex_move (eV (v := (Bo (x12.2 == ((x10.2 && x4.2) && (t0 != []))))) rfl)) ?_
            refine arun_guard (v := (Bo x12.2)) ((x12.2 == ((x10.2 && x4.2) && (t0 != []))) == true) rfl rfl rfl (fun hc => ex_move (eV (v := (Bo x12.2)) rfl)) ?_
            refine arun_guard (v := (Bo (!x12.2))) ((x12.2 == ((x10.2 && x4.2) && (t0 != []))) == true) rfl rfl rfl (fun hc => ex_un (vx := (Bo x12.2)) (cond_of hc) notB_ok) ?_
            refine arun_guard (v := (Bo (!x12.2))) ((x12.2 == ((x10.2 && x4.2) && (t0 != []))) == true) rfl rfl rfl (fun hc => ex_move (eV (v := (Bo (!x12.2))) (cond_of hc))) ?_
            refine arun_skip rfl rfl (gF gv_nest hg13_0) ?_
            refine arun_skip rfl rfl (gF gv_nest hg13_0) ?_
            refine arun_skip rfl rfl (gF gv_nest hg13_0) ?_
            refine arun_skip rfl rfl (gF gv_nest hg13_0) ?_
            refine arun_skip rfl rfl (gF gv_nest hg13_0) ?_
            refine arun_skip rfl rfl (gF gv_nest hg13_0) ?_
            refine arun_skip rfl rfl (gF gv_nest hg13_0) ?_
            refine arun_guard (v := (Bo (!x12.2))) ((x12.2 == ((x10.2 && x4.2) && (t0 != []))) == true) rfl rfl rfl (fun hc => ex_pick (cond_of hc) (pkOrSN hg13_0 hc)) ?_
            refine arun_do rfl rfl rfl (ex_pick rfl pkAnd) ?_
            refine arun_do rfl rfl rfl (ex_assign (eV (v := (Bo ((x12.2 == ((x10.2 && x4.2) && (t0 != []))) && (!x12.2)))) rfl)) ?_
            refine arun_keepE [4] 0 0 (st' := ⟨107, 0, [(4, (Bo ((x12.2 == ((x10.2 && x4.2) && (t0 != []))) && (!x12.2))))], [], ⟨0, []⟩⟩) (by kernel_rfl) (by kernel_rfl) ?_
            show AWp _ _ _ _
            refine awp_ret ?_
            cases h
            exact ares1 (rtmp rfl (eV rfl))

end Go.Proofs
