/- Pure models of functions of the program, and that its code does what they say: palimplaw4 PtrBack, palimplaw4 PtrForms. Written by a program. -/
import Derived.Test.YtjdfekampbbkaaaR40
import Derived.Test.YtjdfekampbbkaaaR41
import Derived.Test.YtjdfekampbbkaaaR42
import Derived.Test.YtjdfekampbbkaaaR43
import Derived.Test.YtjdfekampbbkaaaR44
import Derived.Test.YtjdfekampbbkaaaR47
import Derived.Test.YtjdfekampbbkaaaR4B
set_option maxRecDepth 20000
set_option maxHeartbeats 4000000
namespace Go.Proofs
open Go Go.Fhl
set_option linter.unusedVariables false
set_option linter.unusedSimpArgs false
noncomputable def M_law4_PtrBack (t0 : (List UInt8)) (t1 : (List UInt8)) (t2 : UInt8) (t3 : UInt8) : Option Bool :=
  Option.bind (M_law4_begun) fun (x1 : Bool) => cond (!x1) (some false) (cond ((decide ((t0.length : Int) > 20)) || (decide ((t1.length : Int) > 20))) (some true) (Option.bind (rem8 t2 4) fun (x4 : UInt8) => Option.bind (M_made_Made t0) fun (x5 : G_palimpmade_Picks) => Option.bind (M_made_Picks_Ptrs x5 (w64 (1 + (x4.toNat : Int)))) fun (x6 : ((List G_api_Ptr) × G_palimpmade_Picks)) => Option.bind (M_made_Made t1) fun (x7 : G_palimpmade_Picks) => Option.bind (M_made_Picks_Ptrs x7 (w64 (1 + (x4.toNat : Int)))) fun (x8 : ((List G_api_Ptr) × G_palimpmade_Picks)) => Option.bind (M_ptr_Put x6.1) fun (x9 : Str) => Option.bind (M_ptr_Put x8.1) fun (x10 : Str) => cond ((x9.length : Int) != (w64 ((w64 (1 + (x4.toNat : Int))) * 22))) (some false) (Option.bind (addS x9 x10) fun (x12 : Str) => Option.bind (M_ptr_Take x12 (w64 (1 + (x4.toNat : Int)))) fun (x13 : ((List G_api_Ptr) × Str × Bool)) => Option.bind (remI (t3.toNat : Int) (x9.length : Int)) fun (x14 : Int) => Option.bind (slL x9 0 x14) fun (x15 : Str) => Option.bind (M_ptr_Take x15 (w64 (1 + (x4.toNat : Int)))) fun (x16 : ((List G_api_Ptr) × Str × Bool)) => Option.bind (gd ((x13.2.2 && (x13.2.1 == x10)) == true) (M_ref1_SamePtrs x13.1 x6.1)) fun (x17 : Bool) => Option.bind (gd ((((x13.2.2 && (x13.2.1 == x10)) && x17) && (!x16.2.2)) == true) (M_ref1_SamePtrs x6.1 x8.1)) fun (x18 : Bool) => some ((((x13.2.2 && (x13.2.1 == x10)) && x17) && (!x16.2.2)) && ((x9 == x10) == x18)))))
theorem ok_law4_PtrBack (t0 : (List UInt8)) (t1 : (List UInt8)) (t2 : UInt8) (t3 : UInt8) (r : Bool) (h : M_law4_PtrBack t0 t1 t2 t3 = some r) : FFn Try.prog 4 [(SL 1 c8 t0), (SL 1 c8 t1), (U8 t2), (U8 t3)] (Bo r) := by
  refine FFn.of_body (n := 97) Try.func4 rfl Try.ntmps4 rfl rfl rfl rfl ?_
  show AWp _ _ _ ⟨97, 0, [(0, (SL 1 c8 t0)), (1, (SL 1 c8 t1)), (2, (U8 t2)), (3, (U8 t3))], [], ⟨0, []⟩⟩
  unfold M_law4_PtrBack at h
  refine awp_seq ?_
  refine awp_region ?_
  refine arun_do rfl rfl rfl (ex_assign (eV (v := (Bo false)) rfl)) ?_
  refine arun_keepE [0, 1, 2, 3] 0 0 (st' := ⟨97, 0, [(0, (SL 1 c8 t0)), (1, (SL 1 c8 t1)), (2, (U8 t2)), (3, (U8 t3))], [], ⟨0, []⟩⟩) (by kernel_rfl) (by kernel_rfl) ?_
  show AWp _ _ _ _
  refine awp_seq ?_
  refine awp_seq ?_
  refine awp_region ?_
  obtain ⟨x1, hx1, h⟩ := bindS h
  refine arun_do rfl rfl rfl (ex_call0 (vs := []) (v := (Bo x1)) rfl en_8 (cargs evs_nil) rfl (ok_law4_begun  x1 hx1) rfl) ?_
  refine arun_do rfl rfl rfl (ex_un (vx := (Bo x1)) rfl notB_ok) ?_
  refine arun_keepE [0, 1, 2, 3, 21] 0 0 (st' := ⟨97, 0, [(0, (SL 1 c8 t0)), (1, (SL 1 c8 t1)), (2, (U8 t2)), (3, (U8 t3)), (21, (Bo (!x1)))], [], ⟨0, []⟩⟩) (by kernel_rfl) (by kernel_rfl) ?_
  show AWp _ _ _ _
  rcases Bool.eq_false_or_eq_true (!x1) with hb2 | hb2
  · rw [condT hb2] at h
    refine awp_condT (boT hb2) ?_
    refine awp_seq ?_
    refine awp_region ?_
    refine arun_do rfl rfl rfl (ex_assign (eV (v := (Bo false)) rfl)) ?_
    refine arun_keepE [8] 0 0 (st' := ⟨97, 0, [(8, (Bo false))], [], ⟨0, []⟩⟩) (by kernel_rfl) (by kernel_rfl) ?_
    show AWp _ _ _ _
    refine awp_ret ?_
    cases h
    exact ares1 (rtmp rfl (eV rfl))
  · rw [condF hb2] at h
    refine awp_condF (boF hb2) ?_
    refine awp_skip ?_
    show AWp _ _ _ _
    refine awp_seq ?_
    refine awp_seq ?_
    refine awp_region ?_
    refine arun_do rfl rfl rfl (ex_move (eV (v := (SL 1 c8 t0)) rfl)) ?_
    refine arun_do rfl rfl rfl (tx_lenD (xs := t0) ce8 Try.underlying27 rfl) ?_
    refine arun_do rfl rfl rfl (ex_bin (vx := (I (t0.length : Int))) (vy := (I 20)) rfl rfl gtrI_ok) ?_
    refine arun_do rfl rfl rfl (ex_move (eV (v := (Bo (decide ((t0.length : Int) > 20)))) rfl)) ?_
    refine arun_guard (v := (SL 1 c8 t1)) ((decide ((t0.length : Int) > 20)) == false) rfl rfl rfl (fun hc => ex_move (eV (v := (SL 1 c8 t1)) rfl)) ?_
    refine arun_guard (v := (I (t1.length : Int))) ((decide ((t0.length : Int) > 20)) == false) rfl rfl rfl (fun hc => tx_lenD (xs := t1) ce8 Try.underlying27 (cond_of hc)) ?_
    refine arun_guard (v := (Bo (decide ((t1.length : Int) > 20)))) ((decide ((t0.length : Int) > 20)) == false) rfl rfl rfl (fun hc => ex_bin (vx := (I (t1.length : Int))) (vy := (I 20)) (cond_of hc) rfl gtrI_ok) ?_
    refine arun_do rfl rfl rfl (ex_pick rfl pkOr) ?_
    refine arun_keepE [0, 1, 2, 3, 29] 0 0 (st' := ⟨97, 0, [(0, (SL 1 c8 t0)), (1, (SL 1 c8 t1)), (2, (U8 t2)), (3, (U8 t3)), (29, (Bo ((decide ((t0.length : Int) > 20)) || (decide ((t1.length : Int) > 20)))))], [], ⟨0, []⟩⟩) (by kernel_rfl) (by kernel_rfl) ?_
    show AWp _ _ _ _
    rcases Bool.eq_false_or_eq_true ((decide ((t0.length : Int) > 20)) || (decide ((t1.length : Int) > 20))) with hb3 | hb3
    · rw [condT hb3] at h
      refine awp_condT (boT hb3) ?_
      refine awp_seq ?_
      refine awp_region ?_
      refine arun_do rfl rfl rfl (ex_assign (eV (v := (Bo true)) rfl)) ?_
      refine arun_keepE [8] 0 0 (st' := ⟨97, 0, [(8, (Bo true))], [], ⟨0, []⟩⟩) (by kernel_rfl) (by kernel_rfl) ?_
      show AWp _ _ _ _
      refine awp_ret ?_
      cases h
      exact ares1 (rtmp rfl (eV rfl))
    · rw [condF hb3] at h
      refine awp_condF (boF hb3) ?_
      refine awp_skip ?_
      show AWp _ _ _ _
      refine awp_seq ?_
      refine awp_region ?_
      refine arun_do rfl rfl rfl (ex_move (eV (v := (U8 t2)) rfl)) ?_
      obtain ⟨x4, hx4, h⟩ := bindS h
      refine arun_do rfl rfl rfl (ex_bin (vx := (U8 t2)) (vy := (U8 4)) rfl rfl (rem8_ok hx4)) ?_
      refine arun_do rfl rfl rfl (tx_8_64 Try.underlying5 Try.underlying3 rfl) ?_
      refine arun_do rfl rfl rfl (ex_bin (vx := (I 1)) (vy := (I (x4.toNat : Int))) rfl rfl addI_ok) ?_
      refine arun_do rfl rfl rfl (ex_assign (eV (v := (I (w64 (1 + (x4.toNat : Int))))) rfl)) ?_
      refine arun_keepE [0, 1, 3, 9] 0 0 (st' := ⟨97, 0, [(0, (SL 1 c8 t0)), (1, (SL 1 c8 t1)), (3, (U8 t3)), (9, (I (w64 (1 + (x4.toNat : Int)))))], [], ⟨0, []⟩⟩) (by kernel_rfl) (by kernel_rfl) ?_
      show AWp _ _ _ _
      refine awp_seq ?_
      refine awp_region ?_
      refine arun_do rfl rfl rfl (ex_move (eV (v := (SL 1 c8 t0)) rfl)) ?_
      obtain ⟨x5, hx5, h⟩ := bindS h
      refine arun_do rfl rfl rfl (ex_callNew (vs := [(SL 1 c8 t0)]) (k := 0) (b := ⟨1, (c_palimpmade_Picks x5), false⟩) (H' := ⟨1, [(0, ⟨1, (c_palimpmade_Picks x5), false⟩)]⟩) rfl en_9 (cargs (evs rfl evs_nil)) rfl (ok_made_Made t0 x5 hx5) rfl rfl rfl) ?_
      refine arun_do rfl rfl rfl (ex_move (eV (v := (I (w64 (1 + (x4.toNat : Int))))) rfl)) ?_
      obtain ⟨x6, hx6, h⟩ := bindS h
      refine arun_do rfl rfl rfl (ex_call1 (vs := [(NP 0 0), (I (w64 (1 + (x4.toNat : Int))))]) (vs' := [(NP 0 0), (I (w64 (1 + (x4.toNat : Int))))]) (v := (SL 6 c_api_Ptr x6.1)) (n := 0) (b := ⟨1, (c_palimpmade_Picks x5), false⟩) (b' := ⟨1, (c_palimpmade_Picks x6.2), false⟩) (H' := ⟨1, [(0, ⟨1, (c_palimpmade_Picks x6.2), false⟩)]⟩) rfl en_10 (cargs (evs rfl (evs rfl evs_nil))) rfl rfl (.cons (.inr ⟨_, rfl, rfl⟩) (.cons (.inl ⟨rfl, rfl⟩) .nil)) (ok_made_Picks_Ptrs x5 (w64 (1 + (x4.toNat : Int))) x6 hx6) rfl rfl) ?_
      refine arun_do rfl rfl rfl (ex_move (eV (v := (SL 1 c8 t1)) rfl)) ?_
      obtain ⟨x7, hx7, h⟩ := bindS h
      refine arun_do rfl rfl rfl (ex_callNew (vs := [(SL 1 c8 t1)]) (k := 1) (b := ⟨1, (c_palimpmade_Picks x7), false⟩) (H' := ⟨2, [(1, ⟨1, (c_palimpmade_Picks x7), false⟩), (0, ⟨1, (c_palimpmade_Picks x6.2), false⟩)]⟩) rfl en_9 (cargs (evs rfl evs_nil)) rfl (ok_made_Made t1 x7 hx7) rfl rfl rfl) ?_
      refine arun_do rfl rfl rfl (ex_move (eV (v := (I (w64 (1 + (x4.toNat : Int))))) rfl)) ?_
      obtain ⟨x8, hx8, h⟩ := bindS h
      refine arun_do rfl rfl rfl (ex_call1 (vs := [(NP 1 0), (I (w64 (1 + (x4.toNat : Int))))]) (vs' := [(NP 0 0), (I (w64 (1 + (x4.toNat : Int))))]) (v := (SL 6 c_api_Ptr x8.1)) (n := 1) (b := ⟨1, (c_palimpmade_Picks x7), false⟩) (b' := ⟨1, (c_palimpmade_Picks x8.2), false⟩) (H' := ⟨2, [(1, ⟨1, (c_palimpmade_Picks x8.2), false⟩), (0, ⟨1, (c_palimpmade_Picks x6.2), false⟩)]⟩) rfl en_10 (cargs (evs rfl (evs rfl evs_nil))) rfl rfl (.cons (.inr ⟨_, rfl, rfl⟩) (.cons (.inl ⟨rfl, rfl⟩) .nil)) (ok_made_Picks_Ptrs x7 (w64 (1 + (x4.toNat : Int))) x8 hx8) rfl rfl) ?_
      refine arun_do rfl rfl rfl (ex_assign (eV (v := (SL 6 c_api_Ptr x6.1)) rfl)) ?_
      refine arun_do rfl rfl rfl (ex_assign (eV (v := (SL 6 c_api_Ptr x8.1)) rfl)) ?_
      refine arun_keepE [3, 9, 10, 11] 0 0 (st' := ⟨97, 0, [(3, (U8 t3)), (9, (I (w64 (1 + (x4.toNat : Int))))), (10, (SL 6 c_api_Ptr x6.1)), (11, (SL 6 c_api_Ptr x8.1))], [], ⟨0, []⟩⟩) (by kernel_rfl) (by kernel_rfl) ?_
      show AWp _ _ _ _
      refine awp_seq ?_
      refine awp_region ?_
      refine arun_do rfl rfl rfl (ex_move (eV (v := (SL 6 c_api_Ptr x6.1)) rfl)) ?_
      obtain ⟨x9, hx9, h⟩ := bindS h
      refine arun_do rfl rfl rfl (ex_call0 (vs := [(SL 6 c_api_Ptr x6.1)]) (v := (S x9)) rfl en_11 (cargs (evs rfl evs_nil)) rfl (ok_ptr_Put x6.1 x9 hx9) rfl) ?_
      refine arun_do rfl rfl rfl (ex_move (eV (v := (SL 6 c_api_Ptr x8.1)) rfl)) ?_
      obtain ⟨x10, hx10, h⟩ := bindS h
      refine arun_do rfl rfl rfl (ex_call0 (vs := [(SL 6 c_api_Ptr x8.1)]) (v := (S x10)) rfl en_11 (cargs (evs rfl evs_nil)) rfl (ok_ptr_Put x8.1 x10 hx10) rfl) ?_
      refine arun_do rfl rfl rfl (ex_assign (eV (v := (S x9)) rfl)) ?_
      refine arun_do rfl rfl rfl (ex_assign (eV (v := (S x10)) rfl)) ?_
      refine arun_keepE [3, 9, 10, 11, 12, 13] 0 0 (st' := ⟨97, 0, [(3, (U8 t3)), (9, (I (w64 (1 + (x4.toNat : Int))))), (10, (SL 6 c_api_Ptr x6.1)), (11, (SL 6 c_api_Ptr x8.1)), (12, (S x9)), (13, (S x10))], [], ⟨0, []⟩⟩) (by kernel_rfl) (by kernel_rfl) ?_
      show AWp _ _ _ _
      refine awp_seq ?_
      refine awp_seq ?_
      refine awp_region ?_
      refine arun_do rfl rfl rfl (ex_move (eV (v := (S x9)) rfl)) ?_
      refine arun_do rfl rfl rfl (tx_lenS Try.underlying9 rfl) ?_
      refine arun_do rfl rfl rfl (ex_move (eV (v := (I (w64 (1 + (x4.toNat : Int))))) rfl)) ?_
      refine arun_do rfl rfl rfl (ex_bin (vx := (I (w64 (1 + (x4.toNat : Int))))) (vy := (I 22)) rfl rfl mulI_ok) ?_
      refine arun_do rfl rfl rfl (ex_bin (vx := (I (x9.length : Int))) (vy := (I (w64 ((w64 (1 + (x4.toNat : Int))) * 22)))) rfl rfl neqI_ok) ?_
      refine arun_keepE [3, 9, 10, 11, 12, 13, 50] 0 0 (st' := ⟨97, 0, [(3, (U8 t3)), (9, (I (w64 (1 + (x4.toNat : Int))))), (10, (SL 6 c_api_Ptr x6.1)), (11, (SL 6 c_api_Ptr x8.1)), (12, (S x9)), (13, (S x10)), (50, (Bo ((x9.length : Int) != (w64 ((w64 (1 + (x4.toNat : Int))) * 22)))))], [], ⟨0, []⟩⟩) (by kernel_rfl) (by kernel_rfl) ?_
      show AWp _ _ _ _
      rcases Bool.eq_false_or_eq_true ((x9.length : Int) != (w64 ((w64 (1 + (x4.toNat : Int))) * 22))) with hb11 | hb11
      · rw [condT hb11] at h
        refine awp_condT (boT hb11) ?_
        refine awp_seq ?_
        refine awp_region ?_
        refine arun_do rfl rfl rfl (ex_assign (eV (v := (Bo false)) rfl)) ?_
        refine arun_keepE [8] 0 0 (st' := ⟨97, 0, [(8, (Bo false))], [], ⟨0, []⟩⟩) (by kernel_rfl) (by kernel_rfl) ?_
        show AWp _ _ _ _
        refine awp_ret ?_
        cases h
        exact ares1 (rtmp rfl (eV rfl))
      · rw [condF hb11] at h
        refine awp_condF (boF hb11) ?_
        refine awp_skip ?_
        show AWp _ _ _ _
        refine awp_seq ?_
        refine awp_region ?_
        refine arun_do rfl rfl rfl (ex_move (eV (v := (S x9)) rfl)) ?_
        refine arun_do rfl rfl rfl (ex_move (eV (v := (S x10)) rfl)) ?_
        obtain ⟨x12, hx12, h⟩ := bindS h
        refine arun_do rfl rfl rfl (ex_bin (vx := (S x9)) (vy := (S x10)) rfl rfl (addS_ok hx12)) ?_
        refine arun_do rfl rfl rfl (ex_move (eV (v := (I (w64 (1 + (x4.toNat : Int))))) rfl)) ?_
        obtain ⟨x13, hx13, h⟩ := bindS h
        refine arun_do rfl rfl rfl (ex_call0 (vs := [(S x12), (I (w64 (1 + (x4.toNat : Int))))]) (v := (Value.tuple #[(SL 6 c_api_Ptr x13.1), (S x13.2.1), (Bo x13.2.2)])) rfl en_13 (cargs (evs rfl (evs rfl evs_nil))) rfl (ok_ptr_Take x12 (w64 (1 + (x4.toNat : Int))) x13 hx13) rfl) ?_
        refine arun_do rfl rfl rfl (ex_move (eV (v := (Value.tuple #[(SL 6 c_api_Ptr x13.1), (S x13.2.1), (Bo x13.2.2)])) rfl)) ?_
        refine arun_do rfl rfl rfl (ex_extract (vx := (Value.tuple #[(SL 6 c_api_Ptr x13.1), (S x13.2.1), (Bo x13.2.2)])) (v := (SL 6 c_api_Ptr x13.1)) rfl rfl) ?_
        refine arun_do rfl rfl rfl (ex_extract (vx := (Value.tuple #[(SL 6 c_api_Ptr x13.1), (S x13.2.1), (Bo x13.2.2)])) (v := (S x13.2.1)) rfl rfl) ?_
        refine arun_do rfl rfl rfl (ex_extract (vx := (Value.tuple #[(SL 6 c_api_Ptr x13.1), (S x13.2.1), (Bo x13.2.2)])) (v := (Bo x13.2.2)) rfl rfl) ?_
        refine arun_do rfl rfl rfl (ex_assign (eV (v := (SL 6 c_api_Ptr x13.1)) rfl)) ?_
        refine arun_do rfl rfl rfl (ex_assign (eV (v := (S x13.2.1)) rfl)) ?_
        refine arun_do rfl rfl rfl (ex_assign (eV (v := (Bo x13.2.2)) rfl)) ?_
        refine arun_keepE [3, 9, 10, 11, 12, 13, 14, 15, 16] 0 0 (st' := ⟨97, 0, [(3, (U8 t3)), (9, (I (w64 (1 + (x4.toNat : Int))))), (10, (SL 6 c_api_Ptr x6.1)), (11, (SL 6 c_api_Ptr x8.1)), (12, (S x9)), (13, (S x10)), (14, (SL 6 c_api_Ptr x13.1)), (15, (S x13.2.1)), (16, (Bo x13.2.2))], [], ⟨0, []⟩⟩) (by kernel_rfl) (by kernel_rfl) ?_
        show AWp _ _ _ _
        refine awp_seq ?_
        refine awp_region ?_
        refine arun_do rfl rfl rfl (ex_move (eV (v := (S x9)) rfl)) ?_
        refine arun_do rfl rfl rfl (ex_move (eV (v := (U8 t3)) rfl)) ?_
        refine arun_do rfl rfl rfl (tx_8_64 Try.underlying5 Try.underlying3 rfl) ?_
        refine arun_do rfl rfl rfl (ex_move (eV (v := (S x9)) rfl)) ?_
        refine arun_do rfl rfl rfl (tx_lenS Try.underlying9 rfl) ?_
        obtain ⟨x14, hx14, h⟩ := bindS h
        refine arun_do rfl rfl rfl (ex_bin (vx := (I (t3.toNat : Int))) (vy := (I (x9.length : Int))) rfl rfl (remI_ok hx14)) ?_
        obtain ⟨x15, hx15, h⟩ := bindS h
        refine arun_do rfl rfl rfl (tx_slS (u := x9) Try.underlying9 rfl lo0 (hiX (l := x14) rfl) hx15) ?_
        refine arun_do rfl rfl rfl (ex_move (eV (v := (I (w64 (1 + (x4.toNat : Int))))) rfl)) ?_
        obtain ⟨x16, hx16, h⟩ := bindS h
        refine arun_do rfl rfl rfl (ex_call0 (vs := [(S x15), (I (w64 (1 + (x4.toNat : Int))))]) (v := (Value.tuple #[(SL 6 c_api_Ptr x16.1), (S x16.2.1), (Bo x16.2.2)])) rfl en_13 (cargs (evs rfl (evs rfl evs_nil))) rfl (ok_ptr_Take x15 (w64 (1 + (x4.toNat : Int))) x16 hx16) rfl) ?_
        refine arun_do rfl rfl rfl (ex_move (eV (v := (Value.tuple #[(SL 6 c_api_Ptr x16.1), (S x16.2.1), (Bo x16.2.2)])) rfl)) ?_
        refine arun_do rfl rfl rfl (ex_extract (vx := (Value.tuple #[(SL 6 c_api_Ptr x16.1), (S x16.2.1), (Bo x16.2.2)])) (v := (SL 6 c_api_Ptr x16.1)) rfl rfl) ?_
        refine arun_do rfl rfl rfl (ex_extract (vx := (Value.tuple #[(SL 6 c_api_Ptr x16.1), (S x16.2.1), (Bo x16.2.2)])) (v := (S x16.2.1)) rfl rfl) ?_
        refine arun_do rfl rfl rfl (ex_extract (vx := (Value.tuple #[(SL 6 c_api_Ptr x16.1), (S x16.2.1), (Bo x16.2.2)])) (v := (Bo x16.2.2)) rfl rfl) ?_
        refine arun_do rfl rfl rfl (ex_assign (eV (v := (SL 6 c_api_Ptr x16.1)) rfl)) ?_
        refine arun_do rfl rfl rfl (ex_assign (eV (v := (S x16.2.1)) rfl)) ?_
        refine arun_do rfl rfl rfl (ex_assign (eV (v := (Bo x16.2.2)) rfl)) ?_
        refine arun_keepE [10, 11, 12, 13, 14, 15, 16, 19] 0 0 (st' := ⟨97, 0, [(10, (SL 6 c_api_Ptr x6.1)), (11, (SL 6 c_api_Ptr x8.1)), (12, (S x9)), (13, (S x10)), (14, (SL 6 c_api_Ptr x13.1)), (15, (S x13.2.1)), (16, (Bo x13.2.2)), (19, (Bo x16.2.2))], [], ⟨0, []⟩⟩) (by kernel_rfl) (by kernel_rfl) ?_
        show AWp _ _ _ _
        refine awp_seq ?_
        refine awp_region ?_
        refine arun_do rfl rfl rfl (ex_move (eV (v := (Bo x13.2.2)) rfl)) ?_
        refine arun_do rfl rfl rfl (ex_move (eV (v := (Bo x13.2.2)) rfl)) ?_
        refine arun_guard (v := (S x13.2.1)) (x13.2.2 == true) rfl rfl rfl (fun hc => ex_move (eV (v := (S x13.2.1)) rfl)) ?_
        refine arun_guard (v := (S x10)) (x13.2.2 == true) rfl rfl rfl (fun hc => ex_move (eV (v := (S x10)) rfl)) ?_
        refine arun_guard (v := (Bo (x13.2.1 == x10))) (x13.2.2 == true) rfl rfl rfl (fun hc => ex_bin (vx := (S x13.2.1)) (vy := (S x10)) (cond_of hc) (cond_of hc) eqlS_ok) ?_
        refine arun_do rfl rfl rfl (ex_pick rfl pkAnd) ?_
        refine arun_do rfl rfl rfl (ex_move (eV (v := (Bo (x13.2.2 && (x13.2.1 == x10)))) rfl)) ?_
        refine arun_guard (v := (SL 6 c_api_Ptr x13.1)) ((x13.2.2 && (x13.2.1 == x10)) == true) rfl rfl rfl (fun hc => ex_move (eV (v := (SL 6 c_api_Ptr x13.1)) rfl)) ?_
        refine arun_guard (v := (SL 6 c_api_Ptr x6.1)) ((x13.2.2 && (x13.2.1 == x10)) == true) rfl rfl rfl (fun hc => ex_move (eV (v := (SL 6 c_api_Ptr x6.1)) rfl)) ?_
        obtain ⟨x17, hx17, h⟩ := bindS h
        refine arun_guard (v := (Bo x17)) ((x13.2.2 && (x13.2.1 == x10)) == true) rfl rfl rfl (fun hc => ex_call0 (vs := [(SL 6 c_api_Ptr x13.1), (SL 6 c_api_Ptr x6.1)]) (v := (Bo x17)) rfl en_15 (cargs (evs (cond_of hc) (evs (cond_of hc) evs_nil))) rfl (ok_ref1_SamePtrs x13.1 x6.1 x17 (gd_of hc hx17)) rfl) ?_
        refine arun_do rfl rfl rfl (ex_pick rfl pkAnd) ?_
        refine arun_do rfl rfl rfl (ex_move (eV (v := (Bo ((x13.2.2 && (x13.2.1 == x10)) && x17))) rfl)) ?_
        refine arun_guard (v := (Bo x16.2.2)) (((x13.2.2 && (x13.2.1 == x10)) && x17) == true) rfl rfl rfl (fun hc => ex_move (eV (v := (Bo x16.2.2)) rfl)) ?_
        refine arun_guard (v := (Bo (!x16.2.2))) (((x13.2.2 && (x13.2.1 == x10)) && x17) == true) rfl rfl rfl (fun hc => ex_un (vx := (Bo x16.2.2)) (cond_of hc) notB_ok) ?_
        refine arun_do rfl rfl rfl (ex_pick rfl pkAnd) ?_
        refine arun_do rfl rfl rfl (ex_move (eV (v := (Bo (((x13.2.2 && (x13.2.1 == x10)) && x17) && (!x16.2.2)))) rfl)) ?_
        refine arun_guard (v := (S x9)) ((((x13.2.2 && (x13.2.1 == x10)) && x17) && (!x16.2.2)) == true) rfl rfl rfl (fun hc => ex_move (eV (v := (S x9)) rfl)) ?_
        refine arun_guard (v := (S x10)) ((((x13.2.2 && (x13.2.1 == x10)) && x17) && (!x16.2.2)) == true) rfl rfl rfl (fun hc => ex_move (eV (v := (S x10)) rfl)) ?_
        refine arun_guard (v := (Bo (x9 == x10))) ((((x13.2.2 && (x13.2.1 == x10)) && x17) && (!x16.2.2)) == true) rfl rfl rfl (fun hc => ex_bin (vx := (S x9)) (vy := (S x10)) (cond_of hc) (cond_of hc) eqlS_ok) ?_
        refine arun_guard (v := (SL 6 c_api_Ptr x6.1)) ((((x13.2.2 && (x13.2.1 == x10)) && x17) && (!x16.2.2)) == true) rfl rfl rfl (fun hc => ex_move (eV (v := (SL 6 c_api_Ptr x6.1)) rfl)) ?_
        refine arun_guard (v := (SL 6 c_api_Ptr x8.1)) ((((x13.2.2 && (x13.2.1 == x10)) && x17) && (!x16.2.2)) == true) rfl rfl rfl (fun hc => ex_move (eV (v := (SL 6 c_api_Ptr x8.1)) rfl)) ?_
        obtain ⟨x18, hx18, h⟩ := bindS h
        refine arun_guard (v := (Bo x18)) ((((x13.2.2 && (x13.2.1 == x10)) && x17) && (!x16.2.2)) == true) rfl rfl rfl (fun hc => ex_call0 (vs := [(SL 6 c_api_Ptr x6.1), (SL 6 c_api_Ptr x8.1)]) (v := (Bo x18)) rfl en_15 (cargs (evs (cond_of hc) (evs (cond_of hc) evs_nil))) rfl (ok_ref1_SamePtrs x6.1 x8.1 x18 (gd_of hc hx18)) rfl) ?_
        refine arun_guard (v := (Bo ((x9 == x10) == x18))) ((((x13.2.2 && (x13.2.1 == x10)) && x17) && (!x16.2.2)) == true) rfl rfl rfl (fun hc => ex_bin (vx := (Bo (x9 == x10))) (vy := (Bo x18)) (cond_of hc) (cond_of hc) (eqlB_ok Try.underlying4)) ?_
        refine arun_do rfl rfl rfl (ex_pick rfl pkAnd) ?_
        refine arun_do rfl rfl rfl (ex_assign (eV (v := (Bo ((((x13.2.2 && (x13.2.1 == x10)) && x17) && (!x16.2.2)) && ((x9 == x10) == x18)))) rfl)) ?_
        refine arun_keepE [8] 0 0 (st' := ⟨97, 0, [(8, (Bo ((((x13.2.2 && (x13.2.1 == x10)) && x17) && (!x16.2.2)) && ((x9 == x10) == x18))))], [], ⟨0, []⟩⟩) (by kernel_rfl) (by kernel_rfl) ?_
        show AWp _ _ _ _
        refine awp_ret ?_
        cases h
        exact ares1 (rtmp rfl (eV rfl))

noncomputable def M_law4_PtrForms_l2 (c_1 : (Int → Option Bool)) : Nat → Int → Option Bool
  | 0, _ => none
  | n2 + 1, v10 =>
  cond (decide (v10 < (([(G_api_Ptr.mk (-1) 0 (A4.mk 0 0 0 0)), (G_api_Ptr.mk 65536 0 (A4.mk 0 0 0 0)), (G_api_Ptr.mk 0 1 (A4.mk 0 0 0 0)), (G_api_Ptr.mk 0 0 (A4.mk 1 0 0 0)), (G_api_Ptr.mk 1 (-1) (A4.mk 0 0 0 0)), (G_api_Ptr.mk 1 1073741825 (A4.mk 0 0 0 0))] : List G_api_Ptr).length : Int))) (Option.bind (getI ([(G_api_Ptr.mk (-1) 0 (A4.mk 0 0 0 0)), (G_api_Ptr.mk 65536 0 (A4.mk 0 0 0 0)), (G_api_Ptr.mk 0 1 (A4.mk 0 0 0 0)), (G_api_Ptr.mk 0 0 (A4.mk 1 0 0 0)), (G_api_Ptr.mk 1 (-1) (A4.mk 0 0 0 0)), (G_api_Ptr.mk 1 1073741825 (A4.mk 0 0 0 0))] : List G_api_Ptr) v10) fun (x12 : G_api_Ptr) => Option.bind (M_ptr_May x12) fun (x13 : Bool) => Option.bind (gd (x13 == false) (getI ([(G_api_Ptr.mk (-1) 0 (A4.mk 0 0 0 0)), (G_api_Ptr.mk 65536 0 (A4.mk 0 0 0 0)), (G_api_Ptr.mk 0 1 (A4.mk 0 0 0 0)), (G_api_Ptr.mk 0 0 (A4.mk 1 0 0 0)), (G_api_Ptr.mk 1 (-1) (A4.mk 0 0 0 0)), (G_api_Ptr.mk 1 1073741825 (A4.mk 0 0 0 0))] : List G_api_Ptr) v10)) fun (x14 : G_api_Ptr) => Option.bind (gd (x13 == false) (M_ptr_Put ([x14] : List G_api_Ptr))) fun (x15 : Str) => Option.bind (gd ((x13 || (x15 != [])) == false) (getI ([(G_api_Ptr.mk (-1) 0 (A4.mk 0 0 0 0)), (G_api_Ptr.mk 65536 0 (A4.mk 0 0 0 0)), (G_api_Ptr.mk 0 1 (A4.mk 0 0 0 0)), (G_api_Ptr.mk 0 0 (A4.mk 1 0 0 0)), (G_api_Ptr.mk 1 (-1) (A4.mk 0 0 0 0)), (G_api_Ptr.mk 1 1073741825 (A4.mk 0 0 0 0))] : List G_api_Ptr) v10)) fun (x16 : G_api_Ptr) => Option.bind (gd ((x13 || (x15 != [])) == false) (M_ptr_Put ([(G_api_Ptr.mk 0 0 (A4.mk 0 0 0 0)), x16] : List G_api_Ptr))) fun (x17 : Str) => cond ((x13 || (x15 != [])) || (x17 != [])) (some false) ((M_law4_PtrForms_l2 c_1 n2) (w64 (v10 + 1)))) (Option.bind (M_ptr_Take ([97, 98] : Str) (-1)) fun (x19 : ((List G_api_Ptr) × Str × Bool)) => Option.bind (M_ptr_Put ([(G_api_Ptr.mk 258 1 (A4.mk 16909060 0 0 0))] : List G_api_Ptr)) fun (x20 : Str) => Option.bind (gd (((x19.2.2 && ((x19.1.length : Int) == 0)) && (x19.2.1 == ([97, 98] : Str))) == true) (makeL 1 12 0)) fun (x21 : List UInt8) => Option.bind (gd (((x19.2.2 && ((x19.1.length : Int) == 0)) && (x19.2.1 == ([97, 98] : Str))) == true) (addS ([1, 2, 0, 0, 0, 1, 1, 2, 3, 4] : Str) x21)) fun (x22 : Str) => Option.bind (gd ((((x19.2.2 && ((x19.1.length : Int) == 0)) && (x19.2.1 == ([97, 98] : Str))) && (x20 == x22)) == true) (M_ptr_Put ([] : (List G_api_Ptr)))) fun (x23 : Str) => some ((((x19.2.2 && ((x19.1.length : Int) == 0)) && (x19.2.1 == ([97, 98] : Str))) && (x20 == x22)) && (x23 == [])))
noncomputable def M_law4_PtrForms_l1 : Nat → Int → Option Bool
  | 0, _ => none
  | n1 + 1, v3 =>
  cond (decide (v3 < (([(G_api_Ptr.mk 0 0 (A4.mk 0 0 0 0)), (G_api_Ptr.mk 1 0 (A4.mk 0 0 0 0)), (G_api_Ptr.mk 65535 1073741824 (A4.mk 4294967295 0 1 2))] : List G_api_Ptr).length : Int))) (Option.bind (getI ([(G_api_Ptr.mk 0 0 (A4.mk 0 0 0 0)), (G_api_Ptr.mk 1 0 (A4.mk 0 0 0 0)), (G_api_Ptr.mk 65535 1073741824 (A4.mk 4294967295 0 1 2))] : List G_api_Ptr) v3) fun (x5 : G_api_Ptr) => Option.bind (M_ptr_May x5) fun (x6 : Bool) => Option.bind (gd ((!x6) == false) (getI ([(G_api_Ptr.mk 0 0 (A4.mk 0 0 0 0)), (G_api_Ptr.mk 1 0 (A4.mk 0 0 0 0)), (G_api_Ptr.mk 65535 1073741824 (A4.mk 4294967295 0 1 2))] : List G_api_Ptr) v3)) fun (x7 : G_api_Ptr) => Option.bind (gd ((!x6) == false) (M_ptr_Put ([x7] : List G_api_Ptr))) fun (x8 : Str) => cond ((!x6) || ((x8.length : Int) != 22)) (some false) ((M_law4_PtrForms_l1 n1) (w64 (v3 + 1)))) (M_law4_PtrForms_l2 (M_law4_PtrForms_l1 n1) fuel 0)
noncomputable def M_law4_PtrForms : Option Bool :=
  Option.bind (M_law4_begun) fun (x1 : Bool) => cond (!x1) (some false) (M_law4_PtrForms_l1 fuel 0)
theorem ok_law4_PtrForms (r : Bool) (h : M_law4_PtrForms = some r) : FFn Try.prog 5 [] (Bo r) := by
  refine FFn.of_body (n := 108) Try.func5 rfl Try.ntmps5 rfl rfl rfl rfl ?_
  show AWp _ _ _ ⟨108, 0, [], [], ⟨0, []⟩⟩
  unfold M_law4_PtrForms at h
  refine awp_seq ?_
  refine awp_region ?_
  refine arun_do rfl rfl rfl (ex_assign (eV (v := (Bo false)) rfl)) ?_
  refine arun_keepE [] 0 0 (st' := ⟨108, 0, [], [], ⟨0, []⟩⟩) (by kernel_rfl) (by kernel_rfl) ?_
  show AWp _ _ _ _
  refine awp_seq ?_
  refine awp_seq ?_
  refine awp_region ?_
  obtain ⟨x1, hx1, h⟩ := bindS h
  refine arun_do rfl rfl rfl (ex_call0 (vs := []) (v := (Bo x1)) rfl en_8 (cargs evs_nil) rfl (ok_law4_begun  x1 hx1) rfl) ?_
  refine arun_do rfl rfl rfl (ex_un (vx := (Bo x1)) rfl notB_ok) ?_
  refine arun_keepE [10] 0 0 (st' := ⟨108, 0, [(10, (Bo (!x1)))], [], ⟨0, []⟩⟩) (by kernel_rfl) (by kernel_rfl) ?_
  show AWp _ _ _ _
  rcases Bool.eq_false_or_eq_true (!x1) with hb2 | hb2
  · rw [condT hb2] at h
    refine awp_condT (boT hb2) ?_
    refine awp_seq ?_
    refine awp_region ?_
    refine arun_do rfl rfl rfl (ex_assign (eV (v := (Bo false)) rfl)) ?_
    refine arun_keepE [0] 0 0 (st' := ⟨108, 0, [(0, (Bo false))], [], ⟨0, []⟩⟩) (by kernel_rfl) (by kernel_rfl) ?_
    show AWp _ _ _ _
    refine awp_ret ?_
    cases h
    exact ares1 (rtmp rfl (eV rfl))
  · rw [condF hb2] at h
    refine awp_condF (boF hb2) ?_
    refine awp_skip ?_
    show AWp _ _ _ _
    refine awp_seq ?_
    refine awp_region ?_
    refine arun_do rfl rfl rfl (ex_build (qs := []) (v := (Value.agg (c_api_Ptr (G_api_Ptr.mk 0 0 (A4.mk 0 0 0 0))).toArray)) evp_nil (by kernel_rfl)) ?_
    refine arun_do rfl rfl rfl (ex_build (qs := [(0, (I 1))]) (v := (Value.agg (c_api_Ptr (G_api_Ptr.mk 1 0 (A4.mk 0 0 0 0))).toArray)) (evp rfl evp_nil) (by kernel_rfl)) ?_
    refine arun_do rfl rfl rfl (ex_build (qs := [(0, (U32 4294967295)), (1, (U32 0)), (2, (U32 1)), (3, (U32 2))]) (v := (Value.agg ((cA4 c32) (A4.mk 4294967295 0 1 2)).toArray)) (evp rfl (evp rfl (evp rfl (evp rfl evp_nil)))) (by kernel_rfl)) ?_
    refine arun_do rfl rfl rfl (ex_build (qs := [(0, (I 65535)), (1, (I 1073741824)), (2, (Value.agg ((cA4 c32) (A4.mk 4294967295 0 1 2)).toArray))]) (v := (Value.agg (c_api_Ptr (G_api_Ptr.mk 65535 1073741824 (A4.mk 4294967295 0 1 2))).toArray)) (evp rfl (evp rfl (evp rfl evp_nil))) (by kernel_rfl)) ?_
    refine arun_do rfl rfl rfl (ex_buildSliceD (qs := [(0, (Value.agg (c_api_Ptr (G_api_Ptr.mk 0 0 (A4.mk 0 0 0 0))).toArray)), (1, (Value.agg (c_api_Ptr (G_api_Ptr.mk 1 0 (A4.mk 0 0 0 0))).toArray)), (2, (Value.agg (c_api_Ptr (G_api_Ptr.mk 65535 1073741824 (A4.mk 4294967295 0 1 2))).toArray))]) (cells := (([(G_api_Ptr.mk 0 0 (A4.mk 0 0 0 0)), (G_api_Ptr.mk 1 0 (A4.mk 0 0 0 0)), (G_api_Ptr.mk 65535 1073741824 (A4.mk 4294967295 0 1 2))] : List G_api_Ptr).flatMap c_api_Ptr)) Try.underlying29 s_26 (by decide) (evp rfl (evp rfl (evp rfl evp_nil))) rfl (by kernel_rfl) (by kernel_rfl) (by kernel_rfl)) ?_
    refine arun_do rfl rfl rfl (ex_assign (eV (v := (SL 6 c_api_Ptr ([(G_api_Ptr.mk 0 0 (A4.mk 0 0 0 0)), (G_api_Ptr.mk 1 0 (A4.mk 0 0 0 0)), (G_api_Ptr.mk 65535 1073741824 (A4.mk 4294967295 0 1 2))] : List G_api_Ptr))) rfl)) ?_
    refine arun_keepE [1] 0 0 (st' := ⟨108, 0, [(1, (SL 6 c_api_Ptr ([(G_api_Ptr.mk 0 0 (A4.mk 0 0 0 0)), (G_api_Ptr.mk 1 0 (A4.mk 0 0 0 0)), (G_api_Ptr.mk 65535 1073741824 (A4.mk 4294967295 0 1 2))] : List G_api_Ptr)))], [], ⟨0, []⟩⟩) (by kernel_rfl) (by kernel_rfl) ?_
    show AWp _ _ _ _
    refine awp_seq ?_
    refine awp_region ?_
    refine arun_do rfl rfl rfl (ex_build (qs := [(0, (I (-1)))]) (v := (Value.agg (c_api_Ptr (G_api_Ptr.mk (-1) 0 (A4.mk 0 0 0 0))).toArray)) (evp rfl evp_nil) (by kernel_rfl)) ?_
    refine arun_do rfl rfl rfl (ex_build (qs := [(0, (I 65536))]) (v := (Value.agg (c_api_Ptr (G_api_Ptr.mk 65536 0 (A4.mk 0 0 0 0))).toArray)) (evp rfl evp_nil) (by kernel_rfl)) ?_
    refine arun_do rfl rfl rfl (ex_build (qs := [(1, (I 1))]) (v := (Value.agg (c_api_Ptr (G_api_Ptr.mk 0 1 (A4.mk 0 0 0 0))).toArray)) (evp rfl evp_nil) (by kernel_rfl)) ?_
    refine arun_do rfl rfl rfl (ex_build (qs := [(0, (U32 1))]) (v := (Value.agg ((cA4 c32) (A4.mk 1 0 0 0)).toArray)) (evp rfl evp_nil) (by kernel_rfl)) ?_
    refine arun_do rfl rfl rfl (ex_build (qs := [(2, (Value.agg ((cA4 c32) (A4.mk 1 0 0 0)).toArray))]) (v := (Value.agg (c_api_Ptr (G_api_Ptr.mk 0 0 (A4.mk 1 0 0 0))).toArray)) (evp rfl evp_nil) (by kernel_rfl)) ?_
    refine arun_do rfl rfl rfl (ex_build (qs := [(0, (I 1)), (1, (I (-1)))]) (v := (Value.agg (c_api_Ptr (G_api_Ptr.mk 1 (-1) (A4.mk 0 0 0 0))).toArray)) (evp rfl (evp rfl evp_nil)) (by kernel_rfl)) ?_
    refine arun_do rfl rfl rfl (ex_build (qs := [(0, (I 1)), (1, (I 1073741825))]) (v := (Value.agg (c_api_Ptr (G_api_Ptr.mk 1 1073741825 (A4.mk 0 0 0 0))).toArray)) (evp rfl (evp rfl evp_nil)) (by kernel_rfl)) ?_
    refine arun_do rfl rfl rfl (ex_buildSliceD (qs := [(0, (Value.agg (c_api_Ptr (G_api_Ptr.mk (-1) 0 (A4.mk 0 0 0 0))).toArray)), (1, (Value.agg (c_api_Ptr (G_api_Ptr.mk 65536 0 (A4.mk 0 0 0 0))).toArray)), (2, (Value.agg (c_api_Ptr (G_api_Ptr.mk 0 1 (A4.mk 0 0 0 0))).toArray)), (3, (Value.agg (c_api_Ptr (G_api_Ptr.mk 0 0 (A4.mk 1 0 0 0))).toArray)), (4, (Value.agg (c_api_Ptr (G_api_Ptr.mk 1 (-1) (A4.mk 0 0 0 0))).toArray)), (5, (Value.agg (c_api_Ptr (G_api_Ptr.mk 1 1073741825 (A4.mk 0 0 0 0))).toArray))]) (cells := (([(G_api_Ptr.mk (-1) 0 (A4.mk 0 0 0 0)), (G_api_Ptr.mk 65536 0 (A4.mk 0 0 0 0)), (G_api_Ptr.mk 0 1 (A4.mk 0 0 0 0)), (G_api_Ptr.mk 0 0 (A4.mk 1 0 0 0)), (G_api_Ptr.mk 1 (-1) (A4.mk 0 0 0 0)), (G_api_Ptr.mk 1 1073741825 (A4.mk 0 0 0 0))] : List G_api_Ptr).flatMap c_api_Ptr)) Try.underlying29 s_26 (by decide) (evp rfl (evp rfl (evp rfl (evp rfl (evp rfl (evp rfl evp_nil)))))) rfl (by kernel_rfl) (by kernel_rfl) (by kernel_rfl)) ?_
    refine arun_do rfl rfl rfl (ex_assign (eV (v := (SL 6 c_api_Ptr ([(G_api_Ptr.mk (-1) 0 (A4.mk 0 0 0 0)), (G_api_Ptr.mk 65536 0 (A4.mk 0 0 0 0)), (G_api_Ptr.mk 0 1 (A4.mk 0 0 0 0)), (G_api_Ptr.mk 0 0 (A4.mk 1 0 0 0)), (G_api_Ptr.mk 1 (-1) (A4.mk 0 0 0 0)), (G_api_Ptr.mk 1 1073741825 (A4.mk 0 0 0 0))] : List G_api_Ptr))) rfl)) ?_
    refine arun_keepE [1, 2] 0 0 (st' := ⟨108, 0, [(1, (SL 6 c_api_Ptr ([(G_api_Ptr.mk 0 0 (A4.mk 0 0 0 0)), (G_api_Ptr.mk 1 0 (A4.mk 0 0 0 0)), (G_api_Ptr.mk 65535 1073741824 (A4.mk 4294967295 0 1 2))] : List G_api_Ptr))), (2, (SL 6 c_api_Ptr ([(G_api_Ptr.mk (-1) 0 (A4.mk 0 0 0 0)), (G_api_Ptr.mk 65536 0 (A4.mk 0 0 0 0)), (G_api_Ptr.mk 0 1 (A4.mk 0 0 0 0)), (G_api_Ptr.mk 0 0 (A4.mk 1 0 0 0)), (G_api_Ptr.mk 1 (-1) (A4.mk 0 0 0 0)), (G_api_Ptr.mk 1 1073741825 (A4.mk 0 0 0 0))] : List G_api_Ptr)))], [], ⟨0, []⟩⟩) (by kernel_rfl) (by kernel_rfl) ?_
    show AWp _ _ _ _
    refine awp_seq ?_
    refine awp_seq ?_
    refine awp_region ?_
    refine arun_do rfl rfl rfl (ex_assign (eV (v := (I 0)) rfl)) ?_
    refine arun_keepE [1, 2, 3] 0 0 (st' := ⟨108, 0, [(1, (SL 6 c_api_Ptr ([(G_api_Ptr.mk 0 0 (A4.mk 0 0 0 0)), (G_api_Ptr.mk 1 0 (A4.mk 0 0 0 0)), (G_api_Ptr.mk 65535 1073741824 (A4.mk 4294967295 0 1 2))] : List G_api_Ptr))), (2, (SL 6 c_api_Ptr ([(G_api_Ptr.mk (-1) 0 (A4.mk 0 0 0 0)), (G_api_Ptr.mk 65536 0 (A4.mk 0 0 0 0)), (G_api_Ptr.mk 0 1 (A4.mk 0 0 0 0)), (G_api_Ptr.mk 0 0 (A4.mk 1 0 0 0)), (G_api_Ptr.mk 1 (-1) (A4.mk 0 0 0 0)), (G_api_Ptr.mk 1 1073741825 (A4.mk 0 0 0 0))] : List G_api_Ptr))), (3, (I 0))], [], ⟨0, []⟩⟩) (by kernel_rfl) (by kernel_rfl) ?_
    show AWp _ _ _ _
    refine awp_block ?_
    refine awp_loop (fun n s => ∃ (v3 : Int), s = ⟨108, 0, [(1, (SL 6 c_api_Ptr ([(G_api_Ptr.mk 0 0 (A4.mk 0 0 0 0)), (G_api_Ptr.mk 1 0 (A4.mk 0 0 0 0)), (G_api_Ptr.mk 65535 1073741824 (A4.mk 4294967295 0 1 2))] : List G_api_Ptr))), (2, (SL 6 c_api_Ptr ([(G_api_Ptr.mk (-1) 0 (A4.mk 0 0 0 0)), (G_api_Ptr.mk 65536 0 (A4.mk 0 0 0 0)), (G_api_Ptr.mk 0 1 (A4.mk 0 0 0 0)), (G_api_Ptr.mk 0 0 (A4.mk 1 0 0 0)), (G_api_Ptr.mk 1 (-1) (A4.mk 0 0 0 0)), (G_api_Ptr.mk 1 1073741825 (A4.mk 0 0 0 0))] : List G_api_Ptr))), (3, (I v3))], [], ⟨0, []⟩⟩ ∧ M_law4_PtrForms_l1 n v3 = some r) fuel (Exists.intro 0 (And.intro rfl h)) ?_
    rintro n s ⟨v3, rfl, h⟩ -
    cases n with
    | zero => cases h
    | succ n1 =>
      unfold M_law4_PtrForms_l1 at h
      refine awp_seq ?_
      refine awp_seq ?_
      refine awp_region ?_
      refine arun_do rfl rfl rfl (ex_move (eV (v := (I v3)) rfl)) ?_
      refine arun_do rfl rfl rfl (ex_move (eV (v := (SL 6 c_api_Ptr ([(G_api_Ptr.mk 0 0 (A4.mk 0 0 0 0)), (G_api_Ptr.mk 1 0 (A4.mk 0 0 0 0)), (G_api_Ptr.mk 65535 1073741824 (A4.mk 4294967295 0 1 2))] : List G_api_Ptr))) rfl)) ?_
      refine arun_do rfl rfl rfl (tx_lenD (xs := ([(G_api_Ptr.mk 0 0 (A4.mk 0 0 0 0)), (G_api_Ptr.mk 1 0 (A4.mk 0 0 0 0)), (G_api_Ptr.mk 65535 1073741824 (A4.mk 4294967295 0 1 2))] : List G_api_Ptr)) ce_api_Ptr Try.underlying29 rfl) ?_
      refine arun_do rfl rfl rfl (ex_bin (vx := (I v3)) (vy := (I (([(G_api_Ptr.mk 0 0 (A4.mk 0 0 0 0)), (G_api_Ptr.mk 1 0 (A4.mk 0 0 0 0)), (G_api_Ptr.mk 65535 1073741824 (A4.mk 4294967295 0 1 2))] : List G_api_Ptr).length : Int))) rfl rfl lssI_ok) ?_
      refine arun_keepE [1, 2, 3, 27] 0 0 (st' := ⟨108, 0, [(1, (SL 6 c_api_Ptr ([(G_api_Ptr.mk 0 0 (A4.mk 0 0 0 0)), (G_api_Ptr.mk 1 0 (A4.mk 0 0 0 0)), (G_api_Ptr.mk 65535 1073741824 (A4.mk 4294967295 0 1 2))] : List G_api_Ptr))), (2, (SL 6 c_api_Ptr ([(G_api_Ptr.mk (-1) 0 (A4.mk 0 0 0 0)), (G_api_Ptr.mk 65536 0 (A4.mk 0 0 0 0)), (G_api_Ptr.mk 0 1 (A4.mk 0 0 0 0)), (G_api_Ptr.mk 0 0 (A4.mk 1 0 0 0)), (G_api_Ptr.mk 1 (-1) (A4.mk 0 0 0 0)), (G_api_Ptr.mk 1 1073741825 (A4.mk 0 0 0 0))] : List G_api_Ptr))), (3, (I v3)), (27, (Bo (decide (v3 < (([(G_api_Ptr.mk 0 0 (A4.mk 0 0 0 0)), (G_api_Ptr.mk 1 0 (A4.mk 0 0 0 0)), (G_api_Ptr.mk 65535 1073741824 (A4.mk 4294967295 0 1 2))] : List G_api_Ptr).length : Int)))))], [], ⟨0, []⟩⟩) (by kernel_rfl) (by kernel_rfl) ?_
      show AWp _ _ _ _
      rcases Bool.eq_false_or_eq_true (decide (v3 < (([(G_api_Ptr.mk 0 0 (A4.mk 0 0 0 0)), (G_api_Ptr.mk 1 0 (A4.mk 0 0 0 0)), (G_api_Ptr.mk 65535 1073741824 (A4.mk 4294967295 0 1 2))] : List G_api_Ptr).length : Int))) with hb4 | hb4
      · rw [condT hb4] at h
        refine awp_condT (boT hb4) ?_
        refine awp_skip ?_
        show AWp _ _ _ _
        refine awp_seq ?_
        refine awp_block ?_
        refine awp_seq ?_
        refine awp_region ?_
        refine arun_do rfl rfl rfl (ex_move (eV (v := (SL 6 c_api_Ptr ([(G_api_Ptr.mk 0 0 (A4.mk 0 0 0 0)), (G_api_Ptr.mk 1 0 (A4.mk 0 0 0 0)), (G_api_Ptr.mk 65535 1073741824 (A4.mk 4294967295 0 1 2))] : List G_api_Ptr))) rfl)) ?_
        refine arun_do rfl rfl rfl (ex_move (eV (v := (I v3)) rfl)) ?_
        obtain ⟨x5, hx5, h⟩ := bindS h
        refine arun_do rfl rfl rfl (tx_idxD (c := c_api_Ptr) (xs := ([(G_api_Ptr.mk 0 0 (A4.mk 0 0 0 0)), (G_api_Ptr.mk 1 0 (A4.mk 0 0 0 0)), (G_api_Ptr.mk 65535 1073741824 (A4.mk 4294967295 0 1 2))] : List G_api_Ptr)) (i := v3) ce_api_Ptr Try.underlying29 s_26 rfl rfl hx5) ?_
        refine arun_do rfl rfl rfl (tx_ldDA (vs := (c_api_Ptr x5)) Try.underlying26 rfl s_26 (by decide) rfl (Nat.le_of_ble_eq_true rfl) rfl) ?_
        obtain ⟨x6, hx6, h⟩ := bindS h
        refine arun_do rfl rfl rfl (ex_call0 (vs := [(Value.agg (c_api_Ptr x5).toArray)]) (v := (Bo x6)) rfl en_17 (cargs (evs rfl evs_nil)) rfl (ok_ptr_May x5 x6 hx6) rfl) ?_
        refine arun_do rfl rfl rfl (ex_un (vx := (Bo x6)) rfl notB_ok) ?_
        refine arun_do rfl rfl rfl (ex_move (eV (v := (Bo (!x6))) rfl)) ?_
        refine arun_guard (v := (SL 6 c_api_Ptr ([(G_api_Ptr.mk 0 0 (A4.mk 0 0 0 0)), (G_api_Ptr.mk 1 0 (A4.mk 0 0 0 0)), (G_api_Ptr.mk 65535 1073741824 (A4.mk 4294967295 0 1 2))] : List G_api_Ptr))) ((!x6) == false) rfl rfl rfl (fun hc => ex_move (eV (v := (SL 6 c_api_Ptr ([(G_api_Ptr.mk 0 0 (A4.mk 0 0 0 0)), (G_api_Ptr.mk 1 0 (A4.mk 0 0 0 0)), (G_api_Ptr.mk 65535 1073741824 (A4.mk 4294967295 0 1 2))] : List G_api_Ptr))) rfl)) ?_
        refine arun_guard (v := (I v3)) ((!x6) == false) rfl rfl rfl (fun hc => ex_move (eV (v := (I v3)) rfl)) ?_
        obtain ⟨x7, hx7, h⟩ := bindS h
        refine arun_guard (v := (DP (c_api_Ptr x7))) ((!x6) == false) rfl rfl rfl (fun hc => tx_idxD (c := c_api_Ptr) (xs := ([(G_api_Ptr.mk 0 0 (A4.mk 0 0 0 0)), (G_api_Ptr.mk 1 0 (A4.mk 0 0 0 0)), (G_api_Ptr.mk 65535 1073741824 (A4.mk 4294967295 0 1 2))] : List G_api_Ptr)) (i := v3) ce_api_Ptr Try.underlying29 s_26 (cond_of hc) (cond_of hc) (gd_of hc hx7)) ?_
        refine arun_guard (v := (Value.agg (c_api_Ptr x7).toArray)) ((!x6) == false) rfl rfl rfl (fun hc => tx_ldDA (vs := (c_api_Ptr x7)) Try.underlying26 rfl s_26 (by decide) (cond_of hc) (Nat.le_of_ble_eq_true rfl) rfl) ?_
        refine arun_guard (v := (SL 6 c_api_Ptr ([x7] : List G_api_Ptr))) ((!x6) == false) rfl rfl rfl (fun hc => ex_buildSliceD (qs := [(0, (Value.agg (c_api_Ptr x7).toArray))]) (cells := (([x7] : List G_api_Ptr).flatMap c_api_Ptr)) Try.underlying29 s_26 (by decide) (evp (cond_of hc) evp_nil) rfl (by kernel_rfl) (by kernel_rfl) (by kernel_rfl)) ?_
        obtain ⟨x8, hx8, h⟩ := bindS h
        refine arun_guard (v := (S x8)) ((!x6) == false) rfl rfl rfl (fun hc => ex_call0 (vs := [(SL 6 c_api_Ptr ([x7] : List G_api_Ptr))]) (v := (S x8)) rfl en_11 (cargs (evs (cond_of hc) evs_nil)) rfl (ok_ptr_Put ([x7] : List G_api_Ptr) x8 (gd_of hc hx8)) rfl) ?_
        refine arun_guard (v := (I (x8.length : Int))) ((!x6) == false) rfl rfl rfl (fun hc => tx_lenS Try.underlying9 (cond_of hc)) ?_
        refine arun_guard (v := (Bo ((x8.length : Int) != 22))) ((!x6) == false) rfl rfl rfl (fun hc => ex_bin (vx := (I (x8.length : Int))) (vy := (I 22)) (cond_of hc) rfl neqI_ok) ?_
        refine arun_do rfl rfl rfl (ex_pick rfl pkOr) ?_
        refine arun_keepE [1, 2, 3, 45] 0 0 (st' := ⟨108, 0, [(1, (SL 6 c_api_Ptr ([(G_api_Ptr.mk 0 0 (A4.mk 0 0 0 0)), (G_api_Ptr.mk 1 0 (A4.mk 0 0 0 0)), (G_api_Ptr.mk 65535 1073741824 (A4.mk 4294967295 0 1 2))] : List G_api_Ptr))), (2, (SL 6 c_api_Ptr ([(G_api_Ptr.mk (-1) 0 (A4.mk 0 0 0 0)), (G_api_Ptr.mk 65536 0 (A4.mk 0 0 0 0)), (G_api_Ptr.mk 0 1 (A4.mk 0 0 0 0)), (G_api_Ptr.mk 0 0 (A4.mk 1 0 0 0)), (G_api_Ptr.mk 1 (-1) (A4.mk 0 0 0 0)), (G_api_Ptr.mk 1 1073741825 (A4.mk 0 0 0 0))] : List G_api_Ptr))), (3, (I v3)), (45, (Bo ((!x6) || ((x8.length : Int) != 22))))], [], ⟨0, []⟩⟩) (by kernel_rfl) (by kernel_rfl) ?_
        show AWp _ _ _ _
        rcases Bool.eq_false_or_eq_true ((!x6) || ((x8.length : Int) != 22)) with hb9 | hb9
        · rw [condT hb9] at h
          refine awp_condT (boT hb9) ?_
          refine awp_seq ?_
          refine awp_region ?_
          refine arun_do rfl rfl rfl (ex_assign (eV (v := (Bo false)) rfl)) ?_
          refine arun_keepE [0] 0 0 (st' := ⟨108, 0, [(0, (Bo false))], [], ⟨0, []⟩⟩) (by kernel_rfl) (by kernel_rfl) ?_
          show AWp _ _ _ _
          refine awp_ret ?_
          cases h
          exact ares1 (rtmp rfl (eV rfl))
        · rw [condF hb9] at h
          refine awp_condF (boF hb9) ?_
          refine awp_skip ?_
          show AWp _ _ _ _
          refine awp_region ?_
          refine arun_do rfl rfl rfl (ex_move (eV (v := (I v3)) rfl)) ?_
          refine arun_do rfl rfl rfl (ex_bin (vx := (I v3)) (vy := (I 1)) rfl rfl addI_ok) ?_
          refine arun_do rfl rfl rfl (ex_assign (eV (v := (I (w64 (v3 + 1)))) rfl)) ?_
          refine arun_keepE [1, 2, 3] 0 0 (st' := ⟨108, 0, [(1, (SL 6 c_api_Ptr ([(G_api_Ptr.mk 0 0 (A4.mk 0 0 0 0)), (G_api_Ptr.mk 1 0 (A4.mk 0 0 0 0)), (G_api_Ptr.mk 65535 1073741824 (A4.mk 4294967295 0 1 2))] : List G_api_Ptr))), (2, (SL 6 c_api_Ptr ([(G_api_Ptr.mk (-1) 0 (A4.mk 0 0 0 0)), (G_api_Ptr.mk 65536 0 (A4.mk 0 0 0 0)), (G_api_Ptr.mk 0 1 (A4.mk 0 0 0 0)), (G_api_Ptr.mk 0 0 (A4.mk 1 0 0 0)), (G_api_Ptr.mk 1 (-1) (A4.mk 0 0 0 0)), (G_api_Ptr.mk 1 1073741825 (A4.mk 0 0 0 0))] : List G_api_Ptr))), (3, (I (w64 (v3 + 1))))], [], ⟨0, []⟩⟩) (by kernel_rfl) (by kernel_rfl) ?_
          exact Exists.intro n1 (And.intro (Nat.lt_succ_self _) (Exists.intro (w64 (v3 + 1)) (And.intro rfl h)))
      · rw [condF hb4] at h
        refine awp_condF (boF hb4) ?_
        refine awp_exit ?_
        show AWp _ _ _ _
        refine awp_seq ?_
        refine awp_seq ?_
        refine awp_region ?_
        refine arun_do rfl rfl rfl (ex_assign (eV (v := (I 0)) rfl)) ?_
        refine arun_keepE [2, 4] 0 0 (st' := ⟨108, 0, [(2, (SL 6 c_api_Ptr ([(G_api_Ptr.mk (-1) 0 (A4.mk 0 0 0 0)), (G_api_Ptr.mk 65536 0 (A4.mk 0 0 0 0)), (G_api_Ptr.mk 0 1 (A4.mk 0 0 0 0)), (G_api_Ptr.mk 0 0 (A4.mk 1 0 0 0)), (G_api_Ptr.mk 1 (-1) (A4.mk 0 0 0 0)), (G_api_Ptr.mk 1 1073741825 (A4.mk 0 0 0 0))] : List G_api_Ptr))), (4, (I 0))], [], ⟨0, []⟩⟩) (by kernel_rfl) (by kernel_rfl) ?_
        show AWp _ _ _ _
        refine awp_block ?_
        refine awp_loop (fun n s => ∃ (v10 : Int), s = ⟨108, 0, [(2, (SL 6 c_api_Ptr ([(G_api_Ptr.mk (-1) 0 (A4.mk 0 0 0 0)), (G_api_Ptr.mk 65536 0 (A4.mk 0 0 0 0)), (G_api_Ptr.mk 0 1 (A4.mk 0 0 0 0)), (G_api_Ptr.mk 0 0 (A4.mk 1 0 0 0)), (G_api_Ptr.mk 1 (-1) (A4.mk 0 0 0 0)), (G_api_Ptr.mk 1 1073741825 (A4.mk 0 0 0 0))] : List G_api_Ptr))), (4, (I v10))], [], ⟨0, []⟩⟩ ∧ M_law4_PtrForms_l2 (M_law4_PtrForms_l1 n1) n v10 = some r) fuel (Exists.intro 0 (And.intro rfl h)) ?_
        rintro n s ⟨v10, rfl, h⟩ -
        cases n with
        | zero => cases h
        | succ n2 =>
          unfold M_law4_PtrForms_l2 at h
          refine awp_seq ?_
          refine awp_seq ?_
          refine awp_region ?_
          refine arun_do rfl rfl rfl (ex_move (eV (v := (I v10)) rfl)) ?_
          refine arun_do rfl rfl rfl (ex_move (eV (v := (SL 6 c_api_Ptr ([(G_api_Ptr.mk (-1) 0 (A4.mk 0 0 0 0)), (G_api_Ptr.mk 65536 0 (A4.mk 0 0 0 0)), (G_api_Ptr.mk 0 1 (A4.mk 0 0 0 0)), (G_api_Ptr.mk 0 0 (A4.mk 1 0 0 0)), (G_api_Ptr.mk 1 (-1) (A4.mk 0 0 0 0)), (G_api_Ptr.mk 1 1073741825 (A4.mk 0 0 0 0))] : List G_api_Ptr))) rfl)) ?_
          refine arun_do rfl rfl rfl (tx_lenD (xs := ([(G_api_Ptr.mk (-1) 0 (A4.mk 0 0 0 0)), (G_api_Ptr.mk 65536 0 (A4.mk 0 0 0 0)), (G_api_Ptr.mk 0 1 (A4.mk 0 0 0 0)), (G_api_Ptr.mk 0 0 (A4.mk 1 0 0 0)), (G_api_Ptr.mk 1 (-1) (A4.mk 0 0 0 0)), (G_api_Ptr.mk 1 1073741825 (A4.mk 0 0 0 0))] : List G_api_Ptr)) ce_api_Ptr Try.underlying29 rfl) ?_
          refine arun_do rfl rfl rfl (ex_bin (vx := (I v10)) (vy := (I (([(G_api_Ptr.mk (-1) 0 (A4.mk 0 0 0 0)), (G_api_Ptr.mk 65536 0 (A4.mk 0 0 0 0)), (G_api_Ptr.mk 0 1 (A4.mk 0 0 0 0)), (G_api_Ptr.mk 0 0 (A4.mk 1 0 0 0)), (G_api_Ptr.mk 1 (-1) (A4.mk 0 0 0 0)), (G_api_Ptr.mk 1 1073741825 (A4.mk 0 0 0 0))] : List G_api_Ptr).length : Int))) rfl rfl lssI_ok) ?_
          refine arun_keepE [2, 4, 49] 0 0 (st' := ⟨108, 0, [(2, (SL 6 c_api_Ptr ([(G_api_Ptr.mk (-1) 0 (A4.mk 0 0 0 0)), (G_api_Ptr.mk 65536 0 (A4.mk 0 0 0 0)), (G_api_Ptr.mk 0 1 (A4.mk 0 0 0 0)), (G_api_Ptr.mk 0 0 (A4.mk 1 0 0 0)), (G_api_Ptr.mk 1 (-1) (A4.mk 0 0 0 0)), (G_api_Ptr.mk 1 1073741825 (A4.mk 0 0 0 0))] : List G_api_Ptr))), (4, (I v10)), (49, (Bo (decide (v10 < (([(G_api_Ptr.mk (-1) 0 (A4.mk 0 0 0 0)), (G_api_Ptr.mk 65536 0 (A4.mk 0 0 0 0)), (G_api_Ptr.mk 0 1 (A4.mk 0 0 0 0)), (G_api_Ptr.mk 0 0 (A4.mk 1 0 0 0)), (G_api_Ptr.mk 1 (-1) (A4.mk 0 0 0 0)), (G_api_Ptr.mk 1 1073741825 (A4.mk 0 0 0 0))] : List G_api_Ptr).length : Int)))))], [], ⟨0, []⟩⟩) (by kernel_rfl) (by kernel_rfl) ?_
          show AWp _ _ _ _
          rcases Bool.eq_false_or_eq_true (decide (v10 < (([(G_api_Ptr.mk (-1) 0 (A4.mk 0 0 0 0)), (G_api_Ptr.mk 65536 0 (A4.mk 0 0 0 0)), (G_api_Ptr.mk 0 1 (A4.mk 0 0 0 0)), (G_api_Ptr.mk 0 0 (A4.mk 1 0 0 0)), (G_api_Ptr.mk 1 (-1) (A4.mk 0 0 0 0)), (G_api_Ptr.mk 1 1073741825 (A4.mk 0 0 0 0))] : List G_api_Ptr).length : Int))) with hb11 | hb11
          · rw [condT hb11] at h
            refine awp_condT (boT hb11) ?_
            refine awp_skip ?_
            show AWp _ _ _ _
            refine awp_seq ?_
            refine awp_block ?_
            refine awp_seq ?_
            refine awp_region ?_
            refine arun_do rfl rfl rfl (ex_move (eV (v := (SL 6 c_api_Ptr ([(G_api_Ptr.mk (-1) 0 (A4.mk 0 0 0 0)), (G_api_Ptr.mk 65536 0 (A4.mk 0 0 0 0)), (G_api_Ptr.mk 0 1 (A4.mk 0 0 0 0)), (G_api_Ptr.mk 0 0 (A4.mk 1 0 0 0)), (G_api_Ptr.mk 1 (-1) (A4.mk 0 0 0 0)), (G_api_Ptr.mk 1 1073741825 (A4.mk 0 0 0 0))] : List G_api_Ptr))) rfl)) ?_
            refine arun_do rfl rfl rfl (ex_move (eV (v := (I v10)) rfl)) ?_
            obtain ⟨x12, hx12, h⟩ := bindS h
            refine arun_do rfl rfl rfl (tx_idxD (c := c_api_Ptr) (xs := ([(G_api_Ptr.mk (-1) 0 (A4.mk 0 0 0 0)), (G_api_Ptr.mk 65536 0 (A4.mk 0 0 0 0)), (G_api_Ptr.mk 0 1 (A4.mk 0 0 0 0)), (G_api_Ptr.mk 0 0 (A4.mk 1 0 0 0)), (G_api_Ptr.mk 1 (-1) (A4.mk 0 0 0 0)), (G_api_Ptr.mk 1 1073741825 (A4.mk 0 0 0 0))] : List G_api_Ptr)) (i := v10) ce_api_Ptr Try.underlying29 s_26 rfl rfl hx12) ?_
            refine arun_do rfl rfl rfl (tx_ldDA (vs := (c_api_Ptr x12)) Try.underlying26 rfl s_26 (by decide) rfl (Nat.le_of_ble_eq_true rfl) rfl) ?_
            obtain ⟨x13, hx13, h⟩ := bindS h
            refine arun_do rfl rfl rfl (ex_call0 (vs := [(Value.agg (c_api_Ptr x12).toArray)]) (v := (Bo x13)) rfl en_17 (cargs (evs rfl evs_nil)) rfl (ok_ptr_May x12 x13 hx13) rfl) ?_
            refine arun_do rfl rfl rfl (ex_move (eV (v := (Bo x13)) rfl)) ?_
            refine arun_guard (v := (SL 6 c_api_Ptr ([(G_api_Ptr.mk (-1) 0 (A4.mk 0 0 0 0)), (G_api_Ptr.mk 65536 0 (A4.mk 0 0 0 0)), (G_api_Ptr.mk 0 1 (A4.mk 0 0 0 0)), (G_api_Ptr.mk 0 0 (A4.mk 1 0 0 0)), (G_api_Ptr.mk 1 (-1) (A4.mk 0 0 0 0)), (G_api_Ptr.mk 1 1073741825 (A4.mk 0 0 0 0))] : List G_api_Ptr))) (x13 == false) rfl rfl rfl (fun hc => ex_move (eV (v := (SL 6 c_api_Ptr ([(G_api_Ptr.mk (-1) 0 (A4.mk 0 0 0 0)), (G_api_Ptr.mk 65536 0 (A4.mk 0 0 0 0)), (G_api_Ptr.mk 0 1 (A4.mk 0 0 0 0)), (G_api_Ptr.mk 0 0 (A4.mk 1 0 0 0)), (G_api_Ptr.mk 1 (-1) (A4.mk 0 0 0 0)), (G_api_Ptr.mk 1 1073741825 (A4.mk 0 0 0 0))] : List G_api_Ptr))) rfl)) ?_
            refine arun_guard (v := (I v10)) (x13 == false) rfl rfl rfl (fun hc => ex_move (eV (v := (I v10)) rfl)) ?_
            obtain ⟨x14, hx14, h⟩ := bindS h
            refine arun_guard (v := (DP (c_api_Ptr x14))) (x13 == false) rfl rfl rfl (fun hc => tx_idxD (c := c_api_Ptr) (xs := ([(G_api_Ptr.mk (-1) 0 (A4.mk 0 0 0 0)), (G_api_Ptr.mk 65536 0 (A4.mk 0 0 0 0)), (G_api_Ptr.mk 0 1 (A4.mk 0 0 0 0)), (G_api_Ptr.mk 0 0 (A4.mk 1 0 0 0)), (G_api_Ptr.mk 1 (-1) (A4.mk 0 0 0 0)), (G_api_Ptr.mk 1 1073741825 (A4.mk 0 0 0 0))] : List G_api_Ptr)) (i := v10) ce_api_Ptr Try.underlying29 s_26 (cond_of hc) (cond_of hc) (gd_of hc hx14)) ?_
            refine arun_guard (v := (Value.agg (c_api_Ptr x14).toArray)) (x13 == false) rfl rfl rfl (fun hc => tx_ldDA (vs := (c_api_Ptr x14)) Try.underlying26 rfl s_26 (by decide) (cond_of hc) (Nat.le_of_ble_eq_true rfl) rfl) ?_
            refine arun_guard (v := (SL 6 c_api_Ptr ([x14] : List G_api_Ptr))) (x13 == false) rfl rfl rfl (fun hc => ex_buildSliceD (qs := [(0, (Value.agg (c_api_Ptr x14).toArray))]) (cells := (([x14] : List G_api_Ptr).flatMap c_api_Ptr)) Try.underlying29 s_26 (by decide) (evp (cond_of hc) evp_nil) rfl (by kernel_rfl) (by kernel_rfl) (by kernel_rfl)) ?_
            obtain ⟨x15, hx15, h⟩ := bindS h
            refine arun_guard (v := (S x15)) (x13 == false) rfl rfl rfl (fun hc => ex_call0 (vs := [(SL 6 c_api_Ptr ([x14] : List G_api_Ptr))]) (v := (S x15)) rfl en_11 (cargs (evs (cond_of hc) evs_nil)) rfl (ok_ptr_Put ([x14] : List G_api_Ptr) x15 (gd_of hc hx15)) rfl) ?_
            refine arun_guard (v := (Bo (x15 != []))) (x13 == false) rfl rfl rfl (fun hc => ex_bin (vx := (S x15)) (vy := (S [])) (cond_of hc) rfl neqS_ok) ?_
            refine arun_do rfl rfl rfl (ex_pick rfl pkOr) ?_
            refine arun_do rfl rfl rfl (ex_move (eV (v := (Bo (x13 || (x15 != [])))) rfl)) ?_
            refine arun_guard (v := (Value.agg (c_api_Ptr (G_api_Ptr.mk 0 0 (A4.mk 0 0 0 0))).toArray)) ((x13 || (x15 != [])) == false) rfl rfl rfl (fun hc => ex_build (qs := []) (v := (Value.agg (c_api_Ptr (G_api_Ptr.mk 0 0 (A4.mk 0 0 0 0))).toArray)) evp_nil (by kernel_rfl)) ?_
            refine arun_guard (v := (SL 6 c_api_Ptr ([(G_api_Ptr.mk (-1) 0 (A4.mk 0 0 0 0)), (G_api_Ptr.mk 65536 0 (A4.mk 0 0 0 0)), (G_api_Ptr.mk 0 1 (A4.mk 0 0 0 0)), (G_api_Ptr.mk 0 0 (A4.mk 1 0 0 0)), (G_api_Ptr.mk 1 (-1) (A4.mk 0 0 0 0)), (G_api_Ptr.mk 1 1073741825 (A4.mk 0 0 0 0))] : List G_api_Ptr))) ((x13 || (x15 != [])) == false) rfl rfl rfl (fun hc => ex_move (eV (v := (SL 6 c_api_Ptr ([(G_api_Ptr.mk (-1) 0 (A4.mk 0 0 0 0)), (G_api_Ptr.mk 65536 0 (A4.mk 0 0 0 0)), (G_api_Ptr.mk 0 1 (A4.mk 0 0 0 0)), (G_api_Ptr.mk 0 0 (A4.mk 1 0 0 0)), (G_api_Ptr.mk 1 (-1) (A4.mk 0 0 0 0)), (G_api_Ptr.mk 1 1073741825 (A4.mk 0 0 0 0))] : List G_api_Ptr))) rfl)) ?_
            refine arun_guard (v := (I v10)) ((x13 || (x15 != [])) == false) rfl rfl rfl (fun hc => ex_move (eV (v := (I v10)) rfl)) ?_
            obtain ⟨x16, hx16, h⟩ := bindS h
            refine arun_guard (v := (DP (c_api_Ptr x16))) ((x13 || (x15 != [])) == false) rfl rfl rfl (fun hc => tx_idxD (c := c_api_Ptr) (xs := ([(G_api_Ptr.mk (-1) 0 (A4.mk 0 0 0 0)), (G_api_Ptr.mk 65536 0 (A4.mk 0 0 0 0)), (G_api_Ptr.mk 0 1 (A4.mk 0 0 0 0)), (G_api_Ptr.mk 0 0 (A4.mk 1 0 0 0)), (G_api_Ptr.mk 1 (-1) (A4.mk 0 0 0 0)), (G_api_Ptr.mk 1 1073741825 (A4.mk 0 0 0 0))] : List G_api_Ptr)) (i := v10) ce_api_Ptr Try.underlying29 s_26 (cond_of hc) (cond_of hc) (gd_of hc hx16)) ?_
            refine arun_guard (v := (Value.agg (c_api_Ptr x16).toArray)) ((x13 || (x15 != [])) == false) rfl rfl rfl (fun hc => tx_ldDA (vs := (c_api_Ptr x16)) Try.underlying26 rfl s_26 (by decide) (cond_of hc) (Nat.le_of_ble_eq_true rfl) rfl) ?_
            refine arun_guard (v := (SL 6 c_api_Ptr ([(G_api_Ptr.mk 0 0 (A4.mk 0 0 0 0)), x16] : List G_api_Ptr))) ((x13 || (x15 != [])) == false) rfl rfl rfl (fun hc => ex_buildSliceD (qs := [(0, (Value.agg (c_api_Ptr (G_api_Ptr.mk 0 0 (A4.mk 0 0 0 0))).toArray)), (1, (Value.agg (c_api_Ptr x16).toArray))]) (cells := (([(G_api_Ptr.mk 0 0 (A4.mk 0 0 0 0)), x16] : List G_api_Ptr).flatMap c_api_Ptr)) Try.underlying29 s_26 (by decide) (evp (cond_of hc) (evp (cond_of hc) evp_nil)) rfl (by kernel_rfl) (by kernel_rfl) (by kernel_rfl)) ?_
            obtain ⟨x17, hx17, h⟩ := bindS h
            refine arun_guard (v := (S x17)) ((x13 || (x15 != [])) == false) rfl rfl rfl (fun hc => ex_call0 (vs := [(SL 6 c_api_Ptr ([(G_api_Ptr.mk 0 0 (A4.mk 0 0 0 0)), x16] : List G_api_Ptr))]) (v := (S x17)) rfl en_11 (cargs (evs (cond_of hc) evs_nil)) rfl (ok_ptr_Put ([(G_api_Ptr.mk 0 0 (A4.mk 0 0 0 0)), x16] : List G_api_Ptr) x17 (gd_of hc hx17)) rfl) ?_
            refine arun_guard (v := (Bo (x17 != []))) ((x13 || (x15 != [])) == false) rfl rfl rfl (fun hc => ex_bin (vx := (S x17)) (vy := (S [])) (cond_of hc) rfl neqS_ok) ?_
            refine arun_do rfl rfl rfl (ex_pick rfl pkOr) ?_
            refine arun_keepE [2, 4, 75] 0 0 (st' := ⟨108, 0, [(2, (SL 6 c_api_Ptr ([(G_api_Ptr.mk (-1) 0 (A4.mk 0 0 0 0)), (G_api_Ptr.mk 65536 0 (A4.mk 0 0 0 0)), (G_api_Ptr.mk 0 1 (A4.mk 0 0 0 0)), (G_api_Ptr.mk 0 0 (A4.mk 1 0 0 0)), (G_api_Ptr.mk 1 (-1) (A4.mk 0 0 0 0)), (G_api_Ptr.mk 1 1073741825 (A4.mk 0 0 0 0))] : List G_api_Ptr))), (4, (I v10)), (75, (Bo ((x13 || (x15 != [])) || (x17 != []))))], [], ⟨0, []⟩⟩) (by kernel_rfl) (by kernel_rfl) ?_
            show AWp _ _ _ _
            rcases Bool.eq_false_or_eq_true ((x13 || (x15 != [])) || (x17 != [])) with hb18 | hb18
            · rw [condT hb18] at h
              refine awp_condT (boT hb18) ?_
              refine awp_seq ?_
              refine awp_region ?_
              refine arun_do rfl rfl rfl (ex_assign (eV (v := (Bo false)) rfl)) ?_
              refine arun_keepE [0] 0 0 (st' := ⟨108, 0, [(0, (Bo false))], [], ⟨0, []⟩⟩) (by kernel_rfl) (by kernel_rfl) ?_
              show AWp _ _ _ _
              refine awp_ret ?_
              cases h
              exact ares1 (rtmp rfl (eV rfl))
            · rw [condF hb18] at h
              refine awp_condF (boF hb18) ?_
              refine awp_skip ?_
              show AWp _ _ _ _
              refine awp_region ?_
              refine arun_do rfl rfl rfl (ex_move (eV (v := (I v10)) rfl)) ?_
              refine arun_do rfl rfl rfl (ex_bin (vx := (I v10)) (vy := (I 1)) rfl rfl addI_ok) ?_
              refine arun_do rfl rfl rfl (ex_assign (eV (v := (I (w64 (v10 + 1)))) rfl)) ?_
              refine arun_keepE [2, 4] 0 0 (st' := ⟨108, 0, [(2, (SL 6 c_api_Ptr ([(G_api_Ptr.mk (-1) 0 (A4.mk 0 0 0 0)), (G_api_Ptr.mk 65536 0 (A4.mk 0 0 0 0)), (G_api_Ptr.mk 0 1 (A4.mk 0 0 0 0)), (G_api_Ptr.mk 0 0 (A4.mk 1 0 0 0)), (G_api_Ptr.mk 1 (-1) (A4.mk 0 0 0 0)), (G_api_Ptr.mk 1 1073741825 (A4.mk 0 0 0 0))] : List G_api_Ptr))), (4, (I (w64 (v10 + 1))))], [], ⟨0, []⟩⟩) (by kernel_rfl) (by kernel_rfl) ?_
              exact Exists.intro n2 (And.intro (Nat.lt_succ_self _) (Exists.intro (w64 (v10 + 1)) (And.intro rfl h)))
          · rw [condF hb11] at h
            refine awp_condF (boF hb11) ?_
            refine awp_exit ?_
            show AWp _ _ _ _
            refine awp_seq ?_
            refine awp_region ?_
            obtain ⟨x19, hx19, h⟩ := bindS h
            refine arun_do rfl rfl rfl (ex_call0 (vs := [(S ([97, 98] : Str)), (I (-1))]) (v := (Value.tuple #[(SL 6 c_api_Ptr x19.1), (S x19.2.1), (Bo x19.2.2)])) rfl en_13 (cargs (evs rfl (evs rfl evs_nil))) rfl (ok_ptr_Take ([97, 98] : Str) (-1) x19 hx19) rfl) ?_
            refine arun_do rfl rfl rfl (ex_move (eV (v := (Value.tuple #[(SL 6 c_api_Ptr x19.1), (S x19.2.1), (Bo x19.2.2)])) rfl)) ?_
            refine arun_do rfl rfl rfl (ex_extract (vx := (Value.tuple #[(SL 6 c_api_Ptr x19.1), (S x19.2.1), (Bo x19.2.2)])) (v := (SL 6 c_api_Ptr x19.1)) rfl rfl) ?_
            refine arun_do rfl rfl rfl (ex_extract (vx := (Value.tuple #[(SL 6 c_api_Ptr x19.1), (S x19.2.1), (Bo x19.2.2)])) (v := (S x19.2.1)) rfl rfl) ?_
            refine arun_do rfl rfl rfl (ex_extract (vx := (Value.tuple #[(SL 6 c_api_Ptr x19.1), (S x19.2.1), (Bo x19.2.2)])) (v := (Bo x19.2.2)) rfl rfl) ?_
            refine arun_do rfl rfl rfl (ex_assign (eV (v := (SL 6 c_api_Ptr x19.1)) rfl)) ?_
            refine arun_do rfl rfl rfl (ex_assign (eV (v := (S x19.2.1)) rfl)) ?_
            refine arun_do rfl rfl rfl (ex_assign (eV (v := (Bo x19.2.2)) rfl)) ?_
            refine arun_keepE [5, 6, 7] 0 0 (st' := ⟨108, 0, [(5, (SL 6 c_api_Ptr x19.1)), (6, (S x19.2.1)), (7, (Bo x19.2.2))], [], ⟨0, []⟩⟩) (by kernel_rfl) (by kernel_rfl) ?_
            show AWp _ _ _ _
            refine awp_seq ?_
            refine awp_region ?_
            refine arun_do rfl rfl rfl (ex_build (qs := [(0, (U32 16909060))]) (v := (Value.agg ((cA4 c32) (A4.mk 16909060 0 0 0)).toArray)) (evp rfl evp_nil) (by kernel_rfl)) ?_
            refine arun_do rfl rfl rfl (ex_build (qs := [(0, (I 258)), (1, (I 1)), (2, (Value.agg ((cA4 c32) (A4.mk 16909060 0 0 0)).toArray))]) (v := (Value.agg (c_api_Ptr (G_api_Ptr.mk 258 1 (A4.mk 16909060 0 0 0))).toArray)) (evp rfl (evp rfl (evp rfl evp_nil))) (by kernel_rfl)) ?_
            refine arun_do rfl rfl rfl (ex_buildSliceD (qs := [(0, (Value.agg (c_api_Ptr (G_api_Ptr.mk 258 1 (A4.mk 16909060 0 0 0))).toArray))]) (cells := (([(G_api_Ptr.mk 258 1 (A4.mk 16909060 0 0 0))] : List G_api_Ptr).flatMap c_api_Ptr)) Try.underlying29 s_26 (by decide) (evp rfl evp_nil) rfl (by kernel_rfl) (by kernel_rfl) (by kernel_rfl)) ?_
            obtain ⟨x20, hx20, h⟩ := bindS h
            refine arun_do rfl rfl rfl (ex_call0 (vs := [(SL 6 c_api_Ptr ([(G_api_Ptr.mk 258 1 (A4.mk 16909060 0 0 0))] : List G_api_Ptr))]) (v := (S x20)) rfl en_11 (cargs (evs rfl evs_nil)) rfl (ok_ptr_Put ([(G_api_Ptr.mk 258 1 (A4.mk 16909060 0 0 0))] : List G_api_Ptr) x20 hx20) rfl) ?_
            refine arun_do rfl rfl rfl (ex_assign (eV (v := (S x20)) rfl)) ?_
            refine arun_keepE [5, 6, 7, 8] 0 0 (st' := ⟨108, 0, [(5, (SL 6 c_api_Ptr x19.1)), (6, (S x19.2.1)), (7, (Bo x19.2.2)), (8, (S x20))], [], ⟨0, []⟩⟩) (by kernel_rfl) (by kernel_rfl) ?_
            show AWp _ _ _ _
            refine awp_seq ?_
            refine awp_region ?_
            refine arun_do rfl rfl rfl (ex_move (eV (v := (Bo x19.2.2)) rfl)) ?_
            refine arun_do rfl rfl rfl (ex_move (eV (v := (Bo x19.2.2)) rfl)) ?_
            refine arun_guard (v := (SL 6 c_api_Ptr x19.1)) (x19.2.2 == true) rfl rfl rfl (fun hc => ex_move (eV (v := (SL 6 c_api_Ptr x19.1)) rfl)) ?_
            refine arun_guard (v := (I (x19.1.length : Int))) (x19.2.2 == true) rfl rfl rfl (fun hc => tx_lenD (xs := x19.1) ce_api_Ptr Try.underlying29 (cond_of hc)) ?_
            refine arun_guard (v := (Bo ((x19.1.length : Int) == 0))) (x19.2.2 == true) rfl rfl rfl (fun hc => ex_bin (vx := (I (x19.1.length : Int))) (vy := (I 0)) (cond_of hc) rfl eqlI_ok) ?_
            refine arun_do rfl rfl rfl (ex_pick rfl pkAnd) ?_
            refine arun_do rfl rfl rfl (ex_move (eV (v := (Bo (x19.2.2 && ((x19.1.length : Int) == 0)))) rfl)) ?_
            refine arun_guard (v := (S x19.2.1)) ((x19.2.2 && ((x19.1.length : Int) == 0)) == true) rfl rfl rfl (fun hc => ex_move (eV (v := (S x19.2.1)) rfl)) ?_
            refine arun_guard (v := (Bo (x19.2.1 == ([97, 98] : Str)))) ((x19.2.2 && ((x19.1.length : Int) == 0)) == true) rfl rfl rfl (fun hc => ex_bin (vx := (S x19.2.1)) (vy := (S ([97, 98] : Str))) (cond_of hc) rfl eqlS_ok) ?_
            refine arun_do rfl rfl rfl (ex_pick rfl pkAnd) ?_
            refine arun_do rfl rfl rfl (ex_move (eV (v := (Bo ((x19.2.2 && ((x19.1.length : Int) == 0)) && (x19.2.1 == ([97, 98] : Str))))) rfl)) ?_
            refine arun_guard (v := (S x20)) (((x19.2.2 && ((x19.1.length : Int) == 0)) && (x19.2.1 == ([97, 98] : Str))) == true) rfl rfl rfl (fun hc => ex_move (eV (v := (S x20)) rfl)) ?_
            obtain ⟨x21, hx21, h⟩ := bindS h
            refine arun_guard (v := (SL 1 c8 x21)) (((x19.2.2 && ((x19.1.length : Int) == 0)) && (x19.2.1 == ([97, 98] : Str))) == true) rfl rfl rfl (fun hc => tx_makeD (c := c8) (e := 0) ce8 Try.underlying27 s_5 b_5 z_5 rfl rfl rfl rfl (gd_of hc hx21)) ?_
            refine arun_guard (v := (S x21)) (((x19.2.2 && ((x19.1.length : Int) == 0)) && (x19.2.1 == ([97, 98] : Str))) == true) rfl rfl rfl (fun hc => tx_bsD (bs := x21) Try.underlying27 Try.underlying9 Try.underlying5 (cond_of hc)) ?_
            obtain ⟨x22, hx22, h⟩ := bindS h
            refine arun_guard (v := (S x22)) (((x19.2.2 && ((x19.1.length : Int) == 0)) && (x19.2.1 == ([97, 98] : Str))) == true) rfl rfl rfl (fun hc => ex_bin (vx := (S ([1, 2, 0, 0, 0, 1, 1, 2, 3, 4] : Str))) (vy := (S x21)) rfl (cond_of hc) (addS_ok (gd_of hc hx22))) ?_
            refine arun_guard (v := (Bo (x20 == x22))) (((x19.2.2 && ((x19.1.length : Int) == 0)) && (x19.2.1 == ([97, 98] : Str))) == true) rfl rfl rfl (fun hc => ex_bin (vx := (S x20)) (vy := (S x22)) (cond_of hc) (cond_of hc) eqlS_ok) ?_
            refine arun_do rfl rfl rfl (ex_pick rfl pkAnd) ?_
            refine arun_do rfl rfl rfl (ex_move (eV (v := (Bo (((x19.2.2 && ((x19.1.length : Int) == 0)) && (x19.2.1 == ([97, 98] : Str))) && (x20 == x22)))) rfl)) ?_
            obtain ⟨x23, hx23, h⟩ := bindS h
            refine arun_guard (v := (S x23)) ((((x19.2.2 && ((x19.1.length : Int) == 0)) && (x19.2.1 == ([97, 98] : Str))) && (x20 == x22)) == true) rfl rfl rfl (fun hc => ex_call0 (vs := [(SL 6 c_api_Ptr [])]) (v := (S x23)) rfl en_11 (cargs (evsN (s := 5) rfl evs_nil)) rfl (ok_ptr_Put ([] : (List G_api_Ptr)) x23 (gd_of hc hx23)) rfl) ?_
            refine arun_guard (v := (Bo (x23 == []))) ((((x19.2.2 && ((x19.1.length : Int) == 0)) && (x19.2.1 == ([97, 98] : Str))) && (x20 == x22)) == true) rfl rfl rfl (fun hc => ex_bin (vx := (S x23)) (vy := (S [])) (cond_of hc) rfl eqlS_ok) ?_
            refine arun_do rfl rfl rfl (ex_pick rfl pkAnd) ?_
            refine arun_do rfl rfl rfl (ex_move (eV (v := (Bo ((((x19.2.2 && ((x19.1.length : Int) == 0)) && (x19.2.1 == ([97, 98] : Str))) && (x20 == x22)) && (x23 == [])))) rfl)) ?_
            refine arun_do rfl rfl rfl (ex_pick rfl pkTF) ?_
            refine arun_do rfl rfl rfl (ex_assign (eV (v := (Bo ((((x19.2.2 && ((x19.1.length : Int) == 0)) && (x19.2.1 == ([97, 98] : Str))) && (x20 == x22)) && (x23 == [])))) rfl)) ?_
            refine arun_keepE [0] 0 0 (st' := ⟨108, 0, [(0, (Bo ((((x19.2.2 && ((x19.1.length : Int) == 0)) && (x19.2.1 == ([97, 98] : Str))) && (x20 == x22)) && (x23 == []))))], [], ⟨0, []⟩⟩) (by kernel_rfl) (by kernel_rfl) ?_
            show AWp _ _ _ _
            refine awp_ret ?_
            cases h
            exact ares1 (rtmp rfl (eV rfl))

end Go.Proofs
