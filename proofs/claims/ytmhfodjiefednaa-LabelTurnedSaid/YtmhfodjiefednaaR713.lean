/- Pure models of functions of the program, and that its code does what they say: palimpref1 PutUber, palimpref1 Phase, palimpref1 SamePuts, palimpref1 lasting. Written by a program. -/
import Derived.Test.YtmhfodjiefednaaR712
import Derived.Test.YtmhfodjiefednaaR75
import Derived.Test.YtmhfodjiefednaaR76
import Derived.Test.YtmhfodjiefednaaR77
import Derived.Test.YtmhfodjiefednaaR7B
set_option maxRecDepth 20000
set_option maxHeartbeats 4000000
namespace Go.Proofs
open Go Go.Fhl
set_option linter.unusedVariables false
set_option linter.unusedSimpArgs false
noncomputable def M_ref1_PutUber (t0 : G_api_Uber) : Option Str :=
  Option.bind (M_ref1_MayUber t0) fun (x1 : Bool) => cond (!x1) (some []) (Option.bind (M_ref1_Put ([49, 52, 52, 49] : Str) ([171, t0.Txg, t0.Guid, t0.Seat] : List Int)) fun (x3 : Str) => Option.bind (M_ref1_PutPtrs ([t0.Root] : List G_api_Ptr)) fun (x4 : Str) => Option.bind (addS x3 x4) fun (x5 : Str) => Option.bind (M_ref1_sealed x5) fun (x6 : Str) => some x6)
noncomputable def M_ref1_Phase (t0 : Int) (t1 : G_api_Uber) (t2 : Int) : Option (List G_api_Put) :=
  Option.bind (M_ref1_mayData t0) fun (x1 : Bool) => Option.bind (gd ((!x1) == false) (M_ref1_MayUber t1)) fun (x2 : Bool) => cond ((((!x1) || (!x2)) || (decide (t2 < 0))) || (decide (t2 > 1))) (some []) (Option.bind (M_ref1_Slot t0 t2 t1.Seat) fun (x4 : Int) => Option.bind (M_ref1_PutUber t1) fun (x5 : Str) => Option.bind (M_ref1_Slot t0 (w64 (t2 + 2)) t1.Seat) fun (x6 : Int) => Option.bind (M_ref1_PutUber t1) fun (x7 : Str) => some ([(G_api_Put.mk x4 x5), (G_api_Put.mk x6 x7)] : List G_api_Put))
noncomputable def M_ref1_SamePuts_l1 (t0 : (List G_api_Put)) (t1 : (List G_api_Put)) : Nat → Int → Option Bool
  | 0, _ => none
  | n1 + 1, v2 =>
  cond (decide (v2 < (t0.length : Int))) (Option.bind (getI t0 v2) fun (x4 : G_api_Put) => Option.bind (getI t1 v2) fun (x5 : G_api_Put) => cond (!decide (x4 = x5)) (some false) ((M_ref1_SamePuts_l1 t0 t1 n1) (w64 (v2 + 1)))) (some true)
noncomputable def M_ref1_SamePuts (t0 : (List G_api_Put)) (t1 : (List G_api_Put)) : Option Bool :=
  cond ((t0.length : Int) != (t1.length : Int)) (some false) (M_ref1_SamePuts_l1 t0 t1 fuel 0)
noncomputable def M_ref1_lasting_k1 (c_1 : (Int → List Str → Option (List Str))) (t0 : G_api_Dev) (t1 : (List Int)) (v2 : Int) (y5 : List Str) : Option (List Str) :=
  c_1 (w64 (v2 + 1)) y5
noncomputable def M_ref1_lasting_k3 (c_1 : (Int → List Str → Option (List Str))) (t0 : G_api_Dev) (t1 : (List Int)) (v2 : Int) (x6 : G_api_Put) (y9 : Int) (y12 : List Str) : Option (List Str) :=
  cond ((andI y9 2) == 2) (Option.bind (getI y12 x6.At) fun (x21 : Str) => Option.bind (slL x21 0 128) fun (x22 : Str) => Option.bind (slL x6.B 128 (x6.B.length : Int)) fun (x23 : Str) => Option.bind (addS x22 x23) fun (x24 : Str) => Option.bind (getI y12 x6.At) fun (x25 : Str) => Option.bind (setI y12 x6.At x24) fun (x26 : List Str) => M_ref1_lasting_k1 c_1 t0 t1 v2 x26) (M_ref1_lasting_k1 c_1 t0 t1 v2 y12)
noncomputable def M_ref1_lasting_k2 (c_1 : (Int → List Str → Option (List Str))) (t0 : G_api_Dev) (t1 : (List Int)) (v2 : Int) (v3 : List Str) (x6 : G_api_Put) (y9 : Int) : Option (List Str) :=
  cond ((andI y9 1) == 1) (Option.bind (slL x6.B 0 128) fun (x14 : Str) => Option.bind (getI v3 x6.At) fun (x15 : Str) => Option.bind (slL x15 128 (x15.length : Int)) fun (x16 : Str) => Option.bind (addS x14 x16) fun (x17 : Str) => Option.bind (getI v3 x6.At) fun (x18 : Str) => Option.bind (setI v3 x6.At x17) fun (x19 : List Str) => M_ref1_lasting_k3 c_1 t0 t1 v2 x6 y9 x19) (M_ref1_lasting_k3 c_1 t0 t1 v2 x6 y9 v3)
noncomputable def M_ref1_lasting_l1 (t0 : G_api_Dev) (t1 : (List Int)) : Nat → Int → List Str → Option (List Str)
  | 0, _, _ => none
  | n1 + 1, v2, v3 =>
  cond (decide (v2 < (t0.Wait.length : Int))) (Option.bind (getI t0.Wait v2) fun (x6 : G_api_Put) => Option.bind (gd ((((decide (x6.At < 0)) || (decide (x6.At ≥ ((v3.length : Nat) : Int)))) || ((x6.B.length : Int) != 256)) == false) (getI v3 x6.At)) fun (x7 : Str) => cond ((((decide (x6.At < 0)) || (decide (x6.At ≥ ((v3.length : Nat) : Int)))) || ((x6.B.length : Int) != 256)) || ((x7.length : Int) != 256)) (M_ref1_lasting_k1 (M_ref1_lasting_l1 t0 t1 n1) t0 t1 v2 v3) (cond (decide (v2 < (t1.length : Int))) (Option.bind (getI t1 v2) fun (x11 : Int) => M_ref1_lasting_k2 (M_ref1_lasting_l1 t0 t1 n1) t0 t1 v2 v3 x6 (andI x11 3)) (M_ref1_lasting_k2 (M_ref1_lasting_l1 t0 t1 n1) t0 t1 v2 v3 x6 0))) (some v3)
noncomputable def M_ref1_lasting (t0 : G_api_Dev) (t1 : (List Int)) : Option (List Str) :=
  Option.bind (appL 16 ([] : List Str) t0.Last) fun (x1 : List Str) => M_ref1_lasting_l1 t0 t1 fuel 0 x1
theorem ok_ref1_lasting (t0 : G_api_Dev) (t1 : (List Int)) (r : (List Str)) (h : M_ref1_lasting t0 t1 = some r) : FFn Try.prog 39 [(Value.agg (c_api_Dev t0).toArray), (SL 1 cI t1)] (SL 1 cS r) := by
  refine FFn.of_body (n := 94) Try.func39 rfl Try.ntmps39 rfl rfl rfl rfl ?_
  show AWp _ _ _ ⟨94, 0, [(0, (Value.agg (c_api_Dev t0).toArray)), (1, (SL 1 cI t1))], [], ⟨0, []⟩⟩
  unfold M_ref1_lasting at h
  refine awp_seq ?_
  refine awp_region ?_
  refine arun_do rfl rfl rfl (ex_box (vx := (Value.agg (c_api_Dev t0).toArray)) (cs := (c_api_Dev t0)) (k := 0) (L' := [(c_api_Dev t0)]) (eV (v := (Value.agg (c_api_Dev t0).toArray)) rfl) rfl rfl rfl) ?_
  refine arun_do rfl rfl rfl (ex_assign (eV (v := (Value.slice none 0 0)) rfl)) ?_
  refine arun_keepE [1, 2] 1 0 (st' := ⟨94, 0, [(1, (SL 1 cI t1)), (2, (LP 0 0))], [(c_api_Dev t0)], ⟨0, []⟩⟩) (by kernel_rfl) (by kernel_rfl) ?_
  show AWp _ _ _ _
  refine awp_seq ?_
  refine awp_region ?_
  refine arun_do rfl rfl rfl (ex_buildSliceG (k := 0) (qs := []) (cells := (([] : List Str).flatMap cS)) (H' := ⟨1, [(0, ⟨1, (([] : List Str).flatMap cS), true⟩)]⟩) Try.underlying26 s_9 (by decide) (by decide) evp_nil rfl (by kernel_rfl) (by kernel_rfl) (by kernel_rfl) rfl rfl) ?_
  refine arun_do rfl rfl rfl (ex_fieldAddr (v := (LP 0 0)) Try.underlying29 rfl s_26 (by decide) rfl rfl) ?_
  refine arun_do rfl rfl rfl (tx_ldL1 (v := (SL 1 cS t0.Last)) Try.underlying26 rfl rfl rfl rfl) ?_
  obtain ⟨x1, hx1, h⟩ := bindS h
  refine arun_do rfl rfl rfl (tx_appG (c := cS) (xs := []) (H' := ⟨1, [(0, ⟨1, ((x1).flatMap cS), true⟩)]⟩) ceS e_9 rfl rfl rfl (tsrcD (ys := t0.Last) ceS Try.underlying26 s_9 Try.underlying26 rfl) hx1 rfl) ?_
  refine arun_do rfl rfl rfl (ex_assign (eV (v := (GV 0 x1.length)) rfl)) ?_
  refine arun_keepE [1, 2, 5] 1 1 (st' := ⟨94, 0, [(1, (SL 1 cI t1)), (2, (LP 0 0)), (5, (GV 0 x1.length))], [(c_api_Dev t0)], ⟨1, [(0, ⟨1, ((x1).flatMap cS), true⟩)]⟩⟩) (by kernel_rfl) (by kernel_rfl) ?_
  show AWp _ _ _ _
  refine awp_seq ?_
  refine awp_seq ?_
  refine awp_region ?_
  refine arun_do rfl rfl rfl (ex_assign (eV (v := (I 0)) rfl)) ?_
  refine arun_keepE [1, 2, 5, 6] 1 1 (st' := ⟨94, 0, [(1, (SL 1 cI t1)), (2, (LP 0 0)), (5, (GV 0 x1.length)), (6, (I 0))], [(c_api_Dev t0)], ⟨1, [(0, ⟨1, ((x1).flatMap cS), true⟩)]⟩⟩) (by kernel_rfl) (by kernel_rfl) ?_
  show AWp _ _ _ _
  refine awp_block ?_
  refine awp_loop (fun n s => ∃ (v2 : Int) (v3 : List Str), s = ⟨94, 0, [(1, (SL 1 cI t1)), (2, (LP 0 0)), (5, (GV 0 v3.length)), (6, (I v2))], [(c_api_Dev t0)], ⟨1, [(0, ⟨1, ((v3).flatMap cS), true⟩)]⟩⟩ ∧ M_ref1_lasting_l1 t0 t1 n v2 v3 = some r) fuel (Exists.intro 0 (Exists.intro x1 (And.intro rfl h))) ?_
  rintro n s ⟨v2, v3, rfl, h⟩ -
  cases n with
  | zero => cases h
  | succ n1 =>
    unfold M_ref1_lasting_l1 at h
    refine awp_seq ?_
    refine awp_seq ?_
    refine awp_region ?_
    refine arun_do rfl rfl rfl (ex_move (eV (v := (I v2)) rfl)) ?_
    refine arun_do rfl rfl rfl (ex_fieldAddr (v := (LP 0 1)) Try.underlying29 rfl s_27 (by decide) rfl rfl) ?_
    refine arun_do rfl rfl rfl (tx_ldL1 (v := (SL 2 c_api_Put t0.Wait)) Try.underlying27 rfl rfl rfl rfl) ?_
    refine arun_do rfl rfl rfl (tx_lenD (xs := t0.Wait) ce_api_Put Try.underlying27 rfl) ?_
    refine arun_do rfl rfl rfl (ex_bin (vx := (I v2)) (vy := (I (t0.Wait.length : Int))) rfl rfl lssI_ok) ?_
    refine arun_keepE [1, 2, 5, 6, 17] 1 1 (st' := ⟨94, 0, [(1, (SL 1 cI t1)), (2, (LP 0 0)), (5, (GV 0 v3.length)), (6, (I v2)), (17, (Bo (decide (v2 < (t0.Wait.length : Int)))))], [(c_api_Dev t0)], ⟨1, [(0, ⟨1, ((v3).flatMap cS), true⟩)]⟩⟩) (by kernel_rfl) (by kernel_rfl) ?_
    show AWp _ _ _ _
    rcases Bool.eq_false_or_eq_true (decide (v2 < (t0.Wait.length : Int))) with hb4 | hb4
    · rw [condT hb4] at h
      refine awp_condT (boT hb4) ?_
      refine awp_skip ?_
      show AWp _ _ _ _
      refine awp_seqJ (fun s => ∃ (y5 : List Str), s = ⟨94, 0, [(1, (SL 1 cI t1)), (2, (LP 0 0)), (5, (GV 0 y5.length)), (6, (I v2))], [(c_api_Dev t0)], ⟨1, [(0, ⟨1, ((y5).flatMap cS), true⟩)]⟩⟩ ∧ M_ref1_lasting_k1 (M_ref1_lasting_l1 t0 t1 n1) t0 t1 v2 y5 = some r) ?_ ?_
      · refine awp_block ?_
        refine awp_seq ?_
        refine awp_region ?_
        refine arun_do rfl rfl rfl (ex_fieldAddr (v := (LP 0 1)) Try.underlying29 rfl s_27 (by decide) rfl rfl) ?_
        refine arun_do rfl rfl rfl (tx_ldL1 (v := (SL 2 c_api_Put t0.Wait)) Try.underlying27 rfl rfl rfl rfl) ?_
        refine arun_do rfl rfl rfl (ex_move (eV (v := (I v2)) rfl)) ?_
        obtain ⟨x6, hx6, h⟩ := bindS h
        refine arun_do rfl rfl rfl (tx_idxD (c := c_api_Put) (xs := t0.Wait) (i := v2) ce_api_Put Try.underlying27 s_44 rfl rfl hx6) ?_
        refine arun_do rfl rfl rfl (tx_ldDA (vs := (c_api_Put x6)) Try.underlying44 rfl s_44 (by decide) rfl (Nat.le_of_ble_eq_true rfl) rfl) ?_
        refine arun_do rfl rfl rfl (ex_alloc (k := 1) (zs := (c_api_Put (G_api_Put.mk 0 []))) (L' := [(c_api_Dev t0), (c_api_Put (G_api_Put.mk 0 []))]) z_44 rfl rfl rfl rfl) ?_
        refine arun_do0 rfl rfl (ex_storeL (vy := (Value.agg (c_api_Put x6).toArray)) (cs := (c_api_Put (G_api_Put.mk 0 []))) (vs := (c_api_Put x6)) (L' := [(c_api_Dev t0), (c_api_Put x6)]) rfl (eV (v := (Value.agg (c_api_Put x6).toArray)) rfl) rfl s_44 rfl (Nat.le_of_ble_eq_true rfl) (by kernel_rfl)) ?_
        refine arun_keepE [1, 2, 5, 6, 7] 2 1 (st' := ⟨94, 0, [(1, (SL 1 cI t1)), (2, (LP 0 0)), (5, (GV 0 v3.length)), (6, (I v2)), (7, (LP 1 0))], [(c_api_Dev t0), (c_api_Put x6)], ⟨1, [(0, ⟨1, ((v3).flatMap cS), true⟩)]⟩⟩) (by kernel_rfl) (by kernel_rfl) ?_
        show AWp _ _ _ _
        refine awp_seq ?_
        refine awp_seq ?_
        refine awp_region ?_
        refine arun_do rfl rfl rfl (ex_fieldAddr (v := (LP 1 0)) Try.underlying44 rfl s_3 (by decide) rfl rfl) ?_
        refine arun_do rfl rfl rfl (tx_ldL1 (v := (I x6.At)) Try.underlying3 rfl rfl rfl rfl) ?_
        refine arun_do rfl rfl rfl (ex_bin (vx := (I x6.At)) (vy := (I 0)) rfl rfl lssI_ok) ?_
        refine arun_do rfl rfl rfl (ex_move (eV (v := (Bo (decide (x6.At < 0)))) rfl)) ?_
        refine arun_guard (v := (LP 1 0)) ((decide (x6.At < 0)) == false) rfl rfl rfl (fun hc => ex_fieldAddr (v := (LP 1 0)) Try.underlying44 rfl s_3 (by decide) rfl rfl) ?_
        refine arun_guard (v := (I x6.At)) ((decide (x6.At < 0)) == false) rfl rfl rfl (fun hc => tx_ldL1 (v := (I x6.At)) Try.underlying3 rfl (cond_of hc) rfl rfl) ?_
        refine arun_guard (v := (GV 0 v3.length)) ((decide (x6.At < 0)) == false) rfl rfl rfl (fun hc => ex_move (eV (v := (GV 0 v3.length)) rfl)) ?_
        refine arun_guard (v := (I ((v3.length : Nat) : Int))) ((decide (x6.At < 0)) == false) rfl rfl rfl (fun hc => ex_lenN (n := v3.length) Try.underlying26 (cond_of hc)) ?_
        refine arun_guard (v := (Bo (decide (x6.At ≥ ((v3.length : Nat) : Int))))) ((decide (x6.At < 0)) == false) rfl rfl rfl (fun hc => ex_bin (vx := (I x6.At)) (vy := (I ((v3.length : Nat) : Int))) (cond_of hc) (cond_of hc) geqI_ok) ?_
        refine arun_do rfl rfl rfl (ex_pick rfl pkOr) ?_
        refine arun_do rfl rfl rfl (ex_move (eV (v := (Bo ((decide (x6.At < 0)) || (decide (x6.At ≥ ((v3.length : Nat) : Int)))))) rfl)) ?_
        refine arun_guard (v := (LP 1 1)) (((decide (x6.At < 0)) || (decide (x6.At ≥ ((v3.length : Nat) : Int)))) == false) rfl rfl rfl (fun hc => ex_fieldAddr (v := (LP 1 1)) Try.underlying44 rfl s_9 (by decide) rfl rfl) ?_
        refine arun_guard (v := (S x6.B)) (((decide (x6.At < 0)) || (decide (x6.At ≥ ((v3.length : Nat) : Int)))) == false) rfl rfl rfl (fun hc => tx_ldL1 (v := (S x6.B)) Try.underlying9 rfl (cond_of hc) rfl rfl) ?_
        refine arun_guard (v := (I (x6.B.length : Int))) (((decide (x6.At < 0)) || (decide (x6.At ≥ ((v3.length : Nat) : Int)))) == false) rfl rfl rfl (fun hc => tx_lenS Try.underlying9 (cond_of hc)) ?_
        refine arun_guard (v := (Bo ((x6.B.length : Int) != 256))) (((decide (x6.At < 0)) || (decide (x6.At ≥ ((v3.length : Nat) : Int)))) == false) rfl rfl rfl (fun hc => ex_bin (vx := (I (x6.B.length : Int))) (vy := (I 256)) (cond_of hc) rfl neqI_ok) ?_
        refine arun_do rfl rfl rfl (ex_pick rfl pkOr) ?_
        refine arun_do rfl rfl rfl (ex_move (eV (v := (Bo (((decide (x6.At < 0)) || (decide (x6.At ≥ ((v3.length : Nat) : Int)))) || ((x6.B.length : Int) != 256)))) rfl)) ?_
        refine arun_guard (v := (GV 0 v3.length)) ((((decide (x6.At < 0)) || (decide (x6.At ≥ ((v3.length : Nat) : Int)))) || ((x6.B.length : Int) != 256)) == false) rfl rfl rfl (fun hc => ex_move (eV (v := (GV 0 v3.length)) rfl)) ?_
        refine arun_guard (v := (LP 1 0)) ((((decide (x6.At < 0)) || (decide (x6.At ≥ ((v3.length : Nat) : Int)))) || ((x6.B.length : Int) != 256)) == false) rfl rfl rfl (fun hc => ex_fieldAddr (v := (LP 1 0)) Try.underlying44 rfl s_3 (by decide) rfl rfl) ?_
        refine arun_guard (v := (I x6.At)) ((((decide (x6.At < 0)) || (decide (x6.At ≥ ((v3.length : Nat) : Int)))) || ((x6.B.length : Int) != 256)) == false) rfl rfl rfl (fun hc => tx_ldL1 (v := (I x6.At)) Try.underlying3 rfl (cond_of hc) rfl rfl) ?_
        obtain ⟨x7, hx7, h⟩ := bindS h
        refine arun_guard (v := (GP 0 (x6.At.toNat * 1) (List.flatMap cS v3).length)) ((((decide (x6.At < 0)) || (decide (x6.At ≥ ((v3.length : Nat) : Int)))) || ((x6.B.length : Int) != 256)) == false) rfl rfl rfl (fun hc => tx_idxG (c := cS) (xs := v3) (i := x6.At) ceS Try.underlying26 s_9 (cond_of hc) (cond_of hc) rfl rfl (gd_of hc hx7)) ?_
        refine arun_guard (v := (S x7)) ((((decide (x6.At < 0)) || (decide (x6.At ≥ ((v3.length : Nat) : Int)))) || ((x6.B.length : Int) != 256)) == false) rfl rfl rfl (fun hc => tx_ldG (v := (S x7)) (s := 1) (cond_of hc) rfl (part_elem (off := 0) (v := (S x7)) ceS (gd_of hc hx7) Try.underlying9 rfl (by decide) rfl)) ?_
        refine arun_guard (v := (I (x7.length : Int))) ((((decide (x6.At < 0)) || (decide (x6.At ≥ ((v3.length : Nat) : Int)))) || ((x6.B.length : Int) != 256)) == false) rfl rfl rfl (fun hc => tx_lenS Try.underlying9 (cond_of hc)) ?_
        refine arun_guard (v := (Bo ((x7.length : Int) != 256))) ((((decide (x6.At < 0)) || (decide (x6.At ≥ ((v3.length : Nat) : Int)))) || ((x6.B.length : Int) != 256)) == false) rfl rfl rfl (fun hc => ex_bin (vx := (I (x7.length : Int))) (vy := (I 256)) (cond_of hc) rfl neqI_ok) ?_
        refine arun_do rfl rfl rfl (ex_pick rfl pkOr) ?_
        refine arun_keepE [1, 2, 5, 6, 7, 49] 2 1 (st' := ⟨94, 0, [(1, (SL 1 cI t1)), (2, (LP 0 0)), (5, (GV 0 v3.length)), (6, (I v2)), (7, (LP 1 0)), (49, (Bo ((((decide (x6.At < 0)) || (decide (x6.At ≥ ((v3.length : Nat) : Int)))) || ((x6.B.length : Int) != 256)) || ((x7.length : Int) != 256))))], [(c_api_Dev t0), (c_api_Put x6)], ⟨1, [(0, ⟨1, ((v3).flatMap cS), true⟩)]⟩⟩) (by kernel_rfl) (by kernel_rfl) ?_
        show AWp _ _ _ _
        rcases Bool.eq_false_or_eq_true ((((decide (x6.At < 0)) || (decide (x6.At ≥ ((v3.length : Nat) : Int)))) || ((x6.B.length : Int) != 256)) || ((x7.length : Int) != 256)) with hb8 | hb8
        · rw [condT hb8] at h
          refine awp_condT (boT hb8) ?_
          refine awp_keepE [1, 2, 5, 6] 1 1 (st' := ⟨94, 0, [(1, (SL 1 cI t1)), (2, (LP 0 0)), (5, (GV 0 v3.length)), (6, (I v2))], [(c_api_Dev t0)], ⟨1, [(0, ⟨1, ((v3).flatMap cS), true⟩)]⟩⟩) (by kernel_rfl) (by kernel_rfl) ?_
          refine awp_exit ?_
          exact (Exists.intro v3 (And.intro rfl h))
        · rw [condF hb8] at h
          refine awp_condF (boF hb8) ?_
          refine awp_skip ?_
          show AWp _ _ _ _
          refine awp_seq ?_
          refine awp_region ?_
          refine arun_do rfl rfl rfl (ex_assign (eV (v := (I 0)) rfl)) ?_
          refine arun_keepE [1, 2, 5, 6, 7, 8] 2 1 (st' := ⟨94, 0, [(1, (SL 1 cI t1)), (2, (LP 0 0)), (5, (GV 0 v3.length)), (6, (I v2)), (7, (LP 1 0)), (8, (I 0))], [(c_api_Dev t0), (c_api_Put x6)], ⟨1, [(0, ⟨1, ((v3).flatMap cS), true⟩)]⟩⟩) (by kernel_rfl) (by kernel_rfl) ?_
          show AWp _ _ _ _
          refine awp_seqJ (fun s => ∃ (y9 : Int), s = ⟨94, 0, [(1, (SL 1 cI t1)), (2, (LP 0 0)), (5, (GV 0 v3.length)), (6, (I v2)), (7, (LP 1 0)), (8, (I y9))], [(c_api_Dev t0), (c_api_Put x6)], ⟨1, [(0, ⟨1, ((v3).flatMap cS), true⟩)]⟩⟩ ∧ M_ref1_lasting_k2 (M_ref1_lasting_l1 t0 t1 n1) t0 t1 v2 v3 x6 y9 = some r) ?_ ?_
          · refine awp_seq ?_
            refine awp_region ?_
            refine arun_do rfl rfl rfl (ex_move (eV (v := (I v2)) rfl)) ?_
            refine arun_do rfl rfl rfl (ex_move (eV (v := (SL 1 cI t1)) rfl)) ?_
            refine arun_do rfl rfl rfl (tx_lenD (xs := t1) ceI Try.underlying59 rfl) ?_
            refine arun_do rfl rfl rfl (ex_bin (vx := (I v2)) (vy := (I (t1.length : Int))) rfl rfl lssI_ok) ?_
            refine arun_keepE [1, 2, 5, 6, 7, 8, 53] 2 1 (st' := ⟨94, 0, [(1, (SL 1 cI t1)), (2, (LP 0 0)), (5, (GV 0 v3.length)), (6, (I v2)), (7, (LP 1 0)), (8, (I 0)), (53, (Bo (decide (v2 < (t1.length : Int)))))], [(c_api_Dev t0), (c_api_Put x6)], ⟨1, [(0, ⟨1, ((v3).flatMap cS), true⟩)]⟩⟩) (by kernel_rfl) (by kernel_rfl) ?_
            show AWp _ _ _ _
            rcases Bool.eq_false_or_eq_true (decide (v2 < (t1.length : Int))) with hb10 | hb10
            · rw [condT hb10] at h
              refine awp_condT (boT hb10) ?_
              refine awp_region ?_
              refine arun_do rfl rfl rfl (ex_move (eV (v := (SL 1 cI t1)) rfl)) ?_
              refine arun_do rfl rfl rfl (ex_move (eV (v := (I v2)) rfl)) ?_
              obtain ⟨x11, hx11, h⟩ := bindS h
              refine arun_do rfl rfl rfl (tx_idxD (c := cI) (xs := t1) (i := v2) ceI Try.underlying59 s_3 rfl rfl hx11) ?_
              refine arun_do rfl rfl rfl (tx_ldD1 (v := (I x11)) Try.underlying3 rfl rfl rfl) ?_
              refine arun_do rfl rfl rfl (ex_bin (vx := (I x11)) (vy := (I 3)) rfl rfl andI_ok) ?_
              refine arun_do rfl rfl rfl (ex_assign (eV (v := (I (andI x11 3))) rfl)) ?_
              refine arun_keepE [1, 2, 5, 6, 7, 8] 2 1 (st' := ⟨94, 0, [(1, (SL 1 cI t1)), (2, (LP 0 0)), (5, (GV 0 v3.length)), (6, (I v2)), (7, (LP 1 0)), (8, (I (andI x11 3)))], [(c_api_Dev t0), (c_api_Put x6)], ⟨1, [(0, ⟨1, ((v3).flatMap cS), true⟩)]⟩⟩) (by kernel_rfl) (by kernel_rfl) ?_
              exact (Exists.intro (andI x11 3) (And.intro rfl h))
            · rw [condF hb10] at h
              refine awp_condF (boF hb10) ?_
              refine awp_keepE [1, 2, 5, 6, 7, 8] 2 1 (st' := ⟨94, 0, [(1, (SL 1 cI t1)), (2, (LP 0 0)), (5, (GV 0 v3.length)), (6, (I v2)), (7, (LP 1 0)), (8, (I 0))], [(c_api_Dev t0), (c_api_Put x6)], ⟨1, [(0, ⟨1, ((v3).flatMap cS), true⟩)]⟩⟩) (by kernel_rfl) (by kernel_rfl) ?_
              refine awp_skip ?_
              exact (Exists.intro 0 (And.intro rfl h))
          · rintro s ⟨y9, rfl, h⟩
            unfold M_ref1_lasting_k2 at h
            refine awp_seqJ (fun s => ∃ (y12 : List Str), s = ⟨94, 0, [(1, (SL 1 cI t1)), (2, (LP 0 0)), (5, (GV 0 y12.length)), (6, (I v2)), (7, (LP 1 0)), (8, (I y9))], [(c_api_Dev t0), (c_api_Put x6)], ⟨1, [(0, ⟨1, ((y12).flatMap cS), true⟩)]⟩⟩ ∧ M_ref1_lasting_k3 (M_ref1_lasting_l1 t0 t1 n1) t0 t1 v2 x6 y9 y12 = some r) ?_ ?_
            · refine awp_seq ?_
              refine awp_region ?_
              refine arun_do rfl rfl rfl (ex_move (eV (v := (I y9)) rfl)) ?_
              refine arun_do rfl rfl rfl (ex_bin (vx := (I y9)) (vy := (I 1)) rfl rfl andI_ok) ?_
              refine arun_do rfl rfl rfl (ex_bin (vx := (I (andI y9 1))) (vy := (I 1)) rfl rfl eqlI_ok) ?_
              refine arun_keepE [1, 2, 5, 6, 7, 8, 61] 2 1 (st' := ⟨94, 0, [(1, (SL 1 cI t1)), (2, (LP 0 0)), (5, (GV 0 v3.length)), (6, (I v2)), (7, (LP 1 0)), (8, (I y9)), (61, (Bo ((andI y9 1) == 1)))], [(c_api_Dev t0), (c_api_Put x6)], ⟨1, [(0, ⟨1, ((v3).flatMap cS), true⟩)]⟩⟩) (by kernel_rfl) (by kernel_rfl) ?_
              show AWp _ _ _ _
              rcases Bool.eq_false_or_eq_true ((andI y9 1) == 1) with hb13 | hb13
              · rw [condT hb13] at h
                refine awp_condT (boT hb13) ?_
                obtain ⟨x14, hx14, h⟩ := bindS h
                obtain ⟨x15, hx15, h⟩ := bindS h
                obtain ⟨x16, hx16, h⟩ := bindS h
                obtain ⟨x17, hx17, h⟩ := bindS h
                obtain ⟨x18, hx18, h⟩ := bindS h
                obtain ⟨x19, hx19, h⟩ := bindS h
                refine awp_knR [1, 2, 5, 6, 7, 8] 2 1 [(1, (SL 1 cI t1)), (2, (LP 0 0)), (5, (GV 0 x19.length)), (6, (I v2)), (7, (LP 1 0)), (8, (I y9))] (st' := ⟨94, 0, [(1, (SL 1 cI t1)), (2, (LP 0 0)), (5, (GV 0 v3.length)), (6, (I v2)), (7, (LP 1 0)), (8, (I y9))], [(c_api_Dev t0), (c_api_Put x6)], ⟨1, [(0, ⟨1, ((x19).flatMap cS), true⟩)]⟩⟩) (awp_draw (T := [(GV 0 v3.length), (LP 1 0), (I x6.At), (LP 1 1), (S x6.B), (S x14), (GV 0 v3.length), (LP 1 0), (I x6.At), (GP 0 (x6.At.toNat * 1) (List.flatMap cS v3).length), (S x15), (S x16), (S x17), (GP 0 (x6.At.toNat * 1) (List.flatMap cS v3).length), undef]) (LH := [([(c_api_Dev t0), (c_api_Put x6)], ⟨1, [(0, ⟨1, ((v3).flatMap cS), true⟩)]⟩), ([(c_api_Dev t0), (c_api_Put x6)], ⟨1, [(0, ⟨1, ((x19).flatMap cS), true⟩)]⟩)]) (D := [⟨[(5, none)], [], [0], false⟩, ⟨[(7, none)], [], [0], false⟩, ⟨[(63, some 1)], [1], [0], false⟩, ⟨[(7, none)], [], [0], false⟩, ⟨[(65, some 3)], [3], [0], false⟩, ⟨[(66, some 4)], [3, 4], [0], false⟩, ⟨[(5, none)], [], [0], false⟩, ⟨[(7, none)], [], [0], false⟩, ⟨[(69, some 7)], [7], [0], false⟩, ⟨[(68, some 6), (70, some 8)], [6, 7, 8], [0], false⟩, ⟨[(71, some 9)], [6, 7, 8, 9], [0], false⟩, ⟨[(72, some 10)], [6, 7, 8, 9, 10], [0], false⟩, ⟨[(67, some 5), (73, some 11)], [3, 4, 5, 6, 7, 8, 9, 10, 11], [0], false⟩, ⟨[(62, some 0), (64, some 2)], [0, 1, 2, 3, 4, 5, 6, 7, 8, 9, 10, 11, 12], [0], false⟩, ⟨[(75, some 13), (74, some 12)], [0, 1, 2, 3, 4, 5, 6, 7, 8, 9, 10, 11, 12, 13], [0], true⟩]) (S := [14]) (plan := [0, 1, 2, 3, 4, 5, 6, 7, 8, 9, 10, 11, 12, 13, 14]) mo (by kernel_rfl) rfl rfl rfl (dcons (dstep1 (Tm := [(5, (GV 0 v3.length))]) (L := [(c_api_Dev t0), (c_api_Put x6)]) (H := ⟨1, [(0, ⟨1, ((v3).flatMap cS), true⟩)]⟩) rfl rfl rfl rfl rfl (astep_do rfl (ex_move (eV (v := (GV 0 v3.length)) rfl)))) (dcons (dstep1 (Tm := [(7, (LP 1 0))]) (L := [(c_api_Dev t0), (c_api_Put x6)]) (H := ⟨1, [(0, ⟨1, ((v3).flatMap cS), true⟩)]⟩) rfl rfl rfl rfl rfl (astep_do rfl (ex_fieldAddr (v := (LP 1 0)) Try.underlying44 rfl s_3 (by decide) rfl rfl))) (dcons (dstep1 (Tm := [(63, (LP 1 0))]) (L := [(c_api_Dev t0), (c_api_Put x6)]) (H := ⟨1, [(0, ⟨1, ((v3).flatMap cS), true⟩)]⟩) rfl rfl rfl rfl rfl (astep_do rfl (tx_ldL1 (v := (I x6.At)) Try.underlying3 rfl rfl rfl rfl))) (dcons (dstep1 (Tm := [(7, (LP 1 0))]) (L := [(c_api_Dev t0), (c_api_Put x6)]) (H := ⟨1, [(0, ⟨1, ((v3).flatMap cS), true⟩)]⟩) rfl rfl rfl rfl rfl (astep_do rfl (ex_fieldAddr (v := (LP 1 1)) Try.underlying44 rfl s_9 (by decide) rfl rfl))) (dcons (dstep1 (Tm := [(65, (LP 1 1))]) (L := [(c_api_Dev t0), (c_api_Put x6)]) (H := ⟨1, [(0, ⟨1, ((v3).flatMap cS), true⟩)]⟩) rfl rfl rfl rfl rfl (astep_do rfl (tx_ldL1 (v := (S x6.B)) Try.underlying9 rfl rfl rfl rfl))) (dcons (dstep1 (Tm := [(66, (S x6.B))]) (L := [(c_api_Dev t0), (c_api_Put x6)]) (H := ⟨1, [(0, ⟨1, ((v3).flatMap cS), true⟩)]⟩) rfl rfl rfl rfl rfl (astep_do rfl (tx_slS (u := x6.B) Try.underlying9 rfl lo0 (hiX (l := 128) rfl) hx14))) (dcons (dstep1 (Tm := [(5, (GV 0 v3.length))]) (L := [(c_api_Dev t0), (c_api_Put x6)]) (H := ⟨1, [(0, ⟨1, ((v3).flatMap cS), true⟩)]⟩) rfl rfl rfl rfl rfl (astep_do rfl (ex_move (eV (v := (GV 0 v3.length)) rfl)))) (dcons (dstep1 (Tm := [(7, (LP 1 0))]) (L := [(c_api_Dev t0), (c_api_Put x6)]) (H := ⟨1, [(0, ⟨1, ((v3).flatMap cS), true⟩)]⟩) rfl rfl rfl rfl rfl (astep_do rfl (ex_fieldAddr (v := (LP 1 0)) Try.underlying44 rfl s_3 (by decide) rfl rfl))) (dcons (dstep1 (Tm := [(69, (LP 1 0))]) (L := [(c_api_Dev t0), (c_api_Put x6)]) (H := ⟨1, [(0, ⟨1, ((v3).flatMap cS), true⟩)]⟩) rfl rfl rfl rfl rfl (astep_do rfl (tx_ldL1 (v := (I x6.At)) Try.underlying3 rfl rfl rfl rfl))) (dcons (dstep1 (Tm := [(68, (GV 0 v3.length)), (70, (I x6.At))]) (L := [(c_api_Dev t0), (c_api_Put x6)]) (H := ⟨1, [(0, ⟨1, ((v3).flatMap cS), true⟩)]⟩) rfl rfl rfl rfl rfl (astep_do rfl (tx_idxG (c := cS) (xs := v3) (i := x6.At) ceS Try.underlying26 s_9 rfl rfl rfl rfl hx15))) (dcons (dstep1 (Tm := [(71, (GP 0 (x6.At.toNat * 1) (List.flatMap cS v3).length))]) (L := [(c_api_Dev t0), (c_api_Put x6)]) (H := ⟨1, [(0, ⟨1, ((v3).flatMap cS), true⟩)]⟩) rfl rfl rfl rfl rfl (astep_do rfl (tx_ldG (v := (S x15)) (s := 1) rfl rfl (part_elem (off := 0) (v := (S x15)) ceS hx15 Try.underlying9 rfl (by decide) rfl)))) (dcons (dstep1 (Tm := [(72, (S x15))]) (L := [(c_api_Dev t0), (c_api_Put x6)]) (H := ⟨1, [(0, ⟨1, ((v3).flatMap cS), true⟩)]⟩) rfl rfl rfl rfl rfl (astep_do rfl (tx_slS (u := x15) Try.underlying9 rfl (loX (l := 128) rfl) hiN hx16))) (dcons (dstep1 (Tm := [(67, (S x14)), (73, (S x16))]) (L := [(c_api_Dev t0), (c_api_Put x6)]) (H := ⟨1, [(0, ⟨1, ((v3).flatMap cS), true⟩)]⟩) rfl rfl rfl rfl rfl (astep_do rfl (ex_bin (vx := (S x14)) (vy := (S x16)) rfl rfl (addS_ok hx17)))) (dcons (dstep1 (Tm := [(62, (GV 0 v3.length)), (64, (I x6.At))]) (L := [(c_api_Dev t0), (c_api_Put x6)]) (H := ⟨1, [(0, ⟨1, ((v3).flatMap cS), true⟩)]⟩) rfl rfl rfl rfl rfl (astep_do rfl (tx_idxG (c := cS) (xs := v3) (i := x6.At) ceS Try.underlying26 s_9 rfl rfl rfl rfl hx18))) (dcons (dstep1 (Tm := [(75, (GP 0 (x6.At.toNat * 1) (List.flatMap cS v3).length)), (74, (S x17))]) (L := [(c_api_Dev t0), (c_api_Put x6)]) (H := ⟨1, [(0, ⟨1, ((v3).flatMap cS), true⟩)]⟩) rfl rfl rfl rfl rfl (astep_do rfl (tx_stG (c := cS) (xs := v3) (e := x17) (H' := ⟨1, [(0, ⟨1, ((x19).flatMap cS), true⟩)]⟩) ceS s_9 rfl (eV (v := (S x17)) rfl) rfl rfl hx19 rfl))) dnil))))))))))))))) ⟨rfl, rfl⟩) (by kernel_rfl) (by kernel_rfl) (ReT.keep (v := (SL 1 cI t1)) rfl (ReT.keep (v := (LP 0 0)) rfl (ReT.gv rfl (setI_len hx19) (ReT.keep (v := (I v2)) rfl (ReT.keep (v := (LP 1 0)) rfl (ReT.keep (v := (I y9)) rfl ReT.nil)))))) ?_
                exact (Exists.intro x19 (And.intro rfl h))
              · rw [condF hb13] at h
                refine awp_condF (boF hb13) ?_
                refine awp_keepE [1, 2, 5, 6, 7, 8] 2 1 (st' := ⟨94, 0, [(1, (SL 1 cI t1)), (2, (LP 0 0)), (5, (GV 0 v3.length)), (6, (I v2)), (7, (LP 1 0)), (8, (I y9))], [(c_api_Dev t0), (c_api_Put x6)], ⟨1, [(0, ⟨1, ((v3).flatMap cS), true⟩)]⟩⟩) (by kernel_rfl) (by kernel_rfl) ?_
                refine awp_skip ?_
                exact (Exists.intro v3 (And.intro rfl h))
            · rintro s ⟨y12, rfl, h⟩
              unfold M_ref1_lasting_k3 at h
              refine awp_seq ?_
              refine awp_region ?_
              refine arun_do rfl rfl rfl (ex_move (eV (v := (I y9)) rfl)) ?_
              refine arun_do rfl rfl rfl (ex_bin (vx := (I y9)) (vy := (I 2)) rfl rfl andI_ok) ?_
              refine arun_do rfl rfl rfl (ex_bin (vx := (I (andI y9 2))) (vy := (I 2)) rfl rfl eqlI_ok) ?_
              refine arun_keepE [1, 2, 5, 6, 7, 78] 2 1 (st' := ⟨94, 0, [(1, (SL 1 cI t1)), (2, (LP 0 0)), (5, (GV 0 y12.length)), (6, (I v2)), (7, (LP 1 0)), (78, (Bo ((andI y9 2) == 2)))], [(c_api_Dev t0), (c_api_Put x6)], ⟨1, [(0, ⟨1, ((y12).flatMap cS), true⟩)]⟩⟩) (by kernel_rfl) (by kernel_rfl) ?_
              show AWp _ _ _ _
              rcases Bool.eq_false_or_eq_true ((andI y9 2) == 2) with hb20 | hb20
              · rw [condT hb20] at h
                refine awp_condT (boT hb20) ?_
                obtain ⟨x21, hx21, h⟩ := bindS h
                obtain ⟨x22, hx22, h⟩ := bindS h
                obtain ⟨x23, hx23, h⟩ := bindS h
                obtain ⟨x24, hx24, h⟩ := bindS h
                obtain ⟨x25, hx25, h⟩ := bindS h
                obtain ⟨x26, hx26, h⟩ := bindS h
                refine awp_knR [1, 2, 5, 6] 1 1 [(1, (SL 1 cI t1)), (2, (LP 0 0)), (5, (GV 0 x26.length)), (6, (I v2))] (st' := ⟨94, 0, [(1, (SL 1 cI t1)), (2, (LP 0 0)), (5, (GV 0 y12.length)), (6, (I v2))], [(c_api_Dev t0)], ⟨1, [(0, ⟨1, ((x26).flatMap cS), true⟩)]⟩⟩) (awp_draw (T := [(GV 0 y12.length), (LP 1 0), (I x6.At), (GV 0 y12.length), (LP 1 0), (I x6.At), (GP 0 (x6.At.toNat * 1) (List.flatMap cS y12).length), (S x21), (S x22), (LP 1 1), (S x6.B), (S x23), (S x24), (GP 0 (x6.At.toNat * 1) (List.flatMap cS y12).length), undef]) (LH := [([(c_api_Dev t0), (c_api_Put x6)], ⟨1, [(0, ⟨1, ((y12).flatMap cS), true⟩)]⟩), ([(c_api_Dev t0), (c_api_Put x6)], ⟨1, [(0, ⟨1, ((x26).flatMap cS), true⟩)]⟩)]) (D := [⟨[(5, none)], [], [0], false⟩, ⟨[(7, none)], [], [0], false⟩, ⟨[(80, some 1)], [1], [0], false⟩, ⟨[(5, none)], [], [0], false⟩, ⟨[(7, none)], [], [0], false⟩, ⟨[(83, some 4)], [4], [0], false⟩, ⟨[(82, some 3), (84, some 5)], [3, 4, 5], [0], false⟩, ⟨[(85, some 6)], [3, 4, 5, 6], [0], false⟩, ⟨[(86, some 7)], [3, 4, 5, 6, 7], [0], false⟩, ⟨[(7, none)], [], [0], false⟩, ⟨[(88, some 9)], [9], [0], false⟩, ⟨[(89, some 10)], [9, 10], [0], false⟩, ⟨[(87, some 8), (90, some 11)], [3, 4, 5, 6, 7, 8, 9, 10, 11], [0], false⟩, ⟨[(79, some 0), (81, some 2)], [0, 1, 2, 3, 4, 5, 6, 7, 8, 9, 10, 11, 12], [0], false⟩, ⟨[(92, some 13), (91, some 12)], [0, 1, 2, 3, 4, 5, 6, 7, 8, 9, 10, 11, 12, 13], [0], true⟩]) (S := [14]) (plan := [0, 1, 2, 3, 4, 5, 6, 7, 8, 9, 10, 11, 12, 13, 14]) mo (by kernel_rfl) rfl rfl rfl (dcons (dstep1 (Tm := [(5, (GV 0 y12.length))]) (L := [(c_api_Dev t0), (c_api_Put x6)]) (H := ⟨1, [(0, ⟨1, ((y12).flatMap cS), true⟩)]⟩) rfl rfl rfl rfl rfl (astep_do rfl (ex_move (eV (v := (GV 0 y12.length)) rfl)))) (dcons (dstep1 (Tm := [(7, (LP 1 0))]) (L := [(c_api_Dev t0), (c_api_Put x6)]) (H := ⟨1, [(0, ⟨1, ((y12).flatMap cS), true⟩)]⟩) rfl rfl rfl rfl rfl (astep_do rfl (ex_fieldAddr (v := (LP 1 0)) Try.underlying44 rfl s_3 (by decide) rfl rfl))) (dcons (dstep1 (Tm := [(80, (LP 1 0))]) (L := [(c_api_Dev t0), (c_api_Put x6)]) (H := ⟨1, [(0, ⟨1, ((y12).flatMap cS), true⟩)]⟩) rfl rfl rfl rfl rfl (astep_do rfl (tx_ldL1 (v := (I x6.At)) Try.underlying3 rfl rfl rfl rfl))) (dcons (dstep1 (Tm := [(5, (GV 0 y12.length))]) (L := [(c_api_Dev t0), (c_api_Put x6)]) (H := ⟨1, [(0, ⟨1, ((y12).flatMap cS), true⟩)]⟩) rfl rfl rfl rfl rfl (astep_do rfl (ex_move (eV (v := (GV 0 y12.length)) rfl)))) (dcons (dstep1 (Tm := [(7, (LP 1 0))]) (L := [(c_api_Dev t0), (c_api_Put x6)]) (H := ⟨1, [(0, ⟨1, ((y12).flatMap cS), true⟩)]⟩) rfl rfl rfl rfl rfl (astep_do rfl (ex_fieldAddr (v := (LP 1 0)) Try.underlying44 rfl s_3 (by decide) rfl rfl))) (dcons (dstep1 (Tm := [(83, (LP 1 0))]) (L := [(c_api_Dev t0), (c_api_Put x6)]) (H := ⟨1, [(0, ⟨1, ((y12).flatMap cS), true⟩)]⟩) rfl rfl rfl rfl rfl (astep_do rfl (tx_ldL1 (v := (I x6.At)) Try.underlying3 rfl rfl rfl rfl))) (dcons (dstep1 (Tm := [(82, (GV 0 y12.length)), (84, (I x6.At))]) (L := [(c_api_Dev t0), (c_api_Put x6)]) (H := ⟨1, [(0, ⟨1, ((y12).flatMap cS), true⟩)]⟩) rfl rfl rfl rfl rfl (astep_do rfl (tx_idxG (c := cS) (xs := y12) (i := x6.At) ceS Try.underlying26 s_9 rfl rfl rfl rfl hx21))) (dcons (dstep1 (Tm := [(85, (GP 0 (x6.At.toNat * 1) (List.flatMap cS y12).length))]) (L := [(c_api_Dev t0), (c_api_Put x6)]) (H := ⟨1, [(0, ⟨1, ((y12).flatMap cS), true⟩)]⟩) rfl rfl rfl rfl rfl (astep_do rfl (tx_ldG (v := (S x21)) (s := 1) rfl rfl (part_elem (off := 0) (v := (S x21)) ceS hx21 Try.underlying9 rfl (by decide) rfl)))) (dcons (dstep1 (Tm := [(86, (S x21))]) (L := [(c_api_Dev t0), (c_api_Put x6)]) (H := ⟨1, [(0, ⟨1, ((y12).flatMap cS), true⟩)]⟩) rfl rfl rfl rfl rfl (astep_do rfl (tx_slS (u := x21) Try.underlying9 rfl lo0 (hiX (l := 128) rfl) hx22))) (dcons (dstep1 (Tm := [(7, (LP 1 0))]) (L := [(c_api_Dev t0), (c_api_Put x6)]) (H := ⟨1, [(0, ⟨1, ((y12).flatMap cS), true⟩)]⟩) rfl rfl rfl rfl rfl (astep_do rfl (ex_fieldAddr (v := (LP 1 1)) Try.underlying44 rfl s_9 (by decide) rfl rfl))) (dcons (dstep1 (Tm := [(88, (LP 1 1))]) (L := [(c_api_Dev t0), (c_api_Put x6)]) (H := ⟨1, [(0, ⟨1, ((y12).flatMap cS), true⟩)]⟩) rfl rfl rfl rfl rfl (astep_do rfl (tx_ldL1 (v := (S x6.B)) Try.underlying9 rfl rfl rfl rfl))) (dcons (dstep1 (Tm := [(89, (S x6.B))]) (L := [(c_api_Dev t0), (c_api_Put x6)]) (H := ⟨1, [(0, ⟨1, ((y12).flatMap cS), true⟩)]⟩) rfl rfl rfl rfl rfl (astep_do rfl (tx_slS (u := x6.B) Try.underlying9 rfl (loX (l := 128) rfl) hiN hx23))) (dcons (dstep1 (Tm := [(87, (S x22)), (90, (S x23))]) (L := [(c_api_Dev t0), (c_api_Put x6)]) (H := ⟨1, [(0, ⟨1, ((y12).flatMap cS), true⟩)]⟩) rfl rfl rfl rfl rfl (astep_do rfl (ex_bin (vx := (S x22)) (vy := (S x23)) rfl rfl (addS_ok hx24)))) (dcons (dstep1 (Tm := [(79, (GV 0 y12.length)), (81, (I x6.At))]) (L := [(c_api_Dev t0), (c_api_Put x6)]) (H := ⟨1, [(0, ⟨1, ((y12).flatMap cS), true⟩)]⟩) rfl rfl rfl rfl rfl (astep_do rfl (tx_idxG (c := cS) (xs := y12) (i := x6.At) ceS Try.underlying26 s_9 rfl rfl rfl rfl hx25))) (dcons (dstep1 (Tm := [(92, (GP 0 (x6.At.toNat * 1) (List.flatMap cS y12).length)), (91, (S x24))]) (L := [(c_api_Dev t0), (c_api_Put x6)]) (H := ⟨1, [(0, ⟨1, ((y12).flatMap cS), true⟩)]⟩) rfl rfl rfl rfl rfl (astep_do rfl (tx_stG (c := cS) (xs := y12) (e := x24) (H' := ⟨1, [(0, ⟨1, ((x26).flatMap cS), true⟩)]⟩) ceS s_9 rfl (eV (v := (S x24)) rfl) rfl rfl hx26 rfl))) dnil))))))))))))))) ⟨rfl, rfl⟩) (by kernel_rfl) (by kernel_rfl) (ReT.keep (v := (SL 1 cI t1)) rfl (ReT.keep (v := (LP 0 0)) rfl (ReT.gv rfl (setI_len hx26) (ReT.keep (v := (I v2)) rfl ReT.nil)))) ?_
                exact (Exists.intro x26 (And.intro rfl h))
              · rw [condF hb20] at h
                refine awp_condF (boF hb20) ?_
                refine awp_keepE [1, 2, 5, 6] 1 1 (st' := ⟨94, 0, [(1, (SL 1 cI t1)), (2, (LP 0 0)), (5, (GV 0 y12.length)), (6, (I v2))], [(c_api_Dev t0)], ⟨1, [(0, ⟨1, ((y12).flatMap cS), true⟩)]⟩⟩) (by kernel_rfl) (by kernel_rfl) ?_
                refine awp_skip ?_
                exact (Exists.intro y12 (And.intro rfl h))
      · rintro s ⟨y5, rfl, h⟩
        unfold M_ref1_lasting_k1 at h
        refine awp_region ?_
        refine arun_do rfl rfl rfl (ex_move (eV (v := (I v2)) rfl)) ?_
        refine arun_do rfl rfl rfl (ex_bin (vx := (I v2)) (vy := (I 1)) rfl rfl addI_ok) ?_
        refine arun_do rfl rfl rfl (ex_assign (eV (v := (I (w64 (v2 + 1)))) rfl)) ?_
        refine arun_keepE [1, 2, 5, 6] 1 1 (st' := ⟨94, 0, [(1, (SL 1 cI t1)), (2, (LP 0 0)), (5, (GV 0 y5.length)), (6, (I (w64 (v2 + 1))))], [(c_api_Dev t0)], ⟨1, [(0, ⟨1, ((y5).flatMap cS), true⟩)]⟩⟩) (by kernel_rfl) (by kernel_rfl) ?_
        exact Exists.intro n1 (And.intro (Nat.lt_succ_self _) (Exists.intro (w64 (v2 + 1)) (Exists.intro y5 (And.intro rfl h))))
    · rw [condF hb4] at h
      refine awp_condF (boF hb4) ?_
      refine awp_exit ?_
      show AWp _ _ _ _
      refine awp_seq ?_
      refine awp_region ?_
      refine arun_do rfl rfl rfl (ex_move (eV (v := (GV 0 v3.length)) rfl)) ?_
      refine arun_do rfl rfl rfl (ex_assign (eV (v := (GV 0 v3.length)) rfl)) ?_
      refine arun_keepE [4] 0 1 (st' := ⟨94, 0, [(4, (GV 0 v3.length))], [], ⟨1, [(0, ⟨1, ((v3).flatMap cS), true⟩)]⟩⟩) (by kernel_rfl) (by kernel_rfl) ?_
      show AWp _ _ _ _
      refine awp_freeze 0 (bk := ⟨1, ((v3).flatMap cS), true⟩) (T' := [(4, (SL 1 cS v3))]) (L' := []) rfl (fzG ceS rfl rfl FzT.nil) (FzL.refl _) ?_
      show AWp _ _ _ ⟨94, 0, [(4, (SL 1 cS v3))], [], ⟨1, []⟩⟩
      refine awp_ret ?_
      cases h
      exact ares1 (rtmp rfl (eV rfl))

end Go.Proofs
