/-
  The law of a group's two halves.
-/
import Derived.Test.YtmhfodjiefednaaR7B
import Derived.Test.YtmhfodjiefednaaR7WLabelHalves
import Derived.Test.YtmhfodjiefednaaLW1
set_option maxRecDepth 20000
namespace Go.Proofs
open Go Go.Fhl
set_option linter.unusedVariables false
set_option linter.unusedSimpArgs false
theorem slot_at {D k s : Int} (h : ((40 ≤ D ∧ D ≤ 240) ∧ 0 ≤ k ∧ k < 4) ∧ 0 ≤ s ∧ s < 6) : slotS D k s = k * 7 + (if 2 ≤ k then D else 0) + 1 + s := by
  unfold slotS; rw [if_pos h, atS_in h.1]
theorem halves_l1 (t1 : A4 UInt8) (x3 D : Int) (u : Ub) (hD : w64 (40 + x3) = D) (h40 : 40 ≤ D ∧ D ≤ 240) (hs : 0 ≤ u.Seat ∧ u.Seat < 6) (B : Str) (hB : B.length = 256) :
    M_law7_LabelHalves_l1 t1 x3 u [⟨slotS D 0 u.Seat, B⟩, ⟨slotS D 2 u.Seat, B⟩] [⟨slotS D 1 u.Seat, B⟩, ⟨slotS D 3 u.Seat, B⟩] fuel 0 = some true := by
  have s0 : slotS D 0 u.Seat = 1 + u.Seat := by rw [slot_at ⟨⟨h40, by omega⟩, hs⟩, if_neg (by omega)]; omega
  have s1 : slotS D 1 u.Seat = 8 + u.Seat := by rw [slot_at ⟨⟨h40, by omega⟩, hs⟩, if_neg (by omega)]; omega
  have s2 : slotS D 2 u.Seat = D + 15 + u.Seat := by rw [slot_at ⟨⟨h40, by omega⟩, hs⟩, if_pos (by omega)]; omega
  have s3 : slotS D 3 u.Seat = D + 22 + u.Seat := by rw [slot_at ⟨⟨h40, by omega⟩, hs⟩, if_pos (by omega)]; omega
  have hB' : ((B.length : Int) != 256) = false := by rw [hB]; rfl
  have k0 : w64 (2 * 0) = 0 := by kernel_rfl
  have k1 : w64 (0 + 1) = 1 := by kernel_rfl
  have k2 : w64 (2 * 1) = 2 := by kernel_rfl
  have k3 : w64 (2 + 1) = 3 := by kernel_rfl
  have n1 : w64 (0 + 1) = 1 := by kernel_rfl
  have n2 : w64 (1 + 1) = 2 := by kernel_rfl
  have g0 : ∀ a b : G_api_Put, getI [a, b] 0 = some a := fun a b => rfl
  have g1 : ∀ a b : G_api_Put, getI [a, b] 1 = some b := fun a b => rfl
  have p2 : phaseS D u 2 = [] := if_neg (fun q => by omega)
  have pz : phaseS D ⟨0, 0, 0, ⟨0, 0, ⟨0, 0, 0, 0⟩⟩⟩ 0 = [] := if_neg (fun q => by have := q.1.2; revert this; decide)
  have d2 : w64 (14 + D) = 14 + D := w64_id (by omega) (by omega)
  have l02 : decide ((0 : Int) < 2) = true := rfl
  have l12 : decide ((1 : Int) < 2) = true := rfl
  have l22 : decide ((2 : Int) < 2) = false := rfl
  obtain ⟨f, hf⟩ : ∃ f, fuel = f + 1 + 1 + 1 := ⟨4611686018427387901, rfl⟩
  rw [hf]
  rw [M_law7_LabelHalves_l1]
  simp only [l02, cond_true, g0, g1, bind_some', hD, k0, k1, slot_eq, bne_self_eq_false, lFF, gd_true, Bool.or_self, hB', cond_false, n1]
  rw [M_law7_LabelHalves_l1]
  simp only [l12, cond_true, g0, g1, bind_some', hD, k2, k3, slot_eq, bne_self_eq_false, lFF, gd_true, Bool.or_self, hB', cond_false, n2]
  rw [M_law7_LabelHalves_l1]
  simp only [l22, cond_false, g0, g1, bind_some', hD, d2, s0, s1, s2, s3, phase_eq, p2, pz, gd_some]
  have c1 : decide (1 + u.Seat < 14) = true := decide_eq_true (by omega)
  have c2 : decide (8 + u.Seat < 14) = true := decide_eq_true (by omega)
  have c3 : decide (D + 15 + u.Seat ≥ 14 + D) = true := decide_eq_true (by omega)
  have c4 : decide (D + 22 + u.Seat ≥ 14 + D) = true := decide_eq_true (by omega)
  have c5 : (1 + u.Seat != 8 + u.Seat) = true := by rw [bne_iff_ne]; omega
  have c6 : (D + 15 + u.Seat != D + 22 + u.Seat) = true := by rw [bne_iff_ne]; omega
  simp only [c1, c2, c3, c4, c5, c6, Bool.and_self, Bool.true_and, lTT, if_true]
  rfl
theorem law_LabelHalves (t0 : UInt8) (t1 : A4 UInt8) : M_law7_LabelHalves t0 t1 = some true := by
  unfold M_law7_LabelHalves
  obtain ⟨m, hm, e1, e2⟩ := rem201 t0
  obtain ⟨u, e3, hu, hx, hg, hs0, hs6, _⟩ := uof_eq t1
  have pp : ∀ h : Int, 0 ≤ h → h < 2 → phaseS (40 + (m : Int)) u h = [⟨slotS (40 + (m : Int)) h u.Seat, bytesU u⟩, ⟨slotS (40 + (m : Int)) (h + 2) u.Seat, bytesU u⟩] := fun h a b => if_pos ⟨⟨⟨by omega, by omega⟩, hu⟩, a, b⟩
  rw [begun7, bind_some', Bool.not_true, cond_false, e1, bind_some', e3, bind_some', e2, phase_eq, bind_some', phase_eq, bind_some', pp 0 (by omega) (by omega), pp 1 (by omega) (by omega)]
  have hl := halves_l1 t1 (m : Int) (40 + (m : Int)) u e2 ⟨by omega, by omega⟩ ⟨hs0, hs6⟩ (bytesU u) (bytesU_length u)
  have c : ∀ a b x y : G_api_Put, ((([a, b] : List G_api_Put).length : Int) != 2 || (([x, y] : List G_api_Put).length : Int) != 2) = false := fun _ _ _ _ => rfl
  rw [c, cond_false]
  exact hl
end Go.Proofs
