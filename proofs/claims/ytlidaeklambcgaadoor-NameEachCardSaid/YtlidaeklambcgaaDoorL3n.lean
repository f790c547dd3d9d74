/-
  Numbers of made ones.
-/
import Derived.Test.YtlidaeklambcgaaDoorL0
import Derived.Test.YtlidaeklambcgaaDoorR11M
set_option maxRecDepth 20000
namespace Go.Proofs
open Go Go.Fhl
set_option linter.unusedVariables false
set_option linter.unusedSimpArgs false
def WfP (p : G_palimpmade_Picks) : Prop := 0 ≤ p.n ∧ p.n ≤ p.l.length ∧ p.l.length < 1000000
theorem num_ok (p : G_palimpmade_Picks) (h : WfP p) (m : Int) (hm : 1 ≤ m) : ∃ x q, M_made_Picks_Num p m = some (x, q) ∧ WfP q ∧ 0 ≤ x ∧ x < m ∧ q.l = p.l := by
  obtain ⟨h0, h1, h2⟩ := h
  unfold M_made_Picks_Num
  by_cases q : p.n ≥ (p.l.length : Int)
  · exact ⟨0, p, by simp [q], ⟨h0, h1, h2⟩, Int.le_refl _, by omega, rfl⟩
  · obtain ⟨n, hn⟩ : ∃ n : Nat, p.n = n := ⟨p.n.toNat, by omega⟩
    have hlt : n < p.l.length := by omega
    have e1 : w64 (p.n + 1) = ((n + 1 : Nat) : Int) := by rw [hn, w64_succ (by omega)]
    have e2 : w64 (((n + 1 : Nat) : Int) - 1) = (n : Int) := w64_pred (by omega)
    refine ⟨((p.l[n].toNat : Int).tmod m), ⟨p.l, ((n + 1 : Nat) : Int)⟩, ?_, ⟨by show (0 : Int) ≤ ((n + 1 : Nat) : Int); omega, by show ((n + 1 : Nat) : Int) ≤ (p.l.length : Int); omega, h2⟩, ?_, ?_, rfl⟩
    · rw [decide_eq_false q, decide_eq_false (by omega), e1, e2, getI_lt hlt]
      simp only [Bool.or_false, cond_false, bind_some']
      unfold remI
      rw [if_neg (by omega)]; rfl
    · exact Int.tmod_nonneg _ (by omega)
    · exact Int.tmod_lt_of_pos _ (by omega)
end Go.Proofs
