import Derived.Test.YtmafhfnalekgnaaAhlM
import Derived.Test.YtmafhfnalekgnaaSumX
import Derived.Test.YtmafhfnalekgnaaProg
import Derived.KernelRfl
namespace Go.Proofs
open Go Go.Ahl


theorem und23 : und Try.prog 23 = some (.int .u32) := by kernel_rfl

theorem pr_und {P : Program} {t : TypeId} {u : TypeDesc} (h : und P t = some u) : pureRun P (underlying t) = some u := by
  unfold und at h
  simp [underlying, pureRun_bind, program, pureRun, pureRun_pure, h]
  done
theorem eq_u32 (d : Nat) (a b : Int) : pureRun Try.prog (Op.equalIn (d + 1) 23 (.int .u32 a) (.int .u32 b)) = some (a == b) := by
  simp [Op.equalIn, pureRun_bind, pureRun_pure, pr_und und23]
theorem eql4 (xo yo : Operand) (s s' : S4) : keep (abin Try.prog .eql 25 xo yo (.agg (c4 s).toArray) (.agg (c4 s').toArray)) = some (.bool (decide (s = s'))) := by
  have hg : pureRun Try.prog (eqGuard .eql 25 xo yo (.agg (c4 s).toArray) (.agg (c4 s').toArray)) = some () := by kernel_rfl
  have hs : pureRun Try.prog (sizeOf 23) = some 1 := by kernel_rfl
  have hb : pureRun Try.prog (Op.equalIn (9999 + 1) 25 (.agg (c4 s).toArray) (.agg (c4 s').toArray)) = some (decide (s = s')) := by
    unfold Op.equalIn
    obtain ⟨a, b, c, d⟩ := s
    obtain ⟨a', b', c', d'⟩ := s'
    have p0 : ∀ x y z u : Int, pureRun Try.prog (part 23 (c4 (x, y, z, u)).toArray 0) = some (Value.int .u32 x) := by intro x y z u; kernel_rfl
    have p1 : ∀ x y z u : Int, pureRun Try.prog (part 23 (c4 (x, y, z, u)).toArray 1) = some (Value.int .u32 y) := by intro x y z u; kernel_rfl
    have p2 : ∀ x y z u : Int, pureRun Try.prog (part 23 (c4 (x, y, z, u)).toArray 2) = some (Value.int .u32 z) := by intro x y z u; kernel_rfl
    have p3 : ∀ x y z u : Int, pureRun Try.prog (part 23 (c4 (x, y, z, u)).toArray 3) = some (Value.int .u32 u) := by intro x y z u; kernel_rfl
    have hl : List.range' 0 ((4 - 0 + 1 - 1) / 1) = [0, 0 + 1, 0 + 1 + 1, 0 + 1 + 1 + 1] := rfl
    simp only [pureRun_bind, pr_und und25, Option.bind_some, hs, Std.Legacy.Range.forIn_eq_forIn_range', Std.Legacy.Range.size]
    rw [hl]
    have e : ∀ a b, pureRun Try.prog (Op.equalIn 9999 23 (.int .u32 a) (.int .u32 b)) = some (a == b) := fun a b => eq_u32 9998 a b
    by_cases h0 : a = a'
    · by_cases h1 : b = b'
      · by_cases h2 : c = c'
        · by_cases h3 : d = d'
          · subst h0 h1 h2 h3
            simp [pureRun_pure, pureRun_bind, p0, p1, p2, p3, e]
          · simp [pureRun_pure, pureRun_bind, p0, p1, p2, p3, e, h0, h1, h2, h3]
        · simp [pureRun_pure, pureRun_bind, p0, p1, p2, p3, e, h0, h1, h2]
      · simp [pureRun_pure, pureRun_bind, p0, p1, p2, p3, e, h0, h1]
    · simp [pureRun_pure, pureRun_bind, p0, p1, p2, p3, e, h0]
  unfold abin
  have hp : (plain (.agg (c4 s).toArray) && plain (.agg (c4 s').toArray)) = true := rfl
  rw [hp, if_pos rfl, pureRun_bind, hg]
  show keep ((pureRun Try.prog (do pure (.bool (← Op.equal 25 (.agg (c4 s).toArray) (.agg (c4 s').toArray)))))) = _
  rw [pureRun_bind]
  have : pureRun Try.prog (Op.equal 25 (.agg (c4 s).toArray) (.agg (c4 s').toArray)) = some (decide (s = s')) := hb
  rw [this]; rfl
end Go.Proofs
