/-
  The least of three numbers.
-/
import Derived.Test.YtiolemkcnkokaaaDoorFHd1
namespace Go.Fhl
open Go.RowKit
set_option linter.unusedVariables false
set_option linter.unusedSimpArgs false
variable {P : Program} {n0 b0 : Nat} {Tm : List (Nat × Value)} {Lo : List (List Value)} {He : AH} {v vx vy : Value} {x y z c : Operand} {d : Option Tmp} {ty : TypeId} {pos : String} {af : Array Edge} {g : Option (Nat × Bool)}
theorem ex_min3 {t1 t2 t3 : TypeId} {k : IntKind} {m n l : Int} (hx : ev Tm x = .int k m) (hy : ev Tm y = .int k n) (hz : ev Tm z = .int k l) : AExec P ⟨d, .call ⟨.builtin .min, #[x, y, z], #[t1, t2, t3]⟩, ty, pos, af, g⟩ ⟨n0, b0, Tm, Lo, He⟩ (.int k (min (min m n) l)) Lo He :=
  .of_read fun hm lb w0 U w a r => by
    have h1 : a.eval x = .int k m := (r.evEq hx).sr rfl
    have h2 : a.eval y = .int k n := (r.evEq hy).sr rfl
    have h3 : a.eval z = .int k l := (r.evEq hz).sr rfl
    refine ⟨.int k (min (min m n) l), ?_, .of_sr rfl rfl⟩
    have m2 : ∀ a b : Int, (if b < a then b else a) = min a b := by
      intro a b
      by_cases q : b < a
      · rw [if_pos q]; omega
      · rw [if_neg q]; omega
    have : pureRun P (Builtin.min_ #[t1, t2, t3] ty #[.int k m, .int k n, .int k l]) = some (.int k (if l < (if n < m then n else m) then l else (if n < m then n else m))) := by simp [Builtin.min_, Builtin.min2]; rfl
    rw [m2 m n, m2] at this
    simp [execOp, resolve, invoke, builtin, h1, h2, h3, pureRun_ok this w]
end Go.Fhl
