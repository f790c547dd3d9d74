/-
  Functions that hand out a new row and a number.
-/
import Derived.Test.YtmhfodjiefednaaFHd1
namespace Go.Fhl
set_option linter.unusedVariables false
set_option linter.unusedSimpArgs false
def FOw2 (P : Program) (f : FuncId) (args : List Value) (len : Nat) (m : Int) (b : Blk) : Prop := AFn P f args AH.empty fun v H' => v = .tuple #[GV 0 len, .int .i64 m] ∧ H'.get 0 = some b
def FinO2 (P : Program) (rs : List ResultVar) (len : Nat) (m : Int) (b : Blk) : Exit → AS → Prop
  | .normal, s | .ret, s => ARes P rs s (.tuple #[GV 0 len, .int .i64 m]) ∧ s.heap.get 0 = some b ∧ Nat.blt 0 s.heap.next = true
  | _, _ => False
theorem okv2 {k len : Nat} {m : Int} (h : Nat.blt 0 k = true) : okv k 0 (.tuple #[GV 0 len, .int .i64 m]) = true := by
  simp [okv, okv1, GV, h]
theorem FOw2.of_body {P : Program} {f : FuncId} {fn : Func} {c : Code} {args : List Value} {n : Nat} {rs : List ResultVar} {T : List (Nat × Value)} {len : Nat} {m : Int} {b : Blk} (hf : P.funcs[f]? = some fn) (hb : fn.body = some c) (hn : fn.ntmps = n) (hl : Nat.ble args.length n = true) (hrs : fn.results.toList = rs) (hT : argsT 0 args = T)
    (h : AWp P c (FinO2 P rs len m b) ⟨n, 0, T, [], ⟨0, []⟩⟩) : FOw2 P f args len m b := by
  subst hn; subst hT; subst hrs
  refine AFn.of_body hf hb (by rw [Nat.ble_eq] at hl; exact hl) (awp_mono h fun e s q => ?_)
  cases e with
  | normal => exact ⟨_, q.1, okv2 q.2.2, rfl, q.2.1⟩
  | ret => exact ⟨_, q.1, okv2 q.2.2, rfl, q.2.1⟩
  | _ => exact q.elim
section
variable {P : Program} {n0 b0 : Nat} {Tm : List (Nat × Value)} {Lo : List (List Value)} {He : AH} {f : Operand} {args : Array Operand} {ts : Array TypeId} {d : Option Tmp} {ty : TypeId} {pos : String} {af : Array Edge} {gd : Option (Nat × Bool)}
end
end Go.Fhl
