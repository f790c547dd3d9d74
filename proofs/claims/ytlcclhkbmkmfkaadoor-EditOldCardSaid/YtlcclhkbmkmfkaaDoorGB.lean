/-
  Functions that hand out a new row and a number.
-/
import Derived.Test.YtlcclhkbmkmfkaaDoorFHd1
namespace Go.Fhl
set_option linter.unusedVariables false
set_option linter.unusedSimpArgs false
def FOw2 (P : Program) (f : FuncId) (args : List Value) (len : Nat) (m : Int) (b : Blk) : Prop := AFn P f args AH.empty fun v H' => v = .tuple #[GV 0 len, .int .i64 m] ∧ H'.get 0 = some b
def FinO2 (P : Program) (rs : List ResultVar) (len : Nat) (m : Int) (b : Blk) : Exit → AS → Prop
  | .normal, s | .ret, s => ARes P rs s (.tuple #[GV 0 len, .int .i64 m]) ∧ s.heap.get 0 = some b ∧ Nat.blt 0 s.heap.next = true
  | _, _ => False
theorem okv2 {k len : Nat} {m : Int} (h : Nat.blt 0 k = true) : okv k 0 (.tuple #[GV 0 len, .int .i64 m]) = true := by
  simp [okv, okv1, GV, h]
theorem FOw2.of_body {P : Program} {f : FuncId} {fn : Func} {c : Code} {args : List Value} {n : Nat} {rs : List ResultVar} {T : List (Nat × Value)} {len : Nat} {m : Int} {b : Blk} (hf : P.funcs[f]? = some fn) (hb : fn.body = some c) (hn : fn.ntmps = n) (hl : Nat.ble args.length n = true) (hrs : fn.results.toList = rs) (hT : argsT 0 args = T)
    (h : AWp P c (FinO2 P rs len m b) ⟨n, 0, T, [], ⟨0, []⟩⟩) : FOw2 P f args len m b := by
  subst hn; subst hT; subst hrs
  refine AFn.of_body hf hb (by rw [Nat.ble_eq] at hl; exact hl) (awp_mono h fun e s q => ?_)
  cases e with
  | normal => exact ⟨_, q.1, okv2 q.2.2, rfl, q.2.1⟩
  | ret => exact ⟨_, q.1, okv2 q.2.2, rfl, q.2.1⟩
  | _ => exact q.elim
section
variable {P : Program} {n0 b0 : Nat} {Tm : List (Nat × Value)} {Lo : List (List Value)} {He : AH} {f : Operand} {args : Array Operand} {ts : Array TypeId} {d : Option Tmp} {ty : TypeId} {pos : String} {af : Array Edge} {gd : Option (Nat × Bool)}
theorem ex_callOw2 {g : FuncId} {cap : Array Value} {vs : List Value} {k len : Nat} {m : Int} {b : Blk} {H' : AH} (hf : ev Tm f = .func (.func g) #[] cap) (hg : enterable P g = true) (ha : CArgs Tm args cap vs) (hp : vs.all pureA = true) (hc : FOw2 P g vs len m b)
    (hk : He.next = k) (hH : He.alloc b = H') : AExec P ⟨d, .call ⟨.value f, args, ts⟩, ty, pos, af, gd⟩ ⟨n0, b0, Tm, Lo, He⟩ (.tuple #[GV k len, .int .i64 m]) Lo H' := by
  intro hm lb w0 U w a Q r
  subst hk; subst hH
  obtain ⟨cargs, hrun, hargs⟩ := call_run (d := d) (ts := ts) (ty := ty) (pos := pos) (af := af) (gd := gd) r hf hg ha
  have hargs' : L2 (VR hm.bare []) vs cargs.toList := hargs.mono fun x y hx q => VR.pureA (hm := hm) (List.all_eq_true.1 hp x hx) (fun _ _ _ z => z) q
  unfold Oper.wp
  rw [hrun]
  refine (hc hm.bare w (hideU hm w) w cargs r.hide hargs').mono fun e w' q => ?_
  obtain ⟨hm', v', cv, H', rfl, q2, q3, q4, q5, rfl, q7⟩ := q
  obtain ⟨i, g1, h1, h2⟩ := r.unhideNew q2.fz q4 q7
  refine ⟨_, lb, cv, h1, LM.le_refl _, rfl, ?_, h2⟩
  rcases q5 with q5 | ⟨q5, _⟩ | ⟨vs', rfl, q5⟩
  · exact absurd (congrArg Array.size q5) (by simp)
  · exact absurd (congrArg Array.size q5) (by simp)
  · obtain ⟨c1, t1, e1, k1, q6⟩ := q5.cons_inv
    obtain ⟨c2, t2, e2, k2, q8⟩ := q6.cons_inv
    refine .inr (.inr ⟨_, rfl, ?_⟩)
    rw [e1, e2]
    refine .cons ?_ (.cons ?_ ?_)
    · obtain ⟨i', p, c, m1, m2⟩ := k1
      simp only at m1
      rw [g1] at m1; cases m1
      exact ⟨i, p, c, GM.put_same, m2⟩
    · exact k2
    · have : t2 = [] := List.length_eq_zero_iff.1 q8.1.symm
      rw [this]; exact .nil
end
end Go.Fhl
