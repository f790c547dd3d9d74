/-
  The least of three numbers.
-/
import Derived.Test.YtmhfodjiefednaaFHd1
namespace Go.Fhl
open Go.RowKit
set_option linter.unusedVariables false
set_option linter.unusedSimpArgs false
variable {P : Program} {n0 b0 : Nat} {Tm : List (Nat × Value)} {Lo : List (List Value)} {He : AH} {v vx vy : Value} {x y z c : Operand} {d : Option Tmp} {ty : TypeId} {pos : String} {af : Array Edge} {g : Option (Nat × Bool)}
end Go.Fhl
namespace Go.Fhl
set_option linter.unusedVariables false
variable {P : Program} {n0 b0 : Nat} {Tm : List (Nat × Value)} {Lo : List (List Value)} {He : AH} {f : Operand} {args : Array Operand} {ts : Array TypeId} {d : Option Tmp} {ty : TypeId} {pos : String} {af : Array Edge} {gd : Option (Nat × Bool)}
/-- A call of a function that reads two blocks of ours, and answers what names nothing. -/
theorem ex_callB2 {g : FuncId} {cap : Array Value} {vs vs1 vs' : List Value} {v : Value} {n n2 : Nat} {b b2 : Blk} (hf : ev Tm f = .func (.func g) #[] cap) (hg : enterable P g = true) (ha : CArgs Tm args cap vs) (hb : He.get n = some b) (hb2 : (He.kill n).get n2 = some b2) (hz : L2 (FzA n b) vs vs1) (hz2 : L2 (FzA n2 b2) vs1 vs') (hp : vs'.all pureA = true) (hc : FFn P g vs' v) (hv : plainT v = true) :
    AExec P ⟨d, .call ⟨.value f, args, ts⟩, ty, pos, af, gd⟩ ⟨n0, b0, Tm, Lo, He⟩ v Lo He := by
  intro hm lb w0 U w a Q r
  obtain ⟨cargs, hrun, hargs⟩ := call_run (d := d) (ts := ts) (ty := ty) (pos := pos) (af := af) (gd := gd) r hf hg ha
  obtain ⟨i, g1, _⟩ := r.blk n b hb
  obtain ⟨f1, f2, f3⟩ := r.freeze hb g1
  obtain ⟨i2, g2, _⟩ := f2.blk n2 b2 hb2
  obtain ⟨k1, k2, k3⟩ := f2.freeze hb2 g2
  have hargs' : L2 (VR ((hm.freeze i.blk b.cells).freeze i2.blk b2.cells).bare []) vs' cargs.toList := by
    refine ⟨hz2.1.symm.trans (hz.1.symm.trans hargs.1), fun k x' y hx' hy => ?_⟩
    have hk1 : k < vs1.length := by rw [hz2.1]; exact lookup_lt hx'
    have hx1 := List.getElem?_eq_getElem hk1
    have hk : k < vs.length := by rw [hz.1]; exact hk1
    have hx := List.getElem?_eq_getElem hk
    have t1 := (hz.2 k _ _ hx hx1).vr r hb g1 f1 f3 (hargs.2 k _ _ hx hy)
    have t2 := (hz2.2 k _ _ hx1 hx').vr f2 hb2 g2 k1 k3 t1
    exact VR.pureA (hm := (hm.freeze i.blk b.cells).freeze i2.blk b2.cells) (lb := lb) (List.all_eq_true.1 hp _ (List.mem_of_getElem? hx')) (fun _ _ _ z => z) t2
  unfold Oper.wp
  rw [hrun]
  refine (hc ((hm.freeze i.blk b.cells).freeze i2.blk b2.cells).bare w (hideU ((hm.freeze i.blk b.cells).freeze i2.blk b2.cells) w) w cargs k2.hide hargs').mono fun e w' q => ?_
  obtain ⟨hm', v', cv, H', rfl, q2, q3, q4, q5, rfl⟩ := q
  exact ⟨hm, lb, cv, GM.le_refl _, LM.le_refl _, rfl, VR.plainT hv q5, r.ext q4.os q4.tape q4.output q4.size (fun B hB => (q4.prot B hB).2)⟩
end Go.Fhl
