import Derived.Test.YtmafhfnalekgnaaAhlM
import Derived.Below
namespace Go.Ahl
open Go.RowKit
theorem afn_below {P : Program} {f : FuncId} {args : List Value} {H : AH} {w : World} {cargs : Array Value} {hm : HM} (h : AFn P f args H (MadeOnly H fun r _ => r = .bool true))
    (hr : HRel hm w ⟨fun B => B < w.heap.size, w.heap.size⟩ H w) (ha : L2 (VR hm []) args cargs.toList) : Calls P f cargs w fun e w' => e = .returned (.bool true) ∧ Below w.heap.size w w' := by
  refine (h hm w _ w cargs hr ha).mono fun e w' ⟨hm', v, cv, H', h1, h2, h3, h4, h5⟩ => ?_
  obtain ⟨_, _, rfl⟩ := h5
  have : cv = .bool true := h4.sr rfl
  subst this
  exact ⟨h1, h3.os, h3.tape, h3.output, h3.size, fun k hk => (h3.prot k hk).2⟩
def H0 : AH := ⟨0, fun _ => none⟩
theorem hrel0 (w : World) : HRel (fun _ => none) w ⟨fun B => B < w.heap.size, w.heap.size⟩ H0 w where
  nsz := Nat.le_refl _
  os := rfl
  tape := rfl
  output := rfl
  size := Nat.le_refl _
  prot := fun B hB => ⟨hB, rfl⟩
  fresh := fun _ _ => rfl
  blk := fun n b h => by cases h
  inj := fun n b n' b' i i' h => by cases h
/-- Arguments that are plain. -/
theorem afn_plain {P : Program} {f : FuncId} {args : List Value} {w : World} (h : AFn P f args H0 (MadeOnly H0 fun r _ => r = .bool true)) (hp : args.all plain = true) :
    Calls P f args.toArray w fun e w' => e = .returned (.bool true) ∧ Below w.heap.size w w' := by
  refine afn_below h (hrel0 w) ?_
  show L2 _ args args
  clear h
  induction args with
  | nil => exact .nil
  | cons x l ih =>
    simp only [List.all_cons, Bool.and_eq_true] at hp
    exact .cons (.of_plain hp.1) (ih hp.2)

def H1 (l : List Value) : AH := ⟨1, fun n => if n = 0 then some ⟨1, l, false⟩ else none⟩
def hm1 (blk off size : Nat) : HM := fun n => if n = 0 then some ⟨blk, off, size, 1⟩ else none
theorem hrel1 (w : World) {blk off : Nat} {C : Array Value} {e fz} (l : List Value) (hw : w.heap[blk]? = some (.cells C e fz)) (hl : off + l.length ≤ C.size)
    (hc : ∀ (k : Nat) v, l[k]? = some v → C[off + k]? = some v) (hp : l.all plain1 = true) : HRel (hm1 blk off C.size) w ⟨fun B => B < w.heap.size, w.heap.size⟩ (H1 l) w where
  nsz := Nat.le_refl _
  os := rfl
  tape := rfl
  output := rfl
  size := Nat.le_refl _
  prot := fun B hB => ⟨hB, rfl⟩
  fresh := fun n hn => by
    have : n ≠ 0 := by have : 1 ≤ n := hn; omega
    simp [hm1, this]
  blk := fun n b h => by
    simp only [H1] at h
    split at h
    · rename_i hn
      cases h; subst hn
      refine ⟨⟨blk, off, C.size, 1⟩, C, e, fz, rfl, hw, rfl, rfl, hl, fun k v hv => ⟨v, hc k v hv, SR.of_plain ?_⟩, fun q => (by cases q), fun _ => lt_of_get hw⟩
      exact List.all_eq_true.1 hp v (List.mem_of_getElem? hv)
    · cases h
  inj := fun n b n' b' i i' h hwr => by
    simp only [H1] at h
    split at h
    · cases h; cases hwr
    · cases h
open Go.WideShapes in
/-- A slice that came in leads into a block that is there. -/
theorem has_off {P : Program} {w : World} {r : Reach} {base : Nat} {a : Addr} {e : TypeId} {n : Nat} {k : IntKind} (hu : P.underlying e = some (.int k)) (h : w.has P r base a e n) :
    a.spot = none ∧ ∃ C t fz, w.heap[a.block]? = some (.cells C t fz) ∧ a.off ≤ C.size := by
  obtain ⟨_, hs, row, cells, hsh, hl⟩ := h
  refine ⟨hs, ?_⟩
  unfold World.shape? at hsh
  split at hsh
  · rename_i c elem fz hb
    cases hsh
    refine ⟨c, _, fz, hb, ?_⟩
    cases hd : P.depth with
    | zero => rw [hd] at hl; simp [liesAt] at hl
    | succ d =>
      rw [hd] at hl
      simp only [liesAt, hu, Bool.or_false] at hl
      cases hd2 : (d + 1) with
      | zero => omega
      | succ d2 =>
        rw [hd, hd2] at hl
        unfold rowAt at hl
        generalize hgs : P.cellsOf row = s at hl
        by_cases hz : s = 0
        · simp [hz] at hl
        · have h1 : c.size / s * s ≤ c.size := Nat.div_mul_le_self _ _
          have h2 := Nat.div_add_mod a.off s
          have h3 := Nat.mod_lt a.off (Nat.pos_of_ne_zero hz)
          simp only [hz, if_false, Bool.or_eq_true, Bool.and_eq_true, beq_iff_eq, decide_eq_true_eq] at hl
          have h4 : s * (a.off / s) = a.off / s * s := Nat.mul_comm _ _
          rcases hl with ⟨⟨q1, q2⟩, _⟩ | ⟨q, _⟩
          · have : a.off / s * s ≤ c.size / s * s := Nat.mul_le_mul_right s (by omega)
            omega
          · have : (a.off / s + 1) * s ≤ c.size / s * s := Nat.mul_le_mul_right s (by omega)
            rw [Nat.add_mul] at this
            omega
  · cases hsh
end Go.Ahl
namespace Go.Ahl
theorem u8_range {n : Int} (h : (Lit.int .u8 n).wf = true) : 0 ≤ n ∧ n < 256 := by
  have e : (Lit.int .u8 n).wf = (decide ((0 : Int) ≤ n) && decide (n ≤ (255 : Int))) := rfl
  rw [e] at h
  simp at h
  omega
end Go.Ahl
