/-
  A logic over the model, part fifteen: == on structs and arrays.
-/
import Derived.Test.YtpfbnghalpfoaaaDoorFU
namespace Go.Fhl
set_option linter.unusedVariables false
set_option linter.unusedSimpArgs false
section
variable {P : Program}
/-- Two values of a type are compared: so. -/
def EqT (P : Program) (d : Nat) (t : TypeId) (x y : Value) (b : Bool) : Prop := pureRun P (Op.equalIn d t x y) = some b
theorem eqt_int {d : Nat} {t : TypeId} {k : IntKind} {a b : Int} (hu : und P t = some (.int k)) : EqT P (d + 1) t (.int k a) (.int k b) (decide (a = b)) := by
  unfold EqT; rw [eqIn_int d hu]; rfl
theorem eqt_I {d : Nat} {t : TypeId} {a b : Int} (hu : und P t = some (.int .i64)) : EqT P (d + 1) t (I a) (I b) (decide (a = b)) := eqt_int hu
theorem eqt_U8 {d : Nat} {t : TypeId} {a b : UInt8} (hu : und P t = some (.int .u8)) : EqT P (d + 1) t (U8 a) (U8 b) (decide (a = b)) := by
  have := eqt_int (P := P) (d := d) (a := (a.toNat : Int)) (b := b.toNat) hu
  rwa [show decide ((a.toNat : Int) = (b.toNat : Int)) = decide (a = b) from decide_eq_decide.2 (by rw [Int.natCast_inj, UInt8.toNat_inj])] at this
theorem eqt_U16 {d : Nat} {t : TypeId} {a b : UInt16} (hu : und P t = some (.int .u16)) : EqT P (d + 1) t (U16 a) (U16 b) (decide (a = b)) := by
  have := eqt_int (P := P) (d := d) (a := (a.toNat : Int)) (b := b.toNat) hu
  rwa [show decide ((a.toNat : Int) = (b.toNat : Int)) = decide (a = b) from decide_eq_decide.2 (by rw [Int.natCast_inj, UInt16.toNat_inj])] at this
theorem eqt_U32 {d : Nat} {t : TypeId} {a b : UInt32} (hu : und P t = some (.int .u32)) : EqT P (d + 1) t (U32 a) (U32 b) (decide (a = b)) := by
  have := eqt_int (P := P) (d := d) (a := (a.toNat : Int)) (b := b.toNat) hu
  rwa [show decide ((a.toNat : Int) = (b.toNat : Int)) = decide (a = b) from decide_eq_decide.2 (by rw [Int.natCast_inj, UInt32.toNat_inj])] at this
theorem eqt_B {d : Nat} {t : TypeId} {a b : Bool} (hu : und P t = some .bool) : EqT P (d + 1) t (Bo a) (Bo b) (decide (a = b)) := by
  unfold EqT; rw [eqIn_bool d hu]; cases a <;> cases b <;> rfl
theorem eqt_S {d : Nat} {t : TypeId} {a b : Str} (hu : und P t = some .string) : EqT P (d + 1) t (S a) (S b) (decide (a = b)) := by
  unfold EqT; rw [eqIn_str d hu]; congr 1
  show ((sB a).data == (sB b).data) = _
  rw [Bool.eq_iff_iff, beq_iff_eq, decide_eq_true_eq]
  exact ⟨fun h => by simpa [sB] using congrArg Array.toList h, fun h => by rw [h]⟩
/-- Field by field. -/
def EqF (P : Program) (d : Nat) : List Field → Array Value → Array Value → Bool → Prop
  | [], _, _, b => b = true
  | f :: fs, xs, ys, b => f.name ≠ "_" ∧ ∃ vx vy b1 b2, pureRun P (part f.type xs f.offset) = some vx ∧ pureRun P (part f.type ys f.offset) = some vy ∧ EqT P d f.type vx vy b1 ∧ EqF P d fs xs ys b2 ∧ b = (b1 && b2)
theorem eqf_nil {d : Nat} {xs ys : Array Value} : EqF P d [] xs ys true := rfl
theorem eqf_cons {d : Nat} {f : Field} {fs : List Field} {xs ys : Array Value} {vx vy : Value} {b1 b2 : Bool} (hn : f.name ≠ "_") (hx : pureRun P (part f.type xs f.offset) = some vx) (hy : pureRun P (part f.type ys f.offset) = some vy) (h : EqT P d f.type vx vy b1) (k : EqF P d fs xs ys b2) :
    EqF P d (f :: fs) xs ys (b1 && b2) := ⟨hn, vx, vy, b1, b2, hx, hy, h, k, rfl⟩
/-- Element by element. -/
def EqA (P : Program) (d : Nat) (e : TypeId) (n : Nat) : List Nat → Array Value → Array Value → Bool → Prop
  | [], _, _, b => b = true
  | i :: is, xs, ys, b => ∃ vx vy b1 b2, pureRun P (part e xs (i * n)) = some vx ∧ pureRun P (part e ys (i * n)) = some vy ∧ EqT P d e vx vy b1 ∧ EqA P d e n is xs ys b2 ∧ b = (b1 && b2)
theorem eqa_nil {d : Nat} {e : TypeId} {n : Nat} {xs ys : Array Value} : EqA P d e n [] xs ys true := rfl
theorem eqa_cons {d : Nat} {e : TypeId} {n i : Nat} {is : List Nat} {xs ys : Array Value} {vx vy : Value} {b1 b2 : Bool} (hx : pureRun P (part e xs (i * n)) = some vx) (hy : pureRun P (part e ys (i * n)) = some vy) (h : EqT P d e vx vy b1) (k : EqA P d e n is xs ys b2) :
    EqA P d e n (i :: is) xs ys (b1 && b2) := ⟨vx, vy, b1, b2, hx, hy, h, k, rfl⟩
theorem eqt_struct {d : Nat} {t : TypeId} {fs : Array Field} {xs ys : Array Value} {b : Bool} (hu : und P t = some (.struct fs)) (hst : P.stoodInHeld t = false) (h : EqF P d fs.toList xs ys b) : EqT P (d + 1) t (.agg xs) (.agg ys) b := by
  unfold EqT
  unfold Op.equalIn
  have hp : ∀ (l : List Field) (b : Bool), EqF P d l xs ys b → pureRun P (forIn l ((none, ()) : Option Bool × Unit) fun f _ => (do
        if f.name ≠ "_" then
          if !(← Op.equalIn d f.type (← part f.type xs f.offset) (← part f.type ys f.offset)) then pure (ForInStep.done (some false, ()))
          else pure (ForInStep.yield (none, ()))
        else pure (ForInStep.yield (none, ())) : Sem (ForInStep (Option Bool × Unit))) : Sem (Option Bool × Unit)) = some (if b = true then (none, ()) else (some false, ())) := by
    intro l
    induction l with
    | nil => intro b hb; cases hb; simp [pureRun_bind, pureRun_pure]
    | cons f l ih =>
      rintro b ⟨hn, vx, vy, b1, b2, hx, hy, he, hk, rfl⟩
      have ih2 := ih b2 hk
      unfold EqT at he
      simp only [List.forIn_cons, pureRun_bind] at ih2 ⊢
      cases b1 with
      | true => simp [hn, pureRun_bind, pureRun_pure, hx, hy, he]; simpa [pureRun_bind] using ih2
      | false => simp [hn, pureRun_bind, pureRun_pure, hx, hy, he]
  have := hp fs.toList b h
  rw [pureRun_bind, pr_und hu]
  simp only [Option.bind_some]
  rw [pureRun_bind]
  have hpr : pureRun P program = some P := rfl
  rw [hpr]
  simp only [Option.bind_some, hst, Bool.false_eq_true, if_false]
  rw [← Array.forIn_toList]
  rw [pureRun_bind, this]
  cases b <;> rfl
theorem eqt_array {d n len : Nat} {t el : TypeId} {xs ys : Array Value} {b : Bool} (hu : und P t = some (.array len el)) (hs : sz P el = some n) (h : EqA P d el n (List.range len) xs ys b) : EqT P (d + 1) t (.agg xs) (.agg ys) b := by
  unfold EqT
  unfold Op.equalIn
  have hp : ∀ (l : List Nat) (b : Bool), EqA P d el n l xs ys b → pureRun P (forIn l ((none, ()) : Option Bool × Unit) fun i _ => (do
        if !(← Op.equalIn d el (← part el xs (i * n)) (← part el ys (i * n))) then pure (ForInStep.done (some false, ()))
        else pure (ForInStep.yield (none, ())) : Sem (ForInStep (Option Bool × Unit))) : Sem (Option Bool × Unit)) = some (if b = true then (none, ()) else (some false, ())) := by
    intro l
    induction l with
    | nil => intro b hb; cases hb; simp [pureRun_bind, pureRun_pure]
    | cons f l ih =>
      rintro b ⟨vx, vy, b1, b2, hx, hy, he, hk, rfl⟩
      have ih2 := ih b2 hk
      unfold EqT at he
      simp only [List.forIn_cons, pureRun_bind] at ih2 ⊢
      cases b1 with
      | true => simp [pureRun_bind, pureRun_pure, hx, hy, he]; simpa [pureRun_bind] using ih2
      | false => simp [pureRun_bind, pureRun_pure, hx, hy, he]
  have := hp (List.range len) b h
  rw [pureRun_bind, pr_und hu]
  simp only [Option.bind_some]
  have hss : pureRun P (sizeOf el) = some n := by
    unfold sz at hs
    cases hi : P.info? el with
    | none => rw [hi] at hs; cases hs
    | some info =>
      rw [hi] at hs; cases hs
      simp [sizeOf, typeInfo, pureRun_bind, program, pureRun, pureRun_pure, hi]
  rw [pureRun_bind, hss]
  simp only [Option.bind_some, Std.Legacy.Range.forIn_eq_forIn_range', Std.Legacy.Range.size]
  have hr : List.range' 0 ((len - 0 + 1 - 1) / 1) = List.range len := by
    rw [List.range_eq_range']; congr 1; omega
  rw [hr]
  rw [pureRun_bind, this]
  cases b <;> rfl
/-- From the parts to the whole. -/
theorem eql_of {t : TypeId} {xo yo : Operand} {xs ys : Array Value} {b : Bool} (hp : plain (.agg xs) = true) (hq : plain (.agg ys) = true) (hg : pureRun P (eqGuard .eql t xo yo (.agg xs) (.agg ys)) = some ()) (h : EqT P 10000 t (.agg xs) (.agg ys) b) : keep (abin P .eql t xo yo (.agg xs) (.agg ys)) = some (Bo b) := by
  unfold abin
  rw [hp, hq, Bool.and_self, if_pos rfl, pureRun_bind, hg]
  show keep (pureRun P (do pure (.bool (← Op.equal t (.agg xs) (.agg ys))))) = _
  rw [pureRun_bind, equal_eq]
  have h2 : pureRun P (Op.equalIn (9999 + 1) t (.agg xs) (.agg ys)) = some b := h
  rw [h2]; rfl
theorem neq_of {t : TypeId} {xo yo : Operand} {xs ys : Array Value} {b : Bool} (hp : plain (.agg xs) = true) (hq : plain (.agg ys) = true) (hg : pureRun P (eqGuard .neq t xo yo (.agg xs) (.agg ys)) = some ()) (h : EqT P 10000 t (.agg xs) (.agg ys) b) : keep (abin P .neq t xo yo (.agg xs) (.agg ys)) = some (Bo !b) := by
  unfold abin
  rw [hp, hq, Bool.and_self, if_pos rfl, pureRun_bind, hg]
  show keep (pureRun P (do pure (.bool (!(← Op.equal t (.agg xs) (.agg ys)))))) = _
  rw [pureRun_bind, equal_eq]
  have h2 : pureRun P (Op.equalIn (9999 + 1) t (.agg xs) (.agg ys)) = some b := h
  rw [h2]; rfl
end
end Go.Fhl
