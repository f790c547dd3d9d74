/-
  Plain facts on the models' words: places of rows, whole numbers of 64 bits, bytes and numbers.
-/
import Derived.Test.YtpfbnghalpfoaaaDoorFY
namespace Go.Fhl
set_option linter.unusedVariables false
set_option linter.unusedSimpArgs false

/-! ## Loops -/
/-- A loop that goes up: right at its end, and ahead of each round if right behind it. -/
theorem up_loop {Q : Nat → Nat → Prop} (m : Nat) (hend : ∀ n, Q (n + 1) m) (hstep : ∀ n i, i < m → Q n (i + 1) → Q (n + 1) i) : ∀ k i n, i + k = m → k < n → Q n i := by
  intro k
  induction k with
  | zero => intro i n h hn; obtain ⟨n, rfl⟩ : ∃ x, n = x + 1 := ⟨n - 1, by omega⟩; obtain rfl : i = m := by omega
            exact hend n
  | succ k ih => intro i n h hn; obtain ⟨n, rfl⟩ : ∃ x, n = x + 1 := ⟨n - 1, by omega⟩; exact hstep n i (by omega) (ih (i + 1) n (by omega) (by omega))
theorem up_fuel {Q : Nat → Nat → Prop} (m : Nat) (hm : m < 4611686018427387904) (hend : ∀ n, Q (n + 1) m) (hstep : ∀ n i, i < m → Q n (i + 1) → Q (n + 1) i) : ∀ i, i ≤ m → Q fuel i :=
  fun i hi => up_loop m hend hstep (m - i) i fuel (by omega) (by unfold fuel; omega)
/-- One that goes down to nothing: k rounds are left. -/
theorem down_loop {Q : Nat → Nat → Prop} (hend : ∀ n, Q (n + 1) 0) (hstep : ∀ n k, Q n k → Q (n + 1) (k + 1)) : ∀ k n, k < n → Q n k := by
  intro k
  induction k with
  | zero => intro n hn; obtain ⟨n, rfl⟩ : ∃ x, n = x + 1 := ⟨n - 1, by omega⟩; exact hend n
  | succ k ih => intro n hn; obtain ⟨n, rfl⟩ : ∃ x, n = x + 1 := ⟨n - 1, by omega⟩; exact hstep n k (ih n (by omega))
theorem down_fuel {Q : Nat → Nat → Prop} (hend : ∀ n, Q (n + 1) 0) (hstep : ∀ n k, Q n k → Q (n + 1) (k + 1)) : ∀ k, k < 4611686018427387904 → Q fuel k :=
  fun k hk => down_loop hend hstep k fuel (by unfold fuel; omega)

/-! ## Numbers -/
theorem w64_nat {n : Nat} (h : n < 9223372036854775808) : w64 (n : Int) = n := w64_id (by omega) (by omega)
theorem w64_succ {i : Nat} (h : i < 9223372036854775807) : w64 ((i : Int) + 1) = ((i + 1 : Nat) : Int) := by rw [w64_id (by omega) (by omega)]; rfl
theorem w64_pred {i : Nat} (h : i < 9223372036854775807) : w64 (((i + 1 : Nat) : Int) - 1) = (i : Int) := by rw [w64_id (by omega) (by omega)]; omega
theorem getI_nat {α : Type} (xs : List α) (i : Nat) : getI xs (i : Int) = xs[i]? := by simp [getI]
theorem getI_lt {α : Type} {xs : List α} {i : Nat} (h : i < xs.length) : getI xs (i : Int) = some xs[i] := by rw [getI_nat]; exact List.getElem?_eq_getElem h
theorem getI_zero {α : Type} (x : α) (xs : List α) : getI (x :: xs) 0 = some x := rfl
theorem getI_neg {α : Type} (xs : List α) {i : Int} (h : i < 0) : getI xs i = none := by unfold getI; rw [if_neg (by omega)]
theorem appL_eq {α : Type} {b : Nat} {xs ys : List α} (h : (2 * (xs.length + ys.length) + 192) * b ≤ 281474976710656) : appL b xs ys = some (xs ++ ys) := if_pos h
theorem addS_eq {s u : Str} (h : s.length + u.length ≤ 9223372036854775807) : addS s u = some (s ++ u) := if_pos h
theorem slL_nat {α : Type} {xs : List α} {l h : Nat} (h1 : l ≤ h) (h2 : h ≤ xs.length) : slL xs (l : Int) (h : Int) = some ((xs.take h).drop l) := by
  unfold slL; rw [if_pos (by omega)]; simp
theorem slL_from {α : Type} {xs : List α} {l : Nat} (h1 : l ≤ xs.length) : slL xs (l : Int) (xs.length : Int) = some (xs.drop l) := by
  rw [slL_nat h1 (Nat.le_refl _), List.take_length]
theorem slL_to {α : Type} {xs : List α} {l : Nat} (h1 : l ≤ xs.length) : slL xs 0 (l : Int) = some (xs.take l) := by
  have := slL_nat (xs := xs) (l := 0) (h := l) (Nat.zero_le _) h1
  simpa using this
theorem setI_nat {α : Type} {xs : List α} {i : Nat} {y : α} (h : i < xs.length) : setI xs (i : Int) y = some (xs.set i y) := by
  unfold setI; rw [if_pos (by omega)]; simp
theorem makeL_nat {α : Type} {b n : Nat} {z : α} (h : b * n ≤ 281474976710656) (hb : n < 9223372036854775808) : makeL b (n : Int) z = some (List.replicate n z) := by
  have h2 : (b : Int) * (n : Int) ≤ 281474976710656 := by
    have : ((b * n : Nat) : Int) ≤ ((281474976710656 : Nat) : Int) := Int.ofNat_le.2 h
    rw [Int.natCast_mul] at this; exact this
  unfold makeL; rw [if_pos ⟨by omega, by omega, h2⟩, Int.toNat_natCast]
theorem gdT {α : Type} [Inhabited α] {g : Bool} {o : Option α} (h : g = true) : gd g o = o := by unfold gd; rw [if_pos h]
theorem gdF {α : Type} [Inhabited α] {g : Bool} {o : Option α} (h : g = false) : gd g o = some default := by unfold gd; rw [h]; rfl
theorem gd_true {α : Type} [Inhabited α] {o : Option α} : gd true o = o := gdT rfl
theorem gd_false {α : Type} [Inhabited α] {o : Option α} : gd false o = some default := gdF rfl
theorem gd_some {α : Type} [Inhabited α] {g : Bool} {x : α} : gd g (some x) = some (if g = true then x else default) := by cases g <;> rfl
theorem and_ite (g x d : Bool) : (g && (if g = true then x else d)) = (g && x) := by cases g <;> rfl
theorem or_ite (g x d : Bool) : (g || (if g = false then x else d)) = (g || x) := by cases g <;> rfl
theorem beq_tt (g : Bool) : (g == true) = g := by cases g <;> rfl
theorem beq_ff (g : Bool) : (g == false) = !g := by cases g <;> rfl
theorem bind_some' {α β : Type} (x : α) (f : α → Option β) : Option.bind (some x) f = f x := rfl
theorem remI_nat {a b : Nat} (h : b ≠ 0) : remI (a : Int) (b : Int) = some ((a % b : Nat) : Int) := by
  unfold remI; rw [if_neg (by omega)]; congr 1
theorem shlI_8 {x : Int} (h0 : 0 ≤ x) (h1 : x < 36028797018963968) : shlI x 8 = some (x * 256) := by
  unfold shlI; rw [if_pos (by omega)]; congr 1; exact w64_id (by simp; omega) (by simp; omega)
theorem shrI_nat {x : Int} {k : Nat} (h : k < 64) : shrI x (k : Int) = some (x / 2 ^ k) := by
  unfold shrI; rw [if_pos (by omega)]
  have : min (Int.toNat (k : Int)) 64 = k := by simp; omega
  rw [this]; congr 1
  exact Int.fdiv_eq_ediv_of_nonneg _ (Int.le_of_lt (by exact Int.pow_pos (by decide)))

/-- Bits that do not meet. -/
theorem orI_low {x : Int} {c : UInt8} (h0 : 0 ≤ x) (h1 : x < 36028797018963968) : orI (x * 256) (c.toNat : Int) = x * 256 + c.toNat := by
  obtain ⟨n, rfl⟩ : ∃ n : Nat, x = n := ⟨x.toNat, by omega⟩
  have hc := c.toNat_lt
  unfold orI
  have e1 : BitVec.ofInt 64 ((n : Int) * 256) = BitVec.ofNat 64 (n * 256) := by
    have : ((n : Int) * 256) = ((n * 256 : Nat) : Int) := by omega
    rw [this]; rfl
  have e2 : BitVec.ofInt 64 (c.toNat : Int) = BitVec.ofNat 64 c.toNat := rfl
  rw [e1, e2, BitVec.toNat_or, BitVec.toNat_ofNat, BitVec.toNat_ofNat, Nat.mod_eq_of_lt (by omega), Nat.mod_eq_of_lt (by omega)]
  have : n * 256 ||| c.toNat = n * 256 + c.toNat := by
    have := Nat.shiftLeft_add_eq_or_of_lt (i := 8) (b := c.toNat) hc n
    rw [Nat.shiftLeft_eq] at this
    exact this.symm
  rw [this, w64_nat (by omega)]; rfl

/-! ## Bytes of a number, the greatest first -/
def be : Nat → Int → Str
  | 0, _ => []
  | k + 1, v => UInt8.ofInt (v / 2 ^ (8 * k)) :: be k v
def valF (n : Int) (b : Str) : Int := b.foldl (fun n c => n * 256 + (c.toNat : Int)) n
def val (b : Str) : Int := valF 0 b
theorem be_length (k : Nat) (v : Int) : (be k v).length = k := by
  induction k with
  | zero => rfl
  | succ k ih => simp [be, ih]
theorem valF_nil (n : Int) : valF n [] = n := rfl
theorem valF_cons (n : Int) (c : UInt8) (b : Str) : valF n (c :: b) = valF (n * 256 + (c.toNat : Int)) b := rfl
theorem valF_eq (n : Int) (b : Str) : valF n b = n * 256 ^ b.length + val b := by
  induction b generalizing n with
  | nil => simp [valF_nil, val]
  | cons c b ih =>
    unfold val at *
    rw [valF_cons, valF_cons, ih, ih (0 * 256 + _), List.length_cons, Int.pow_succ]
    grind
theorem val_cons (c : UInt8) (b : Str) : val (c :: b) = (c.toNat : Int) * 256 ^ b.length + val b := by
  unfold val; rw [valF_cons, valF_eq]; simp [val]
theorem val_nonneg (b : Str) : 0 ≤ val b := by
  induction b with
  | nil => exact Int.le_refl _
  | cons c b ih => rw [val_cons]; have := Int.mul_nonneg (a := (c.toNat : Int)) (b := 256 ^ b.length) (by omega) (Int.le_of_lt (Int.pow_pos (by decide))); omega
theorem val_lt (b : Str) : val b < 256 ^ b.length := by
  induction b with
  | nil => decide
  | cons c b ih =>
    rw [val_cons, List.length_cons, Int.pow_succ]
    have hc := c.toNat_lt
    have hp : (0 : Int) < 256 ^ b.length := Int.pow_pos (by decide)
    have : (c.toNat : Int) * 256 ^ b.length ≤ 255 * 256 ^ b.length := Int.mul_le_mul_of_nonneg_right (by omega) (Int.le_of_lt hp)
    omega
theorem valF_bounds {n : Int} {b : Str} (h0 : 0 ≤ n) : 0 ≤ valF n b := by
  rw [valF_eq]
  have := Int.mul_nonneg (a := n) (b := 256 ^ b.length) h0 (Int.le_of_lt (Int.pow_pos (by decide)))
  have := val_nonneg b; omega
theorem ofInt_toNat (v : Int) : (UInt8.ofInt v).toNat = (v % 256).toNat := by
  have : UInt8.ofInt v = UInt8.ofNat (v % 256).toNat := rfl
  rw [this, UInt8.toNat_ofNat']
  omega
theorem emod_mul' (v : Int) {P : Int} (hp : 0 < P) : v % (P * 256) = (v / P % 256) * P + v % P := by
  obtain ⟨q1, hq1⟩ : ∃ x, x = v / P % 256 := ⟨_, rfl⟩
  obtain ⟨q2, hq2⟩ : ∃ x, x = v / P / 256 := ⟨_, rfl⟩
  obtain ⟨r, hr⟩ : ∃ x, x = v % P := ⟨_, rfl⟩
  have a1 := Int.mul_ediv_add_emod v P
  have a2 := Int.mul_ediv_add_emod (v / P) 256
  have a3 := Int.emod_lt_of_pos v hp
  have a4 := Int.emod_nonneg v (Int.ne_of_gt hp)
  have a5 := Int.emod_lt_of_pos (v / P) (show (0 : Int) < 256 by decide)
  have a6 := Int.emod_nonneg (v / P) (show (256 : Int) ≠ 0 by decide)
  rw [← hq1, ← hr]
  rw [← hq1] at a2 a5 a6
  rw [← hq2] at a2
  rw [← hr] at a1 a3 a4
  have b1 : q1 * P ≤ 255 * P := Int.mul_le_mul_of_nonneg_right (by omega) (Int.le_of_lt hp)
  have b2 : 0 ≤ q1 * P := Int.mul_nonneg a6 (Int.le_of_lt hp)
  have e1 : v = (q1 * P + r) + P * 256 * q2 := by rw [← a2] at a1; grind
  have e2 : v % (P * 256) = ((q1 * P + r) + P * 256 * q2) % (P * 256) := by rw [← e1]
  rw [e2, Int.add_mul_emod_self_left, Int.emod_eq_of_lt (by omega) (by omega)]
/-- What is put is taken. -/
theorem val_be (k : Nat) (v : Int) : val (be k v) = v % 256 ^ k := by
  induction k with
  | zero => simp [be, val, valF_nil]
  | succ k ih =>
    rw [be, val_cons, be_length, ih, ofInt_toNat]
    have hp : (0 : Int) < 256 ^ k := Int.pow_pos (by decide)
    have e : (2 : Int) ^ (8 * k) = 256 ^ k := by rw [Int.pow_mul]; rfl
    rw [e, Int.pow_succ]
    have h1 : 0 ≤ v / 256 ^ k % 256 := Int.emod_nonneg _ (by decide)
    rw [Int.toNat_of_nonneg h1]
    exact (emod_mul' v hp).symm
theorem val_be_id {k : Nat} {v : Int} (h0 : 0 ≤ v) (h1 : v < 256 ^ k) : val (be k v) = v := by
  rw [val_be]; exact Int.emod_eq_of_lt h0 h1
theorem ofInt_add_mul (x m : Int) : UInt8.ofInt (x + m * 256) = UInt8.ofInt x := by
  apply UInt8.toNat_inj.1; rw [ofInt_toNat, ofInt_toNat]; congr 1; omega
theorem be_add_mul (k : Nat) : ∀ (v m : Int), be k (v + m * 256 ^ k) = be k v := by
  induction k with
  | zero => intro v m; rfl
  | succ k ih =>
    intro v m
    have hp : (0 : Int) < 256 ^ k := Int.pow_pos (by decide)
    have e : (2 : Int) ^ (8 * k) = 256 ^ k := by rw [Int.pow_mul]; rfl
    have e2 : m * 256 ^ (k + 1) = (m * 256) * 256 ^ k := by rw [Int.pow_succ]; grind
    rw [be, be, e, e2, Int.add_mul_ediv_right _ _ (Int.ne_of_gt hp), ofInt_add_mul, ih]
/-- What is taken is put. -/
theorem be_val {k : Nat} {b : Str} (h : b.length = k) : be k (val b) = b := by
  induction b generalizing k with
  | nil => subst h; rfl
  | cons c b ih =>
    subst h
    rw [List.length_cons, be, val_cons]
    have hp : (0 : Int) < 256 ^ b.length := Int.pow_pos (by decide)
    have e : (2 : Int) ^ (8 * b.length) = 256 ^ b.length := by rw [Int.pow_mul]; rfl
    have h1 := val_nonneg b
    have h2 := val_lt b
    rw [e, Int.add_comm, Int.add_mul_ediv_right _ _ (Int.ne_of_gt hp), Int.ediv_eq_zero_of_lt h1 h2, Int.zero_add, be_add_mul, ih rfl]
    congr 1
    apply UInt8.toNat_inj.1; rw [ofInt_toNat]
    have := c.toNat_lt; omega
end Go.Fhl
