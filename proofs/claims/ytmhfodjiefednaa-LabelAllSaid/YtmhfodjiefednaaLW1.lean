/-
  Facts on the models of the functions, and the laws on them, in one text.
-/
import Derived.Test.YtmhfodjiefednaaFHd1
import Derived.Test.YtmhfodjiefednaaR72
import Derived.Test.YtmhfodjiefednaaR76
import Derived.Test.YtmhfodjiefednaaR77
import Derived.Test.YtmhfodjiefednaaR7B
import Derived.Test.YtmhfodjiefednaaR7X
import Derived.KernelRfl
import Derived.Test.YtmhfodjiefednaaR71
import Derived.Test.YtmhfodjiefednaaR715
import Derived.Test.YtmhfodjiefednaaR74
import Derived.Test.YtmhfodjiefednaaR70
import Derived.Test.YtmhfodjiefednaaR712
import Derived.Test.YtmhfodjiefednaaR716
import Derived.Test.YtmhfodjiefednaaR75
import Derived.Test.YtmhfodjiefednaaR78
import Derived.Test.YtmhfodjiefednaaR713
import Derived.Test.YtmhfodjiefednaaR717
import Derived.Test.YtmhfodjiefednaaR73
import Derived.Test.YtmhfodjiefednaaR714
import Derived.Test.YtmhfodjiefednaaR7RdC
import Derived.Test.YtmhfodjiefednaaR711
import Derived.Test.YtmhfodjiefednaaR710
import Derived.Test.YtmhfodjiefednaaR79
import Derived.Test.YtmhfodjiefednaaR718
/-
  Plain facts on the models' words: places of rows, whole numbers of 64 bits, bytes and numbers.
-/
namespace Go.Fhl
set_option linter.unusedVariables false
set_option linter.unusedSimpArgs false

/-! ## Loops -/
/-- A loop that goes up: right at its end, and ahead of each round if right behind it. -/
theorem up_loop {Q : Nat → Nat → Prop} (m : Nat) (hend : ∀ n, Q (n + 1) m) (hstep : ∀ n i, i < m → Q n (i + 1) → Q (n + 1) i) : ∀ k i n, i + k = m → k < n → Q n i := by
  intro k
  induction k with
  | zero => intro i n h hn; obtain ⟨n, rfl⟩ : ∃ x, n = x + 1 := ⟨n - 1, by omega⟩; obtain rfl : i = m := by omega
            exact hend n
  | succ k ih => intro i n h hn; obtain ⟨n, rfl⟩ : ∃ x, n = x + 1 := ⟨n - 1, by omega⟩; exact hstep n i (by omega) (ih (i + 1) n (by omega) (by omega))
theorem up_fuel {Q : Nat → Nat → Prop} (m : Nat) (hm : m < 4611686018427387904) (hend : ∀ n, Q (n + 1) m) (hstep : ∀ n i, i < m → Q n (i + 1) → Q (n + 1) i) : ∀ i, i ≤ m → Q fuel i :=
  fun i hi => up_loop m hend hstep (m - i) i fuel (by omega) (by unfold fuel; omega)
/-! ## Numbers -/
theorem w64_nat {n : Nat} (h : n < 9223372036854775808) : w64 (n : Int) = n := w64_id (by omega) (by omega)
theorem w64_succ {i : Nat} (h : i < 9223372036854775807) : w64 ((i : Int) + 1) = ((i + 1 : Nat) : Int) := by rw [w64_id (by omega) (by omega)]; rfl
theorem w64_pred {i : Nat} (h : i < 9223372036854775807) : w64 (((i + 1 : Nat) : Int) - 1) = (i : Int) := by rw [w64_id (by omega) (by omega)]; omega
theorem getI_nat {α : Type} (xs : List α) (i : Nat) : getI xs (i : Int) = xs[i]? := by simp [getI]
theorem getI_lt {α : Type} {xs : List α} {i : Nat} (h : i < xs.length) : getI xs (i : Int) = some xs[i] := by rw [getI_nat]; exact List.getElem?_eq_getElem h
theorem getI_zero {α : Type} (x : α) (xs : List α) : getI (x :: xs) 0 = some x := rfl
theorem appL_eq {α : Type} {b : Nat} {xs ys : List α} (h : (2 * (xs.length + ys.length) + 192) * b ≤ 281474976710656) : appL b xs ys = some (xs ++ ys) := if_pos h
theorem addS_eq {s u : Str} (h : s.length + u.length ≤ 9223372036854775807) : addS s u = some (s ++ u) := if_pos h
theorem slL_nat {α : Type} {xs : List α} {l h : Nat} (h1 : l ≤ h) (h2 : h ≤ xs.length) : slL xs (l : Int) (h : Int) = some ((xs.take h).drop l) := by
  unfold slL; rw [if_pos (by omega)]; simp
theorem slL_from {α : Type} {xs : List α} {l : Nat} (h1 : l ≤ xs.length) : slL xs (l : Int) (xs.length : Int) = some (xs.drop l) := by
  rw [slL_nat h1 (Nat.le_refl _), List.take_length]
theorem slL_to {α : Type} {xs : List α} {l : Nat} (h1 : l ≤ xs.length) : slL xs 0 (l : Int) = some (xs.take l) := by
  have := slL_nat (xs := xs) (l := 0) (h := l) (Nat.zero_le _) h1
  simpa using this
theorem setI_nat {α : Type} {xs : List α} {i : Nat} {y : α} (h : i < xs.length) : setI xs (i : Int) y = some (xs.set i y) := by
  unfold setI; rw [if_pos (by omega)]; simp
theorem makeL_nat {α : Type} {b n : Nat} {z : α} (h : b * n ≤ 281474976710656) (hb : n < 9223372036854775808) : makeL b (n : Int) z = some (List.replicate n z) := by
  have h2 : (b : Int) * (n : Int) ≤ 281474976710656 := by
    have : ((b * n : Nat) : Int) ≤ ((281474976710656 : Nat) : Int) := Int.ofNat_le.2 h
    rw [Int.natCast_mul] at this; exact this
  unfold makeL; rw [if_pos ⟨by omega, by omega, h2⟩, Int.toNat_natCast]
theorem gdT {α : Type} [Inhabited α] {g : Bool} {o : Option α} (h : g = true) : gd g o = o := by unfold gd; rw [if_pos h]
theorem gdF {α : Type} [Inhabited α] {g : Bool} {o : Option α} (h : g = false) : gd g o = some default := by unfold gd; rw [h]; rfl
theorem gd_true {α : Type} [Inhabited α] {o : Option α} : gd true o = o := gdT rfl
theorem gd_false {α : Type} [Inhabited α] {o : Option α} : gd false o = some default := gdF rfl
theorem gd_some {α : Type} [Inhabited α] {g : Bool} {x : α} : gd g (some x) = some (if g = true then x else default) := by cases g <;> rfl
theorem and_ite (g x d : Bool) : (g && (if g = true then x else d)) = (g && x) := by cases g <;> rfl
theorem beq_tt (g : Bool) : (g == true) = g := by cases g <;> rfl
theorem beq_ff (g : Bool) : (g == false) = !g := by cases g <;> rfl
theorem bind_some' {α β : Type} (x : α) (f : α → Option β) : Option.bind (some x) f = f x := rfl
theorem remI_nat {a b : Nat} (h : b ≠ 0) : remI (a : Int) (b : Int) = some ((a % b : Nat) : Int) := by
  unfold remI; rw [if_neg (by omega)]; congr 1
/-- Bits that do not meet. -/
theorem orI_low {x : Int} {c : UInt8} (h0 : 0 ≤ x) (h1 : x < 36028797018963968) : orI (x * 256) (c.toNat : Int) = x * 256 + c.toNat := by
  obtain ⟨n, rfl⟩ : ∃ n : Nat, x = n := ⟨x.toNat, by omega⟩
  have hc := c.toNat_lt
  unfold orI
  have e1 : BitVec.ofInt 64 ((n : Int) * 256) = BitVec.ofNat 64 (n * 256) := by
    have : ((n : Int) * 256) = ((n * 256 : Nat) : Int) := by omega
    rw [this]; rfl
  have e2 : BitVec.ofInt 64 (c.toNat : Int) = BitVec.ofNat 64 c.toNat := rfl
  rw [e1, e2, BitVec.toNat_or, BitVec.toNat_ofNat, BitVec.toNat_ofNat, Nat.mod_eq_of_lt (by omega), Nat.mod_eq_of_lt (by omega)]
  have : n * 256 ||| c.toNat = n * 256 + c.toNat := by
    have := Nat.shiftLeft_add_eq_or_of_lt (i := 8) (b := c.toNat) hc n
    rw [Nat.shiftLeft_eq] at this
    exact this.symm
  rw [this, w64_nat (by omega)]; rfl

/-! ## Bytes of a number, the greatest first -/
def be : Nat → Int → Str
  | 0, _ => []
  | k + 1, v => UInt8.ofInt (v / 2 ^ (8 * k)) :: be k v
def valF (n : Int) (b : Str) : Int := b.foldl (fun n c => n * 256 + (c.toNat : Int)) n
def val (b : Str) : Int := valF 0 b
theorem be_length (k : Nat) (v : Int) : (be k v).length = k := by
  induction k with
  | zero => rfl
  | succ k ih => simp [be, ih]
theorem valF_nil (n : Int) : valF n [] = n := rfl
theorem valF_cons (n : Int) (c : UInt8) (b : Str) : valF n (c :: b) = valF (n * 256 + (c.toNat : Int)) b := rfl
theorem valF_eq (n : Int) (b : Str) : valF n b = n * 256 ^ b.length + val b := by
  induction b generalizing n with
  | nil => simp [valF_nil, val]
  | cons c b ih =>
    unfold val at *
    rw [valF_cons, valF_cons, ih, ih (0 * 256 + _), List.length_cons, Int.pow_succ]
    grind
theorem val_cons (c : UInt8) (b : Str) : val (c :: b) = (c.toNat : Int) * 256 ^ b.length + val b := by
  unfold val; rw [valF_cons, valF_eq]; simp [val]
theorem ofInt_toNat (v : Int) : (UInt8.ofInt v).toNat = (v % 256).toNat := by
  have : UInt8.ofInt v = UInt8.ofNat (v % 256).toNat := rfl
  rw [this, UInt8.toNat_ofNat']
  omega
theorem emod_mul' (v : Int) {P : Int} (hp : 0 < P) : v % (P * 256) = (v / P % 256) * P + v % P := by
  obtain ⟨q1, hq1⟩ : ∃ x, x = v / P % 256 := ⟨_, rfl⟩
  obtain ⟨q2, hq2⟩ : ∃ x, x = v / P / 256 := ⟨_, rfl⟩
  obtain ⟨r, hr⟩ : ∃ x, x = v % P := ⟨_, rfl⟩
  have a1 := Int.mul_ediv_add_emod v P
  have a2 := Int.mul_ediv_add_emod (v / P) 256
  have a3 := Int.emod_lt_of_pos v hp
  have a4 := Int.emod_nonneg v (Int.ne_of_gt hp)
  have a5 := Int.emod_lt_of_pos (v / P) (show (0 : Int) < 256 by decide)
  have a6 := Int.emod_nonneg (v / P) (show (256 : Int) ≠ 0 by decide)
  rw [← hq1, ← hr]
  rw [← hq1] at a2 a5 a6
  rw [← hq2] at a2
  rw [← hr] at a1 a3 a4
  have b1 : q1 * P ≤ 255 * P := Int.mul_le_mul_of_nonneg_right (by omega) (Int.le_of_lt hp)
  have b2 : 0 ≤ q1 * P := Int.mul_nonneg a6 (Int.le_of_lt hp)
  have e1 : v = (q1 * P + r) + P * 256 * q2 := by rw [← a2] at a1; grind
  have e2 : v % (P * 256) = ((q1 * P + r) + P * 256 * q2) % (P * 256) := by rw [← e1]
  rw [e2, Int.add_mul_emod_self_left, Int.emod_eq_of_lt (by omega) (by omega)]
/-- What is put is taken. -/
theorem val_be (k : Nat) (v : Int) : val (be k v) = v % 256 ^ k := by
  induction k with
  | zero => simp [be, val, valF_nil]
  | succ k ih =>
    rw [be, val_cons, be_length, ih, ofInt_toNat]
    have hp : (0 : Int) < 256 ^ k := Int.pow_pos (by decide)
    have e : (2 : Int) ^ (8 * k) = 256 ^ k := by rw [Int.pow_mul]; rfl
    rw [e, Int.pow_succ]
    have h1 : 0 ≤ v / 256 ^ k % 256 := Int.emod_nonneg _ (by decide)
    rw [Int.toNat_of_nonneg h1]
    exact (emod_mul' v hp).symm
theorem val_be_id {k : Nat} {v : Int} (h0 : 0 ≤ v) (h1 : v < 256 ^ k) : val (be k v) = v := by
  rw [val_be]; exact Int.emod_eq_of_lt h0 h1
end Go.Fhl

/-
  The sum of a text: what the program's and the document's loops come to. No program is in sight but its models.
-/
set_option maxRecDepth 20000
namespace Go.Proofs
open Go Go.Fhl
set_option linter.unusedVariables false
set_option linter.unusedSimpArgs false

/-- Four bytes as a number, the least first. -/
def wordN (a b c d : UInt8) : Nat := a.toNat + 256 * (b.toNat + 256 * (c.toNat + 256 * d.toNat))
def word4 (a b c d : UInt8) : UInt32 := UInt32.ofNat (wordN a b c d)
def sstep (s : A4 UInt32) (w : UInt32) : A4 UInt32 :=
  ⟨s.x0 + w, s.x1 + (s.x0 + w), s.x2 + (s.x1 + (s.x0 + w)), s.x3 + (s.x2 + (s.x1 + (s.x0 + w)))⟩
def sumG : A4 UInt32 → Str → A4 UInt32
  | s, a :: b :: c :: d :: r => sumG (sstep s (word4 a b c d)) r
  | s, [a, b, c] => sstep s (word4 a b c 0)
  | s, [a, b] => sstep s (word4 a b 0 0)
  | s, [a] => sstep s (word4 a 0 0 0)
  | s, [] => s
def sumOf (b : Str) : A4 UInt32 := sumG ⟨0, 0, 0, 0⟩ b

def orw (w : UInt32) (c : UInt8) (k : Nat) : UInt32 := w ||| UInt32.ofNat (c.toUInt32.toNat * 2 ^ (8 * k))
theorem sum_l2_4 (c1 : Int → A4 UInt32 → Option (A4 UInt32)) (x1 : Str) (v2 : Int) (s : A4 UInt32) (a b c d : UInt8) : M_sum_Of_l2 c1 x1 v2 s [a, b, c, d] fuel 0 0 = c1 (w64 (v2 + 4)) (sstep s (orw (orw (orw (orw 0 a 0) b 1) c 2) d 3)) := by kernel_rfl
theorem sum_l2_3 (c1 : Int → A4 UInt32 → Option (A4 UInt32)) (x1 : Str) (v2 : Int) (s : A4 UInt32) (a b c : UInt8) : M_sum_Of_l2 c1 x1 v2 s [a, b, c] fuel 0 0 = c1 (w64 (v2 + 4)) (sstep s (orw (orw (orw 0 a 0) b 1) c 2)) := by kernel_rfl
theorem sum_l2_2 (c1 : Int → A4 UInt32 → Option (A4 UInt32)) (x1 : Str) (v2 : Int) (s : A4 UInt32) (a b : UInt8) : M_sum_Of_l2 c1 x1 v2 s [a, b] fuel 0 0 = c1 (w64 (v2 + 4)) (sstep s (orw (orw 0 a 0) b 1)) := by kernel_rfl
theorem sum_l2_1 (c1 : Int → A4 UInt32 → Option (A4 UInt32)) (x1 : Str) (v2 : Int) (s : A4 UInt32) (a : UInt8) : M_sum_Of_l2 c1 x1 v2 s [a] fuel 0 0 = c1 (w64 (v2 + 4)) (sstep s (orw 0 a 0)) := by kernel_rfl
theorem orw_eq {n k : Nat} {c : UInt8} (hk : k < 4) (h : n < 2 ^ (8 * k)) : orw (UInt32.ofNat n) c k = UInt32.ofNat (n + c.toNat * 2 ^ (8 * k)) := by
  have hc := c.toNat_lt
  unfold orw
  apply UInt32.toNat_inj.1
  have hp : 2 ^ (8 * k) ≤ 2 ^ 24 := Nat.pow_le_pow_right (by decide) (by omega)
  have hm : c.toNat * 2 ^ (8 * k) < 2 ^ 32 := by
    have : c.toNat * 2 ^ (8 * k) ≤ 255 * 2 ^ 24 := Nat.mul_le_mul (by omega) hp
    omega
  rw [UInt32.toNat_or, UInt32.toNat_ofNat', UInt32.toNat_ofNat', UInt32.toNat_ofNat', UInt8.toNat_toUInt32, Nat.mod_eq_of_lt (by omega), Nat.mod_eq_of_lt hm]
  have h2 : n + c.toNat * 2 ^ (8 * k) = n ||| c.toNat * 2 ^ (8 * k) := by
    have := Nat.shiftLeft_add_eq_or_of_lt h c.toNat
    rw [Nat.shiftLeft_eq] at this
    rw [Nat.add_comm, this, Nat.or_comm]
  rw [← h2, Nat.mod_eq_of_lt]
  have e : 2 ^ (8 * k) * 256 ≤ 2 ^ 32 := by
    have : 2 ^ (8 * k) * 256 = 2 ^ (8 * k + 8) := by rw [Nat.pow_add]
    rw [this]; exact Nat.pow_le_pow_right (by decide) (by omega)
  have : c.toNat * 2 ^ (8 * k) ≤ 255 * 2 ^ (8 * k) := Nat.mul_le_mul_right _ (by omega)
  omega
theorem orw1 (a : UInt8) : orw 0 a 0 = UInt32.ofNat a.toNat := by
  have := orw_eq (n := 0) (k := 0) (c := a) (by omega) (by decide)
  simpa using this
theorem orw2 (a b : UInt8) : orw (orw 0 a 0) b 1 = UInt32.ofNat (a.toNat + 256 * b.toNat) := by
  have := a.toNat_lt
  rw [orw1, orw_eq (by omega) (by omega)]; congr 1; omega
theorem orw3 (a b c : UInt8) : orw (orw (orw 0 a 0) b 1) c 2 = UInt32.ofNat (a.toNat + 256 * (b.toNat + 256 * c.toNat)) := by
  have := a.toNat_lt
  have := b.toNat_lt
  rw [orw2, orw_eq (by omega) (by omega)]; congr 1; omega
theorem orw4 (a b c d : UInt8) : orw (orw (orw (orw 0 a 0) b 1) c 2) d 3 = word4 a b c d := by
  have := a.toNat_lt
  have := b.toNat_lt
  have := c.toNat_lt
  rw [orw3, orw_eq (by omega) (by omega)]; unfold word4 wordN; congr 1; omega
theorem drop_step {s : Str} {j : Nat} {l : Str} (h : s.drop j = l) (k : Nat) : s.drop (j + k) = l.drop k := by rw [← h, List.drop_drop]
theorem slice4 {s : Str} {j : Nat} (h : j < s.length) (hl : s.length < 4611686018427387904) : slL s (j : Int) (min (w64 ((j : Int) + 4)) (s.length : Int)) = some ((s.drop j).take 4) := by
  rw [w64_id (by omega) (by omega)]
  have : min ((j : Int) + 4) (s.length : Int) = ((min (j + 4) s.length : Nat) : Int) := by omega
  rw [this, slL_nat (by omega) (by omega)]
  congr 1
  rw [List.drop_take]
  by_cases q : j + 4 ≤ s.length
  · congr 1; omega
  · rw [List.take_of_length_le (by simp; omega), List.take_of_length_le (by simp; omega)]
theorem sum_l1 (x1 : Str) (hl : x1.length < 4611686018427387904) : ∀ (k n : Nat) (j : Nat) (s : A4 UInt32), x1.length ≤ j + 4 * k → j ≤ x1.length + 3 → k < n → M_sum_Of_l1 x1 n (j : Int) s = some (sumG s (x1.drop j)) := by
  intro k
  induction k with
  | zero =>
    intro n j s h1 h2 hn
    obtain ⟨n, rfl⟩ : ∃ x, n = x + 1 := ⟨n - 1, by omega⟩
    unfold M_sum_Of_l1
    have : ¬ (j : Int) < (x1.length : Int) := by omega
    rw [List.drop_eq_nil_of_le (by omega)]
    simp [this, sumG]
  | succ k ih =>
    intro n j s h1 h2 hn
    obtain ⟨n, rfl⟩ : ∃ x, n = x + 1 := ⟨n - 1, by omega⟩
    by_cases hj : j < x1.length
    · unfold M_sum_Of_l1
      have hi : (j : Int) < (x1.length : Int) := by omega
      rw [decide_eq_true hi, cond_true, slice4 hj hl, bind_some']
      have hnext : w64 ((j : Int) + 4) = ((j + 4 : Nat) : Int) := by rw [w64_id (by omega) (by omega)]; rfl
      rcases hd : x1.drop j with _ | ⟨a, _ | ⟨b, _ | ⟨c, _ | ⟨d, r⟩⟩⟩⟩
      · have := congrArg List.length hd; simp at this; omega
      · simp only [List.take]
        rw [sum_l2_1, orw1, hnext, ih n (j + 4) _ (by omega) (by have := congrArg List.length hd; simp at this; omega) (by omega), drop_step hd 4]
        rfl
      · simp only [List.take]
        rw [sum_l2_2, orw2, hnext, ih n (j + 4) _ (by omega) (by have := congrArg List.length hd; simp at this; omega) (by omega), drop_step hd 4]
        rfl
      · simp only [List.take]
        rw [sum_l2_3, orw3, hnext, ih n (j + 4) _ (by omega) (by have := congrArg List.length hd; simp at this; omega) (by omega), drop_step hd 4]
        rfl
      · simp only [List.take]
        rw [sum_l2_4, orw4, hnext, ih n (j + 4) _ (by omega) (by have := congrArg List.length hd; simp at this; omega) (by omega), drop_step hd 4]
        rfl
    · unfold M_sum_Of_l1
      have : ¬ (j : Int) < (x1.length : Int) := by omega
      rw [List.drop_eq_nil_of_le (by omega)]
      simp [this, sumG]
theorem join_empty : ∀ xs : List Str, joinS xs [] = xs.flatten := by
  intro xs
  cases xs with
  | nil => rfl
  | cons x r =>
    show Lib.join (x :: r) [] = _
    rw [Lib.join_cons]
    unfold Lib.joinTail
    have : (r.map (([] : List UInt8) ++ ·)) = r := by simp
    rw [this]; rfl
theorem sumOf_eq (l : List Str) (h1 : l.length ≤ 140737488355328) (h2 : l.flatten.length ≤ 140737488355328) : M_sum_Of l = some (sumOf l.flatten) := by
  unfold M_sum_Of M_strings_Join M_join
  rw [join_empty, if_pos ⟨h1, h2⟩, bind_some']
  have := sum_l1 l.flatten (by omega) l.flatten.length fuel 0 ⟨0, 0, 0, 0⟩ (by omega) (by omega) (by unfold fuel; omega)
  exact this
theorem sum1_eq (s : Str) (h : s.length ≤ 140737488355328) : M_sum_Of [s] = some (sumOf s) := by
  have := sumOf_eq [s] (by simp) (by simpa using h)
  simpa using this

/-! ## The document's -/
def byteAt (s : Str) (i : Nat) : UInt8 := (s[i]?).getD 0
theorem rsum_step (c1 : Str → Int → Option (A4 UInt32)) (c2 : Int → A4 UInt32 → Option (A4 UInt32)) (v1 : Str) (j k : Nat) (v7 : A4 UInt32) (hl : v1.length < 4611686018427387904) (hj : j < v1.length) (hk : k ≤ 3) (n : Nat) (w : UInt32) :
    M_ref1_Sum_l3 c1 c2 v1 (j : Int) v7 (n + 1) w (k : Int) = M_ref1_Sum_l3 c1 c2 v1 (j : Int) v7 n (w * 256 + (byteAt v1 (j + k)).toUInt32) ((k : Int) - 1) := by
  rw [M_ref1_Sum_l3]
  have h0 : (k : Int) ≥ 0 := by omega
  rw [decide_eq_true h0, cond_true]
  have e : w64 ((j : Int) + (k : Int)) = ((j + k : Nat) : Int) := by rw [w64_id (by omega) (by omega)]; rfl
  have e2 : w64 ((k : Int) - 1) = (k : Int) - 1 := w64_id (by omega) (by omega)
  rw [e]
  by_cases q : j + k < v1.length
  · rw [decide_eq_true (by omega), cond_true, getI_lt q, bind_some']
    unfold M_ref1_Sum_k1
    rw [e2]
    simp [byteAt, q]
  · rw [decide_eq_false (by omega), cond_false]
    unfold M_ref1_Sum_k1
    rw [e2]
    have : byteAt v1 (j + k) = 0 := by unfold byteAt; rw [List.getElem?_eq_none (by omega)]; rfl
    rw [this]
    congr 1
    show w * 256 = w * 256 + 0
    rw [UInt32.add_zero]
theorem rsum_l4 (c1 : Str → Int → Option (A4 UInt32)) (c2 : Int → A4 UInt32 → Option (A4 UInt32)) (c3 : UInt32 → Int → Option (A4 UInt32)) (v1 : Str) (v6 : Int) (w : UInt32) (s : A4 UInt32) : M_ref1_Sum_l4 c1 c2 c3 v1 v6 fuel w 0 s = c2 (w64 (v6 + 4)) (sstep s w) := by kernel_rfl
theorem rword (a b c d : UInt8) : (((((0 : UInt32) * 256 + d.toUInt32) * 256 + c.toUInt32) * 256 + b.toUInt32) * 256 + a.toUInt32) = word4 a b c d := by
  have := a.toNat_lt
  have := b.toNat_lt
  have := c.toNat_lt
  have := d.toNat_lt
  apply UInt32.toNat_inj.1
  unfold word4 wordN
  simp only [UInt32.toNat_add, UInt32.toNat_mul, UInt8.toNat_toUInt32, UInt32.toNat_ofNat', UInt32.toNat_ofNat]
  omega
theorem rsum_l3 (c1 : Str → Int → Option (A4 UInt32)) (c2 : Int → A4 UInt32 → Option (A4 UInt32)) (v1 : Str) (j : Nat) (v7 : A4 UInt32) (hl : v1.length < 4611686018427387904) (hj : j < v1.length) :
    M_ref1_Sum_l3 c1 c2 v1 (j : Int) v7 fuel 0 3 = c2 (w64 ((j : Int) + 4)) (sstep v7 (word4 (byteAt v1 j) (byteAt v1 (j + 1)) (byteAt v1 (j + 2)) (byteAt v1 (j + 3)))) := by
  have hf : fuel = 4611686018427387899 + 1 + 1 + 1 + 1 + 1 := rfl
  rw [hf]
  have a3 := rsum_step c1 c2 v1 j 3 v7 hl hj (by omega) (4611686018427387899 + 1 + 1 + 1 + 1) 0
  have a2 := fun w => rsum_step c1 c2 v1 j 2 v7 hl hj (by omega) (4611686018427387899 + 1 + 1 + 1) w
  have a1 := fun w => rsum_step c1 c2 v1 j 1 v7 hl hj (by omega) (4611686018427387899 + 1 + 1) w
  have a0 := fun w => rsum_step c1 c2 v1 j 0 v7 hl hj (by omega) (4611686018427387899 + 1) w
  have h3 : ((3 : Nat) : Int) - 1 = ((2 : Nat) : Int) := rfl
  have h2 : ((2 : Nat) : Int) - 1 = ((1 : Nat) : Int) := rfl
  have h1 : ((1 : Nat) : Int) - 1 = ((0 : Nat) : Int) := rfl
  have h0 : ((0 : Nat) : Int) - 1 = -1 := rfl
  have e3 : (3 : Int) = ((3 : Nat) : Int) := rfl
  rw [e3, a3, h3, a2, h2, a1, h1, a0, h0]
  rw [M_ref1_Sum_l3, decide_eq_false (by omega), cond_false, rsum_l4, rword]
  rfl
theorem rsum_l2 (c1 : Str → Int → Option (A4 UInt32)) (x1 : Str) (hl : x1.length < 4611686018427387904) : ∀ (k n : Nat) (j : Nat) (s : A4 UInt32), x1.length ≤ j + 4 * k → j ≤ x1.length + 3 → k < n → M_ref1_Sum_l2 c1 x1 n (j : Int) s = some (sumG s (x1.drop j)) := by
  intro k
  induction k with
  | zero =>
    intro n j s h1 h2 hn
    obtain ⟨n, rfl⟩ : ∃ x, n = x + 1 := ⟨n - 1, by omega⟩
    unfold M_ref1_Sum_l2
    have : ¬ (j : Int) < (x1.length : Int) := by omega
    rw [List.drop_eq_nil_of_le (by omega)]
    simp [this, sumG]
  | succ k ih =>
    intro n j s h1 h2 hn
    obtain ⟨n, rfl⟩ : ∃ x, n = x + 1 := ⟨n - 1, by omega⟩
    by_cases hj : j < x1.length
    · unfold M_ref1_Sum_l2
      have hi : (j : Int) < (x1.length : Int) := by omega
      rw [decide_eq_true hi, cond_true, rsum_l3 _ _ _ _ _ hl hj]
      have hnext : w64 ((j : Int) + 4) = ((j + 4 : Nat) : Int) := by rw [w64_id (by omega) (by omega)]; rfl
      have hb : ∀ k, byteAt x1 (j + k) = byteAt (x1.drop j) k := fun k => by unfold byteAt; rw [List.getElem?_drop]
      have hb0 : byteAt x1 j = byteAt (x1.drop j) 0 := hb 0
      rw [hnext, ih n (j + 4) _ (by omega) (by omega) (by omega), hb0, hb 1, hb 2, hb 3]
      rcases hd : x1.drop j with _ | ⟨a, _ | ⟨b, _ | ⟨c, _ | ⟨d, r⟩⟩⟩⟩
      · have := congrArg List.length hd; simp at this; omega
      · rw [drop_step hd 4]; rfl
      · rw [drop_step hd 4]; rfl
      · rw [drop_step hd 4]; rfl
      · rw [drop_step hd 4]; rfl
    · unfold M_ref1_Sum_l2
      have : ¬ (j : Int) < (x1.length : Int) := by omega
      rw [List.drop_eq_nil_of_le (by omega)]
      simp [this, sumG]
theorem rsum_l1_0 (s v : Str) (n : Nat) : M_ref1_Sum_l1 [s] (n + 1) v 0 = (addS v s).bind fun x5 => M_ref1_Sum_l1 [s] n x5 1 := by kernel_rfl
theorem rsum_l1_1 (s v : Str) (n : Nat) : M_ref1_Sum_l1 [s] (n + 1) v 1 = M_ref1_Sum_l2 (M_ref1_Sum_l1 [s] n) v fuel 0 ⟨0, 0, 0, 0⟩ := by
  rw [M_ref1_Sum_l1]
  have e : decide ((1 : Int) < (([s] : List Str).length : Int)) = false := rfl
  rw [e, cond_false]
theorem rsum_l1_all (s : Str) (h : s.length < 4611686018427387904) (n : Nat) : M_ref1_Sum_l1 [s] (n + 1 + 1) [] 0 = some (sumOf s) := by
  have h2 := rsum_l2 (M_ref1_Sum_l1 [s] n) s h s.length fuel 0 ⟨0, 0, 0, 0⟩ (by omega) (by omega) (by unfold fuel; omega)
  have e0 : ((0 : Nat) : Int) = 0 := rfl
  rw [e0, List.drop_zero] at h2
  rw [rsum_l1_0, addS_eq (by simp; omega), bind_some', List.nil_append, rsum_l1_1, h2, sumOf]
theorem fuel2 : fuel = 4611686018427387902 + 1 + 1 := rfl
theorem rsum1_eq (s : Str) (h : s.length < 4611686018427387904) : M_ref1_Of s = some (sumOf s) := by
  unfold M_ref1_Of M_ref1_Sum
  rw [fuel2, rsum_l1_all s h, bind_some']

/-! ## What the first number is -/
def nsum : Str → Nat → Nat
  | [], _ => 0
  | c :: r, i => c.toNat * 256 ^ (i % 4) + nsum r (i + 1)
theorem nsum_add4 (l : Str) : ∀ i, nsum l (i + 4) = nsum l i := by
  induction l with
  | nil => intro i; rfl
  | cons c l ih => intro i; rw [nsum, nsum, Nat.add_right_comm, ih (i + 1), Nat.add_mod_right]
theorem pw : 256 ^ (0 % 4) = 1 ∧ 256 ^ ((0 + 1) % 4) = 256 ∧ 256 ^ ((0 + 1 + 1) % 4) = 65536 ∧ 256 ^ ((0 + 1 + 1 + 1) % 4) = 16777216 := by decide
theorem ofNat_add32 (a b : Nat) : UInt32.ofNat (a + b) = UInt32.ofNat a + UInt32.ofNat b := UInt32.ofNat_add a b
theorem sumG_x0 : ∀ (s : A4 UInt32) (l : Str), (sumG s l).x0 = s.x0 + UInt32.ofNat (nsum l 0)
  | s, a :: b :: c :: d :: r => by
    rw [sumG, sumG_x0 (sstep s (word4 a b c d)) r]
    have e : nsum (a :: b :: c :: d :: r) 0 = wordN a b c d + nsum r 0 := by
      simp only [nsum, wordN, pw.1, pw.2.1, pw.2.2.1, pw.2.2.2, nsum_add4 r 0]; omega
    rw [e, ofNat_add32]
    show s.x0 + word4 a b c d + _ = _
    rw [UInt32.add_assoc]; rfl
  | s, [a, b, c] => by
    have e : nsum [a, b, c] 0 = wordN a b c 0 := by simp only [nsum, wordN, pw.1, pw.2.1, pw.2.2.1, pw.2.2.2]; have : (0 : UInt8).toNat = 0 := rfl; omega
    rw [e]; rfl
  | s, [a, b] => by
    have e : nsum [a, b] 0 = wordN a b 0 0 := by simp only [nsum, wordN, pw.1, pw.2.1, pw.2.2.1, pw.2.2.2]; have : (0 : UInt8).toNat = 0 := rfl; omega
    rw [e]; rfl
  | s, [a] => by
    have e : nsum [a] 0 = wordN a 0 0 0 := by simp only [nsum, wordN, pw.1, pw.2.1, pw.2.2.1, pw.2.2.2]; have : (0 : UInt8).toNat = 0 := rfl; omega
    rw [e]; rfl
  | s, [] => by
    show s.x0 = s.x0 + 0
    rw [UInt32.add_zero]
theorem sumOf_x0 (l : Str) : (sumOf l).x0 = UInt32.ofNat (nsum l 0) := by
  unfold sumOf; rw [sumG_x0, UInt32.zero_add]
theorem nsum_set (l : Str) : ∀ (i k : Nat) (y : UInt8) (h : k < l.length), nsum (l.set k y) i + l[k].toNat * 256 ^ ((i + k) % 4) = nsum l i + y.toNat * 256 ^ ((i + k) % 4) := by
  induction l with
  | nil => intro i k y h; simp at h
  | cons c l ih =>
    intro i k y h
    cases k with
    | zero => simp only [List.set_cons_zero, nsum, List.getElem_cons_zero, Nat.add_zero]; omega
    | succ k =>
      simp only [List.length_cons] at h
      have := ih (i + 1) k y (by omega)
      simp only [List.set_cons_succ, nsum, List.getElem_cons_succ]
      rw [show i + (k + 1) = i + 1 + k by omega]; omega
theorem ofNat32_inj {a b : Nat} (h : UInt32.ofNat a = UInt32.ofNat b) : a % 4294967296 = b % 4294967296 := by
  have := congrArg UInt32.toNat h
  rwa [UInt32.toNat_ofNat', UInt32.toNat_ofNat'] at this
theorem pow4 (k : Nat) : 256 ^ (k % 4) = 1 ∨ 256 ^ (k % 4) = 256 ∨ 256 ^ (k % 4) = 65536 ∨ 256 ^ (k % 4) = 16777216 := by
  have h : k % 4 = 0 ∨ k % 4 = 1 ∨ k % 4 = 2 ∨ k % 4 = 3 := by omega
  rcases h with h | h | h | h <;> rw [h] <;> decide
/-- A text of which one byte is another one has another sum. -/
theorem sum_set {l : Str} {k : Nat} {y : UInt8} (h : k < l.length) (he : sumOf (l.set k y) = sumOf l) : l[k] = y := by
  have e := congrArg A4.x0 he
  rw [sumOf_x0, sumOf_x0] at e
  have e2 := ofNat32_inj e
  have e3 := nsum_set l 0 k y h
  rw [Nat.zero_add] at e3
  have hx := l[k].toNat_lt
  have hy := y.toNat_lt
  apply UInt8.toNat_inj.1
  generalize nsum (l.set k y) 0 = A at e2 e3
  generalize nsum l 0 = B at e2 e3
  generalize l[k].toNat = X at e3 hx ⊢
  generalize y.toNat = Y at e3 hy ⊢
  rcases pow4 k with q | q | q | q <;> rw [q] at e3 <;> omega
end Go.Proofs

/-
  Numbers as bytes, at the forms that are used: what the program's pack and the document's come to.
-/
set_option maxRecDepth 20000
namespace Go.Proofs
open Go Go.Fhl
set_option linter.unusedVariables false
set_option linter.unusedSimpArgs false
def beF : Nat → Int → Str
  | 0, _ => []
  | k + 1, v => UInt8.ofInt (v.fdiv (2 ^ (8 * k))) :: beF k v
theorem beF_eq (k : Nat) (v : Int) : beF k v = be k v := by
  induction k with
  | zero => rfl
  | succ k ih => rw [beF, be, ih, Int.fdiv_eq_ediv_of_nonneg _ (Int.le_of_lt (Int.pow_pos (by decide)))]
def pv (b : Str) : Int := b.foldl (fun n c => orI (w64 (n * 256)) (c.toNat : Int)) 0
def rv (b : Str) : Int := b.foldl (fun n c => w64 (w64 (n * 256) + (c.toNat : Int))) 0
theorem pv_go (b : Str) : ∀ (n : Int) (k : Nat), 0 ≤ n → n < 256 ^ k → k + b.length ≤ 6 → b.foldl (fun n c => orI (w64 (n * 256)) (c.toNat : Int)) n = valF n b := by
  induction b with
  | nil => intro n k _ _ _; rfl
  | cons c b ih =>
    intro n k h0 h1 h2
    have hc := c.toNat_lt
    rw [List.length_cons] at h2
    have hk : (256 : Int) ^ k ≤ 256 ^ 5 := by
      have : (256 : Int) ^ k = ((256 ^ k : Nat) : Int) := by rw [Int.natCast_pow]; rfl
      rw [this]
      have h3 : 256 ^ k ≤ 256 ^ 5 := Nat.pow_le_pow_right (by decide) (by omega)
      omega
    have e5 : (256 : Int) ^ 5 = 1099511627776 := by decide
    rw [List.foldl_cons, valF_cons, w64_id (by omega) (by omega), orI_low h0 (by omega)]
    exact ih _ (k + 1) (by omega) (by rw [Int.pow_succ]; omega) (by omega)
theorem pv_eq {b : Str} (h : b.length ≤ 4) : pv b = val b := pv_go b 0 0 (by omega) (by decide) (by omega)
theorem rv_go (b : Str) : ∀ (n : Int) (k : Nat), 0 ≤ n → n < 256 ^ k → k + b.length ≤ 6 → b.foldl (fun n c => w64 (w64 (n * 256) + (c.toNat : Int))) n = valF n b := by
  induction b with
  | nil => intro n k _ _ _; rfl
  | cons c b ih =>
    intro n k h0 h1 h2
    have hc := c.toNat_lt
    rw [List.length_cons] at h2
    have hk : (256 : Int) ^ k ≤ 256 ^ 5 := by
      have : (256 : Int) ^ k = ((256 ^ k : Nat) : Int) := by rw [Int.natCast_pow]; rfl
      rw [this]
      have h3 : 256 ^ k ≤ 256 ^ 5 := Nat.pow_le_pow_right (by decide) (by omega)
      omega
    have e5 : (256 : Int) ^ 5 = 1099511627776 := by decide
    rw [List.foldl_cons, valF_cons, w64_id (n := n * 256) (by omega) (by omega), w64_id (by omega) (by omega)]
    exact ih _ (k + 1) (by omega) (by rw [Int.pow_succ]; omega) (by omega)
theorem rv_eq {b : Str} (h : b.length ≤ 4) : rv b = val b := rv_go b 0 0 (by omega) (by decide) (by omega)
theorem uncons {α : Type} {s : List α} {n : Nat} (h : n + 1 ≤ s.length) : ∃ b t, s = b :: t ∧ n ≤ t.length := by
  cases s with
  | nil => simp at h
  | cons b t => exact ⟨b, t, rfl, by simpa using h⟩
/-- Numbers out of bytes. -/
def vals : List Nat → Str → List Int
  | [], _ => []
  | k :: ks, s => val (s.take k) :: vals ks (s.drop k)
def total : List Nat → Nat
  | [] => 0
  | k :: ks => k + total ks
def okk (k : Nat) : Bool := k == 1 || k == 2 || k == 4
theorem p_l2_1 (c : Str → Int → List Int → Option (List Int × Str × Bool)) (x1 : List Int × Int × Bool) (v3 : Str) (v4 : Int) (v5 : List Int) (x7 : Int) (a : UInt8) :
    M_pack_Take_l2 c x1 v3 v4 v5 x7 [a] fuel 0 0 = Option.bind (appL 8 v5 [pv [a]]) fun x14 => Option.bind (slL v3 x7 (v3.length : Int)) fun x15 => c x15 (w64 (v4 + 1)) x14 := by kernel_rfl
theorem p_l2_2 (c : Str → Int → List Int → Option (List Int × Str × Bool)) (x1 : List Int × Int × Bool) (v3 : Str) (v4 : Int) (v5 : List Int) (x7 : Int) (a b : UInt8) :
    M_pack_Take_l2 c x1 v3 v4 v5 x7 [a, b] fuel 0 0 = Option.bind (appL 8 v5 [pv [a, b]]) fun x14 => Option.bind (slL v3 x7 (v3.length : Int)) fun x15 => c x15 (w64 (v4 + 1)) x14 := by kernel_rfl
theorem p_l2_4 (c : Str → Int → List Int → Option (List Int × Str × Bool)) (x1 : List Int × Int × Bool) (v3 : Str) (v4 : Int) (v5 : List Int) (x7 : Int) (a b d e : UInt8) :
    M_pack_Take_l2 c x1 v3 v4 v5 x7 [a, b, d, e] fuel 0 0 = Option.bind (appL 8 v5 [pv [a, b, d, e]]) fun x14 => Option.bind (slL v3 x7 (v3.length : Int)) fun x15 => c x15 (w64 (v4 + 1)) x14 := by kernel_rfl
theorem p_l2 (c : Str → Int → List Int → Option (List Int × Str × Bool)) (x1 : List Int × Int × Bool) (v3 : Str) (v4 : Int) (v5 : List Int) (x7 : Int) (p : Str) (k : Nat) (hk : okk k = true) (hp : p.length = k) :
    M_pack_Take_l2 c x1 v3 v4 v5 x7 p fuel 0 0 = Option.bind (appL 8 v5 [val p]) fun x14 => Option.bind (slL v3 x7 (v3.length : Int)) fun x15 => c x15 (w64 (v4 + 1)) x14 := by
  have hk2 : k = 1 ∨ k = 2 ∨ k = 4 := by simpa [okk, or_assoc] using hk
  rw [← pv_eq (b := p) (by omega)]
  rcases p with _ | ⟨a, _ | ⟨b, _ | ⟨d, _ | ⟨e, _ | ⟨f, r⟩⟩⟩⟩⟩ <;> simp only [List.length_cons, List.length_nil] at hp
  · omega
  · exact p_l2_1 ..
  · exact p_l2_2 ..
  · omega
  · exact p_l2_4 ..
  · omega
theorem p_l1 (x1 : List Int × Int × Bool) (hx : x1.1.length < 1000) : ∀ (ks : List Nat) (j n : Nat) (v3 : Str) (v5 : List Int), x1.1.drop j = ks.map (fun k : Nat => (k : Int)) → ks.all okk = true → total ks ≤ v3.length → v5.length + ks.length < 1000 → ks.length < n →
    M_pack_Take_l1 x1 n v3 (j : Int) v5 = some (v5 ++ vals ks v3, v3.drop (total ks), true) := by
  intro ks
  induction ks with
  | nil =>
    intro j n v3 v5 h1 h2 h3 h4 hn
    obtain ⟨n, rfl⟩ : ∃ x, n = x + 1 := ⟨n - 1, by omega⟩
    have hj : x1.1.length ≤ j := by simpa using h1
    rw [M_pack_Take_l1, decide_eq_false (by omega), cond_false]
    simp [vals, total]
  | cons k ks ih =>
    intro j n v3 v5 h1 h2 h3 h4 hn
    obtain ⟨n, rfl⟩ : ∃ x, n = x + 1 := ⟨n - 1, by omega⟩
    simp only [List.all_cons, Bool.and_eq_true] at h2
    simp only [total] at h3
    simp only [List.length_cons] at h4 hn
    have hj : j < x1.1.length := by
      have := congrArg List.length h1
      simp at this; omega
    have hget : x1.1[j]? = some (k : Int) := by
      have := congrArg (fun l => l[0]?) h1
      simpa using this
    rw [M_pack_Take_l1, decide_eq_true (by omega), cond_true, getI_nat, hget, bind_some', slL_to (by omega), bind_some', p_l2 _ _ _ _ _ _ _ k h2.1 (by simp; omega), appL_eq (by simp; omega), bind_some', slL_from (by omega), bind_some', w64_succ (by omega)]
    rw [ih (j + 1) n (v3.drop k) _ (by rw [← List.drop_drop, h1]; rfl) h2.2 (by simp; omega) (by simp; omega) (by omega)]
    simp [vals, total]
theorem ptake_eq (f : Str) (ks : List Nat) (hs : M_pack_sizes f = some (ks.map (fun k : Nat => (k : Int)), (total ks : Int), true)) (hk : ks.all okk = true) (hl : ks.length < 900) (s : Str) :
    M_pack_Take f s = some (if s.length < total ks then ([], [], false) else (vals ks s, s.drop (total ks), true)) := by
  unfold M_pack_Take
  rw [hs, bind_some']
  by_cases q : s.length < total ks
  · have : decide ((s.length : Int) < (total ks : Int)) = true := decide_eq_true (by omega)
    simp only [this, Bool.or_true, cond_true, q, if_true]
  · have : decide ((s.length : Int) < (total ks : Int)) = false := decide_eq_false (by omega)
    simp only [this, Bool.not_true, Bool.or_false, cond_false, q, if_false]
    have := p_l1 (ks.map (fun k : Nat => (k : Int)), (total ks : Int), true) (by simp; omega) ks 0 fuel s [] (by simp) hk (by omega) (by simp; omega) (by unfold fuel; omega)
    simpa using this
theorem r_l2_1 (c : Str → Int → List Int → Option (List Int × Str × Bool)) (t0 : Str) (v1 : Str) (v2 : Int) (v3 : List Int) (a : UInt8) (t : Str) :
    M_ref1_Take_l2 c t0 (a :: t) v2 v3 49 fuel 0 0 = Option.bind (appL 8 v3 [rv [a]]) fun x11 => Option.bind (slL (a :: t) 1 ((a :: t).length : Int)) fun x12 => c x12 (w64 (v2 + 1)) x11 := by kernel_rfl
theorem r_l2_2 (c : Str → Int → List Int → Option (List Int × Str × Bool)) (t0 : Str) (v1 : Str) (v2 : Int) (v3 : List Int) (a b : UInt8) (t : Str) :
    M_ref1_Take_l2 c t0 (a :: b :: t) v2 v3 50 fuel 0 0 = Option.bind (appL 8 v3 [rv [a, b]]) fun x11 => Option.bind (slL (a :: b :: t) 2 ((a :: b :: t).length : Int)) fun x12 => c x12 (w64 (v2 + 1)) x11 := by kernel_rfl
theorem r_l2_4 (c : Str → Int → List Int → Option (List Int × Str × Bool)) (t0 : Str) (v1 : Str) (v2 : Int) (v3 : List Int) (a b d e : UInt8) (t : Str) :
    M_ref1_Take_l2 c t0 (a :: b :: d :: e :: t) v2 v3 52 fuel 0 0 = Option.bind (appL 8 v3 [rv [a, b, d, e]]) fun x11 => Option.bind (slL (a :: b :: d :: e :: t) 4 ((a :: b :: d :: e :: t).length : Int)) fun x12 => c x12 (w64 (v2 + 1)) x11 := by kernel_rfl
theorem r_l2 (c : Str → Int → List Int → Option (List Int × Str × Bool)) (t0 : Str) (v1 : Str) (v2 : Int) (v3 : List Int) (x5 : UInt8) (k : Nat) (hx : x5 = UInt8.ofNat (k + 48)) (hk : okk k = true) (hp : k ≤ v1.length) :
    M_ref1_Take_l2 c t0 v1 v2 v3 x5 fuel 0 0 = Option.bind (appL 8 v3 [val (v1.take k)]) fun x11 => Option.bind (slL v1 (k : Int) (v1.length : Int)) fun x12 => c x12 (w64 (v2 + 1)) x11 := by
  have hk2 : k = 1 ∨ k = 2 ∨ k = 4 := by simpa [okk, or_assoc] using hk
  subst hx
  rw [← rv_eq (b := v1.take k) (by simp; omega)]
  rcases hk2 with rfl | rfl | rfl
  · obtain ⟨a, t, rfl, h1⟩ := uncons hp
    exact r_l2_1 c t0 (a :: t) v2 v3 a t
  · obtain ⟨a, t, rfl, h1⟩ := uncons hp
    obtain ⟨b, t2, rfl, h2⟩ := uncons h1
    exact r_l2_2 c t0 [] v2 v3 a b t2
  · obtain ⟨a, t, rfl, h1⟩ := uncons hp
    obtain ⟨b, t2, rfl, h2⟩ := uncons h1
    obtain ⟨d, t3, rfl, h3⟩ := uncons h2
    obtain ⟨e, t4, rfl, h4⟩ := uncons h3
    exact r_l2_4 c t0 [] v2 v3 a b d e t4
theorem r_l1 (f : Str) (hf : f.length < 900) : ∀ (ks : List Nat) (j n : Nat) (v1 : Str) (v3 : List Int), f.drop j = ks.map (fun k => UInt8.ofNat (k + 48)) → ks.all okk = true → v3.length + ks.length < 1000 → ks.length < n →
    M_ref1_Take_l1 f n v1 (j : Int) v3 = some (if v1.length < total ks then ([], [], false) else (v3 ++ vals ks v1, v1.drop (total ks), true)) := by
  intro ks
  induction ks with
  | nil =>
    intro j n v1 v3 h1 h2 h4 hn
    obtain ⟨n, rfl⟩ : ∃ x, n = x + 1 := ⟨n - 1, by omega⟩
    have hj : f.length ≤ j := by simpa using h1
    rw [M_ref1_Take_l1, decide_eq_false (by omega), cond_false]
    simp [vals, total]
  | cons k ks ih =>
    intro j n v1 v3 h1 h2 h4 hn
    obtain ⟨n, rfl⟩ : ∃ x, n = x + 1 := ⟨n - 1, by omega⟩
    simp only [List.all_cons, Bool.and_eq_true] at h2
    simp only [List.length_cons] at h4 hn
    have hj : j < f.length := by
      have := congrArg List.length h1
      simp at this; omega
    have hget : f[j]? = some (UInt8.ofNat (k + 48)) := by
      have := congrArg (fun l => l[0]?) h1
      simpa using this
    have hk2 : k = 1 ∨ k = 2 ∨ k = 4 := by simpa [okk, or_assoc] using h2.1
    have hkn : (UInt8.ofNat (k + 48)).toNat = k + 48 := by rw [UInt8.toNat_ofNat']; omega
    have hw : w64 (((UInt8.ofNat (k + 48)).toNat : Int) - 48) = (k : Int) := by rw [hkn, w64_id (by omega) (by omega)]; omega
    rw [M_ref1_Take_l1, decide_eq_true (by omega), cond_true, getI_nat, hget, bind_some', hw, decide_eq_false (by omega), decide_eq_false (by omega)]
    simp only [Bool.false_or]
    by_cases q : v1.length < k
    · rw [decide_eq_true (by omega), cond_true, show total (k :: ks) = k + total ks from rfl, if_pos (by omega)]
    · rw [decide_eq_false (by omega), cond_false, r_l2 _ _ _ _ _ _ k rfl h2.1 (by omega), appL_eq (by simp; omega), bind_some', slL_from (by omega), bind_some', w64_succ (by omega)]
      rw [ih (j + 1) n (v1.drop k) _ (by rw [← List.drop_drop, h1]; rfl) h2.2 (by simp; omega) (by omega)]
      rw [show total (k :: ks) = k + total ks from rfl]
      simp only [vals, List.length_drop, List.drop_drop, List.append_assoc, List.singleton_append]
      by_cases q2 : v1.length < k + total ks
      · rw [if_pos q2, if_pos (by omega)]
      · rw [if_neg q2, if_neg (by omega)]
theorem rtake_eq (f : Str) (ks : List Nat) (hf : f = ks.map (fun k => UInt8.ofNat (k + 48))) (hk : ks.all okk = true) (hl : ks.length < 900) (hl2 : f.length < 900) (s : Str) :
    M_ref1_Take f s = some (if s.length < total ks then ([], [], false) else (vals ks s, s.drop (total ks), true)) := by
  unfold M_ref1_Take
  have := r_l1 f hl2 ks 0 fuel s [] (by simpa using hf) hk (by simp; omega) (by unfold fuel; omega)
  simpa using this

def form6 : Str := [50, 52, 52, 52, 52, 52]
def put6 (a0 a1 a2 a3 a4 a5 : Int) : Str := be 2 a0 ++ (be 4 a1 ++ (be 4 a2 ++ (be 4 a3 ++ (be 4 a4 ++ (be 4 a5)))))
theorem pput6 (a0 a1 a2 a3 a4 a5 : Int) : M_pack_Put ([50, 52, 52, 52, 52, 52] : Str) [a0, a1, a2, a3, a4, a5] = some (put6 a0 a1 a2 a3 a4 a5) := by
  have h : M_pack_Put ([50, 52, 52, 52, 52, 52] : Str) [a0, a1, a2, a3, a4, a5] = some (beF 2 a0 ++ (beF 4 a1 ++ (beF 4 a2 ++ (beF 4 a3 ++ (beF 4 a4 ++ (beF 4 a5)))))) := by kernel_rfl
  rw [h]; simp only [beF_eq]; rfl
theorem rput6 (a0 a1 a2 a3 a4 a5 : Int) : M_ref1_Put ([50, 52, 52, 52, 52, 52] : Str) [a0, a1, a2, a3, a4, a5] = some (put6 a0 a1 a2 a3 a4 a5) := by
  have h : M_ref1_Put ([50, 52, 52, 52, 52, 52] : Str) [a0, a1, a2, a3, a4, a5] = some (beF 2 a0 ++ (beF 4 a1 ++ (beF 4 a2 ++ (beF 4 a3 ++ (beF 4 a4 ++ (beF 4 a5)))))) := by kernel_rfl
  rw [h]; simp only [beF_eq]; rfl
theorem put6_length (a0 a1 a2 a3 a4 a5 : Int) : (put6 a0 a1 a2 a3 a4 a5).length = 22 := by unfold put6; simp only [List.length_append, be_length]
theorem ptake6 (s : Str) : M_pack_Take ([50, 52, 52, 52, 52, 52] : Str) s = some (if s.length < 22 then ([], [], false) else (vals [2, 4, 4, 4, 4, 4] s, s.drop 22, true)) := ptake_eq ([50, 52, 52, 52, 52, 52] : Str) [2, 4, 4, 4, 4, 4] (by kernel_rfl) (by decide) (by decide) s
theorem rtake6 (s : Str) : M_ref1_Take ([50, 52, 52, 52, 52, 52] : Str) s = some (if s.length < 22 then ([], [], false) else (vals [2, 4, 4, 4, 4, 4] s, s.drop 22, true)) := rtake_eq ([50, 52, 52, 52, 52, 52] : Str) [2, 4, 4, 4, 4, 4] (by decide) (by decide) (by decide) (by decide) s
def form3 : Str := [49, 52, 50]
def put3 (a0 a1 a2 : Int) : Str := be 1 a0 ++ (be 4 a1 ++ (be 2 a2))
theorem pput3 (a0 a1 a2 : Int) : M_pack_Put ([49, 52, 50] : Str) [a0, a1, a2] = some (put3 a0 a1 a2) := by
  have h : M_pack_Put ([49, 52, 50] : Str) [a0, a1, a2] = some (beF 1 a0 ++ (beF 4 a1 ++ (beF 2 a2))) := by kernel_rfl
  rw [h]; simp only [beF_eq]; rfl
theorem rput3 (a0 a1 a2 : Int) : M_ref1_Put ([49, 52, 50] : Str) [a0, a1, a2] = some (put3 a0 a1 a2) := by
  have h : M_ref1_Put ([49, 52, 50] : Str) [a0, a1, a2] = some (beF 1 a0 ++ (beF 4 a1 ++ (beF 2 a2))) := by kernel_rfl
  rw [h]; simp only [beF_eq]; rfl
theorem put3_length (a0 a1 a2 : Int) : (put3 a0 a1 a2).length = 7 := by unfold put3; simp only [List.length_append, be_length]
theorem ptake3 (s : Str) : M_pack_Take ([49, 52, 50] : Str) s = some (if s.length < 7 then ([], [], false) else (vals [1, 4, 2] s, s.drop 7, true)) := ptake_eq ([49, 52, 50] : Str) [1, 4, 2] (by kernel_rfl) (by decide) (by decide) s
theorem rtake3 (s : Str) : M_ref1_Take ([49, 52, 50] : Str) s = some (if s.length < 7 then ([], [], false) else (vals [1, 4, 2] s, s.drop 7, true)) := rtake_eq ([49, 52, 50] : Str) [1, 4, 2] (by decide) (by decide) (by decide) (by decide) s
def form4 : Str := [49, 52, 52, 49]
def put4 (a0 a1 a2 a3 : Int) : Str := be 1 a0 ++ (be 4 a1 ++ (be 4 a2 ++ (be 1 a3)))
theorem pput4 (a0 a1 a2 a3 : Int) : M_pack_Put ([49, 52, 52, 49] : Str) [a0, a1, a2, a3] = some (put4 a0 a1 a2 a3) := by
  have h : M_pack_Put ([49, 52, 52, 49] : Str) [a0, a1, a2, a3] = some (beF 1 a0 ++ (beF 4 a1 ++ (beF 4 a2 ++ (beF 1 a3)))) := by kernel_rfl
  rw [h]; simp only [beF_eq]; rfl
theorem rput4 (a0 a1 a2 a3 : Int) : M_ref1_Put ([49, 52, 52, 49] : Str) [a0, a1, a2, a3] = some (put4 a0 a1 a2 a3) := by
  have h : M_ref1_Put ([49, 52, 52, 49] : Str) [a0, a1, a2, a3] = some (beF 1 a0 ++ (beF 4 a1 ++ (beF 4 a2 ++ (beF 1 a3)))) := by kernel_rfl
  rw [h]; simp only [beF_eq]; rfl
theorem put4_length (a0 a1 a2 a3 : Int) : (put4 a0 a1 a2 a3).length = 10 := by unfold put4; simp only [List.length_append, be_length]
theorem ptake4 (s : Str) : M_pack_Take ([49, 52, 52, 49] : Str) s = some (if s.length < 10 then ([], [], false) else (vals [1, 4, 4, 1] s, s.drop 10, true)) := ptake_eq ([49, 52, 52, 49] : Str) [1, 4, 4, 1] (by kernel_rfl) (by decide) (by decide) s
theorem rtake4 (s : Str) : M_ref1_Take ([49, 52, 52, 49] : Str) s = some (if s.length < 10 then ([], [], false) else (vals [1, 4, 4, 1] s, s.drop 10, true)) := rtake_eq ([49, 52, 52, 49] : Str) [1, 4, 4, 1] (by decide) (by decide) (by decide) (by decide) s
def forms : Str := [52, 52, 52, 52]
def puts (a0 a1 a2 a3 : Int) : Str := be 4 a0 ++ (be 4 a1 ++ (be 4 a2 ++ (be 4 a3)))
theorem pputs (a0 a1 a2 a3 : Int) : M_pack_Put ([52, 52, 52, 52] : Str) [a0, a1, a2, a3] = some (puts a0 a1 a2 a3) := by
  have h : M_pack_Put ([52, 52, 52, 52] : Str) [a0, a1, a2, a3] = some (beF 4 a0 ++ (beF 4 a1 ++ (beF 4 a2 ++ (beF 4 a3)))) := by kernel_rfl
  rw [h]; simp only [beF_eq]; rfl
theorem rputs (a0 a1 a2 a3 : Int) : M_ref1_Put ([52, 52, 52, 52] : Str) [a0, a1, a2, a3] = some (puts a0 a1 a2 a3) := by
  have h : M_ref1_Put ([52, 52, 52, 52] : Str) [a0, a1, a2, a3] = some (beF 4 a0 ++ (beF 4 a1 ++ (beF 4 a2 ++ (beF 4 a3)))) := by kernel_rfl
  rw [h]; simp only [beF_eq]; rfl
theorem puts_length (a0 a1 a2 a3 : Int) : (puts a0 a1 a2 a3).length = 16 := by unfold puts; simp only [List.length_append, be_length]
end Go.Proofs

/-
  Pointers: what the program's package ptr and the document's answer come to; numbers of made ones.
-/
set_option maxRecDepth 20000
namespace Go.Proofs
open Go Go.Fhl
set_option linter.unusedVariables false
set_option linter.unusedSimpArgs false

def zp : GPt := ⟨0, 0, ⟨0, 0, 0, 0⟩⟩
def okPtr (p : GPt) : Bool := cond (p.Addr == 0) (decide (p = zp)) ((((decide (p.Addr > 0)) && (decide (p.Addr ≤ 65535))) && (decide (p.Birth ≥ 0))) && (decide (p.Birth ≤ 1073741824)))
theorem may_eq (p : GPt) : M_ptr_May p = some (okPtr p) := by
  unfold M_ptr_May okPtr
  cases p.Addr == 0 <;> rfl
theorem zp_eq : (⟨0, 0, ⟨0, 0, 0, 0⟩⟩ : GPt) = zp := rfl
theorem rmay_eq (p : GPt) : M_ref1_MayPtr p = some (okPtr p) := by
  unfold M_ref1_MayPtr okPtr M_ref1_num
  rw [gd_some, bind_some', zp_eq]
  congr 1
  by_cases h : p.Addr = 0
  · have e : (p.Addr == 0) = true := by simp [h]
    rw [e, cond_true]
    by_cases q : p = zp
    · subst q; rfl
    · have hn : decide (p = zp) = false := decide_eq_false q
      have h2 : decide (p.Addr > 0) = false := decide_eq_false (by omega)
      rw [hn, h2]; simp
  · have e : (p.Addr == 0) = false := by simp [h]
    have hz : decide (p = zp) = false := decide_eq_false (fun q => h (by rw [q]; rfl))
    rw [e, cond_false, hz]
    by_cases q : p.Addr > 0
    · by_cases q2 : p.Addr ≤ 65535
      · have q3 : p.Addr ≥ 0 := by omega
        simp [q, q2, q3]
      · simp [q2]
    · simp [q]
theorem okPtr_iff (p : GPt) : okPtr p = true ↔ p = zp ∨ (0 < p.Addr ∧ p.Addr ≤ 65535 ∧ 0 ≤ p.Birth ∧ p.Birth ≤ 1073741824) := by
  unfold okPtr
  by_cases h : p.Addr = 0
  · have e : (p.Addr == 0) = true := by simp [h]
    rw [e, cond_true, decide_eq_true_eq]
    constructor
    · exact .inl
    · rintro (q | q)
      · exact q
      · omega
  · have e : (p.Addr == 0) = false := by simp [h]
    rw [e, cond_false]
    constructor
    · intro q; simp only [Bool.and_eq_true, decide_eq_true_eq] at q; exact .inr ⟨by omega, by omega, by omega, by omega⟩
    · rintro (q | q)
      · exact absurd (by rw [q]; rfl) h
      · simp only [Bool.and_eq_true, decide_eq_true_eq]; omega

/-! ## Put -/
def bytesP (p : GPt) : Str := put6 p.Addr p.Birth (p.Sum.x0.toNat : Int) (p.Sum.x1.toNat : Int) (p.Sum.x2.toNat : Int) (p.Sum.x3.toNat : Int)
def putPs (l : List GPt) : Str := if l.all okPtr = true then l.flatMap bytesP else []
theorem bytesP_length (p : GPt) : (bytesP p).length = 22 := put6_length ..
theorem numbers_eq (p : GPt) : M_ptr_pointer_numbers ⟨p⟩ = some [p.Addr, p.Birth, (p.Sum.x0.toNat : Int), (p.Sum.x1.toNat : Int), (p.Sum.x2.toNat : Int), (p.Sum.x3.toNat : Int)] := by kernel_rfl
theorem put_l1 (t0 : List GPt) (hl : t0.length < 1000000) : ∀ (j : Nat), j ≤ t0.length → ∀ v1 : Str, v1.length ≤ 22 * j → M_ptr_Put_l1 t0 fuel v1 (j : Int) = some (if (t0.drop j).all okPtr = true then v1 ++ (t0.drop j).flatMap bytesP else []) := by
  refine up_fuel (Q := fun n j => ∀ v1 : Str, v1.length ≤ 22 * j → M_ptr_Put_l1 t0 n v1 (j : Int) = some (if (t0.drop j).all okPtr = true then v1 ++ (t0.drop j).flatMap bytesP else [])) t0.length (by omega) ?_ ?_
  · intro n v1 hv
    rw [M_ptr_Put_l1, decide_eq_false (by omega), cond_false]
    simp
  · intro n j hj ih v1 hv
    rw [M_ptr_Put_l1, decide_eq_true (by omega), cond_true, getI_lt hj, bind_some', may_eq, bind_some', List.drop_eq_getElem_cons hj, List.all_cons, List.flatMap_cons]
    cases hok : okPtr t0[j] with
    | false => rfl
    | true =>
      rw [Bool.not_true, cond_false, numbers_eq, bind_some', pput6, bind_some']
      have hb : (bytesP t0[j]).length = 22 := bytesP_length _
      change (Option.bind (addS v1 (bytesP t0[j])) fun x9 => M_ptr_Put_l1 t0 n x9 (w64 ((j : Int) + 1))) = _
      rw [addS_eq (by omega), bind_some', w64_succ (by omega), ih _ (by simp; omega), Bool.true_and, List.append_assoc]
theorem put_eq (l : List GPt) (hl : l.length < 1000000) : M_ptr_Put l = some (putPs l) := by
  have := put_l1 l hl 0 (Nat.zero_le _) [] (by simp)
  simpa [M_ptr_Put, putPs] using this
theorem rput_l1 (t0 : List GPt) (hl : t0.length < 1000000) : ∀ (j : Nat), j ≤ t0.length → ∀ v1 : Str, v1.length ≤ 22 * j → M_ref1_PutPtrs_l1 t0 fuel v1 (j : Int) = some (if (t0.drop j).all okPtr = true then v1 ++ (t0.drop j).flatMap bytesP else []) := by
  refine up_fuel (Q := fun n j => ∀ v1 : Str, v1.length ≤ 22 * j → M_ref1_PutPtrs_l1 t0 n v1 (j : Int) = some (if (t0.drop j).all okPtr = true then v1 ++ (t0.drop j).flatMap bytesP else [])) t0.length (by omega) ?_ ?_
  · intro n v1 hv
    rw [M_ref1_PutPtrs_l1, decide_eq_false (by omega), cond_false]
    simp
  · intro n j hj ih v1 hv
    rw [M_ref1_PutPtrs_l1, decide_eq_true (by omega), cond_true, getI_lt hj, bind_some', rmay_eq, bind_some', List.drop_eq_getElem_cons hj, List.all_cons, List.flatMap_cons]
    cases hok : okPtr t0[j] with
    | false => rfl
    | true =>
      rw [Bool.not_true, cond_false, bind_some', rput6, bind_some']
      have hb : (bytesP t0[j]).length = 22 := bytesP_length _
      change (Option.bind (addS v1 (bytesP t0[j])) fun x9 => M_ref1_PutPtrs_l1 t0 n x9 (w64 ((j : Int) + 1))) = _
      rw [addS_eq (by omega), bind_some', w64_succ (by omega), ih _ (by simp; omega), Bool.true_and, List.append_assoc]
theorem rput_eq (l : List GPt) (hl : l.length < 1000000) : M_ref1_PutPtrs l = some (putPs l) := by
  have := rput_l1 l hl 0 (Nat.zero_le _) [] (by simp)
  simpa [M_ref1_PutPtrs, putPs] using this

/-! ## Take -/
def ptrOf (s : Str) : GPt := ⟨val (s.take 2), val ((s.drop 2).take 4), ⟨UInt32.ofInt (val ((s.drop 6).take 4)), UInt32.ofInt (val ((s.drop 10).take 4)), UInt32.ofInt (val ((s.drop 14).take 4)), UInt32.ofInt (val ((s.drop 18).take 4))⟩⟩
theorem vals6 (s : Str) : vals [2, 4, 4, 4, 4, 4] s = [val (s.take 2), val ((s.drop 2).take 4), val ((s.drop 6).take 4), val ((s.drop 10).take 4), val ((s.drop 14).take 4), val ((s.drop 18).take 4)] := by
  simp [vals, List.drop_drop]
def takePs : Nat → Str → Option (List GPt × Str)
  | 0, s => some ([], s)
  | k + 1, s => if s.length < 22 then none else if okPtr (ptrOf s) = true then (takePs k (s.drop 22)).map (fun r => (ptrOf s :: r.1, r.2)) else none
def tans (o : Option (List GPt × Str)) : List GPt × Str × Bool := match o with | none => ([], [], false) | some (l, r) => (l, r, true)
theorem of6 (a b c d e f : Int) : M_ptr_of [a, b, c, d, e, f] = some ⟨⟨a, b, ⟨UInt32.ofInt c, UInt32.ofInt d, UInt32.ofInt e, UInt32.ofInt f⟩⟩⟩ := by kernel_rfl
def preP (acc : List GPt) (o : Option (List GPt × Str)) : Option (List GPt × Str) := o.map fun r => (acc ++ r.1, r.2)
theorem take_l1 (t1 : Int) (m : Nat) (hm : max t1 0 = (m : Int)) (hs : m < 1000000) : ∀ (k j n : Nat) (s : Str) (acc : List GPt), j + k = m → acc.length ≤ j → k < n → M_ptr_Take_l1 t1 n s (j : Int) acc = some (tans (preP acc (takePs k s))) := by
  intro k
  induction k with
  | zero =>
    intro j n s acc h1 h2 hn
    obtain ⟨n, rfl⟩ : ∃ x, n = x + 1 := ⟨n - 1, by omega⟩
    rw [M_ptr_Take_l1, hm, decide_eq_false (by omega), cond_false]
    simp [takePs, preP, tans]
  | succ k ih =>
    intro j n s acc h1 h2 hn
    obtain ⟨n, rfl⟩ : ∃ x, n = x + 1 := ⟨n - 1, by omega⟩
    rw [M_ptr_Take_l1, hm, decide_eq_true (by omega), cond_true, ptake6, bind_some']
    by_cases q : s.length < 22
    · rw [if_pos q]
      simp only [Bool.not_false, gd_false, show ((true : Bool) == false) = false from rfl, bind_some', Bool.true_or, cond_true, takePs]
      rw [if_pos q]; rfl
    · rw [if_neg q]
      simp only [Bool.not_true, show ((false : Bool) == false) = true from rfl, gd_true, vals6, of6, bind_some', may_eq, Bool.false_or, takePs]
      rw [if_neg q]
      cases hok : okPtr (ptrOf s) with
      | false =>
        unfold ptrOf at hok
        rw [hok]; rfl
      | true =>
        have hok2 := hok
        unfold ptrOf at hok2
        rw [hok2, Bool.not_true, cond_false, appL_eq (by simp; omega), bind_some', w64_succ (by omega), ih (j + 1) n _ _ (by omega) (by simp; omega) (by omega), if_pos rfl]
        show _ = some (tans (preP acc _))
        cases takePs k (s.drop 22) with
        | none => rfl
        | some r => simp [preP, tans, ptrOf]
theorem take_eq (s : Str) (t1 : Int) (h : t1 < 1000000) : M_ptr_Take s t1 = some (tans (takePs t1.toNat s)) := by
  have := take_l1 t1 t1.toNat (by omega) (by omega) t1.toNat 0 fuel s [] (by omega) (by simp) (by unfold fuel; omega)
  unfold M_ptr_Take
  have e0 : ((0 : Nat) : Int) = 0 := rfl
  rw [e0] at this
  rw [this]
  congr 2
  cases takePs t1.toNat s <;> simp [preP]
theorem getI6 (a b c d e f : Int) : getI [a, b, c, d, e, f] 0 = some a ∧ getI [a, b, c, d, e, f] 1 = some b ∧ getI [a, b, c, d, e, f] 2 = some c ∧ getI [a, b, c, d, e, f] 3 = some d ∧ getI [a, b, c, d, e, f] 4 = some e ∧ getI [a, b, c, d, e, f] 5 = some f := ⟨rfl, rfl, rfl, rfl, rfl, rfl⟩
theorem rtake_l1 (t1 : Int) (m : Nat) (hm : max t1 0 = (m : Int)) (hs : m < 1000000) : ∀ (k j n : Nat) (s : Str) (acc : List GPt), j + k = m → acc.length ≤ j → k < n → M_ref1_TakePtrs_l1 t1 n s (j : Int) acc = some (tans (preP acc (takePs k s))) := by
  intro k
  induction k with
  | zero =>
    intro j n s acc h1 h2 hn
    obtain ⟨n, rfl⟩ : ∃ x, n = x + 1 := ⟨n - 1, by omega⟩
    rw [M_ref1_TakePtrs_l1, decide_eq_false (by omega), cond_false]
    simp [takePs, preP, tans]
  | succ k ih =>
    intro j n s acc h1 h2 hn
    obtain ⟨n, rfl⟩ : ∃ x, n = x + 1 := ⟨n - 1, by omega⟩
    rw [M_ref1_TakePtrs_l1, decide_eq_true (by omega), cond_true, rtake6, bind_some']
    by_cases q : s.length < 22
    · rw [if_pos q]
      simp only [Bool.not_false, cond_true, takePs]
      rw [if_pos q]; rfl
    · rw [if_neg q]
      obtain ⟨g0, g1, g2, g3, g4, g5⟩ := getI6 (val (s.take 2)) (val ((s.drop 2).take 4)) (val ((s.drop 6).take 4)) (val ((s.drop 10).take 4)) (val ((s.drop 14).take 4)) (val ((s.drop 18).take 4))
      simp only [Bool.not_true, cond_false, vals6, g0, g1, g2, g3, g4, g5, bind_some', rmay_eq, takePs]
      rw [if_neg q]
      cases hok : okPtr (ptrOf s) with
      | false =>
        unfold ptrOf at hok
        rw [hok]; rfl
      | true =>
        have hok2 := hok
        unfold ptrOf at hok2
        rw [hok2, Bool.not_true, cond_false, appL_eq (by simp; omega), bind_some', w64_succ (by omega), ih (j + 1) n _ _ (by omega) (by simp; omega) (by omega), if_pos rfl]
        show _ = some (tans (preP acc _))
        cases takePs k (s.drop 22) with
        | none => rfl
        | some r => simp [preP, tans, ptrOf]
theorem rtakePs_eq (s : Str) (t1 : Int) (h : t1 < 1000000) : M_ref1_TakePtrs s t1 = some (tans (takePs t1.toNat s)) := by
  have := rtake_l1 t1 t1.toNat (by omega) (by omega) t1.toNat 0 fuel s [] (by omega) (by simp) (by unfold fuel; omega)
  unfold M_ref1_TakePtrs
  have e0 : ((0 : Nat) : Int) = 0 := rfl
  rw [e0] at this
  rw [this]
  congr 2
  cases takePs t1.toNat s <;> simp [preP]

/-! ## What is put is taken -/
theorem u32_ofInt (x : UInt32) : UInt32.ofInt (x.toNat : Int) = x := by
  have : UInt32.ofInt (x.toNat : Int) = UInt32.ofNat ((x.toNat : Int) % 4294967296).toNat := rfl
  rw [this]
  apply UInt32.toNat_inj.1
  have := x.toNat_lt
  rw [UInt32.toNat_ofNat']; omega
theorem p256_2 : (256 : Int) ^ 2 = 65536 := by decide
theorem p256_4 : (256 : Int) ^ 4 = 4294967296 := by decide
theorem cut6 (a b c d e f : Str) (r : Str) (ha : a.length = 2) (hb : b.length = 4) (hc : c.length = 4) (hd : d.length = 4) (he : e.length = 4) (hf : f.length = 4) :
    let s := (a ++ (b ++ (c ++ (d ++ (e ++ f))))) ++ r
    s.take 2 = a ∧ (s.drop 2).take 4 = b ∧ (s.drop 6).take 4 = c ∧ (s.drop 10).take 4 = d ∧ (s.drop 14).take 4 = e ∧ (s.drop 18).take 4 = f ∧ s.drop 22 = r := by
  match a, ha with
  | [a0, a1], _ =>
  match b, hb with
  | [b0, b1, b2, b3], _ =>
  match c, hc with
  | [c0, c1, c2, c3], _ =>
  match d, hd with
  | [d0, d1, d2, d3], _ =>
  match e, he with
  | [e0, e1, e2, e3], _ =>
  match f, hf with
  | [f0, f1, f2, f3], _ => exact ⟨rfl, rfl, rfl, rfl, rfl, rfl, rfl⟩
theorem okPtr_range {p : GPt} (h : okPtr p = true) : 0 ≤ p.Addr ∧ p.Addr < 65536 ∧ 0 ≤ p.Birth ∧ p.Birth < 4294967296 := by
  rcases (okPtr_iff p).1 h with rfl | h
  · decide
  · omega
theorem ptrOf_bytes (p : GPt) (h : okPtr p = true) (r : Str) : ptrOf (bytesP p ++ r) = p ∧ (bytesP p ++ r).drop 22 = r := by
  obtain ⟨h1, h2, h3, h4⟩ := okPtr_range h
  have hx : ∀ x : UInt32, val (be 4 (x.toNat : Int)) = x.toNat := fun x => by
    have := x.toNat_lt
    exact val_be_id (by omega) (by rw [p256_4]; omega)
  obtain ⟨a1, a2, a3, a4, a5, a6, a7⟩ := cut6 (be 2 p.Addr) (be 4 p.Birth) (be 4 (p.Sum.x0.toNat : Int)) (be 4 (p.Sum.x1.toNat : Int)) (be 4 (p.Sum.x2.toNat : Int)) (be 4 (p.Sum.x3.toNat : Int)) r (be_length _ _) (be_length _ _) (be_length _ _) (be_length _ _) (be_length _ _) (be_length _ _)
  refine ⟨?_, a7⟩
  unfold ptrOf bytesP put6
  rw [a1, a2, a3, a4, a5, a6, val_be_id h1 (by rw [p256_2]; omega), val_be_id h3 (by rw [p256_4]; omega), hx, hx, hx, hx, u32_ofInt, u32_ofInt, u32_ofInt, u32_ofInt]
/-! ## One byte is turned -/
end Go.Proofs

/-
  Texts of noughts.
-/
set_option maxRecDepth 20000
namespace Go.Proofs
open Go Go.Fhl
set_option linter.unusedVariables false
theorem getI_pos {α : Type} {xs : List α} {i : Int} (h0 : 0 ≤ i) (h : i.toNat < xs.length) : getI xs i = some xs[i.toNat] := by
  obtain ⟨k, rfl⟩ : ∃ k : Nat, i = k := ⟨i.toNat, by omega⟩
  exact getI_lt h
theorem setI_pos {α : Type} {xs : List α} {i : Int} {y : α} (h0 : 0 ≤ i) (h : i.toNat < xs.length) : setI xs i y = some (xs.set i.toNat y) := by
  obtain ⟨k, rfl⟩ : ∃ k : Nat, i = k := ⟨i.toNat, by omega⟩
  exact setI_nat h
def zeros (n : Nat) : Str := List.replicate n 0
theorem zeros_length (n : Nat) : (zeros n).length = n := List.length_replicate
theorem repeat_zero (n : Nat) : Lib.repeatL [0] n = zeros n := by
  induction n with
  | zero => rfl
  | succ n ih => rw [Lib.repeatL, ih]; rfl
theorem rep_eq {n : Nat} (h : n ≤ 1000000) : M_strings_Repeat [0] (n : Int) = some (zeros n) := by
  unfold M_strings_Repeat M_repeat
  rw [if_pos ⟨by omega, by omega, by simp; omega⟩, Int.toNat_natCast, repeat_zero]
theorem noughts_eq {n : Nat} (h : n ≤ 1000000) : M_ref1_noughts (n : Int) = some (zeros n) := by
  unfold M_ref1_noughts
  have : max (n : Int) 0 = (n : Int) := by omega
  rw [this, makeL_nat (by omega) (by omega)]
  rfl
end Go.Proofs

/-
  Where groups begin: what the program's package uber and the document's answer come to.
-/
set_option maxRecDepth 20000
namespace Go.Proofs
open Go Go.Fhl
set_option linter.unusedVariables false
set_option linter.unusedSimpArgs false

/-! ## A text with its sum behind it, filled -/
def sumBytes (x : A4 UInt32) : Str := puts (x.x0.toNat : Int) (x.x1.toNat : Int) (x.x2.toNat : Int) (x.x3.toNat : Int)
def seal' (s : Str) : Str := (s ++ sumBytes (sumOf s)) ++ zeros (240 - s.length)
theorem sumBytes_length (x : A4 UInt32) : (sumBytes x).length = 16 := puts_length ..
theorem seal_length {s : Str} (h : s.length ≤ 240) : (seal' s).length = 256 := by
  unfold seal' zeros; simp only [List.length_append, sumBytes_length, List.length_replicate]; omega
theorem sealed_l1 (t : Str) (x : A4 UInt32) : M_uber_sealed_l1 t x fuel 0 [] = (M_pack_Put ([52, 52, 52, 52] : Str) [(x.x0.toNat : Int), (x.x1.toNat : Int), (x.x2.toNat : Int), (x.x3.toNat : Int)]).bind fun x7 => (addS t x7).bind fun x8 => (M_strings_Repeat ([0] : Str) (w64 (256 - (x8.length : Int)))).bind fun x9 => (addS x8 x9).bind fun x10 => some x10 := by kernel_rfl
theorem sealed_eq (s : Str) (h : s.length ≤ 240) : M_uber_sealed s = some (seal' s) := by
  unfold M_uber_sealed
  have hl : (s ++ sumBytes (sumOf s)).length = s.length + 16 := by rw [List.length_append, sumBytes_length]
  have hw : w64 (256 - (((s ++ sumBytes (sumOf s)).length : Nat) : Int)) = ((240 - s.length : Nat) : Int) := by rw [hl, w64_id (by omega) (by omega)]; omega
  rw [sum1_eq s (by omega), bind_some', sealed_l1, pputs, bind_some']
  change (addS s (sumBytes (sumOf s))).bind _ = _
  rw [addS_eq (by rw [sumBytes_length]; omega), bind_some', hw, rep_eq (by omega), bind_some', addS_eq (by rw [hl]; unfold zeros; rw [List.length_replicate]; omega), bind_some']
  rfl
theorem rsealed_eq (s : Str) (h : s.length ≤ 240) : M_ref1_sealed s = some (seal' s) := by
  unfold M_ref1_sealed
  have hl : (s ++ sumBytes (sumOf s)).length = s.length + 16 := by rw [List.length_append, sumBytes_length]
  have hw : w64 (256 - (((s ++ sumBytes (sumOf s)).length : Nat) : Int)) = ((240 - s.length : Nat) : Int) := by rw [hl, w64_id (by omega) (by omega)]; omega
  rw [rsum1_eq s (by omega), bind_some', rputs, bind_some']
  change (addS s (sumBytes (sumOf s))).bind _ = _
  rw [addS_eq (by rw [sumBytes_length]; omega), bind_some', hw, noughts_eq (by omega), bind_some', addS_eq (by rw [hl]; unfold zeros; rw [List.length_replicate]; omega), bind_some']
  rfl
theorem be4_inj {x y : UInt32} (h : be 4 (x.toNat : Int) = be 4 (y.toNat : Int)) : x = y := by
  have hx := x.toNat_lt
  have hy := y.toNat_lt
  have := congrArg val h
  rw [val_be_id (by omega) (by rw [p256_4]; omega), val_be_id (by omega) (by rw [p256_4]; omega)] at this
  exact UInt32.toNat_inj.1 (by omega)
theorem sumBytes_inj {x y : A4 UInt32} (h : sumBytes x = sumBytes y) : x = y := by
  unfold sumBytes puts at h
  obtain ⟨h1, h⟩ := List.append_inj h (by rw [be_length, be_length])
  obtain ⟨h2, h⟩ := List.append_inj h (by rw [be_length, be_length])
  obtain ⟨h3, h4⟩ := List.append_inj h (by rw [be_length, be_length])
  obtain ⟨a, b, c, d⟩ := x
  obtain ⟨a', b', c', d'⟩ := y
  have e1 := be4_inj h1
  have e2 := be4_inj h2
  have e3 := be4_inj h3
  have e4 := be4_inj h4
  simp only at e1 e2 e3 e4
  rw [e1, e2, e3, e4]
theorem seal_take {s : Str} : (seal' s).take s.length = s := by
  unfold seal'; rw [List.append_assoc, List.take_left']; rfl
theorem seal_drop {s : Str} : (seal' s).drop s.length = sumBytes (sumOf s) ++ zeros (240 - s.length) := by
  unfold seal'; rw [List.append_assoc, List.drop_left']; rfl
/-- A sealed text of which one byte is another one is no sealed text. -/
theorem seal_set {s s' : Str} {k : Nat} {y : UInt8} (hs : s.length ≤ 240) (hl : s'.length = s.length) (hk : k < (seal' s).length) (h : (seal' s).set k y = seal' s') : y = (seal' s)[k] := by
  by_cases q : k < s.length
  · have e1 : s.set k y = s' := by
      have := congrArg (fun l => l.take s.length) h
      simp only [← hl] at this
      rw [seal_take, hl, List.take_set, seal_take] at this
      exact this
    have e2 : sumBytes (sumOf s) ++ zeros (240 - s.length) = sumBytes (sumOf s') ++ zeros (240 - s'.length) := by
      have := congrArg (fun l => l.drop s.length) h
      simp only [← hl] at this
      rw [seal_drop, hl, List.drop_set_of_lt q, seal_drop] at this
      rw [hl]; exact this
    have e3 := sumBytes_inj (List.append_inj e2 (by rw [sumBytes_length, sumBytes_length])).1
    rw [← e1] at e3
    have e4 := sum_set q e3.symm
    have e5 : (seal' s)[k] = s[k] := by
      have h1 : (seal' s)[k]? = s[k]? := by
        have : ((seal' s).take s.length)[k]? = (seal' s)[k]? := List.getElem?_take_of_lt q
        rw [← this, seal_take]
      rw [List.getElem?_eq_getElem hk, List.getElem?_eq_getElem q] at h1
      exact Option.some.inj h1
    rw [e5, e4]
  · have e1 : s = s' := by
      have := congrArg (fun l => l.take s.length) h
      simp only [← hl] at this
      rw [seal_take, hl, List.take_set, seal_take, List.set_eq_of_length_le (by omega)] at this
      exact this
    subst e1
    have : ((seal' s).set k y)[k]? = (seal' s)[k]? := by rw [h]
    rw [List.getElem?_set_self hk, List.getElem?_eq_getElem hk] at this
    exact Option.some.inj this

/-! ## Ubers -/
def zu : GUb := ⟨0, 0, 0, zp⟩
def okUber (u : GUb) : Bool := decide (1 ≤ u.Txg ∧ u.Txg ≤ 1073741824 ∧ 0 ≤ u.Guid ∧ u.Guid ≤ 1073741824 ∧ 0 ≤ u.Seat ∧ u.Seat < 6) && (okPtr u.Root && !decide (u.Root = zp))
theorem umay_eq (u : GUb) : M_uber_root_may ⟨u⟩ = some (okUber u) := by
  unfold M_uber_root_may
  rw [may_eq, gd_some, bind_some', zp_eq, beq_tt, and_ite]
  congr 1
  unfold okUber
  rw [Bool.eq_iff_iff]
  simp only [Bool.and_eq_true, decide_eq_true_eq, Bool.not_eq_true', decide_eq_false_iff_not, ge_iff_le, and_assoc]
theorem rumay_eq (u : GUb) : M_ref1_MayUber u = some (okUber u) := by
  unfold M_ref1_MayUber M_ref1_num
  simp only [gd_some, bind_some', rmay_eq, beq_tt, and_ite, ← Bool.and_assoc]
  congr 1
  unfold okUber
  rw [Bool.eq_iff_iff]
  simp only [Bool.and_eq_true, decide_eq_true_eq, Bool.not_eq_true', decide_eq_false_iff_not, ge_iff_le, and_assoc]
  have hz : okPtr u.Root = true → (u.Root.Addr > 0 ↔ ¬ u.Root = zp) := fun h => by
    rcases (okPtr_iff _).1 h with q | q
    · rw [q]; decide
    · constructor
      · intro _ e; rw [e] at q; exact absurd q.1 (by decide)
      · intro _; exact q.1
  constructor
  · rintro ⟨h1, h2, h3, h4, h5, h6, h7, h8, h9⟩; exact ⟨h1, h3, h4, h5, h6, h7, h8, (hz h8).1 h9⟩
  · rintro ⟨h1, h3, h4, h5, h6, h7, h8, h9⟩; exact ⟨h1, by omega, h3, h4, h5, h6, h7, h8, (hz h8).2 h9⟩
def headU (u : GUb) : Str := put4 171 u.Txg u.Guid u.Seat ++ bytesP u.Root
def bytesU (u : GUb) : Str := seal' (headU u)
theorem headU_length (u : GUb) : (headU u).length = 32 := by unfold headU; rw [List.length_append, put4_length, bytesP_length]
theorem bytesU_length (u : GUb) : (bytesU u).length = 256 := seal_length (by rw [headU_length]; omega)
theorem one_ptr (p : GPt) (h : okPtr p = true) : putPs [p] = bytesP p := by unfold putPs; simp [h]
theorem okUber_root {u : GUb} (h : okUber u = true) : okPtr u.Root = true := by
  unfold okUber at h; simp only [Bool.and_eq_true] at h; exact h.2.1
theorem ubytes_eq (u : GUb) : M_uber_root_bytes ⟨u⟩ = some (if okUber u = true then bytesU u else []) := by
  unfold M_uber_root_bytes
  rw [umay_eq, bind_some']
  dsimp only
  cases h : okUber u with
  | false => rfl
  | true =>
    have hb := bytesP_length u.Root
    have hp := put4_length 171 u.Txg u.Guid u.Seat
    rw [Bool.not_true, cond_false, pput4, bind_some', put_eq _ (by simp), one_ptr _ (okUber_root h), bind_some', addS_eq (by omega), bind_some', sealed_eq _ (by rw [List.length_append]; omega), bind_some', if_pos rfl]
    rfl
theorem uput_eq (u : GUb) : M_uber_Put u = some (if okUber u = true then bytesU u else []) := by
  unfold M_uber_Put; rw [ubytes_eq, bind_some']
theorem umay_eq' (u : GUb) : M_uber_May u = some (okUber u) := by
  unfold M_uber_May; rw [umay_eq, bind_some']
theorem ruput_eq (u : GUb) : M_ref1_PutUber u = some (if okUber u = true then bytesU u else []) := by
  unfold M_ref1_PutUber
  rw [rumay_eq, bind_some']
  cases h : okUber u with
  | false => rfl
  | true =>
    have hb := bytesP_length u.Root
    have hp := put4_length 171 u.Txg u.Guid u.Seat
    rw [Bool.not_true, cond_false, rput4, bind_some', rput_eq _ (by simp), one_ptr _ (okUber_root h), bind_some', addS_eq (by omega), bind_some', rsealed_eq _ (by rw [List.length_append]; omega), bind_some', if_pos rfl]
    rfl
def uberOf (s : Str) : GUb := ⟨val ((s.drop 1).take 4), val ((s.drop 5).take 4), val ((s.drop 9).take 1), ptrOf (s.drop 10)⟩
def takeU (s : Str) : Option GUb := if 32 ≤ s.length ∧ okPtr (ptrOf (s.drop 10)) = true ∧ okUber (uberOf s) = true ∧ bytesU (uberOf s) = s then some (uberOf s) else none
def uans (o : Option GUb) : GUb × Bool := match o with | none => (zu, false) | some u => (u, true)
theorem vals4 (s : Str) : vals [1, 4, 4, 1] s = [val (s.take 1), val ((s.drop 1).take 4), val ((s.drop 5).take 4), val ((s.drop 9).take 1)] := by
  simp [vals, List.drop_drop]
theorem takePs_one (s : Str) : tans (takePs 1 s) = if s.length < 22 then ([], [], false) else if okPtr (ptrOf s) = true then ([ptrOf s], s.drop 22, true) else ([], [], false) := by
  rw [takePs]
  split
  · rfl
  · split
    · rfl
    · rfl
theorem getI4 (a b c d : Int) : getI [a, b, c, d] 1 = some b ∧ getI [a, b, c, d] 2 = some c ∧ getI [a, b, c, d] 3 = some d := ⟨rfl, rfl, rfl⟩
theorem utake_eq (s : Str) : M_uber_Take s = some (uans (takeU s)) := by
  unfold M_uber_Take takeU
  rw [ptake4, bind_some']
  by_cases h1 : s.length < 10
  · rw [if_pos h1, if_neg (by omega)]; rfl
  · rw [if_neg h1]
    simp only [Bool.not_true, cond_false, vals4]
    have ht := takePs_one (s.drop 10)
    change tans (takePs (Int.toNat 1) (s.drop 10)) = _ at ht
    rw [take_eq _ _ (by decide), bind_some', ht]
    by_cases h2 : (s.drop 10).length < 22
    · rw [if_pos h2, if_neg (by simp at h2; omega)]; rfl
    · rw [if_neg h2]
      simp at h2
      obtain ⟨g1, g2, g3⟩ := getI4 (val (s.take 1)) (val ((s.drop 1).take 4)) (val ((s.drop 5).take 4)) (val ((s.drop 9).take 1))
      cases h3 : okPtr (ptrOf (s.drop 10)) with
      | false => rw [if_neg (by simp), if_neg (by simp)]; rfl
      | true =>
        rw [if_pos rfl]
        simp only [Bool.not_true, cond_false, g1, g2, g3, getI_zero, bind_some', umay_eq, ubytes_eq, gd_some, beq_ff, Bool.not_not]
        show (cond (!okUber (uberOf s) || ((if okUber (uberOf s) = true then (if okUber (uberOf s) = true then bytesU (uberOf s) else []) else default) != s)) _ _) = _
        cases h4 : okUber (uberOf s) with
        | false => rw [if_neg (c := 32 ≤ s.length ∧ _) (by simp)]; rfl
        | true =>
          simp only [if_true, Bool.not_true, Bool.false_or]
          by_cases h5 : bytesU (uberOf s) = s
          · rw [h5, bne_self_eq_false, cond_false, if_pos ⟨by omega, trivial, trivial, rfl⟩]; rfl
          · rw [(bne_iff_ne).2 h5, cond_true, if_neg (fun q => h5 q.2.2.2)]; rfl
theorem rutake_eq (s : Str) : M_ref1_TakeUber s = some (uans (takeU s)) := by
  unfold M_ref1_TakeUber takeU
  rw [rtake4, bind_some']
  by_cases h1 : s.length < 10
  · rw [if_pos h1, if_neg (by omega)]; rfl
  · rw [if_neg h1]
    simp only [Bool.not_true, cond_false, vals4]
    have ht := takePs_one (s.drop 10)
    change tans (takePs (Int.toNat 1) (s.drop 10)) = _ at ht
    rw [rtakePs_eq _ _ (by decide), bind_some', ht]
    by_cases h2 : (s.drop 10).length < 22
    · rw [if_pos h2, if_neg (by simp at h2; omega)]; rfl
    · rw [if_neg h2]
      simp at h2
      obtain ⟨g1, g2, g3⟩ := getI4 (val (s.take 1)) (val ((s.drop 1).take 4)) (val ((s.drop 5).take 4)) (val ((s.drop 9).take 1))
      cases h3 : okPtr (ptrOf (s.drop 10)) with
      | false => rw [if_neg (by simp), if_neg (by simp)]; rfl
      | true =>
        rw [if_pos rfl]
        simp only [Bool.not_true, cond_false, g1, g2, g3, getI_zero, bind_some', ruput_eq]
        show (cond ((if okUber (uberOf s) = true then bytesU (uberOf s) else []) != s) _ _) = _
        cases h4 : okUber (uberOf s) with
        | false =>
          have : (([] : Str) != s) = true := by rw [bne_iff_ne]; intro e; rw [← e] at h1; simp at h1
          rw [if_neg (by simp), this, cond_true, if_neg (by simp)]; rfl
        | true =>
          simp only [if_true]
          by_cases h5 : bytesU (uberOf s) = s
          · rw [h5, bne_self_eq_false, cond_false, if_pos ⟨by omega, trivial, trivial, rfl⟩]; rfl
          · rw [(bne_iff_ne).2 h5, cond_true, if_neg (fun q => h5 q.2.2.2)]; rfl
theorem cut4 (a b c d r : Str) (ha : a.length = 1) (hb : b.length = 4) (hc : c.length = 4) (hd : d.length = 1) :
    let s := (a ++ (b ++ (c ++ d))) ++ r
    (s.drop 1).take 4 = b ∧ (s.drop 5).take 4 = c ∧ (s.drop 9).take 1 = d ∧ s.drop 10 = r := by
  match a, ha with
  | [a0], _ =>
  match b, hb with
  | [b0, b1, b2, b3], _ =>
  match c, hc with
  | [c0, c1, c2, c3], _ =>
  match d, hd with
  | [d0], _ => exact ⟨rfl, rfl, rfl, rfl⟩
theorem p256_1 : (256 : Int) ^ 1 = 256 := by decide
theorem uberOf_bytes (u : GUb) (h : okUber u = true) (r : Str) : uberOf (headU u ++ r) = u := by
  have hr := okUber_root h
  unfold okUber at h
  simp only [Bool.and_eq_true, decide_eq_true_eq] at h
  obtain ⟨⟨h1, h2, h3, h4, h5, h6⟩, _⟩ := h
  obtain ⟨a1, a2, a3, a4⟩ := cut4 (be 1 171) (be 4 u.Txg) (be 4 u.Guid) (be 1 u.Seat) (bytesP u.Root ++ r) (be_length _ _) (be_length _ _) (be_length _ _) (be_length _ _)
  have e : headU u ++ r = (be 1 171 ++ (be 4 u.Txg ++ (be 4 u.Guid ++ be 1 u.Seat))) ++ (bytesP u.Root ++ r) := by
    unfold headU put4; rw [List.append_assoc]
  unfold uberOf
  rw [e, a1, a2, a3, a4, val_be_id (by omega) (by rw [p256_4]; omega), val_be_id (by omega) (by rw [p256_4]; omega), val_be_id h5 (by rw [p256_1]; omega), (ptrOf_bytes _ hr _).1]
theorem takeU_bytes (u : GUb) (h : okUber u = true) : takeU (bytesU u) = some u := by
  have e : bytesU u = headU u ++ (sumBytes (sumOf (headU u)) ++ zeros (240 - (headU u).length)) := by unfold bytesU seal'; rw [List.append_assoc]
  have e2 : uberOf (bytesU u) = u := by rw [e]; exact uberOf_bytes u h _
  have e3 : ptrOf ((bytesU u).drop 10) = u.Root := congrArg GUb.Root e2
  unfold takeU
  rw [e3, e2, if_pos ⟨by rw [bytesU_length]; omega, okUber_root h, h, rfl⟩]
theorem takeU_some {s : Str} {u : GUb} (h : takeU s = some u) : okUber u = true ∧ bytesU u = s := by
  unfold takeU at h
  split at h
  · rename_i q; cases h; exact ⟨q.2.2.1, q.2.2.2⟩
  · cases h

/-! ## Configs -/
def okCfg (g d : Int) : Bool := decide (0 ≤ g ∧ g ≤ 1073741824 ∧ 40 ≤ d ∧ d ≤ 240)
def bytesC (g d : Int) : Str := seal' (put3 172 g d)
theorem bytesC_length (g d : Int) : (bytesC g d).length = 256 := seal_length (by rw [put3_length]; omega)
def putC (g d : Int) : Str := if okCfg g d = true then bytesC g d else []
theorem cfg_eq (g d : Int) : M_uber_Config g d = some (putC g d) := by
  unfold M_uber_Config putC
  have hp := put3_length 172 g d
  cases h : okCfg g d with
  | true =>
    have h' := h
    unfold okCfg at h'
    simp only [decide_eq_true_eq] at h'
    rw [decide_eq_false (by omega), decide_eq_false (by omega), decide_eq_false (by omega), decide_eq_false (by omega)]
    simp only [Bool.or_self, cond_false, pput3, bind_some', sealed_eq _ (show (put3 172 g d).length ≤ 240 by omega), if_true]
    rfl
  | false =>
    have h' := h
    unfold okCfg at h'
    simp only [decide_eq_false_iff_not] at h'
    have : ((((decide (g < 0)) || (decide (g > 1073741824))) || (decide (d < 40))) || (decide (d > 240))) = true := by
      simp only [Bool.or_eq_true, decide_eq_true_eq]; omega
    rw [this, cond_true]; rfl
theorem rcfg_eq (g d : Int) : M_ref1_Config g d = some (putC g d) := by
  unfold M_ref1_Config putC M_ref1_num M_ref1_mayData
  have hp := put3_length 172 g d
  simp only [gd_some, bind_some', beq_ff, Bool.not_not]
  cases h : okCfg g d with
  | true =>
    have h' := h
    unfold okCfg at h'
    simp only [decide_eq_true_eq] at h'
    rw [decide_eq_true (by omega), decide_eq_true (by omega), decide_eq_true (by omega), decide_eq_true (by omega)]
    simp only [Bool.and_self, if_true, Bool.not_true, Bool.or_self, cond_false, rput3, bind_some', rsealed_eq _ (show (put3 172 g d).length ≤ 240 by omega)]
    rfl
  | false =>
    have h' := h
    unfold okCfg at h'
    simp only [decide_eq_false_iff_not] at h'
    have : (!(decide (g ≥ 0) && decide (g ≤ 1073741824)) || !(if (decide (g ≥ 0) && decide (g ≤ 1073741824)) = true then (decide (d ≥ 40) && decide (d ≤ 240)) else default)) = true := by
      by_cases a : g ≥ 0 ∧ g ≤ 1073741824
      · have : ¬ (d ≥ 40 ∧ d ≤ 240) := fun q => h' ⟨a.1, a.2, q.1, q.2⟩
        have e1 : (decide (g ≥ 0) && decide (g ≤ 1073741824)) = true := by simp [a]
        have e2 : (decide (d ≥ 40) && decide (d ≤ 240)) = false := by rw [← Bool.decide_and]; exact decide_eq_false this
        rw [e1, e2]; rfl
      · have e1 : (decide (g ≥ 0) && decide (g ≤ 1073741824)) = false := by rw [← Bool.decide_and]; exact decide_eq_false a
        rw [e1]; rfl
    rw [this, cond_true]; rfl
def takeC (s : Str) : Option (Int × Int) := if 7 ≤ s.length ∧ okCfg (val ((s.drop 1).take 4)) (val ((s.drop 5).take 2)) = true ∧ bytesC (val ((s.drop 1).take 4)) (val ((s.drop 5).take 2)) = s then some (val ((s.drop 1).take 4), val ((s.drop 5).take 2)) else none
def cans (o : Option (Int × Int)) : Int × Int × Bool := match o with | none => (0, 0, false) | some u => (u.1, u.2, true)
theorem vals3 (s : Str) : vals [1, 4, 2] s = [val (s.take 1), val ((s.drop 1).take 4), val ((s.drop 5).take 2)] := by
  simp [vals, List.drop_drop]
theorem getI3 (a b c : Int) : getI [a, b, c] 1 = some b ∧ getI [a, b, c] 2 = some c := ⟨rfl, rfl⟩
theorem putC_eq {g d : Int} {s : Str} (hs : 7 ≤ s.length) : (putC g d != s) = !decide (okCfg g d = true ∧ bytesC g d = s) := by
  unfold putC
  cases h : okCfg g d with
  | true => by_cases q : bytesC g d = s <;> simp [q]
  | false =>
    have : (([] : Str) != s) = true := by rw [bne_iff_ne]; intro e; rw [← e] at hs; simp at hs
    simp [this]
theorem ctake_eq (s : Str) : M_uber_TakeConfig s = some (cans (takeC s)) := by
  unfold M_uber_TakeConfig takeC
  rw [ptake3, bind_some']
  by_cases h1 : s.length < 7
  · rw [if_pos h1, if_neg (by omega)]; rfl
  · rw [if_neg h1]
    obtain ⟨g1, g2⟩ := getI3 (val (s.take 1)) (val ((s.drop 1).take 4)) (val ((s.drop 5).take 2))
    simp only [Bool.not_true, show ((false : Bool) == false) = true from rfl, gd_true, vals3, g1, g2, bind_some', cfg_eq, Bool.false_or, putC_eq (show 7 ≤ s.length by omega)]
    by_cases h2 : okCfg (val ((s.drop 1).take 4)) (val ((s.drop 5).take 2)) = true ∧ bytesC (val ((s.drop 1).take 4)) (val ((s.drop 5).take 2)) = s
    · rw [decide_eq_true h2, Bool.not_true, cond_false, if_pos ⟨by omega, h2⟩]; rfl
    · rw [decide_eq_false h2, Bool.not_false, cond_true, if_neg (fun q => h2 q.2)]; rfl
theorem rctake_eq (s : Str) : M_ref1_TakeConfig s = some (cans (takeC s)) := by
  unfold M_ref1_TakeConfig takeC
  rw [rtake3, bind_some']
  by_cases h1 : s.length < 7
  · rw [if_pos h1, if_neg (by omega)]; rfl
  · rw [if_neg h1]
    obtain ⟨g1, g2⟩ := getI3 (val (s.take 1)) (val ((s.drop 1).take 4)) (val ((s.drop 5).take 2))
    simp only [Bool.not_true, show ((false : Bool) == false) = true from rfl, gd_true, vals3, g1, g2, bind_some', rcfg_eq, Bool.false_or, putC_eq (show 7 ≤ s.length by omega)]
    by_cases h2 : okCfg (val ((s.drop 1).take 4)) (val ((s.drop 5).take 2)) = true ∧ bytesC (val ((s.drop 1).take 4)) (val ((s.drop 5).take 2)) = s
    · rw [decide_eq_true h2, Bool.not_true, cond_false, if_pos ⟨by omega, h2⟩]; rfl
    · rw [decide_eq_false h2, Bool.not_false, cond_true, if_neg (fun q => h2 q.2)]; rfl
theorem cut3 (a b c r : Str) (ha : a.length = 1) (hb : b.length = 4) (hc : c.length = 2) :
    let s := (a ++ (b ++ c)) ++ r
    (s.drop 1).take 4 = b ∧ (s.drop 5).take 2 = c := by
  match a, ha with
  | [a0], _ =>
  match b, hb with
  | [b0, b1, b2, b3], _ =>
  match c, hc with
  | [c0, c1], _ => exact ⟨rfl, rfl⟩
theorem takeC_some {s : Str} {x : Int × Int} (h : takeC s = some x) : okCfg x.1 x.2 = true ∧ bytesC x.1 x.2 = s := by
  unfold takeC at h
  split at h
  · rename_i q; cases h; exact ⟨q.2.1, q.2.2⟩
  · cases h
end Go.Proofs

/-
  Rows of ubers that fall: the same ones are the same row.
-/
set_option maxRecDepth 20000
namespace Go.Proofs
open Go Go.Fhl
set_option linter.unusedVariables false
set_option linter.unusedSimpArgs false
abbrev Ub := GUb
/-- Into its place, falling; of one number the first alone. -/
def fallS : List Ub → Ub → List Ub
  | [], u => [u]
  | a :: r, u => if a.Txg = u.Txg then a :: r else if a.Txg < u.Txg then u :: a :: r else a :: fallS r u
def addS' (l : List Ub) (u : Ub) : List Ub := if l.any (fun v => v.Txg == u.Txg) = true then l else l ++ [u]
abbrev Falls (l : List Ub) : Prop := l.Pairwise (fun a b => b.Txg < a.Txg)
abbrev Apart (l : List Ub) : Prop := l.Pairwise (fun a b => b.Txg ≠ a.Txg)
theorem fall_mem {u v : Ub} : ∀ {l : List Ub}, Falls l → (v ∈ fallS l u ↔ v ∈ l ∨ (v = u ∧ ∀ a ∈ l, a.Txg ≠ u.Txg)) := by
  intro l
  induction l with
  | nil => intro _; simp [fallS]
  | cons a r ih =>
    intro h
    have h' := List.pairwise_cons.1 h
    rw [fallS]
    split
    · rename_i q
      constructor
      · intro hv; exact .inl hv
      · rintro (hv | ⟨_, hv⟩)
        · exact hv
        · exact absurd q (hv a (List.mem_cons_self ..))
    · rename_i q
      split
      · rename_i q2
        constructor
        · intro hv
          rcases List.mem_cons.1 hv with rfl | hv
          · refine .inr ⟨rfl, fun b hb => ?_⟩
            rcases List.mem_cons.1 hb with rfl | hb
            · exact q
            · have := h'.1 b hb; omega
          · exact .inl hv
        · rintro (hv | ⟨rfl, _⟩)
          · exact List.mem_cons_of_mem _ hv
          · exact List.mem_cons_self ..
      · rw [List.mem_cons, ih h'.2, List.mem_cons]
        constructor
        · rintro (rfl | hv | ⟨rfl, hv⟩)
          · exact .inl (.inl rfl)
          · exact .inl (.inr hv)
          · refine .inr ⟨rfl, fun b hb => ?_⟩
            rcases List.mem_cons.1 hb with rfl | hb
            · exact q
            · exact hv b hb
        · rintro ((rfl | hv) | ⟨rfl, hv⟩)
          · exact .inl rfl
          · exact .inr (.inl hv)
          · exact .inr (.inr ⟨rfl, fun b hb => hv b (List.mem_cons_of_mem _ hb)⟩)
theorem fall_falls {u : Ub} : ∀ {l : List Ub}, Falls l → Falls (fallS l u) := by
  intro l
  induction l with
  | nil => intro _; exact List.pairwise_singleton _ _
  | cons a r ih =>
    intro h
    have h' := List.pairwise_cons.1 h
    rw [fallS]
    split
    · exact h
    · rename_i q
      split
      · rename_i q2
        refine List.pairwise_cons.2 ⟨fun b hb => ?_, h⟩
        rcases List.mem_cons.1 hb with rfl | hb
        · exact q2
        · have := h'.1 b hb; omega
      · rename_i q2
        refine List.pairwise_cons.2 ⟨fun b hb => ?_, ih h'.2⟩
        rcases (fall_mem h'.2).1 hb with hb | ⟨rfl, _⟩
        · exact h'.1 b hb
        · omega
theorem add_mem {u v : Ub} {l : List Ub} : v ∈ addS' l u ↔ v ∈ l ∨ (v = u ∧ ∀ a ∈ l, a.Txg ≠ u.Txg) := by
  unfold addS'
  split
  · rename_i q
    obtain ⟨a, ha, e⟩ := List.any_eq_true.1 q
    constructor
    · intro hv; exact .inl hv
    · rintro (hv | ⟨_, hv⟩)
      · exact hv
      · exact absurd (by simpa using e) (hv a ha)
  · rename_i q
    have q' : ∀ a ∈ l, a.Txg ≠ u.Txg := by
      intro a ha e
      exact q (List.any_eq_true.2 ⟨a, ha, by simp [e]⟩)
    rw [List.mem_append, List.mem_singleton]
    constructor
    · rintro (hv | hv)
      · exact .inl hv
      · exact .inr ⟨hv, q'⟩
    · rintro (hv | ⟨hv, _⟩)
      · exact .inl hv
      · exact .inr hv
theorem add_apart {u : Ub} {l : List Ub} (h : Apart l) : Apart (addS' l u) := by
  unfold addS'
  split
  · exact h
  · rename_i q
    refine List.pairwise_append.2 ⟨h, List.pairwise_singleton _ _, fun a ha b hb => ?_⟩
    rw [List.mem_singleton] at hb; subst hb
    intro e
    exact q (List.any_eq_true.2 ⟨a, ha, by simp [e]⟩)
theorem falls_ext : ∀ {a b : List Ub}, Falls a → Falls b → (∀ v, v ∈ a ↔ v ∈ b) → a = b := by
  intro a
  induction a with
  | nil =>
    intro b _ _ h
    cases b with
    | nil => rfl
    | cons y b => exact absurd ((h y).2 (List.mem_cons_self ..)) (by simp)
  | cons x a ih =>
    intro b ha hb h
    cases b with
    | nil => exact absurd ((h x).1 (List.mem_cons_self ..)) (by simp)
    | cons y b =>
      have ha' := List.pairwise_cons.1 ha
      have hb' := List.pairwise_cons.1 hb
      have e : x = y := by
        rcases List.mem_cons.1 ((h x).1 (List.mem_cons_self ..)) with q | q
        · exact q
        · rcases List.mem_cons.1 ((h y).2 (List.mem_cons_self ..)) with q2 | q2
          · exact q2.symm
          · have := hb'.1 x q; have := ha'.1 y q2; omega
      subst e
      rw [ih ha'.2 hb'.2 (fun v => ?_)]
      constructor
      · intro hv
        rcases List.mem_cons.1 ((h v).1 (List.mem_cons_of_mem _ hv)) with rfl | q
        · have := ha'.1 v hv; omega
        · exact q
      · intro hv
        rcases List.mem_cons.1 ((h v).2 (List.mem_cons_of_mem _ hv)) with rfl | q
        · have := hb'.1 v hv; omega
        · exact q
theorem fold_falls : ∀ (cs : List Ub) {a : List Ub}, Falls a → Falls (cs.foldl fallS a) := by
  intro cs
  induction cs with
  | nil => intro a h; exact h
  | cons c cs ih => intro a h; exact ih (fall_falls h)
theorem fold_apart : ∀ (cs : List Ub) {a : List Ub}, Apart a → Apart (cs.foldl addS' a) := by
  intro cs
  induction cs with
  | nil => intro a h; exact h
  | cons c cs ih => intro a h; exact ih (add_apart h)
theorem fold_same : ∀ (cs : List Ub) {a b : List Ub}, Falls a → (∀ v, v ∈ a ↔ v ∈ b) → ∀ v, v ∈ cs.foldl fallS a ↔ v ∈ cs.foldl addS' b := by
  intro cs
  induction cs with
  | nil => intro a b _ h; exact h
  | cons c cs ih =>
    intro a b ha h
    refine ih (fall_falls ha) (fun v => ?_)
    rw [fall_mem ha, add_mem, h v]
    have : (∀ x ∈ a, x.Txg ≠ c.Txg) ↔ (∀ x ∈ b, x.Txg ≠ c.Txg) := ⟨fun q x hx => q x ((h x).2 hx), fun q x hx => q x ((h x).1 hx)⟩
    rw [this]
/-- All that are told are some of those that were there. -/
theorem fold_sub : ∀ (cs : List Ub) {a : List Ub} {P : Ub → Prop}, (∀ v ∈ a, P v) → (∀ v ∈ cs, P v) → ∀ v ∈ cs.foldl addS' a, P v := by
  intro cs
  induction cs with
  | nil => intro a P h _; exact h
  | cons c cs ih =>
    intro a P h hc
    refine ih (fun v hv => ?_) (fun v hv => hc v (List.mem_cons_of_mem _ hv))
    rcases add_mem.1 hv with hv | ⟨rfl, _⟩
    · exact h v hv
    · exact hc _ (List.mem_cons_self ..)
theorem apart_len {l : List Ub} (h : Apart l) (hr : ∀ v ∈ l, 1 ≤ v.Txg ∧ v.Txg ≤ 12) : l.length ≤ 12 := by
  have h1 : (l.map (fun v => v.Txg)).Nodup := by
    rw [List.nodup_iff_pairwise_ne, List.pairwise_map]
    exact h.imp (fun q e => q e.symm)
  have key : ∀ {l1 : List Int} (_ : l1.Nodup) {l2 : List Int}, (∀ x ∈ l1, x ∈ l2) → l1.length ≤ l2.length := by
    intro l1 hn
    induction l1 with
    | nil => intro l2 _; exact Nat.zero_le _
    | cons x l1 ih =>
      intro l2 hs
      have hn' := List.nodup_cons.1 hn
      have hx := hs x (List.mem_cons_self ..)
      have := ih hn'.2 (l2 := l2.erase x) (fun y hy => (List.mem_erase_of_ne (fun e => hn'.1 (by rw [← e]; exact hy))).2 (hs y (List.mem_cons_of_mem _ hy)))
      rw [List.length_erase_of_mem hx] at this
      have : 0 < l2.length := List.length_pos_of_mem hx
      rw [List.length_cons]; omega
  have := key h1 (l2 := [1, 2, 3, 4, 5, 6, 7, 8, 9, 10, 11, 12]) (fun x hx => by
    obtain ⟨v, hv, rfl⟩ := List.mem_map.1 hx
    have := hr v hv
    simp; omega)
  rw [List.length_map] at this
  exact this
/-- A row of which each has another number, and the same ones, put to fall. -/
theorem sort_falls {l r : List Ub} (h : Apart l) (hp : r.Perm l) (hr : r.Pairwise (fun a b => b.Txg ≤ a.Txg)) : Falls r := by
  have hn : Apart r := (hp.pairwise_iff (fun {a b} q e => q e.symm)).2 h
  exact (hr.and hn).imp (fun ⟨a, b⟩ => by omega)
end Go.Proofs

/-
  Devices: what the document's functions on them, and the program's read, come to.
-/
set_option maxRecDepth 20000
namespace Go.Proofs
open Go Go.Fhl
set_option linter.unusedVariables false
set_option linter.unusedSimpArgs false
/-! ## New -/
theorem new_l1 (m : Nat) (hm : m ≤ 268) : ∀ (j : Nat), j ≤ m → M_ref1_New_l1 (m : Int) fuel (j : Int) (List.replicate j (zeros 256)) = some ⟨List.replicate m (zeros 256), [], 0, 0, false⟩ := by
  refine up_fuel (Q := fun n j => M_ref1_New_l1 (m : Int) n (j : Int) (List.replicate j (zeros 256)) = some ⟨List.replicate m (zeros 256), [], 0, 0, false⟩) m (by omega) ?_ ?_
  · intro n
    rw [M_ref1_New_l1, decide_eq_false (by omega), Bool.false_and, cond_false]
  · intro n j hj ih
    have hn := noughts_eq (n := 256) (by omega)
    have hn : M_ref1_noughts 256 = some (zeros 256) := hn
    rw [M_ref1_New_l1, decide_eq_true (by omega), decide_eq_true (by omega), Bool.and_self, cond_true, hn, bind_some', appL_eq (by simp; omega), bind_some', w64_succ (by omega)]
    rw [List.replicate_succ'] at ih
    exact ih
theorem new_eq {m : Nat} (hm : m ≤ 268) : M_ref1_New (m : Int) = some ⟨List.replicate m (zeros 256), [], 0, 0, false⟩ := new_l1 m hm 0 (Nat.zero_le _)

/-! ## Read -/
theorem find_last_cons (p : GPu) (l : List GPu) (i : Int) (s : Str) :
    (match (p :: l).reverse.find? (fun q => q.At == i) with | some q => q.B | none => s) = (match l.reverse.find? (fun q => q.At == i) with | some q => q.B | none => if p.At == i then p.B else s) := by
  rw [List.reverse_cons, List.find?_append]
  cases l.reverse.find? (fun q => q.At == i) with
  | some q => rfl
  | none =>
    by_cases h : p.At = i
    · simp [h]
    · simp [h]
theorem rread_l1 (d : GDv) (i : Int) (hw : d.Wait.length ≤ 1000000) : ∀ (j : Nat), j ≤ d.Wait.length → ∀ s : Str, M_ref1_Read_l1 d i fuel s (j : Int) = some ((match (d.Wait.drop j).reverse.find? (fun q => q.At == i) with | some q => q.B | none => s), true) := by
  refine up_fuel (Q := fun n j => ∀ s : Str, M_ref1_Read_l1 d i n s (j : Int) = some ((match (d.Wait.drop j).reverse.find? (fun q => q.At == i) with | some q => q.B | none => s), true)) d.Wait.length (by omega) ?_ ?_
  · intro n s
    rw [M_ref1_Read_l1, decide_eq_false (by omega), cond_false, List.drop_length]
    rfl
  · intro n j hj ih s
    rw [M_ref1_Read_l1, decide_eq_true (by omega), cond_true, getI_lt hj, bind_some', List.drop_eq_getElem_cons hj, find_last_cons]
    unfold M_ref1_Read_k1
    rw [w64_succ (by omega), bind_some', ih, ih]
    cases h : (d.Wait[j].At == i) <;> rfl
theorem rread_eq (d : GDv) (i : Int) (hw : d.Wait.length ≤ 1000000) : M_ref1_Read d i = some (devRead d i) := by
  unfold M_ref1_Read devRead
  by_cases h : d.Down = true ∨ ¬(0 ≤ i ∧ i < d.Last.length)
  · rw [if_pos h]
    have : (d.Down || decide (i < 0) || decide (i ≥ (d.Last.length : Int))) = true := by
      simp only [Bool.or_eq_true, decide_eq_true_eq]
      rcases h with h | h
      · exact .inl (.inl h)
      · by_cases a : i < 0
        · exact .inl (.inr a)
        · exact .inr (by omega)
    rw [this, cond_true]
  · rw [if_neg h]
    have hd : d.Down = false := by cases e : d.Down; rfl; exact absurd (.inl e) h
    have hi : 0 ≤ i ∧ i < d.Last.length := Decidable.of_not_not fun q => h (.inr q)
    obtain ⟨k, rfl⟩ : ∃ k : Nat, i = k := ⟨i.toNat, by omega⟩
    have hk : k < d.Last.length := by omega
    have := rread_l1 d k hw 0 (Nat.zero_le _) d.Last[k]
    rw [hd, decide_eq_false (by omega), decide_eq_false (by omega), Bool.or_self, Bool.or_self, cond_false, getI_lt hk, bind_some']
    change M_ref1_Read_l1 d k fuel d.Last[k] 0 = _ at this
    rw [this, List.drop_zero, Int.toNat_natCast, List.getElem?_eq_getElem hk]
    cases d.Wait.reverse.find? (fun q => q.At == (k : Int)) <;> rfl
theorem dread_eq (d : GDv) (i : Int) (hw : d.Wait.length ≤ 1000000) : M_dev_Read d i = some (devRead d i) := by
  unfold M_dev_Read; rw [if_pos (by omega)]
/-- All sectors are whole ones. -/
structure DevOk (d : GDv) : Prop where
  last : ∀ s ∈ d.Last, s.length = 256
  wait : ∀ p ∈ d.Wait, p.B.length = 256
  ll : d.Last.length ≤ 1000
  wl : d.Wait.length ≤ 100000
/-! ## Write -/
def okW (d : GDv) (p : GPu) : Bool := decide (0 ≤ p.At ∧ p.At < d.Last.length ∧ p.B.length = 256)
def waits (d : GDv) (p : GPu) : GDv := { d with Wait := d.Wait ++ [p] }
def wrU (d : GDv) : List GPu → GDv × Bool
  | [] => (d, true)
  | p :: l => if okW d p = true then wrU (waits d p) l else (d, false)
theorem rwrite_l1 (t1 : List GPu) (ht : t1.length ≤ 100000) : ∀ (j : Nat), j ≤ t1.length → ∀ d : GDv, d.Down = false → d.Arm = 0 → d.Wait.length ≤ 100000 + j → M_ref1_Write_l1 t1 fuel (j : Int) d = some (wrU d (t1.drop j)) := by
  refine up_fuel (Q := fun n j => ∀ d : GDv, d.Down = false → d.Arm = 0 → d.Wait.length ≤ 100000 + j → M_ref1_Write_l1 t1 n (j : Int) d = some (wrU d (t1.drop j))) t1.length (by omega) ?_ ?_
  · intro n d _ _ _
    rw [M_ref1_Write_l1, decide_eq_false (by omega), cond_false, List.drop_length]
    rfl
  · intro n j hj ih d h1 h2 h3
    rw [M_ref1_Write_l1, decide_eq_true (by omega), cond_true, List.drop_eq_getElem_cons hj, wrU]
    simp only [getI_lt hj, bind_some', gd_some]
    have ha : appL 24 ([] : List GPu) d.Wait = some d.Wait := appL_eq (by simp; omega)
    have hb : appL 24 d.Wait [t1[j]] = some (d.Wait ++ [t1[j]]) := appL_eq (by simp; omega)
    unfold okW
    by_cases q : 0 ≤ t1[j].At ∧ t1[j].At < d.Last.length ∧ t1[j].B.length = 256
    · rw [decide_eq_false (show ¬ t1[j].At < 0 by omega)]
      simp only [show ((false : Bool) == false) = true from rfl, if_true, Bool.false_or]
      have e1 : decide (t1[j].At ≥ (d.Last.length : Int)) = false := decide_eq_false (by omega)
      rw [e1]
      simp only [show ((false : Bool) == false) = true from rfl, if_true, Bool.false_or]
      have e2 : ((t1[j].B.length : Int) != 256) = false := by rw [q.2.2]; rfl
      rw [e2, cond_false, ha, bind_some', hb, bind_some', h2, decide_eq_false (by omega), cond_false]
      unfold M_ref1_Write_k2 M_ref1_Write_k1
      rw [h1, cond_false, w64_succ (by omega), ih _ (by simp) (by simp) (by simp; omega), if_pos (decide_eq_true q)]
      unfold waits
      rw [h1, h2]
    · have hq : decide (0 ≤ t1[j].At ∧ t1[j].At < (d.Last.length : Int) ∧ t1[j].B.length = 256) = false := decide_eq_false q
      simp only [hq, Bool.false_eq_true, if_false]
      by_cases a : t1[j].At < 0
      · simp [a]
      · by_cases b : t1[j].At ≥ (d.Last.length : Int)
        · simp [a, b]
        · have : ((t1[j].B.length : Int) != 256) = true := by rw [bne_iff_ne]; intro e; exact q ⟨by omega, by omega, by omega⟩
          simp only [decide_eq_false a, decide_eq_false b, show ((false : Bool) == false) = true from rfl, if_true, Bool.false_or, this, cond_true]
theorem rwrite_eq {d : GDv} {l : List GPu} (h1 : d.Down = false) (h2 : d.Arm = 0) (h3 : d.Wait.length ≤ 100000) (hl : l.length ≤ 100000) : M_ref1_Write d l = some (wrU d l) := by
  unfold M_ref1_Write
  rw [h1, cond_false]
  exact rwrite_l1 l hl 0 (Nat.zero_le _) d h1 h2 (by omega)
/-! ## Flush, Crash -/
def howN (how : List Int) (k : Nat) : Int := match how[k]? with | some h => andI h 3 | none => 0
def tornN (n : Int) (was b : Str) : Str := (if (andI n 1 == 1) = true then b.take 128 else was.take 128) ++ (if (andI n 2 == 2) = true then b.drop 128 else was.drop 128)
def last1 (n : Int) (out : List Str) (w : GPu) : List Str :=
  match out[w.At.toNat]? with
  | none => out
  | some was => if 0 ≤ w.At ∧ w.B.length = 256 ∧ was.length = 256 then out.set w.At.toNat (tornN n was w.B) else out
def lastG (how : List Int) : Nat → List Str → List GPu → List Str
  | _, out, [] => out
  | k, out, w :: l => lastG how (k + 1) (last1 (howN how k) out w) l
theorem slL_128 {x : Str} (h : x.length = 256) : slL x 0 128 = some (x.take 128) := slL_to (xs := x) (l := 128) (by omega)
theorem slL_128' {x : Str} (h : x.length = 256) : slL x 128 (x.length : Int) = some (x.drop 128) := slL_from (xs := x) (l := 128) (by omega)
theorem lasting_round (c : Int → List Str → Option (List Str)) (t0 : GDv) (t1 : List Int) (v2 : Int) (out : List Str) (w : GPu) (n : Int) (h0 : 0 ≤ w.At) (hk : w.At.toNat < out.length) (hB : w.B.length = 256) (hO : out[w.At.toNat].length = 256) (r : Option (List Str))
    (h : c (w64 (v2 + 1)) (last1 n out w) = r) : M_ref1_lasting_k2 c t0 t1 v2 out w n = r := by
  have hA : w.At = ((w.At.toNat : Nat) : Int) := by omega
  have hl1 : last1 n out w = out.set w.At.toNat (tornN n out[w.At.toNat] w.B) := by
    unfold last1; rw [List.getElem?_eq_getElem hk]; simp only; rw [if_pos ⟨h0, hB, hO⟩]
  rw [hl1] at h
  have a1 : ((w.B).take 128).length = 128 := by simp; omega
  have a2 : ((out[w.At.toNat]).drop 128).length = 128 := by simp; omega
  have a3 : ((out[w.At.toNat]).take 128).length = 128 := by simp; omega
  have a4 : ((w.B).drop 128).length = 128 := by simp; omega
  have gI : getI out w.At = some out[w.At.toNat] := getI_pos h0 hk
  have sI : ∀ y, setI out w.At y = some (out.set w.At.toNat y) := fun y => setI_pos h0 hk
  unfold tornN at h
  unfold M_ref1_lasting_k2
  cases e1 : (andI n 1 == 1) with
  | true =>
    rw [e1, if_pos rfl] at h
    have t5 : (List.take 128 w.B ++ List.drop 128 out[w.At.toNat]).length = 256 := by rw [List.length_append]; omega
    simp only [cond_true, slL_128 hB, bind_some', gI, slL_128' hO, addS_eq (s := (w.B).take 128) (u := (out[w.At.toNat]).drop 128) (by omega), sI]
    unfold M_ref1_lasting_k3 M_ref1_lasting_k1
    cases e2 : (andI n 2 == 2) with
    | true =>
      rw [e2, if_pos rfl] at h
      have g2 : getI (out.set w.At.toNat (List.take 128 w.B ++ List.drop 128 out[w.At.toNat])) w.At = some (List.take 128 w.B ++ List.drop 128 out[w.At.toNat]) := by
        rw [getI_pos h0 (by simp; omega)]; simp
      have s2 : ∀ y, setI (out.set w.At.toNat (List.take 128 w.B ++ List.drop 128 out[w.At.toNat])) w.At y = some (out.set w.At.toNat y) := fun y => by
        rw [setI_pos h0 (by simp; omega)]; simp
      have t6 : List.take 128 (List.take 128 w.B ++ List.drop 128 out[w.At.toNat]) = List.take 128 w.B := by
        rw [List.take_append_of_le_length (by omega), List.take_of_length_le (by omega)]
      simp only [cond_true, g2, bind_some', slL_128 t5, slL_128' hB, t6, addS_eq (s := (w.B).take 128) (u := (w.B).drop 128) (by omega), s2]
      exact h
    | false =>
      rw [e2, if_neg (by decide)] at h
      rw [cond_false]; exact h
  | false =>
    rw [e1, if_neg (by decide)] at h
    rw [cond_false]
    unfold M_ref1_lasting_k3 M_ref1_lasting_k1
    cases e2 : (andI n 2 == 2) with
    | true =>
      rw [e2, if_pos rfl] at h
      simp only [cond_true, gI, bind_some', slL_128 hO, slL_128' hB, addS_eq (s := (out[w.At.toNat]).take 128) (u := (w.B).drop 128) (by omega), sI]
      exact h
    | false =>
      rw [e2, if_neg (by decide), List.take_append_drop, List.set_getElem_self] at h
      rw [cond_false]; exact h
theorem lasting_l1 (d : GDv) (how : List Int) (hw : d.Wait.length ≤ 1000000) : ∀ (j : Nat), j ≤ d.Wait.length → ∀ out : List Str, M_ref1_lasting_l1 d how fuel (j : Int) out = some (lastG how j out (d.Wait.drop j)) := by
  refine up_fuel (Q := fun n j => ∀ out : List Str, M_ref1_lasting_l1 d how n (j : Int) out = some (lastG how j out (d.Wait.drop j))) d.Wait.length (by omega) ?_ ?_
  · intro n out
    rw [M_ref1_lasting_l1, decide_eq_false (by omega), cond_false, List.drop_length]
    rfl
  · intro n j hj ih out
    rw [M_ref1_lasting_l1, decide_eq_true (by omega), cond_true, getI_lt hj, bind_some', List.drop_eq_getElem_cons hj, lastG]
    have hnext := ih (last1 (howN how j) out d.Wait[j])
    have hk1 : ∀ o, M_ref1_lasting_k1 (M_ref1_lasting_l1 d how n) d how (j : Int) o = M_ref1_lasting_l1 d how n ((j + 1 : Nat) : Int) o := fun o => by
      unfold M_ref1_lasting_k1; rw [w64_succ (by omega)]
    by_cases q : 0 ≤ d.Wait[j].At ∧ d.Wait[j].At < out.length ∧ d.Wait[j].B.length = 256
    · have hk : d.Wait[j].At.toNat < out.length := by omega
      have gI : getI out d.Wait[j].At = some out[d.Wait[j].At.toNat] := getI_pos q.1 hk
      have e1 : decide (d.Wait[j].At < 0) = false := decide_eq_false (by omega)
      have e2 : decide (d.Wait[j].At ≥ (out.length : Int)) = false := decide_eq_false (by omega)
      have e3 : ((d.Wait[j].B.length : Int) != 256) = false := by rw [q.2.2]; rfl
      rw [e1, e2, e3, gI]
      simp only [Bool.or_self, show ((false : Bool) == false) = true from rfl, gd_true, bind_some', Bool.false_or]
      by_cases q2 : out[d.Wait[j].At.toNat].length = 256
      · have e4 : ((out[d.Wait[j].At.toNat].length : Int) != 256) = false := by rw [q2]; rfl
        rw [e4, cond_false]
        have hh : howN how j = match how[j]? with | some h => andI h 3 | none => 0 := rfl
        by_cases q3 : j < how.length
        · rw [decide_eq_true (by omega), cond_true, getI_lt q3, bind_some']
          rw [List.getElem?_eq_getElem q3] at hh
          refine lasting_round _ _ _ _ _ _ _ q.1 hk q.2.2 q2 _ ?_
          have hh' : howN how j = andI how[j] 3 := hh
          rw [← hh', w64_succ (by omega)]
          exact hnext
        · rw [decide_eq_false (by omega), cond_false]
          rw [List.getElem?_eq_none (by omega)] at hh
          refine lasting_round _ _ _ _ _ _ _ q.1 hk q.2.2 q2 _ ?_
          have hh' : howN how j = 0 := hh
          rw [← hh', w64_succ (by omega)]
          exact hnext
      · have e4 : ((out[d.Wait[j].At.toNat].length : Int) != 256) = true := by rw [bne_iff_ne]; omega
        rw [e4, cond_true, hk1]
        have : last1 (howN how j) out d.Wait[j] = out := by
          unfold last1; rw [List.getElem?_eq_getElem hk]; simp only; rw [if_neg (fun q4 => q2 q4.2.2)]
        rw [this] at hnext ⊢
        exact hnext
    · have e : ((decide (d.Wait[j].At < 0) || decide (d.Wait[j].At ≥ (out.length : Int))) || ((d.Wait[j].B.length : Int) != 256)) = true := by
        by_cases a : d.Wait[j].At < 0
        · rw [decide_eq_true a]; rfl
        · by_cases b : d.Wait[j].At ≥ (out.length : Int)
          · rw [decide_eq_true b, Bool.or_true]; rfl
          · have : ((d.Wait[j].B.length : Int) != 256) = true := by rw [bne_iff_ne]; intro e; exact q ⟨by omega, by omega, by omega⟩
            rw [this, Bool.or_true]
      rw [e]
      simp only [show ((true : Bool) == false) = false from rfl, gd_false, bind_some', Bool.true_or, cond_true]
      rw [hk1]
      have : last1 (howN how j) out d.Wait[j] = out := by
        unfold last1
        split
        · rfl
        · rename_i was hwas
          have := List.getElem?_eq_some_iff.1 hwas
          rw [if_neg]
          rintro ⟨q4, q5, _⟩
          obtain ⟨hlt, _⟩ := this
          exact q ⟨q4, by omega, q5⟩
      rw [this] at hnext ⊢
      exact hnext
theorem lasting_eq (d : GDv) (how : List Int) (hw : d.Wait.length ≤ 1000000) (hl : d.Last.length ≤ 1000000) : M_ref1_lasting d how = some (lastG how 0 d.Last d.Wait) := by
  unfold M_ref1_lasting
  rw [appL_eq (by simp; omega), bind_some', List.nil_append]
  exact lasting_l1 d how hw 0 (Nat.zero_le _) d.Last
/-- All that waits lasts. -/
def flushed : List Str → List GPu → List Str
  | out, [] => out
  | out, w :: l => flushed (match out[w.At.toNat]? with | none => out | some was => if 0 ≤ w.At ∧ w.B.length = 256 ∧ was.length = 256 then out.set w.At.toNat w.B else out) l
theorem torn3 (was b : Str) : tornN 3 was b = b := by
  unfold tornN
  have h1 : (andI 3 1 == 1) = true := by kernel_rfl
  have h2 : (andI 3 2 == 2) = true := by kernel_rfl
  rw [h1, h2, if_pos rfl, if_pos rfl, List.take_append_drop]
theorem lastG_3 (m : Nat) : ∀ (l : List GPu) (k : Nat) (out : List Str), k + l.length ≤ m → lastG (List.replicate m 3) k out l = flushed out l := by
  intro l
  induction l with
  | nil => intro k out _; rfl
  | cons w l ih =>
    intro k out h
    rw [List.length_cons] at h
    rw [lastG, flushed, ih _ _ (by omega)]
    congr 1
    have h3 : andI 3 3 = 3 := by kernel_rfl
    have hh : howN (List.replicate m 3) k = 3 := by
      unfold howN
      rw [List.getElem?_eq_getElem (by simp; omega), List.getElem_replicate]
      exact h3
    rw [hh]
    unfold last1
    split
    · rfl
    · rw [torn3]
theorem flush_l1 (d : GDv) (hw : d.Wait.length ≤ 1000000) (hl : d.Last.length ≤ 1000000) : ∀ (j : Nat), j ≤ d.Wait.length → M_ref1_Flush_l1 d fuel (j : Int) (List.replicate j 3 ++ List.replicate (d.Wait.length - j) 0) = some (⟨flushed d.Last d.Wait, [], d.Lies, d.Arm, d.Down⟩, true) := by
  refine up_fuel (Q := fun n j => M_ref1_Flush_l1 d n (j : Int) (List.replicate j 3 ++ List.replicate (d.Wait.length - j) 0) = some (⟨flushed d.Last d.Wait, [], d.Lies, d.Arm, d.Down⟩, true)) d.Wait.length (by omega) ?_ ?_
  · intro n
    have hl2 : (List.replicate d.Wait.length (3 : Int) ++ List.replicate (d.Wait.length - d.Wait.length) 0).length = d.Wait.length := by simp
    rw [M_ref1_Flush_l1, hl2, decide_eq_false (by omega), cond_false, Nat.sub_self, List.replicate_zero, List.append_nil, lasting_eq d _ hw hl, bind_some', lastG_3 _ _ _ _ (by omega)]
  · intro n j hj ih
    have hl2 : (List.replicate j (3 : Int) ++ List.replicate (d.Wait.length - j) 0).length = d.Wait.length := by simp; omega
    have hset : (List.replicate j (3 : Int) ++ List.replicate (d.Wait.length - j) 0).set j 3 = List.replicate (j + 1) 3 ++ List.replicate (d.Wait.length - (j + 1)) 0 := by
      obtain ⟨m, hm⟩ : ∃ m, d.Wait.length - j = m + 1 := ⟨d.Wait.length - j - 1, by omega⟩
      rw [hm, show d.Wait.length - (j + 1) = m by omega, List.replicate_succ, List.set_append_right _ _ (by simp)]
      simp [List.replicate_succ']
    rw [M_ref1_Flush_l1, hl2, decide_eq_true (by omega), cond_true, getI_lt (by omega), bind_some', setI_nat (by omega), bind_some', w64_succ (by omega), hset]
    exact ih
theorem rflush_eq {d : GDv} (h1 : d.Down = false) (h2 : d.Lies = 0) (hw : d.Wait.length ≤ 100000) (hl : d.Last.length ≤ 1000000) : M_ref1_Flush d = some (⟨flushed d.Last d.Wait, [], d.Lies, d.Arm, d.Down⟩, true) := by
  unfold M_ref1_Flush
  rw [h1, cond_false, h2, decide_eq_false (by omega), cond_false, makeL_nat (by omega) (by omega), bind_some']
  have := flush_l1 d (by omega) hl 0 (Nat.zero_le _)
  rw [List.replicate_zero, List.nil_append, h2, h1, Nat.sub_zero] at this
  exact this
end Go.Proofs

/-
  Labels: where they are, what is written there.
-/
set_option maxRecDepth 20000
namespace Go.Proofs
open Go Go.Fhl
set_option linter.unusedVariables false
set_option linter.unusedSimpArgs false
theorem lTT : ((true : Bool) == true) = true := rfl
theorem lFT : ((false : Bool) == true) = false := rfl
theorem lTF : ((true : Bool) == false) = false := rfl
theorem lFF : ((false : Bool) == false) = true := rfl
def atS (data k : Int) : Int := if (40 ≤ data ∧ data ≤ 240) ∧ 0 ≤ k ∧ k < 4 then k * 7 + (if 2 ≤ k then data else 0) else -1
theorem at_eq (data k : Int) : M_label_At data k = some (atS data k) := by
  unfold M_label_At M_label_may M_label_At_k1 atS
  rw [bind_some']
  by_cases h : (40 ≤ data ∧ data ≤ 240) ∧ 0 ≤ k ∧ k < 4
  · obtain ⟨⟨h1, h2⟩, h3, h4⟩ := h
    have e : (((!((decide (data ≥ 40)) && (decide (data ≤ 240)))) || (decide (k < 0))) || (decide (k ≥ 4))) = false := by
      simp only [Bool.or_eq_false_iff, Bool.not_eq_false', Bool.and_eq_true, decide_eq_true_eq, decide_eq_false_iff_not]
      omega
    have e1 : w64 (k * 7) = k * 7 := w64_id (by omega) (by omega)
    rw [e, cond_false, if_pos ⟨⟨h1, h2⟩, h3, h4⟩, e1]
    by_cases h5 : 2 ≤ k
    · rw [decide_eq_true h5, cond_true, if_pos h5, w64_id (by omega) (by omega)]
    · rw [decide_eq_false h5, cond_false, if_neg h5, Int.add_zero]
  · have e : (((!((decide (data ≥ 40)) && (decide (data ≤ 240)))) || (decide (k < 0))) || (decide (k ≥ 4))) = true := by
      simp only [Bool.or_eq_true, Bool.not_eq_true', Bool.and_eq_false_iff, decide_eq_true_eq, decide_eq_false_iff_not]
      omega
    rw [e, cond_true, if_neg h]
def slotS (data k seat : Int) : Int := if ((40 ≤ data ∧ data ≤ 240) ∧ 0 ≤ k ∧ k < 4) ∧ 0 ≤ seat ∧ seat < 6 then atS data k + 1 + seat else -1
theorem atS_in {data k : Int} (h : (40 ≤ data ∧ data ≤ 240) ∧ 0 ≤ k ∧ k < 4) : atS data k = k * 7 + (if 2 ≤ k then data else 0) := if_pos h
theorem slot_eq (data k seat : Int) : M_label_Slot data k seat = some (slotS data k seat) := by
  unfold M_label_Slot slotS
  rw [at_eq, bind_some']
  by_cases h : (40 ≤ data ∧ data ≤ 240) ∧ 0 ≤ k ∧ k < 4
  · have ha := atS_in h
    have hr : 0 ≤ atS data k ∧ atS data k ≤ 261 := by
      rw [ha]; split <;> omega
    by_cases h2 : 0 ≤ seat ∧ seat < 6
    · have e : (((decide (atS data k < 0)) || (decide (seat < 0))) || (decide (seat ≥ 6))) = false := by
        simp only [Bool.or_eq_false_iff, decide_eq_false_iff_not]
        omega
      have e1 : w64 (atS data k + 1) = atS data k + 1 := w64_id (by omega) (by omega)
      rw [e, cond_false, if_pos ⟨h, h2⟩, e1, w64_id (by omega) (by omega)]
    · have e : (((decide (atS data k < 0)) || (decide (seat < 0))) || (decide (seat ≥ 6))) = true := by
        simp only [Bool.or_eq_true, decide_eq_true_eq]
        omega
      rw [e, cond_true, if_neg (fun q => h2 q.2)]
  · have ha : atS data k = -1 := if_neg h
    rw [ha, if_neg (fun q => h q.1)]
    rfl
def phaseS (data : Int) (u : Ub) (half : Int) : List GPu := if ((40 ≤ data ∧ data ≤ 240) ∧ okUber u = true) ∧ 0 ≤ half ∧ half < 2 then [⟨slotS data half u.Seat, bytesU u⟩, ⟨slotS data (half + 2) u.Seat, bytesU u⟩] else []
theorem phase_eq (data : Int) (u : Ub) (half : Int) : M_label_Phase data u half = some (phaseS data u half) := by
  unfold M_label_Phase M_label_may phaseS
  rw [bind_some', umay_eq']
  by_cases h : ((40 ≤ data ∧ data ≤ 240) ∧ okUber u = true) ∧ 0 ≤ half ∧ half < 2
  · obtain ⟨⟨⟨h1, h2⟩, h3⟩, h4, h5⟩ := h
    have e0 : ((decide (data ≥ 40)) && (decide (data ≤ 240))) = true := by rw [decide_eq_true h1, decide_eq_true h2]; rfl
    have e : ((((!true) || (!true)) || (decide (half < 0))) || (decide (half ≥ 2))) = false := by
      rw [decide_eq_false (by omega), decide_eq_false (by omega)]; rfl
    rw [e0, h3]
    simp only [Bool.not_true, lFF, gd_true, bind_some', Bool.or_self, Bool.false_or] at e ⊢
    rw [e, cond_false, if_pos ⟨⟨⟨h1, h2⟩, trivial⟩, h4, h5⟩]
    show M_label_Phase_l1 data u (4611686018427387901 + 1 + 1 + 1) half [] = _
    rw [M_label_Phase_l1, decide_eq_true (by omega), cond_true, slot_eq, bind_some', uput_eq, h3, if_pos rfl, bind_some', appL_eq (by simp), bind_some', w64_id (by omega) (by omega)]
    rw [M_label_Phase_l1, decide_eq_true (by omega), cond_true, slot_eq, bind_some', uput_eq, h3, if_pos rfl, bind_some', appL_eq (by simp), bind_some', w64_id (by omega) (by omega)]
    rw [M_label_Phase_l1, decide_eq_false (by omega), cond_false]
    rfl
  · rw [if_neg h]
    have e : ∀ b : Bool, b = okUber u → ((((!((decide (data ≥ 40)) && (decide (data ≤ 240)))) || (!b)) || (decide (half < 0))) || (decide (half ≥ 2))) = true := by
      intro b hb
      subst hb
      simp only [Bool.or_eq_true, Bool.not_eq_true', Bool.and_eq_false_iff, decide_eq_true_eq, decide_eq_false_iff_not]
      by_cases q : okUber u = true
      · have : ¬ ((40 ≤ data ∧ data ≤ 240) ∧ 0 ≤ half ∧ half < 2) := fun r => h ⟨⟨r.1, q⟩, r.2⟩
        omega
      · exact .inl (.inl (.inr (by simpa using q)))
    cases q : (!((decide (data ≥ 40)) && (decide (data ≤ 240)))) with
    | false =>
      have := e _ rfl
      rw [q] at this
      simp only [lFF, gd_true, bind_some', this, cond_true]
    | true =>
      simp only [show ((true : Bool) == false) = false from rfl, gd_false, bind_some', Bool.true_or, cond_true]
end Go.Proofs

/-
  The laws of labels: what they all begin with.
-/
set_option maxRecDepth 20000
namespace Go.Proofs
open Go Go.Fhl
set_option linter.unusedVariables false
set_option linter.unusedSimpArgs false
theorem begun7 : M_law7_begun = some true := by kernel_rfl
theorem uof_eq (t : A4 UInt8) : ∃ u : Ub, M_law7_uberOf t = some u ∧ okUber u = true ∧ (1 ≤ u.Txg ∧ u.Txg ≤ 12) ∧ (u.Guid = 7 ∨ u.Guid = 8) ∧ 0 ≤ u.Seat ∧ u.Seat < 6 ∧ okPtr u.Root = true ∧ ¬ u.Root = zp := by
  have e1 : rem8 t.x0 12 = some (t.x0 % 12) := rfl
  have e2 : quo8 t.x1 200 = some (t.x1 / 200) := rfl
  have e3 : rem8 t.x1 6 = some (t.x1 % 6) := rfl
  have b1 : (t.x0 % 12).toNat < 12 := by
    rw [UInt8.toNat_mod]; exact Nat.mod_lt _ (by decide)
  have b2 : (t.x1 / 200).toNat ≤ 1 := by
    have := t.x1.toNat_lt
    rw [UInt8.toNat_div]; show t.x1.toNat / 200 ≤ 1; omega
  have b3 : (t.x1 % 6).toNat < 6 := by
    rw [UInt8.toNat_mod]; exact Nat.mod_lt _ (by decide)
  have b4 := t.x2.toNat_lt
  have b5 := t.x3.toNat_lt
  have w1 : w64 (1 + ((t.x0 % 12).toNat : Int)) = 1 + ((t.x0 % 12).toNat : Int) := w64_id (by omega) (by omega)
  have w2 : w64 (7 + ((t.x1 / 200).toNat : Int)) = 7 + ((t.x1 / 200).toNat : Int) := w64_id (by omega) (by omega)
  have w3 : w64 (1 + (t.x2.toNat : Int)) = 1 + (t.x2.toNat : Int) := w64_id (by omega) (by omega)
  unfold M_law7_uberOf
  rw [e1, bind_some', e2, bind_some', e3, bind_some', w1, w2, w3]
  have hp : okPtr ⟨1 + (t.x2.toNat : Int), (t.x3.toNat : Int), ⟨0, 0, 0, 0⟩⟩ = true := (okPtr_iff _).2 (.inr ⟨by show (0 : Int) < 1 + (t.x2.toNat : Int); omega, by show 1 + (t.x2.toNat : Int) ≤ 65535; omega, by show (0 : Int) ≤ (t.x3.toNat : Int); omega, by show (t.x3.toNat : Int) ≤ 1073741824; omega⟩)
  have hz : ¬ (⟨1 + (t.x2.toNat : Int), (t.x3.toNat : Int), ⟨0, 0, 0, 0⟩⟩ : GPt) = zp := by
    intro e
    have : 1 + (t.x2.toNat : Int) = 0 := congrArg GPt.Addr e
    omega
  refine ⟨_, rfl, ?_, ⟨?_, ?_⟩, ?_, ?_, ?_, hp, hz⟩
  · unfold okUber
    simp only [hp, decide_eq_false hz, Bool.not_false, Bool.and_true, decide_eq_true_eq]
    omega
  all_goals simp only
  all_goals omega
end Go.Proofs

/-
  Labels: what is found on a device.
-/
set_option maxRecDepth 20000
namespace Go.Proofs
open Go Go.Fhl
set_option linter.unusedVariables false
set_option linter.unusedSimpArgs false
/-! ## Which pool it is -/
def nD (d : GDv) : Int := (d.Last.length : Int) - 28
def cfgAt (d : GDv) (k : Int) : Option Int := match takeC (devRead d (atS (nD d) k)).1 with | some c => if (devRead d (atS (nD d) k)).2 = true ∧ c.2 = nD d then some c.1 else none | none => none
def foundS (d : GDv) : Option Int := ([0, 1, 2, 3] : List Int).findSome? (cfgAt d)
def fans (d : GDv) (o : Option Int) : Int × Int × Bool := match o with | some g => (g, nD d, true) | none => (0, 0, false)
theorem found_l1 {d : GDv} (hw : d.Wait.length ≤ 1000000) (hl : d.Last.length ≤ 1000000) (k : Int) (h : 0 ≤ k ∧ k < 4) (f : Nat) : M_label_Found_l1 d (f + 1) k = match cfgAt d k with | some g => some (g, nD d, true) | none => M_label_Found_l1 d f (k + 1) := by
  have e1 : w64 ((d.Last.length : Int) - 28) = nD d := w64_id (by omega) (by omega)
  rw [M_label_Found_l1, decide_eq_true (by omega), cond_true, e1, at_eq, bind_some', dread_eq d _ hw, bind_some', ctake_eq, bind_some', w64_id (by omega) (by omega)]
  unfold cfgAt
  cases hc : takeC (devRead d (atS (nD d) k)).1 with
  | none =>
    show cond (((devRead d (atS (nD d) k)).2 && false) && _) _ _ = _
    rw [Bool.and_false, Bool.false_and, cond_false]
  | some c =>
    show cond (((devRead d (atS (nD d) k)).2 && true) && (c.2 == nD d)) _ _ = _
    rw [Bool.and_true]
    by_cases q : (devRead d (atS (nD d) k)).2 = true ∧ c.2 = nD d
    · have t : ((devRead d (atS (nD d) k)).2 && (c.2 == nD d)) = true := by rw [q.1, q.2, beq_self_eq_true]; rfl
      rw [t, cond_true]
      simp only [if_pos q]
      show some (c.1, c.2, true) = some (c.1, nD d, true)
      rw [q.2]
    · have : ((devRead d (atS (nD d) k)).2 && (c.2 == nD d)) = false := by
        rw [Bool.and_eq_false_iff]
        by_cases a : (devRead d (atS (nD d) k)).2 = true
        · exact .inr (by rw [beq_eq_false_iff_ne]; exact fun e => q ⟨a, e⟩)
        · exact .inl (by simpa using a)
      rw [this, cond_false]
      simp only [if_neg q]
theorem found_eq {d : GDv} (hw : d.Wait.length ≤ 1000000) (hl : d.Last.length ≤ 1000000) : M_label_Found d = some (fans d (foundS d)) := by
  unfold M_label_Found foundS
  obtain ⟨f, hf⟩ : ∃ f, fuel = f + 1 + 1 + 1 + 1 + 1 := ⟨4611686018427387899, rfl⟩
  rw [hf, found_l1 hw hl 0 (by omega), found_l1 hw hl (0 + 1) (by omega), found_l1 hw hl (0 + 1 + 1) (by omega), found_l1 hw hl (0 + 1 + 1 + 1) (by omega), M_label_Found_l1, decide_eq_false (by omega), cond_false]
  simp only [List.findSome?, Int.zero_add, show (1 : Int) + 1 = 2 from rfl, show (2 : Int) + 1 = 3 from rfl]
  cases cfgAt d 0 with
  | some g => rfl
  | none =>
    cases cfgAt d 1 with
    | some g => rfl
    | none =>
      cases cfgAt d 2 with
      | some g => rfl
      | none =>
        cases cfgAt d 3 with
        | some g => rfl
        | none => rfl
/-! ## Which groups begin -/
def candAt (d : GDv) (n g k s : Int) : Option Ub := match takeU (devRead d (slotS n k s)).1 with | some u => if u.Guid = g ∧ u.Seat = s then some u else none | none => none
def addO (l : List Ub) (o : Option Ub) : List Ub := match o with | some u => addS' l u | none => l
def places : List (Int × Int) := ([0, 1, 2, 3] : List Int).flatMap fun k => ([0, 1, 2, 3, 4, 5] : List Int).map fun s => (k, s)
def candsS (d : GDv) (n g : Int) : List Ub := places.filterMap fun p => candAt d n g p.1 p.2
theorem addO_len (l : List Ub) (o : Option Ub) : (addO l o).length ≤ l.length + 1 := by
  unfold addO addS'
  cases o with
  | none => simp
  | some u => simp only; split <;> simp
theorem fold_addO {α : Type} (f : α → Option Ub) : ∀ (ps : List α) (l : List Ub), ps.foldl (fun a p => addO a (f p)) l = (ps.filterMap f).foldl addS' l := by
  intro ps
  induction ps with
  | nil => intro l; rfl
  | cons p ps ih =>
    intro l
    rw [List.foldl_cons, ih, List.filterMap_cons]
    cases f p with
    | none => rfl
    | some u => rfl
theorem index_l1 (l : List Ub) (u : Ub) (hl : l.length ≤ 1000000) : ∀ j : Nat, j ≤ l.length → ∃ r, M_slices_IndexFunc_api_Uber_api_Uber_c45_l1 l u fuel (j : Int) = some r ∧ decide (r ≥ 0) = (l.drop j).any (fun v => v.Txg == u.Txg) := by
  refine up_fuel (Q := fun f j => ∃ r, M_slices_IndexFunc_api_Uber_api_Uber_c45_l1 l u f (j : Int) = some r ∧ decide (r ≥ 0) = (l.drop j).any (fun v => v.Txg == u.Txg)) l.length (by omega) ?_ ?_
  · intro f
    refine ⟨-1, ?_, ?_⟩
    · rw [M_slices_IndexFunc_api_Uber_api_Uber_c45_l1, decide_eq_false (by omega), cond_false]
    · rw [List.drop_length]; rfl
  · intro f j hj ⟨r, e1, e2⟩
    have hr : M_label_Roots_1 l[j] u = some (l[j].Txg == u.Txg) := rfl
    rw [List.drop_eq_getElem_cons hj, List.any_cons]
    cases q : (l[j].Txg == u.Txg) with
    | true =>
      refine ⟨(j : Int), ?_, by rw [decide_eq_true (by omega)]; rfl⟩
      rw [M_slices_IndexFunc_api_Uber_api_Uber_c45_l1, decide_eq_true (by omega), cond_true, getI_lt hj, bind_some', hr, bind_some', q, cond_true]
    | false =>
      refine ⟨r, ?_, by rw [Bool.false_or]; exact e2⟩
      rw [M_slices_IndexFunc_api_Uber_api_Uber_c45_l1, decide_eq_true (by omega), cond_true, getI_lt hj, bind_some', hr, bind_some', q, cond_false, w64_succ (by omega)]
      exact e1
theorem contains_eq (l : List Ub) (u : Ub) (hl : l.length ≤ 1000000) : M_slices_ContainsFunc_api_Uber_api_Uber_c45 l u = some (l.any (fun v => v.Txg == u.Txg)) := by
  unfold M_slices_ContainsFunc_api_Uber_api_Uber_c45 M_slices_IndexFunc_api_Uber_api_Uber_c45
  obtain ⟨r, e1, e2⟩ := index_l1 l u hl 0 (Nat.zero_le _)
  have e1' : M_slices_IndexFunc_api_Uber_api_Uber_c45_l1 l u fuel 0 = some r := e1
  rw [e1', bind_some', e2, List.drop_zero]
theorem roots_l2 (c : Int → List Ub → Option (List Ub)) {d : GDv} (hw : d.Wait.length ≤ 1000000) (g n k : Int) (s : Int) (hs : 0 ≤ s ∧ s < 6) (f : Nat) (l : List Ub) (hl : l.length ≤ 1000) :
    M_label_Roots_l2 c d (g, n, true) k (f + 1) s l = M_label_Roots_l2 c d (g, n, true) k f (s + 1) (addO l (candAt d n g k s)) := by
  rw [M_label_Roots_l2, decide_eq_true (by omega), cond_true]
  simp only
  rw [slot_eq, bind_some', dread_eq d _ hw, bind_some', utake_eq, bind_some']
  unfold M_label_Roots_k1
  rw [w64_id (by omega) (by omega)]
  unfold candAt
  cases hc : takeU (devRead d (slotS n k s)).1 with
  | none =>
    simp only [uans, Bool.false_and, lFT, cond_false]
    rfl
  | some u =>
    simp only [uans, Bool.true_and]
    by_cases q : u.Guid = g ∧ u.Seat = s
    · rw [if_pos q, q.1, q.2, beq_self_eq_true, beq_self_eq_true, Bool.and_self, lTT, cond_true, contains_eq l u (by omega), bind_some']
      simp only [addO]
      unfold addS'
      cases l.any (fun v => v.Txg == u.Txg) with
      | true =>
        simp only [Bool.not_true, Bool.and_false, cond_false, if_true]
      | false =>
        rw [appL_eq (by simp; omega)]
        simp only [Bool.not_false, Bool.and_true, cond_true, bind_some', Bool.false_eq_true, if_false]
    · have : (u.Guid == g && u.Seat == s) = false := by
        rw [Bool.and_eq_false_iff, beq_eq_false_iff_ne, beq_eq_false_iff_ne]
        by_cases a : u.Guid = g
        · exact .inr fun e => q ⟨a, e⟩
        · exact .inl a
      rw [if_neg q, this, lFT, cond_false, cond_false]
      rfl
theorem roots_l2_all (c : Int → List Ub → Option (List Ub)) {d : GDv} (hw : d.Wait.length ≤ 1000000) (g n k : Int) (hk : 0 ≤ k ∧ k < 4) (l : List Ub) (hl : l.length ≤ 900) :
    M_label_Roots_l2 c d (g, n, true) k fuel 0 l = c (k + 1) (([0, 1, 2, 3, 4, 5] : List Int).foldl (fun a s => addO a (candAt d n g k s)) l) := by
  obtain ⟨f, hf⟩ : ∃ f, fuel = f + 1 + 1 + 1 + 1 + 1 + 1 + 1 := ⟨4611686018427387897, rfl⟩
  have st : ∀ (m : Nat) (l : List Ub) (s : Int), l.length ≤ m → (addO l (candAt d n g k s)).length ≤ m + 1 := fun m l s h => by have := addO_len l (candAt d n g k s); omega
  have h1 := st _ l 0 hl
  have h2 := st _ _ 1 h1
  have h3 := st _ _ 2 h2
  have h4 := st _ _ 3 h3
  have h5 := st _ _ 4 h4
  rw [hf, roots_l2 c hw g n k 0 (by omega) _ l (by omega), show (0 : Int) + 1 = 1 from rfl,
    roots_l2 c hw g n k 1 (by omega) _ _ (by omega), show (1 : Int) + 1 = 2 from rfl,
    roots_l2 c hw g n k 2 (by omega) _ _ (by omega), show (2 : Int) + 1 = 3 from rfl,
    roots_l2 c hw g n k 3 (by omega) _ _ (by omega), show (3 : Int) + 1 = 4 from rfl,
    roots_l2 c hw g n k 4 (by omega) _ _ (by omega), show (4 : Int) + 1 = 5 from rfl,
    roots_l2 c hw g n k 5 (by omega) _ _ (by omega), show (5 : Int) + 1 = 6 from rfl,
    M_label_Roots_l2, decide_eq_false (by omega), cond_false, w64_id (by omega) (by omega)]
  rfl
theorem fold_len {α : Type} (f : α → Option Ub) : ∀ (ps : List α) (l : List Ub), (ps.foldl (fun a p => addO a (f p)) l).length ≤ l.length + ps.length := by
  intro ps
  induction ps with
  | nil => intro l; simp
  | cons p ps ih =>
    intro l
    have := ih (addO l (f p))
    have := addO_len l (f p)
    rw [List.foldl_cons, List.length_cons]; omega
theorem roots_l1_all {d : GDv} (hw : d.Wait.length ≤ 1000000) (g n : Int) :
    M_label_Roots_l1 d (g, n, true) fuel 0 [] = (withLen ((candsS d n g).foldl addS' []) (M_slices_SortFunc_api_Uber_api_Uber_c48 ((candsS d n g).foldl addS' []))).bind fun x => some x.2 := by
  obtain ⟨f, hf⟩ : ∃ f, fuel = f + 1 + 1 + 1 + 1 + 1 := ⟨4611686018427387899, rfl⟩
  have hl : ∀ (k : Int) (l : List Ub), (([0, 1, 2, 3, 4, 5] : List Int).foldl (fun a s => addO a (candAt d n g k s)) l).length ≤ l.length + 6 := fun k l => fold_len _ _ l
  have l0 := hl 0 []
  have l1 := hl 1 (([0, 1, 2, 3, 4, 5] : List Int).foldl (fun a s => addO a (candAt d n g 0 s)) [])
  have l2 := hl 2 (([0, 1, 2, 3, 4, 5] : List Int).foldl (fun a s => addO a (candAt d n g 1 s)) (([0, 1, 2, 3, 4, 5] : List Int).foldl (fun a s => addO a (candAt d n g 0 s)) []))
  have h0 : ([] : List Ub).length = 0 := rfl
  rw [hf, M_label_Roots_l1, decide_eq_true (by omega), cond_true, roots_l2_all _ hw g n 0 (by omega) _ (by omega), show (0 : Int) + 1 = 1 from rfl,
    M_label_Roots_l1, decide_eq_true (by omega), cond_true, roots_l2_all _ hw g n 1 (by omega) _ (by omega), show (1 : Int) + 1 = 2 from rfl,
    M_label_Roots_l1, decide_eq_true (by omega), cond_true, roots_l2_all _ hw g n 2 (by omega) _ (by omega), show (2 : Int) + 1 = 3 from rfl,
    M_label_Roots_l1, decide_eq_true (by omega), cond_true, roots_l2_all _ hw g n 3 (by omega) _ (by omega), show (3 : Int) + 1 = 4 from rfl,
    M_label_Roots_l1, decide_eq_false (by omega), cond_false]
  have e : (candsS d n g).foldl addS' [] = ([0, 1, 2, 3, 4, 5] : List Int).foldl (fun a s => addO a (candAt d n g 3 s)) (([0, 1, 2, 3, 4, 5] : List Int).foldl (fun a s => addO a (candAt d n g 2 s)) (([0, 1, 2, 3, 4, 5] : List Int).foldl (fun a s => addO a (candAt d n g 1 s)) (([0, 1, 2, 3, 4, 5] : List Int).foldl (fun a s => addO a (candAt d n g 0 s)) []))) := by
    unfold candsS
    rw [← fold_addO]
    rfl
  rw [e]
end Go.Proofs

/-
  Labels: groups that were found, put to fall.
-/
set_option maxRecDepth 20000
namespace Go.Proofs
open Go Go.Fhl
set_option linter.unusedVariables false
set_option linter.unusedSimpArgs false
def gtU (a x : Ub) : Bool := decide (w64 (a.Txg - x.Txg) < 0)
def insU (x : Ub) : List Ub → List Ub
  | [] => [x]
  | a :: A => if gtU a x = true then a :: insU x A else x :: a :: A
def sortU (l : List Ub) : List Ub := l.foldl (fun r i => insU i r) []
theorem insU_perm (x : Ub) : ∀ A : List Ub, (insU x A).Perm (x :: A) := by
  intro A
  induction A with
  | nil => exact List.Perm.refl _
  | cons a A ih =>
    rw [insU]
    split
    · exact (ih.cons a).trans (List.Perm.swap x a A)
    · exact List.Perm.refl _
theorem insU_length (x : Ub) (A : List Ub) : (insU x A).length = A.length + 1 := by rw [(insU_perm x A).length_eq, List.length_cons]
theorem foldU_perm : ∀ (l A : List Ub), (l.foldl (fun r i => insU i r) A).Perm (l ++ A) := by
  intro l
  induction l with
  | nil => intro A; exact List.Perm.refl _
  | cons x l ih =>
    intro A
    refine (ih (insU x A)).trans ?_
    refine ((insU_perm x A).append_left l).trans ?_
    rw [List.cons_append]
    exact List.perm_middle
theorem sortU_perm (l : List Ub) : (sortU l).Perm l := by
  have := foldU_perm l []
  rw [List.append_nil] at this
  exact this
theorem sortU_length (l : List Ub) : (sortU l).length = l.length := (sortU_perm l).length_eq
abbrev Small (u : Ub) : Prop := 0 ≤ u.Txg ∧ u.Txg ≤ 1073741824
theorem gtU_eq {a x : Ub} (ha : Small a) (hx : Small x) : gtU a x = decide (a.Txg < x.Txg) := by
  unfold gtU
  rw [w64_id (by omega) (by omega)]
  congr 1
  exact propext ⟨fun h => by omega, fun h => by omega⟩
theorem insU_sorted {x : Ub} (hx : Small x) : ∀ {A : List Ub}, (∀ a ∈ A, Small a) → A.Pairwise (fun a b => a.Txg ≤ b.Txg) → (insU x A).Pairwise (fun a b => a.Txg ≤ b.Txg) := by
  intro A
  induction A with
  | nil => intro _ _; exact List.pairwise_singleton _ _
  | cons a A ih =>
    intro hs h
    have h' := List.pairwise_cons.1 h
    have ha := hs a (List.mem_cons_self ..)
    rw [insU, gtU_eq ha hx]
    by_cases q : a.Txg < x.Txg
    · rw [decide_eq_true q, if_pos rfl]
      refine List.pairwise_cons.2 ⟨fun b hb => ?_, ih (fun b hb => hs b (List.mem_cons_of_mem _ hb)) h'.2⟩
      rcases List.mem_cons.1 ((insU_perm x A).mem_iff.1 hb) with rfl | hb
      · omega
      · exact h'.1 b hb
    · rw [decide_eq_false q, if_neg (by decide)]
      refine List.pairwise_cons.2 ⟨fun b hb => ?_, h⟩
      rcases List.mem_cons.1 hb with rfl | hb
      · omega
      · have := h'.1 b hb; omega
theorem foldU_sorted : ∀ (l A : List Ub), (∀ a ∈ l, Small a) → (∀ a ∈ A, Small a) → A.Pairwise (fun a b => a.Txg ≤ b.Txg) → (l.foldl (fun r i => insU i r) A).Pairwise (fun a b => a.Txg ≤ b.Txg) := by
  intro l
  induction l with
  | nil => intro A _ _ h; exact h
  | cons x l ih =>
    intro A hl hA h
    have hx := hl x (List.mem_cons_self ..)
    refine ih (insU x A) (fun a ha => hl a (List.mem_cons_of_mem _ ha)) (fun a ha => ?_) (insU_sorted hx hA h)
    rcases List.mem_cons.1 ((insU_perm x A).mem_iff.1 ha) with rfl | ha
    · exact hx
    · exact hA a ha
theorem sortU_sorted {l : List Ub} (h : ∀ a ∈ l, Small a) : (sortU l).reverse.Pairwise (fun a b => b.Txg ≤ a.Txg) := by
  rw [List.pairwise_reverse]
  exact foldU_sorted l [] h (by simp) List.Pairwise.nil
theorem uisort_l2 (c : Int → List Ub → Option (Unit × List Ub)) (t2 v1 : Int) : ∀ (A B : List Ub) (x : Ub) (f : Nat), A.length < f → A.length + B.length ≤ 100000 →
    M_slices_insertionSortCmpFunc_api_Uber_c48_l2 c 0 t2 v1 f (A.length : Int) (A.reverse ++ x :: B) = c (w64 (v1 + 1)) ((insU x A).reverse ++ B) := by
  intro A
  induction A with
  | nil =>
    intro B x f hf hB
    obtain ⟨f, rfl⟩ : ∃ x, f = x + 1 := ⟨f - 1, by simp at hf; omega⟩
    rw [M_slices_insertionSortCmpFunc_api_Uber_c48_l2]
    rfl
  | cons a A ih =>
    intro B x f hf hB
    obtain ⟨f, rfl⟩ : ∃ x, f = x + 1 := ⟨f - 1, by simp at hf; omega⟩
    simp only [List.length_cons] at hf hB
    rw [M_slices_insertionSortCmpFunc_api_Uber_c48_l2]
    have hpos : decide (((a :: A).length : Int) > 0) = true := decide_eq_true (by simp)
    have e1 : w64 (((a :: A).length : Int) - 1) = (A.length : Int) := by rw [List.length_cons]; exact w64_pred (by omega)
    have hl : (a :: A).reverse ++ x :: B = A.reverse ++ a :: x :: B := by simp
    have g1 : getI (A.reverse ++ a :: x :: B) (A.length : Int) = some a := by rw [getI_nat]; simp
    have g2 : getI (A.reverse ++ a :: x :: B) ((a :: A).length : Int) = some x := by
      rw [getI_nat, List.getElem?_append_right (by simp)]; simp
    have s1 : setI (A.reverse ++ a :: x :: B) ((a :: A).length : Int) a = some (A.reverse ++ a :: a :: B) := by
      rw [setI_nat (by simp), List.set_append_right _ _ (by simp)]; simp
    have g3 : getI (A.reverse ++ a :: a :: B) (A.length : Int) = some a := by rw [getI_nat]; simp
    have s2 : setI (A.reverse ++ a :: a :: B) (A.length : Int) x = some (A.reverse ++ x :: a :: B) := by
      rw [setI_nat (by simp)]; simp
    have hc : M_label_Roots_2 x a = some (w64 (a.Txg - x.Txg)) := rfl
    have hd : decide (w64 (a.Txg - x.Txg) < 0) = gtU a x := rfl
    simp only [hpos, e1, hl, lTT, gd_true, g1, g2, bind_some', cond_true, hc, hd, Bool.true_and]
    cases hg : gtU a x with
    | false =>
      rw [cond_false, insU, hg]
      simp
    | true =>
      simp only [cond_true, s1, g3, s2, bind_some']
      have := ih (a :: B) x f (by omega) (by simp; omega)
      rw [this, insU, hg]
      simp
theorem uisort_l1 (N : Nat) (hN : N ≤ 10000) : ∀ (r R : List Ub) (f : Nat), R.length + r.length = N → r.length < f →
    M_slices_insertionSortCmpFunc_api_Uber_c48_l1 0 (N : Int) f (R.length : Int) (R.reverse ++ r) = some ((), (r.foldl (fun r i => insU i r) R).reverse) := by
  intro r
  induction r with
  | nil =>
    intro R f hl hf
    obtain ⟨f, rfl⟩ : ∃ x, f = x + 1 := ⟨f - 1, by simp at hf; omega⟩
    simp only [List.length_nil, Nat.add_zero] at hl
    rw [M_slices_insertionSortCmpFunc_api_Uber_c48_l1, decide_eq_false (by omega), cond_false, List.append_nil]
    rfl
  | cons x r ih =>
    intro R f hl hf
    obtain ⟨f, rfl⟩ : ∃ x, f = x + 1 := ⟨f - 1, by simp at hf; omega⟩
    simp only [List.length_cons] at hl hf
    rw [M_slices_insertionSortCmpFunc_api_Uber_c48_l1, decide_eq_true (by omega), cond_true,
      uisort_l2 _ _ _ R r x fuel (by unfold fuel; omega) (by omega), w64_succ (by omega), List.foldl_cons]
    have hl2 := insU_length x R
    have := ih (insU x R) f (by omega) (by omega)
    rw [hl2] at this
    exact this
theorem uisort_eq (l : List Ub) (hl : l.length ≤ 10000) : M_slices_insertionSortCmpFunc_api_Uber_c48 l 0 (l.length : Int) = some ((), (sortU l).reverse) := by
  unfold M_slices_insertionSortCmpFunc_api_Uber_c48
  cases l with
  | nil =>
    obtain ⟨f, hf⟩ : ∃ f, fuel = f + 1 := ⟨4611686018427387903, rfl⟩
    rw [hf, M_slices_insertionSortCmpFunc_api_Uber_c48_l1]
    rfl
  | cons x l =>
    have := uisort_l1 (l.length + 1) (by simpa using hl) l [x] fuel (by simp; omega) (by unfold fuel; simp at hl; omega)
    exact this
theorem uwithLen {α ρ : Type} {xs : List α} {p : ρ × List α} (h : p.2.length = xs.length) : withLen xs (some p) = some p := by
  unfold withLen
  show (if p.2.length = xs.length then some p else none) = some p
  rw [if_pos h]
theorem usort_eq (l : List Ub) (hl : l.length ≤ 12) : M_slices_SortFunc_api_Uber_api_Uber_c48 l = some ((), (sortU l).reverse) := by
  unfold M_slices_SortFunc_api_Uber_api_Uber_c48 M_math_bits_Len M_bitLen
  rw [bind_some']
  have e : M_slices_pdqsortCmpFunc_api_Uber_c48 l 0 ((l.length : Nat) : Int) (Lib.bitLen (UInt64.ofInt ((l.length : Nat) : Int)).toNat : Int) = some ((), (sortU l).reverse) := by
    unfold M_slices_pdqsortCmpFunc_api_Uber_c48
    obtain ⟨f, hf⟩ : ∃ f, fuel = f + 1 := ⟨4611686018427387903, rfl⟩
    rw [hf, M_slices_pdqsortCmpFunc_api_Uber_c48_l1]
    have : w64 ((l.length : Int) - 0) = (l.length : Int) := by rw [Int.sub_zero]; exact w64_nat (by omega)
    rw [this, decide_eq_true (by omega), cond_true, uisort_eq l (by omega), uwithLen (by simp [sortU_length]), bind_some']
  rw [e, uwithLen (by simp [sortU_length]), bind_some']
/-! ## Roots -/
theorem cand_okU {d : GDv} {n g : Int} {u : Ub} (h : u ∈ candsS d n g) : okUber u = true ∧ u.Guid = g := by
  unfold candsS at h
  obtain ⟨p, _, e⟩ := List.mem_filterMap.1 h
  unfold candAt at e
  cases hc : takeU (devRead d (slotS n p.1 p.2)).1 with
  | none => rw [hc] at e; cases e
  | some v =>
    rw [hc] at e
    by_cases q : v.Guid = g ∧ v.Seat = p.2
    · simp only [if_pos q, Option.some.injEq] at e
      subst e
      exact ⟨(takeU_some hc).1, q.1⟩
    · simp only [if_neg q] at e; cases e
theorem okU_small {u : Ub} (h : okUber u = true) : Small u := by
  unfold okUber at h
  rw [Bool.and_eq_true, decide_eq_true_eq] at h
  omega
theorem roots_spec {d : GDv} {g : Int} (hw : d.Wait.length ≤ 1000000) (hl : d.Last.length ≤ 1000000) (hf : foundS d = some g) (h12 : ((candsS d (nD d) g).foldl addS' []).length ≤ 12) :
    ∃ r, M_label_Roots d = some r ∧ Falls r ∧ ∀ v, v ∈ r ↔ v ∈ (candsS d (nD d) g).foldl addS' [] := by
  have hs : ∀ v ∈ (candsS d (nD d) g).foldl addS' [], Small v := fold_sub _ (by simp) (fun v hv => okU_small (cand_okU hv).1)
  refine ⟨(sortU ((candsS d (nD d) g).foldl addS' [])).reverse, ?_, ?_, ?_⟩
  · unfold M_label_Roots
    rw [found_eq hw hl, bind_some', hf]
    show cond (!true) (some []) (M_label_Roots_l1 d (g, nD d, true) fuel 0 []) = _
    rw [Bool.not_true, cond_false, roots_l1_all hw, usort_eq _ h12, uwithLen (by simp [sortU_length]), bind_some']
  · refine sort_falls (fold_apart (candsS d (nD d) g) List.Pairwise.nil) ?_ (sortU_sorted hs)
    exact (List.reverse_perm _).trans (sortU_perm _)
  · intro v
    rw [List.mem_reverse]
    exact (sortU_perm _).mem_iff
theorem roots_none {d : GDv} (hw : d.Wait.length ≤ 1000000) (hl : d.Last.length ≤ 1000000) (hf : foundS d = none) : M_label_Roots d = some [] := by
  unfold M_label_Roots
  rw [found_eq hw hl, bind_some', hf]
  rfl
end Go.Proofs

/-
  Labels: what is read where.
-/
set_option maxRecDepth 20000
namespace Go.Proofs
open Go Go.Fhl
set_option linter.unusedVariables false
set_option linter.unusedSimpArgs false
theorem read_none {d : GDv} {i : Int} {s : Str} (hd : d.Down = false) (h0 : 0 ≤ i) (hs : d.Last[i.toNat]? = some s) (hn : ∀ q ∈ d.Wait, q.At ≠ i) : devRead d i = (s, true) := by
  unfold devRead
  have hl := (List.getElem?_eq_some_iff.1 hs).1
  rw [if_neg (by rintro (q | q); · rw [hd] at q; cases q
                 · exact q ⟨h0, by omega⟩)]
  have : d.Wait.reverse.find? (fun p => p.At == i) = none := by
    rw [List.find?_eq_none]
    intro q hq e
    exact hn q (List.mem_reverse.1 hq) (by simpa using e)
  rw [this, hs]
  rfl
theorem takeU_zeros256 : takeU (zeros 256) = none := by kernel_rfl
def dev68 (w : List GPu) : GDv := ⟨List.replicate 68 (zeros 256), w, 0, 0, false⟩
def cfgP (k : Int) : GPu := ⟨atS 40 k, bytesC 7 40⟩
def ubP (k : Int) (u : Ub) : GPu := ⟨slotS 40 k u.Seat, bytesU u⟩
theorem k4 {k : Int} (h : k ∈ ([0, 1, 2, 3] : List Int)) : 0 ≤ k ∧ k < 4 := by
  simp only [List.mem_cons, List.not_mem_nil, or_false] at h
  omega
theorem places_mem {p : Int × Int} : p ∈ places ↔ (0 ≤ p.1 ∧ p.1 < 4) ∧ 0 ≤ p.2 ∧ p.2 < 6 := by
  unfold places
  rw [List.mem_flatMap]
  constructor
  · rintro ⟨k, hk, hp⟩
    obtain ⟨s, hs, rfl⟩ := List.mem_map.1 hp
    refine ⟨k4 hk, ?_⟩
    simp only [List.mem_cons, List.not_mem_nil, or_false] at hs
    show 0 ≤ s ∧ s < 6
    omega
  · rintro ⟨h1, h2⟩
    refine ⟨p.1, ?_, List.mem_map.2 ⟨p.2, ?_, rfl⟩⟩
    · simp only [List.mem_cons, List.not_mem_nil, or_false]; omega
    · simp only [List.mem_cons, List.not_mem_nil, or_false]; omega
theorem cands_mem {d : GDv} {n g : Int} {v : Ub} : v ∈ candsS d n g ↔ ∃ k s : Int, (0 ≤ k ∧ k < 4) ∧ (0 ≤ s ∧ s < 6) ∧ candAt d n g k s = some v := by
  unfold candsS
  rw [List.mem_filterMap]
  constructor
  · rintro ⟨p, hp, e⟩
    have := places_mem.1 hp
    exact ⟨p.1, p.2, this.1, this.2, e⟩
  · rintro ⟨k, s, h1, h2, e⟩
    exact ⟨(k, s), places_mem.2 ⟨h1, h2⟩, e⟩
end Go.Proofs

/-
  Labels: what lasts, and a byte that is turned.
-/
set_option maxRecDepth 20000
namespace Go.Proofs
open Go Go.Fhl
set_option linter.unusedVariables false
set_option linter.unusedSimpArgs false
/-! ## Sectors of which a byte is turned -/
theorem ltakeU_set {u : GUb} {k : Nat} {y : UInt8} (hk : k < (bytesU u).length) (hy : y ≠ (bytesU u)[k]) : takeU ((bytesU u).set k y) = none := by
  cases h : takeU ((bytesU u).set k y) with
  | none => rfl
  | some v =>
    obtain ⟨_, h2⟩ := takeU_some h
    exact absurd (seal_set (s := headU u) (s' := headU v) (by rw [headU_length]; omega) (by rw [headU_length, headU_length]) hk h2.symm) hy
theorem lbytesU_head (u : GUb) : (bytesU u)[0]? = some 171 := by
  unfold bytesU seal' headU put4
  rfl
theorem lbytesC_head (g d : Int) : (bytesC g d)[0]? = some 172 := by
  unfold bytesC seal' put3
  rfl
theorem ltakeU_zeros {k : Nat} {y : UInt8} : takeU ((zeros 256).set k y) = none := by
  cases h : takeU ((zeros 256).set k y) with
  | none => rfl
  | some v =>
    obtain ⟨h1, h2⟩ := takeU_some h
    have h3 := lbytesU_head v
    rw [h2, List.getElem?_set] at h3
    by_cases q : k = 0
    · subst q
      have hv : v = uberOf ((zeros 256).set 0 y) := by
        have h4 := h
        unfold takeU at h4
        split at h4
        · exact (Option.some.inj h4).symm
        · cases h4
      have ht : v.Txg = 0 := by
        rw [hv]
        have e : ∀ y : UInt8, (((zeros 256).set 0 y).drop 1).take 4 = zeros 4 := fun y => rfl
        show val ((((zeros 256).set 0 y).drop 1).take 4) = 0
        rw [e]
        rfl
      unfold okUber at h1
      rw [Bool.and_eq_true, decide_eq_true_eq] at h1
      omega
    · rw [if_neg q] at h3
      have : (zeros 256)[0]? = some 0 := rfl
      rw [this] at h3
      exact absurd h3 (by decide)
/-! ## What lasts -/
def contF (out : Str) (w : List GPu) (i : Int) : Str := w.foldl (fun s p => if p.At = i then p.B else s) out
def cont (w : List GPu) (i : Int) : Str := contF (zeros 256) w i
theorem flushed_get : ∀ (w : List GPu) (out : List Str), (∀ s ∈ out, s.length = 256) → (∀ p ∈ w, 0 ≤ p.At ∧ p.At < out.length ∧ p.B.length = 256) → (flushed out w).length = out.length ∧ ∀ i : Nat, (h : i < out.length) → (flushed out w)[i]? = some (contF out[i] w (i : Int)) := by
  intro w
  induction w with
  | nil => intro out _ _; exact ⟨rfl, fun i h => by simp [flushed, contF, h]⟩
  | cons p w ih =>
    intro out ho hw
    have hp := hw p (List.mem_cons_self ..)
    have hk : p.At.toNat < out.length := by omega
    have e : flushed out (p :: w) = flushed (out.set p.At.toNat p.B) w := by
      rw [flushed, List.getElem?_eq_getElem hk]
      simp only
      rw [if_pos ⟨hp.1, hp.2.2, ho _ (List.getElem_mem hk)⟩]
    obtain ⟨h1, h2⟩ := ih (out.set p.At.toNat p.B) (fun s hs => by
      rcases List.mem_or_eq_of_mem_set hs with a | rfl
      · exact ho s a
      · exact hp.2.2) (fun q hq => by rw [List.length_set]; exact hw q (List.mem_cons_of_mem _ hq))
    rw [e]
    refine ⟨by rw [h1, List.length_set], fun i hi => ?_⟩
    rw [h2 i (by rw [List.length_set]; exact hi)]
    congr 1
    unfold contF
    rw [List.foldl_cons, List.getElem_set]
    by_cases q : p.At.toNat = i
    · rw [if_pos q, if_pos (by omega)]
    · rw [if_neg q, if_neg (by omega)]
/-- A device of which nothing waits. -/
structure Holds (d : GDv) (C : Int → Str) : Prop where
  down : d.Down = false
  wait : d.Wait = []
  len : d.Last.length = 68
  get : ∀ i : Int, 0 ≤ i → i < 68 → d.Last[i.toNat]? = some (C i)
theorem set_same {α : Type} (l : List α) (k : Nat) (h : k < l.length) (y : α) (e : y = l[k]) : l.set k y = l := by
  subst e; exact List.set_getElem_self h
/-- A sector that is read, of which a byte may be turned: as it was, or none. -/
theorem turnU_u {u : Ub} {k : Nat} (hk : k < 256) (y : UInt8) : takeU ((bytesU u).set k y) = takeU (bytesU u) ∨ takeU ((bytesU u).set k y) = none := by
  have hl : k < (bytesU u).length := by rw [bytesU_length]; exact hk
  by_cases q : y = (bytesU u)[k]
  · exact .inl (by rw [set_same _ _ hl _ q])
  · exact .inr (ltakeU_set hl q)
end Go.Proofs

/-
  Labels: the document's functions on them.
-/
set_option maxRecDepth 20000
namespace Go.Proofs
open Go Go.Fhl
set_option linter.unusedVariables false
set_option linter.unusedSimpArgs false
theorem rat_eq (data k : Int) : M_ref1_At data k = some (atS data k) := by
  unfold M_ref1_At M_ref1_mayData atS
  rw [bind_some']
  by_cases h : (40 ≤ data ∧ data ≤ 240) ∧ 0 ≤ k ∧ k < 4
  · obtain ⟨⟨h1, h2⟩, h3, h4⟩ := h
    have e : (((!((decide (data ≥ 40)) && (decide (data ≤ 240)))) || (decide (k < 0))) || (decide (k > 3))) = false := by
      simp only [Bool.or_eq_false_iff, Bool.not_eq_false', Bool.and_eq_true, decide_eq_true_eq, decide_eq_false_iff_not]
      omega
    rw [e, cond_false, if_pos ⟨⟨h1, h2⟩, h3, h4⟩]
    by_cases h5 : 2 ≤ k
    · have e1 : w64 (14 + data) = 14 + data := w64_id (by omega) (by omega)
      have e2 : w64 (k - 2) = k - 2 := w64_id (by omega) (by omega)
      have e3 : w64 ((k - 2) * 7) = (k - 2) * 7 := w64_id (by omega) (by omega)
      rw [decide_eq_false (by omega), cond_false, if_pos h5, e1, e2, e3, w64_id (by omega) (by omega)]
      congr 1; omega
    · rw [decide_eq_true (by omega), cond_true, if_neg h5, Int.add_zero, w64_id (by omega) (by omega)]
  · have e : (((!((decide (data ≥ 40)) && (decide (data ≤ 240)))) || (decide (k < 0))) || (decide (k > 3))) = true := by
      simp only [Bool.or_eq_true, Bool.not_eq_true', Bool.and_eq_false_iff, decide_eq_true_eq, decide_eq_false_iff_not]
      omega
    rw [e, cond_true, if_neg h]
theorem rslot_eq (data k seat : Int) : M_ref1_Slot data k seat = some (slotS data k seat) := by
  unfold M_ref1_Slot slotS
  rw [rat_eq, bind_some']
  by_cases h : (40 ≤ data ∧ data ≤ 240) ∧ 0 ≤ k ∧ k < 4
  · have ha := atS_in h
    have hr : 0 ≤ atS data k ∧ atS data k ≤ 261 := by
      rw [ha]; split <;> omega
    by_cases h2 : 0 ≤ seat ∧ seat < 6
    · have e : (((decide (atS data k < 0)) || (decide (seat < 0))) || (decide (seat ≥ 6))) = false := by
        simp only [Bool.or_eq_false_iff, decide_eq_false_iff_not]
        omega
      have e1 : w64 (atS data k + 1) = atS data k + 1 := w64_id (by omega) (by omega)
      rw [e, cond_false, if_pos ⟨h, h2⟩, e1, w64_id (by omega) (by omega)]
    · have e : (((decide (atS data k < 0)) || (decide (seat < 0))) || (decide (seat ≥ 6))) = true := by
        simp only [Bool.or_eq_true, decide_eq_true_eq]
        omega
      rw [e, cond_true, if_neg (fun q => h2 q.2)]
  · have ha : atS data k = -1 := if_neg h
    rw [ha, if_neg (fun q => h q.1)]
    rfl
theorem rphase_eq (data : Int) (u : Ub) (half : Int) : M_ref1_Phase data u half = some (phaseS data u half) := by
  unfold M_ref1_Phase M_ref1_mayData phaseS
  rw [bind_some', rumay_eq]
  by_cases h : ((40 ≤ data ∧ data ≤ 240) ∧ okUber u = true) ∧ 0 ≤ half ∧ half < 2
  · obtain ⟨⟨⟨h1, h2⟩, h3⟩, h4, h5⟩ := h
    have e0 : ((decide (data ≥ 40)) && (decide (data ≤ 240))) = true := by rw [decide_eq_true h1, decide_eq_true h2]; rfl
    have e : ((((!true) || (!true)) || (decide (half < 0))) || (decide (half > 1))) = false := by
      rw [decide_eq_false (by omega), decide_eq_false (by omega)]; rfl
    rw [e0, h3]
    simp only [Bool.not_true, lFF, gd_true, bind_some', Bool.or_self, Bool.false_or] at e ⊢
    rw [e, cond_false, if_pos ⟨⟨⟨h1, h2⟩, trivial⟩, h4, h5⟩, rslot_eq, bind_some', ruput_eq, h3, if_pos rfl, bind_some', w64_id (by omega) (by omega), rslot_eq, bind_some', bind_some']
  · rw [if_neg h]
    have e : ∀ b : Bool, b = okUber u → ((((!((decide (data ≥ 40)) && (decide (data ≤ 240)))) || (!b)) || (decide (half < 0))) || (decide (half > 1))) = true := by
      intro b hb
      subst hb
      simp only [Bool.or_eq_true, Bool.not_eq_true', Bool.and_eq_false_iff, decide_eq_true_eq, decide_eq_false_iff_not]
      by_cases q : okUber u = true
      · have : ¬ ((40 ≤ data ∧ data ≤ 240) ∧ 0 ≤ half ∧ half < 2) := fun r => h ⟨⟨r.1, q⟩, r.2⟩
        omega
      · exact .inl (.inl (.inr (by simpa using q)))
    cases q : (!((decide (data ≥ 40)) && (decide (data ≤ 240)))) with
    | false =>
      have := e _ rfl
      rw [q] at this
      simp only [lFF, gd_true, bind_some', this, cond_true]
    | true =>
      simp only [show ((true : Bool) == false) = false from rfl, gd_false, bind_some', Bool.true_or, cond_true]
theorem sameP_self (l : List GPu) (hl : l.length ≤ 1000) : M_ref1_SamePuts l l = some true := by
  unfold M_ref1_SamePuts
  rw [bne_self_eq_false, cond_false]
  have : ∀ j : Nat, j ≤ l.length → M_ref1_SamePuts_l1 l l fuel (j : Int) = some true := by
    refine up_fuel (Q := fun f j => M_ref1_SamePuts_l1 l l f (j : Int) = some true) l.length (by omega) ?_ ?_
    · intro f; rw [M_ref1_SamePuts_l1, decide_eq_false (by omega), cond_false]
    · intro f j hj ih
      rw [M_ref1_SamePuts_l1, decide_eq_true (by omega), cond_true, getI_lt hj, bind_some', bind_some', decide_eq_true rfl, Bool.not_true, cond_false, w64_succ (by omega)]
      exact ih
  exact this 0 (Nat.zero_le _)
theorem sameU_self (l : List Ub) (hl : l.length ≤ 1000) : M_ref1_SameUbers l l = some true := by
  unfold M_ref1_SameUbers
  rw [bne_self_eq_false, cond_false]
  have : ∀ j : Nat, j ≤ l.length → M_ref1_SameUbers_l1 l l fuel (j : Int) = some true := by
    refine up_fuel (Q := fun f j => M_ref1_SameUbers_l1 l l f (j : Int) = some true) l.length (by omega) ?_ ?_
    · intro f; rw [M_ref1_SameUbers_l1, decide_eq_false (by omega), cond_false]
    · intro f j hj ih
      rw [M_ref1_SameUbers_l1, decide_eq_true (by omega), cond_true, getI_lt hj, bind_some', bind_some', decide_eq_true rfl, Bool.not_true, cond_false, w64_succ (by omega)]
      exact ih
  exact this 0 (Nat.zero_le _)
/-! ## Found -/
theorem takeC_nil : takeC [] = none := if_neg (fun q => absurd q.1 (by decide))
theorem takeU_nil : takeU [] = none := if_neg (fun q => absurd q.1 (by decide))
theorem devRead_two (d : GDv) (i : Int) : devRead d i = ([], false) ∨ (devRead d i).2 = true := by
  unfold devRead
  split
  · exact .inl rfl
  · right; split <;> rfl
theorem cfgAt_eq (d : GDv) (k : Int) : cfgAt d k = match takeC (devRead d (atS (nD d) k)).1 with | some c => if c.2 = nD d then some c.1 else none | none => none := by
  unfold cfgAt
  rcases devRead_two d (atS (nD d) k) with h | h
  · rw [h]
    simp only [takeC_nil]
  · rw [h]
    cases takeC (devRead d (atS (nD d) k)).1 with
    | none => rfl
    | some c => simp only [true_and]
theorem cfgAt_out {d : GDv} {k : Int} (h : (devRead d (atS (nD d) k)).1 = []) : cfgAt d k = none := by
  rw [cfgAt_eq, h, takeC_nil]
theorem found_range {d : GDv} {g : Int} (h : foundS d = some g) : 40 ≤ nD d ∧ nD d ≤ 240 := by
  unfold foundS at h
  obtain ⟨k, _, e⟩ := List.exists_of_findSome?_eq_some h
  rw [cfgAt_eq] at e
  cases hc : takeC (devRead d (atS (nD d) k)).1 with
  | none => rw [hc] at e; cases e
  | some c =>
    rw [hc] at e
    by_cases q : c.2 = nD d
    · have h2 := (takeC_some hc).1
      unfold okCfg at h2
      rw [decide_eq_true_eq] at h2
      omega
    · simp only [if_neg q] at e; cases e
theorem rfound_l1 {d : GDv} (hw : d.Wait.length ≤ 1000000) (hl : d.Last.length ≤ 1000000) (k : Int) (h : 0 ≤ k ∧ k < 4) (f : Nat) : M_ref1_Found_l1 d (f + 1) k = match cfgAt d k with | some g => some (g, nD d, true) | none => M_ref1_Found_l1 d f (k + 1) := by
  have e1 : w64 ((d.Last.length : Int) - 28) = nD d := w64_id (by omega) (by omega)
  rw [M_ref1_Found_l1, decide_eq_true (by omega), cond_true, e1, rat_eq, bind_some', rread_eq d _ hw, bind_some', rctake_eq, bind_some', w64_id (by omega) (by omega), cfgAt_eq]
  cases hc : takeC (devRead d (atS (nD d) k)).1 with
  | none =>
    show cond (false && _) _ _ = _
    rw [Bool.false_and, cond_false]
  | some c =>
    show cond (true && (c.2 == nD d)) _ _ = _
    rw [Bool.true_and]
    by_cases q : c.2 = nD d
    · rw [beq_iff_eq.2 q, cond_true]
      simp only [if_pos q]
      rfl
    · rw [beq_eq_false_iff_ne.2 q, cond_false]
      simp only [if_neg q]
theorem rfound_eq {d : GDv} (hw : d.Wait.length ≤ 1000000) (hl : d.Last.length ≤ 1000000) : M_ref1_Found d = some (fans d (foundS d)) := by
  unfold M_ref1_Found M_ref1_mayData
  have e1 : w64 ((d.Last.length : Int) - 28) = nD d := w64_id (by omega) (by omega)
  rw [e1]
  by_cases hd : d.Down = true
  · rw [hd]
    have hn : foundS d = none := by
      unfold foundS
      rw [List.findSome?_eq_none_iff]
      intro k _
      refine cfgAt_out ?_
      unfold devRead; rw [if_pos (.inl hd)]
    rw [hn]
    simp only [lTF, gd_false, bind_some', Bool.true_or, cond_true]
    rfl
  · have hd' : d.Down = false := by simpa using hd
    rw [hd']
    simp only [lFF, gd_true, bind_some', Bool.false_or]
    by_cases hm : 40 ≤ nD d ∧ nD d ≤ 240
    · rw [decide_eq_true hm.1, decide_eq_true hm.2]
      simp only [Bool.and_self, Bool.not_true, cond_false]
      obtain ⟨f, hf⟩ : ∃ f, fuel = f + 1 + 1 + 1 + 1 + 1 := ⟨4611686018427387899, rfl⟩
      unfold foundS
      rw [hf, rfound_l1 hw hl 0 (by omega), rfound_l1 hw hl (0 + 1) (by omega), rfound_l1 hw hl (0 + 1 + 1) (by omega), rfound_l1 hw hl (0 + 1 + 1 + 1) (by omega), M_ref1_Found_l1, decide_eq_false (by omega), cond_false]
      simp only [List.findSome?, Int.zero_add, show (1 : Int) + 1 = 2 from rfl, show (2 : Int) + 1 = 3 from rfl]
      cases cfgAt d 0 with
      | some g => rfl
      | none =>
        cases cfgAt d 1 with
        | some g => rfl
        | none =>
          cases cfgAt d 2 with
          | some g => rfl
          | none =>
            cases cfgAt d 3 with
            | some g => rfl
            | none => rfl
    · have hb : (!(decide (nD d ≥ 40) && decide (nD d ≤ 240))) = true := by
        rw [Bool.not_eq_true', Bool.and_eq_false_iff, decide_eq_false_iff_not, decide_eq_false_iff_not]; omega
      have hn : foundS d = none := by
        unfold foundS
        rw [List.findSome?_eq_none_iff]
        intro k _
        refine cfgAt_out ?_
        have : atS (nD d) k = -1 := if_neg (fun q => hm q.1)
        rw [this]
        unfold devRead; rw [if_pos (.inr (by omega))]
      rw [hb, cond_true, hn]
      rfl
/-! ## Roots -/
theorem rfall_l1 (l : List Ub) (u : Ub) (hl : l.length ≤ 1000) : ∀ j : Nat, j ≤ l.length → M_ref1_fall_l1 l u fuel (j : Int) = some (l.take j ++ fallS (l.drop j) u) := by
  refine up_fuel (Q := fun f j => M_ref1_fall_l1 l u f (j : Int) = some (l.take j ++ fallS (l.drop j) u)) l.length (by omega) ?_ ?_
  · intro f
    rw [M_ref1_fall_l1, decide_eq_false (by omega), cond_false, appL_eq (by simp; omega), bind_some', List.take_length, List.drop_length]
    rfl
  · intro f j hj ih
    rw [M_ref1_fall_l1, decide_eq_true (by omega), cond_true, getI_lt hj, bind_some', List.drop_eq_getElem_cons hj, fallS]
    by_cases q : l[j].Txg = u.Txg
    · rw [beq_iff_eq.2 q, cond_true, if_pos q, ← List.drop_eq_getElem_cons hj, List.take_append_drop]
    · rw [beq_eq_false_iff_ne.2 q, cond_false, bind_some', if_neg q]
      by_cases q2 : l[j].Txg < u.Txg
      · have s1 : slL l 0 (j : Int) = some (l.take j) := slL_to (by omega)
        have s2 : slL l (j : Int) (l.length : Int) = some (l.drop j) := slL_from (by omega)
        have lt : (l.take j).length = j := by rw [List.length_take]; omega
        have ld : (l.drop j).length = l.length - j := List.length_drop
        rw [decide_eq_true q2, cond_true, if_pos q2, s1, bind_some', appL_eq (by simp; omega), bind_some', appL_eq (by simp; omega), bind_some', s2, bind_some', appL_eq (by simp; omega), bind_some', List.nil_append, ← List.drop_eq_getElem_cons hj]
        unfold growR
        rw [if_pos (by simp only [List.length_append, lt, ld, List.length_singleton]; omega), List.append_assoc]
        rfl
      · rw [decide_eq_false q2, cond_false, if_neg q2, w64_succ (by omega)]
        refine ih.trans ?_
        rw [List.take_succ_eq_append_getElem hj, List.append_assoc]
        rfl
theorem rfall_eq (l : List Ub) (u : Ub) (hl : l.length ≤ 1000) : M_ref1_fall l u = some (fallS l u) := rfall_l1 l u hl 0 (Nat.zero_le _)
theorem fallS_len (u : Ub) : ∀ l : List Ub, (fallS l u).length ≤ l.length + 1 := by
  intro l
  induction l with
  | nil => simp [fallS]
  | cons a l ih =>
    rw [fallS]
    split
    · simp
    · split
      · simp
      · simp; omega
def fallO (l : List Ub) (o : Option Ub) : List Ub := match o with | some u => fallS l u | none => l
theorem fallO_len (l : List Ub) (o : Option Ub) : (fallO l o).length ≤ l.length + 1 := by
  unfold fallO
  cases o with
  | none => simp
  | some u => exact fallS_len u l
theorem fold_fallO {α : Type} (f : α → Option Ub) : ∀ (ps : List α) (l : List Ub), ps.foldl (fun a p => fallO a (f p)) l = (ps.filterMap f).foldl fallS l := by
  intro ps
  induction ps with
  | nil => intro l; rfl
  | cons p ps ih =>
    intro l
    rw [List.foldl_cons, ih, List.filterMap_cons]
    cases f p with
    | none => rfl
    | some u => rfl
theorem foldf_len {α : Type} (f : α → Option Ub) : ∀ (ps : List α) (l : List Ub), (ps.foldl (fun a p => fallO a (f p)) l).length ≤ l.length + ps.length := by
  intro ps
  induction ps with
  | nil => intro l; simp
  | cons p ps ih =>
    intro l
    have := ih (fallO l (f p))
    have := fallO_len l (f p)
    rw [List.foldl_cons, List.length_cons]; omega
theorem rroots_l2 (c : Int → List Ub → Option (List Ub)) {d : GDv} (hw : d.Wait.length ≤ 1000000) (g n k : Int) (hn : 40 ≤ n ∧ n ≤ 240) (hk : 0 ≤ k ∧ k < 4) (s : Int) (hs : 0 ≤ s ∧ s < 6) (f : Nat) (l : List Ub) (hl : l.length ≤ 1000) :
    M_ref1_Roots_l2 c d (g, n, true) k (f + 1) s l = M_ref1_Roots_l2 c d (g, n, true) k f (s + 1) (fallO l (candAt d n g k s)) := by
  have ha := atS_in (data := n) (k := k) ⟨hn, hk⟩
  have hr : 0 ≤ atS n k ∧ atS n k ≤ 261 := by rw [ha]; split <;> omega
  have e1 : w64 (atS n k + 1) = atS n k + 1 := w64_id (by omega) (by omega)
  have e2 : w64 (atS n k + 1 + s) = slotS n k s := by
    unfold slotS; rw [if_pos ⟨⟨hn, hk⟩, hs⟩, w64_id (by omega) (by omega)]
  rw [M_ref1_Roots_l2, decide_eq_true (by omega), cond_true]
  simp only
  rw [rat_eq, bind_some', e1, e2, rread_eq d _ hw, bind_some', rutake_eq, bind_some']
  unfold M_ref1_Roots_k1
  rw [w64_id (by omega) (by omega)]
  unfold candAt
  cases hc : takeU (devRead d (slotS n k s)).1 with
  | none =>
    simp only [uans, Bool.not_false, Bool.true_or, cond_true]
    rfl
  | some u =>
    simp only [uans, Bool.not_true, Bool.false_or]
    by_cases q : u.Guid = g ∧ u.Seat = s
    · rw [if_pos q, q.1, q.2, bne_self_eq_false, bne_self_eq_false, Bool.or_self, cond_false, rfall_eq l u hl, bind_some']
      rfl
    · have : (u.Guid != g || u.Seat != s) = true := by
        rw [Bool.or_eq_true, bne_iff_ne, bne_iff_ne]
        by_cases a : u.Guid = g
        · exact .inr fun e => q ⟨a, e⟩
        · exact .inl a
      rw [if_neg q, this, cond_true]
      rfl
theorem rroots_l2_all (c : Int → List Ub → Option (List Ub)) {d : GDv} (hw : d.Wait.length ≤ 1000000) (g n k : Int) (hn : 40 ≤ n ∧ n ≤ 240) (hk : 0 ≤ k ∧ k < 4) (l : List Ub) (hl : l.length ≤ 900) :
    M_ref1_Roots_l2 c d (g, n, true) k fuel 0 l = c (k + 1) (([0, 1, 2, 3, 4, 5] : List Int).foldl (fun a s => fallO a (candAt d n g k s)) l) := by
  obtain ⟨f, hf⟩ : ∃ f, fuel = f + 1 + 1 + 1 + 1 + 1 + 1 + 1 := ⟨4611686018427387897, rfl⟩
  have st : ∀ (m : Nat) (l : List Ub) (s : Int), l.length ≤ m → (fallO l (candAt d n g k s)).length ≤ m + 1 := fun m l s h => by have := fallO_len l (candAt d n g k s); omega
  have h1 := st _ l 0 hl
  have h2 := st _ _ 1 h1
  have h3 := st _ _ 2 h2
  have h4 := st _ _ 3 h3
  have h5 := st _ _ 4 h4
  rw [hf, rroots_l2 c hw g n k hn hk 0 (by omega) _ l (by omega), show (0 : Int) + 1 = 1 from rfl,
    rroots_l2 c hw g n k hn hk 1 (by omega) _ _ (by omega), show (1 : Int) + 1 = 2 from rfl,
    rroots_l2 c hw g n k hn hk 2 (by omega) _ _ (by omega), show (2 : Int) + 1 = 3 from rfl,
    rroots_l2 c hw g n k hn hk 3 (by omega) _ _ (by omega), show (3 : Int) + 1 = 4 from rfl,
    rroots_l2 c hw g n k hn hk 4 (by omega) _ _ (by omega), show (4 : Int) + 1 = 5 from rfl,
    rroots_l2 c hw g n k hn hk 5 (by omega) _ _ (by omega), show (5 : Int) + 1 = 6 from rfl,
    M_ref1_Roots_l2, decide_eq_false (by omega), cond_false, w64_id (by omega) (by omega)]
  rfl
theorem rroots_eq {d : GDv} (hw : d.Wait.length ≤ 1000000) (hl : d.Last.length ≤ 1000000) : M_ref1_Roots d = some (match foundS d with | some g => (candsS d (nD d) g).foldl fallS [] | none => []) := by
  unfold M_ref1_Roots
  rw [rfound_eq hw hl, bind_some']
  obtain ⟨f, hf⟩ : ∃ f, fuel = f + 1 + 1 + 1 + 1 + 1 := ⟨4611686018427387899, rfl⟩
  cases hfd : foundS d with
  | none =>
    show M_ref1_Roots_l1 d (0, 0, false) fuel 0 [] = _
    rw [hf, M_ref1_Roots_l1, Bool.and_false, cond_false]
  | some g =>
    show M_ref1_Roots_l1 d (g, nD d, true) fuel 0 [] = _
    have hn := found_range hfd
    generalize nD d = n at hn ⊢
    have hl : ∀ (k : Int) (l : List Ub), (([0, 1, 2, 3, 4, 5] : List Int).foldl (fun a s => fallO a (candAt d n g k s)) l).length ≤ l.length + 6 := fun k l => foldf_len _ _ l
    have l0 := hl 0 []
    have l1 := hl 1 (([0, 1, 2, 3, 4, 5] : List Int).foldl (fun a s => fallO a (candAt d n g 0 s)) [])
    have l2 := hl 2 (([0, 1, 2, 3, 4, 5] : List Int).foldl (fun a s => fallO a (candAt d n g 1 s)) (([0, 1, 2, 3, 4, 5] : List Int).foldl (fun a s => fallO a (candAt d n g 0 s)) []))
    have h0 : ([] : List Ub).length = 0 := rfl
    rw [hf, M_ref1_Roots_l1, decide_eq_true (by omega), Bool.and_self, cond_true, rroots_l2_all _ hw g n 0 hn (by omega) _ (by omega), show (0 : Int) + 1 = 1 from rfl,
      M_ref1_Roots_l1, decide_eq_true (by omega), Bool.and_self, cond_true, rroots_l2_all _ hw g n 1 hn (by omega) _ (by omega), show (1 : Int) + 1 = 2 from rfl,
      M_ref1_Roots_l1, decide_eq_true (by omega), Bool.and_self, cond_true, rroots_l2_all _ hw g n 2 hn (by omega) _ (by omega), show (2 : Int) + 1 = 3 from rfl,
      M_ref1_Roots_l1, decide_eq_true (by omega), Bool.and_self, cond_true, rroots_l2_all _ hw g n 3 hn (by omega) _ (by omega), show (3 : Int) + 1 = 4 from rfl,
      M_ref1_Roots_l1, decide_eq_false (by omega), Bool.false_and, cond_false]
    unfold candsS
    simp only
    rw [← fold_fallO]
    rfl
/-- A device on which both find the same. -/
def Alike (d : GDv) : Prop := ∃ a r, M_label_Found d = some a ∧ M_ref1_Found d = some a ∧ M_label_Roots d = some r ∧ M_ref1_Roots d = some r ∧ M_ref1_SameUbers r r = some true
theorem alike_of {d : GDv} (hw : d.Wait.length ≤ 1000000) (hl : d.Last.length ≤ 1000000) (ht : ∀ (i : Int) (u : Ub), takeU (devRead d i).1 = some u → 1 ≤ u.Txg ∧ u.Txg ≤ 12) : Alike d := by
  cases hf : foundS d with
  | none =>
    refine ⟨_, [], found_eq hw hl, rfound_eq hw hl, roots_none hw hl hf, ?_, sameU_self [] (by simp)⟩
    rw [rroots_eq hw hl, hf]
  | some g =>
    have hx : ∀ v ∈ candsS d (nD d) g, 1 ≤ v.Txg ∧ v.Txg ≤ 12 := by
      intro v hv
      obtain ⟨k, s, _, _, e⟩ := cands_mem.1 hv
      unfold candAt at e
      cases hc : takeU (devRead d (slotS (nD d) k s)).1 with
      | none => rw [hc] at e; cases e
      | some u =>
        rw [hc] at e
        by_cases q : u.Guid = g ∧ u.Seat = s
        · simp only [if_pos q, Option.some.injEq] at e
          subst e
          exact ht _ _ hc
        · simp only [if_neg q] at e; cases e
    have h12 : ((candsS d (nD d) g).foldl addS' []).length ≤ 12 := apart_len (fold_apart _ List.Pairwise.nil) (fun v hv => fold_sub _ (by simp) hx v hv)
    obtain ⟨r, e1, e2, e3⟩ := roots_spec hw hl hf h12
    have er : r = (candsS d (nD d) g).foldl fallS [] := by
      refine falls_ext e2 (fold_falls _ List.Pairwise.nil) (fun v => ?_)
      rw [e3]
      exact (fold_same _ List.Pairwise.nil (fun v => Iff.rfl) v).symm
    have hlen : r.length ≤ 1000 := by
      rw [er]
      unfold candsS
      rw [← fold_fallO]
      have := foldf_len (fun p : Int × Int => candAt d (nD d) g p.1 p.2) places []
      have hp : places.length = 24 := rfl
      simp only [List.length_nil] at this
      omega
    refine ⟨_, r, found_eq hw hl, rfound_eq hw hl, e1, ?_, sameU_self r hlen⟩
    rw [rroots_eq hw hl, hf, er]
end Go.Proofs
