/-
  Facts on the models of the functions, and the laws on them, in one text.
-/
import Derived.Test.YtmhfodjiefednaaFHd1
import Derived.Test.YtmhfodjiefednaaR72
import Derived.Test.YtmhfodjiefednaaR76
import Derived.Test.YtmhfodjiefednaaR77
import Derived.Test.YtmhfodjiefednaaR7B
import Derived.Test.YtmhfodjiefednaaR7X
import Derived.KernelRfl
import Derived.Test.YtmhfodjiefednaaR71
import Derived.Test.YtmhfodjiefednaaR715
import Derived.Test.YtmhfodjiefednaaR74
import Derived.Test.YtmhfodjiefednaaR70
import Derived.Test.YtmhfodjiefednaaR712
import Derived.Test.YtmhfodjiefednaaR716
import Derived.Test.YtmhfodjiefednaaR75
import Derived.Test.YtmhfodjiefednaaR78
import Derived.Test.YtmhfodjiefednaaR713
import Derived.Test.YtmhfodjiefednaaR717
import Derived.Test.YtmhfodjiefednaaR73
import Derived.Test.YtmhfodjiefednaaR714
import Derived.Test.YtmhfodjiefednaaR7RdC
import Derived.Test.YtmhfodjiefednaaR711
/-
  Plain facts on the models' words: places of rows, whole numbers of 64 bits, bytes and numbers.
-/
namespace Go.Fhl
set_option linter.unusedVariables false
set_option linter.unusedSimpArgs false

/-! ## Loops -/
/-- A loop that goes up: right at its end, and ahead of each round if right behind it. -/
theorem up_loop {Q : Nat → Nat → Prop} (m : Nat) (hend : ∀ n, Q (n + 1) m) (hstep : ∀ n i, i < m → Q n (i + 1) → Q (n + 1) i) : ∀ k i n, i + k = m → k < n → Q n i := by
  intro k
  induction k with
  | zero => intro i n h hn; obtain ⟨n, rfl⟩ : ∃ x, n = x + 1 := ⟨n - 1, by omega⟩; obtain rfl : i = m := by omega
            exact hend n
  | succ k ih => intro i n h hn; obtain ⟨n, rfl⟩ : ∃ x, n = x + 1 := ⟨n - 1, by omega⟩; exact hstep n i (by omega) (ih (i + 1) n (by omega) (by omega))
theorem up_fuel {Q : Nat → Nat → Prop} (m : Nat) (hm : m < 4611686018427387904) (hend : ∀ n, Q (n + 1) m) (hstep : ∀ n i, i < m → Q n (i + 1) → Q (n + 1) i) : ∀ i, i ≤ m → Q fuel i :=
  fun i hi => up_loop m hend hstep (m - i) i fuel (by omega) (by unfold fuel; omega)
/-! ## Numbers -/
theorem w64_succ {i : Nat} (h : i < 9223372036854775807) : w64 ((i : Int) + 1) = ((i + 1 : Nat) : Int) := by rw [w64_id (by omega) (by omega)]; rfl
theorem getI_nat {α : Type} (xs : List α) (i : Nat) : getI xs (i : Int) = xs[i]? := by simp [getI]
theorem getI_lt {α : Type} {xs : List α} {i : Nat} (h : i < xs.length) : getI xs (i : Int) = some xs[i] := by rw [getI_nat]; exact List.getElem?_eq_getElem h
theorem appL_eq {α : Type} {b : Nat} {xs ys : List α} (h : (2 * (xs.length + ys.length) + 192) * b ≤ 281474976710656) : appL b xs ys = some (xs ++ ys) := if_pos h
theorem addS_eq {s u : Str} (h : s.length + u.length ≤ 9223372036854775807) : addS s u = some (s ++ u) := if_pos h
theorem slL_nat {α : Type} {xs : List α} {l h : Nat} (h1 : l ≤ h) (h2 : h ≤ xs.length) : slL xs (l : Int) (h : Int) = some ((xs.take h).drop l) := by
  unfold slL; rw [if_pos (by omega)]; simp
theorem setI_nat {α : Type} {xs : List α} {i : Nat} {y : α} (h : i < xs.length) : setI xs (i : Int) y = some (xs.set i y) := by
  unfold setI; rw [if_pos (by omega)]; simp
theorem makeL_nat {α : Type} {b n : Nat} {z : α} (h : b * n ≤ 281474976710656) (hb : n < 9223372036854775808) : makeL b (n : Int) z = some (List.replicate n z) := by
  have h2 : (b : Int) * (n : Int) ≤ 281474976710656 := by
    have : ((b * n : Nat) : Int) ≤ ((281474976710656 : Nat) : Int) := Int.ofNat_le.2 h
    rw [Int.natCast_mul] at this; exact this
  unfold makeL; rw [if_pos ⟨by omega, by omega, h2⟩, Int.toNat_natCast]
theorem gdT {α : Type} [Inhabited α] {g : Bool} {o : Option α} (h : g = true) : gd g o = o := by unfold gd; rw [if_pos h]
theorem gdF {α : Type} [Inhabited α] {g : Bool} {o : Option α} (h : g = false) : gd g o = some default := by unfold gd; rw [h]; rfl
theorem gd_true {α : Type} [Inhabited α] {o : Option α} : gd true o = o := gdT rfl
theorem gd_false {α : Type} [Inhabited α] {o : Option α} : gd false o = some default := gdF rfl
theorem gd_some {α : Type} [Inhabited α] {g : Bool} {x : α} : gd g (some x) = some (if g = true then x else default) := by cases g <;> rfl
theorem and_ite (g x d : Bool) : (g && (if g = true then x else d)) = (g && x) := by cases g <;> rfl
theorem beq_tt (g : Bool) : (g == true) = g := by cases g <;> rfl
theorem bind_some' {α β : Type} (x : α) (f : α → Option β) : Option.bind (some x) f = f x := rfl
theorem remI_nat {a b : Nat} (h : b ≠ 0) : remI (a : Int) (b : Int) = some ((a % b : Nat) : Int) := by
  unfold remI; rw [if_neg (by omega)]; congr 1
/-! ## Bytes of a number, the greatest first -/
def be : Nat → Int → Str
  | 0, _ => []
  | k + 1, v => UInt8.ofInt (v / 2 ^ (8 * k)) :: be k v
def valF (n : Int) (b : Str) : Int := b.foldl (fun n c => n * 256 + (c.toNat : Int)) n
def val (b : Str) : Int := valF 0 b
theorem be_length (k : Nat) (v : Int) : (be k v).length = k := by
  induction k with
  | zero => rfl
  | succ k ih => simp [be, ih]
end Go.Fhl

/-
  The sum of a text: what the program's and the document's loops come to. No program is in sight but its models.
-/
set_option maxRecDepth 20000
namespace Go.Proofs
open Go Go.Fhl
set_option linter.unusedVariables false
set_option linter.unusedSimpArgs false

/-- Four bytes as a number, the least first. -/
def wordN (a b c d : UInt8) : Nat := a.toNat + 256 * (b.toNat + 256 * (c.toNat + 256 * d.toNat))
def word4 (a b c d : UInt8) : UInt32 := UInt32.ofNat (wordN a b c d)
def sstep (s : A4 UInt32) (w : UInt32) : A4 UInt32 :=
  ⟨s.x0 + w, s.x1 + (s.x0 + w), s.x2 + (s.x1 + (s.x0 + w)), s.x3 + (s.x2 + (s.x1 + (s.x0 + w)))⟩
def sumG : A4 UInt32 → Str → A4 UInt32
  | s, a :: b :: c :: d :: r => sumG (sstep s (word4 a b c d)) r
  | s, [a, b, c] => sstep s (word4 a b c 0)
  | s, [a, b] => sstep s (word4 a b 0 0)
  | s, [a] => sstep s (word4 a 0 0 0)
  | s, [] => s
def sumOf (b : Str) : A4 UInt32 := sumG ⟨0, 0, 0, 0⟩ b

def orw (w : UInt32) (c : UInt8) (k : Nat) : UInt32 := w ||| UInt32.ofNat (c.toUInt32.toNat * 2 ^ (8 * k))
theorem sum_l2_4 (c1 : Int → A4 UInt32 → Option (A4 UInt32)) (x1 : Str) (v2 : Int) (s : A4 UInt32) (a b c d : UInt8) : M_sum_Of_l2 c1 x1 v2 s [a, b, c, d] fuel 0 0 = c1 (w64 (v2 + 4)) (sstep s (orw (orw (orw (orw 0 a 0) b 1) c 2) d 3)) := by kernel_rfl
theorem sum_l2_3 (c1 : Int → A4 UInt32 → Option (A4 UInt32)) (x1 : Str) (v2 : Int) (s : A4 UInt32) (a b c : UInt8) : M_sum_Of_l2 c1 x1 v2 s [a, b, c] fuel 0 0 = c1 (w64 (v2 + 4)) (sstep s (orw (orw (orw 0 a 0) b 1) c 2)) := by kernel_rfl
theorem sum_l2_2 (c1 : Int → A4 UInt32 → Option (A4 UInt32)) (x1 : Str) (v2 : Int) (s : A4 UInt32) (a b : UInt8) : M_sum_Of_l2 c1 x1 v2 s [a, b] fuel 0 0 = c1 (w64 (v2 + 4)) (sstep s (orw (orw 0 a 0) b 1)) := by kernel_rfl
theorem sum_l2_1 (c1 : Int → A4 UInt32 → Option (A4 UInt32)) (x1 : Str) (v2 : Int) (s : A4 UInt32) (a : UInt8) : M_sum_Of_l2 c1 x1 v2 s [a] fuel 0 0 = c1 (w64 (v2 + 4)) (sstep s (orw 0 a 0)) := by kernel_rfl
theorem orw_eq {n k : Nat} {c : UInt8} (hk : k < 4) (h : n < 2 ^ (8 * k)) : orw (UInt32.ofNat n) c k = UInt32.ofNat (n + c.toNat * 2 ^ (8 * k)) := by
  have hc := c.toNat_lt
  unfold orw
  apply UInt32.toNat_inj.1
  have hp : 2 ^ (8 * k) ≤ 2 ^ 24 := Nat.pow_le_pow_right (by decide) (by omega)
  have hm : c.toNat * 2 ^ (8 * k) < 2 ^ 32 := by
    have : c.toNat * 2 ^ (8 * k) ≤ 255 * 2 ^ 24 := Nat.mul_le_mul (by omega) hp
    omega
  rw [UInt32.toNat_or, UInt32.toNat_ofNat', UInt32.toNat_ofNat', UInt32.toNat_ofNat', UInt8.toNat_toUInt32, Nat.mod_eq_of_lt (by omega), Nat.mod_eq_of_lt hm]
  have h2 : n + c.toNat * 2 ^ (8 * k) = n ||| c.toNat * 2 ^ (8 * k) := by
    have := Nat.shiftLeft_add_eq_or_of_lt h c.toNat
    rw [Nat.shiftLeft_eq] at this
    rw [Nat.add_comm, this, Nat.or_comm]
  rw [← h2, Nat.mod_eq_of_lt]
  have e : 2 ^ (8 * k) * 256 ≤ 2 ^ 32 := by
    have : 2 ^ (8 * k) * 256 = 2 ^ (8 * k + 8) := by rw [Nat.pow_add]
    rw [this]; exact Nat.pow_le_pow_right (by decide) (by omega)
  have : c.toNat * 2 ^ (8 * k) ≤ 255 * 2 ^ (8 * k) := Nat.mul_le_mul_right _ (by omega)
  omega
theorem orw1 (a : UInt8) : orw 0 a 0 = UInt32.ofNat a.toNat := by
  have := orw_eq (n := 0) (k := 0) (c := a) (by omega) (by decide)
  simpa using this
theorem orw2 (a b : UInt8) : orw (orw 0 a 0) b 1 = UInt32.ofNat (a.toNat + 256 * b.toNat) := by
  have := a.toNat_lt
  rw [orw1, orw_eq (by omega) (by omega)]; congr 1; omega
theorem orw3 (a b c : UInt8) : orw (orw (orw 0 a 0) b 1) c 2 = UInt32.ofNat (a.toNat + 256 * (b.toNat + 256 * c.toNat)) := by
  have := a.toNat_lt
  have := b.toNat_lt
  rw [orw2, orw_eq (by omega) (by omega)]; congr 1; omega
theorem orw4 (a b c d : UInt8) : orw (orw (orw (orw 0 a 0) b 1) c 2) d 3 = word4 a b c d := by
  have := a.toNat_lt
  have := b.toNat_lt
  have := c.toNat_lt
  rw [orw3, orw_eq (by omega) (by omega)]; unfold word4 wordN; congr 1; omega
theorem drop_step {s : Str} {j : Nat} {l : Str} (h : s.drop j = l) (k : Nat) : s.drop (j + k) = l.drop k := by rw [← h, List.drop_drop]
theorem slice4 {s : Str} {j : Nat} (h : j < s.length) (hl : s.length < 4611686018427387904) : slL s (j : Int) (min (w64 ((j : Int) + 4)) (s.length : Int)) = some ((s.drop j).take 4) := by
  rw [w64_id (by omega) (by omega)]
  have : min ((j : Int) + 4) (s.length : Int) = ((min (j + 4) s.length : Nat) : Int) := by omega
  rw [this, slL_nat (by omega) (by omega)]
  congr 1
  rw [List.drop_take]
  by_cases q : j + 4 ≤ s.length
  · congr 1; omega
  · rw [List.take_of_length_le (by simp; omega), List.take_of_length_le (by simp; omega)]
theorem sum_l1 (x1 : Str) (hl : x1.length < 4611686018427387904) : ∀ (k n : Nat) (j : Nat) (s : A4 UInt32), x1.length ≤ j + 4 * k → j ≤ x1.length + 3 → k < n → M_sum_Of_l1 x1 n (j : Int) s = some (sumG s (x1.drop j)) := by
  intro k
  induction k with
  | zero =>
    intro n j s h1 h2 hn
    obtain ⟨n, rfl⟩ : ∃ x, n = x + 1 := ⟨n - 1, by omega⟩
    unfold M_sum_Of_l1
    have : ¬ (j : Int) < (x1.length : Int) := by omega
    rw [List.drop_eq_nil_of_le (by omega)]
    simp [this, sumG]
  | succ k ih =>
    intro n j s h1 h2 hn
    obtain ⟨n, rfl⟩ : ∃ x, n = x + 1 := ⟨n - 1, by omega⟩
    by_cases hj : j < x1.length
    · unfold M_sum_Of_l1
      have hi : (j : Int) < (x1.length : Int) := by omega
      rw [decide_eq_true hi, cond_true, slice4 hj hl, bind_some']
      have hnext : w64 ((j : Int) + 4) = ((j + 4 : Nat) : Int) := by rw [w64_id (by omega) (by omega)]; rfl
      rcases hd : x1.drop j with _ | ⟨a, _ | ⟨b, _ | ⟨c, _ | ⟨d, r⟩⟩⟩⟩
      · have := congrArg List.length hd; simp at this; omega
      · simp only [List.take]
        rw [sum_l2_1, orw1, hnext, ih n (j + 4) _ (by omega) (by have := congrArg List.length hd; simp at this; omega) (by omega), drop_step hd 4]
        rfl
      · simp only [List.take]
        rw [sum_l2_2, orw2, hnext, ih n (j + 4) _ (by omega) (by have := congrArg List.length hd; simp at this; omega) (by omega), drop_step hd 4]
        rfl
      · simp only [List.take]
        rw [sum_l2_3, orw3, hnext, ih n (j + 4) _ (by omega) (by have := congrArg List.length hd; simp at this; omega) (by omega), drop_step hd 4]
        rfl
      · simp only [List.take]
        rw [sum_l2_4, orw4, hnext, ih n (j + 4) _ (by omega) (by have := congrArg List.length hd; simp at this; omega) (by omega), drop_step hd 4]
        rfl
    · unfold M_sum_Of_l1
      have : ¬ (j : Int) < (x1.length : Int) := by omega
      rw [List.drop_eq_nil_of_le (by omega)]
      simp [this, sumG]
theorem join_empty : ∀ xs : List Str, joinS xs [] = xs.flatten := by
  intro xs
  cases xs with
  | nil => rfl
  | cons x r =>
    show Lib.join (x :: r) [] = _
    rw [Lib.join_cons]
    unfold Lib.joinTail
    have : (r.map (([] : List UInt8) ++ ·)) = r := by simp
    rw [this]; rfl
theorem sumOf_eq (l : List Str) (h1 : l.length ≤ 140737488355328) (h2 : l.flatten.length ≤ 140737488355328) : M_sum_Of l = some (sumOf l.flatten) := by
  unfold M_sum_Of M_strings_Join M_join
  rw [join_empty, if_pos ⟨h1, h2⟩, bind_some']
  have := sum_l1 l.flatten (by omega) l.flatten.length fuel 0 ⟨0, 0, 0, 0⟩ (by omega) (by omega) (by unfold fuel; omega)
  exact this
theorem sum1_eq (s : Str) (h : s.length ≤ 140737488355328) : M_sum_Of [s] = some (sumOf s) := by
  have := sumOf_eq [s] (by simp) (by simpa using h)
  simpa using this

/-! ## The document's -/
def byteAt (s : Str) (i : Nat) : UInt8 := (s[i]?).getD 0
/-! ## What the first number is -/
def nsum : Str → Nat → Nat
  | [], _ => 0
  | c :: r, i => c.toNat * 256 ^ (i % 4) + nsum r (i + 1)
end Go.Proofs

/-
  Numbers as bytes, at the forms that are used: what the program's pack and the document's come to.
-/
set_option maxRecDepth 20000
namespace Go.Proofs
open Go Go.Fhl
set_option linter.unusedVariables false
set_option linter.unusedSimpArgs false
def beF : Nat → Int → Str
  | 0, _ => []
  | k + 1, v => UInt8.ofInt (v.fdiv (2 ^ (8 * k))) :: beF k v
theorem beF_eq (k : Nat) (v : Int) : beF k v = be k v := by
  induction k with
  | zero => rfl
  | succ k ih => rw [beF, be, ih, Int.fdiv_eq_ediv_of_nonneg _ (Int.le_of_lt (Int.pow_pos (by decide)))]
def pv (b : Str) : Int := b.foldl (fun n c => orI (w64 (n * 256)) (c.toNat : Int)) 0
def rv (b : Str) : Int := b.foldl (fun n c => w64 (w64 (n * 256) + (c.toNat : Int))) 0
/-- Numbers out of bytes. -/
def vals : List Nat → Str → List Int
  | [], _ => []
  | k :: ks, s => val (s.take k) :: vals ks (s.drop k)
def total : List Nat → Nat
  | [] => 0
  | k :: ks => k + total ks
def okk (k : Nat) : Bool := k == 1 || k == 2 || k == 4
def form6 : Str := [50, 52, 52, 52, 52, 52]
def put6 (a0 a1 a2 a3 a4 a5 : Int) : Str := be 2 a0 ++ (be 4 a1 ++ (be 4 a2 ++ (be 4 a3 ++ (be 4 a4 ++ (be 4 a5)))))
theorem pput6 (a0 a1 a2 a3 a4 a5 : Int) : M_pack_Put ([50, 52, 52, 52, 52, 52] : Str) [a0, a1, a2, a3, a4, a5] = some (put6 a0 a1 a2 a3 a4 a5) := by
  have h : M_pack_Put ([50, 52, 52, 52, 52, 52] : Str) [a0, a1, a2, a3, a4, a5] = some (beF 2 a0 ++ (beF 4 a1 ++ (beF 4 a2 ++ (beF 4 a3 ++ (beF 4 a4 ++ (beF 4 a5)))))) := by kernel_rfl
  rw [h]; simp only [beF_eq]; rfl
theorem put6_length (a0 a1 a2 a3 a4 a5 : Int) : (put6 a0 a1 a2 a3 a4 a5).length = 22 := by unfold put6; simp only [List.length_append, be_length]
def form3 : Str := [49, 52, 50]
def put3 (a0 a1 a2 : Int) : Str := be 1 a0 ++ (be 4 a1 ++ (be 2 a2))
def form4 : Str := [49, 52, 52, 49]
def put4 (a0 a1 a2 a3 : Int) : Str := be 1 a0 ++ (be 4 a1 ++ (be 4 a2 ++ (be 1 a3)))
theorem pput4 (a0 a1 a2 a3 : Int) : M_pack_Put ([49, 52, 52, 49] : Str) [a0, a1, a2, a3] = some (put4 a0 a1 a2 a3) := by
  have h : M_pack_Put ([49, 52, 52, 49] : Str) [a0, a1, a2, a3] = some (beF 1 a0 ++ (beF 4 a1 ++ (beF 4 a2 ++ (beF 1 a3)))) := by kernel_rfl
  rw [h]; simp only [beF_eq]; rfl
theorem put4_length (a0 a1 a2 a3 : Int) : (put4 a0 a1 a2 a3).length = 10 := by unfold put4; simp only [List.length_append, be_length]
def forms : Str := [52, 52, 52, 52]
def puts (a0 a1 a2 a3 : Int) : Str := be 4 a0 ++ (be 4 a1 ++ (be 4 a2 ++ (be 4 a3)))
theorem pputs (a0 a1 a2 a3 : Int) : M_pack_Put ([52, 52, 52, 52] : Str) [a0, a1, a2, a3] = some (puts a0 a1 a2 a3) := by
  have h : M_pack_Put ([52, 52, 52, 52] : Str) [a0, a1, a2, a3] = some (beF 4 a0 ++ (beF 4 a1 ++ (beF 4 a2 ++ (beF 4 a3)))) := by kernel_rfl
  rw [h]; simp only [beF_eq]; rfl
theorem puts_length (a0 a1 a2 a3 : Int) : (puts a0 a1 a2 a3).length = 16 := by unfold puts; simp only [List.length_append, be_length]
end Go.Proofs

/-
  Pointers: what the program's package ptr and the document's answer come to; numbers of made ones.
-/
set_option maxRecDepth 20000
namespace Go.Proofs
open Go Go.Fhl
set_option linter.unusedVariables false
set_option linter.unusedSimpArgs false

def zp : G_api_Ptr := ⟨0, 0, ⟨0, 0, 0, 0⟩⟩
def okPtr (p : G_api_Ptr) : Bool := cond (p.Addr == 0) (decide (p = zp)) ((((decide (p.Addr > 0)) && (decide (p.Addr ≤ 65535))) && (decide (p.Birth ≥ 0))) && (decide (p.Birth ≤ 1073741824)))
theorem may_eq (p : G_api_Ptr) : M_ptr_May p = some (okPtr p) := by
  unfold M_ptr_May okPtr
  cases p.Addr == 0 <;> rfl
theorem zp_eq : (⟨0, 0, ⟨0, 0, 0, 0⟩⟩ : G_api_Ptr) = zp := rfl
theorem okPtr_iff (p : G_api_Ptr) : okPtr p = true ↔ p = zp ∨ (0 < p.Addr ∧ p.Addr ≤ 65535 ∧ 0 ≤ p.Birth ∧ p.Birth ≤ 1073741824) := by
  unfold okPtr
  by_cases h : p.Addr = 0
  · have e : (p.Addr == 0) = true := by simp [h]
    rw [e, cond_true, decide_eq_true_eq]
    constructor
    · exact .inl
    · rintro (q | q)
      · exact q
      · omega
  · have e : (p.Addr == 0) = false := by simp [h]
    rw [e, cond_false]
    constructor
    · intro q; simp only [Bool.and_eq_true, decide_eq_true_eq] at q; exact .inr ⟨by omega, by omega, by omega, by omega⟩
    · rintro (q | q)
      · exact absurd (by rw [q]; rfl) h
      · simp only [Bool.and_eq_true, decide_eq_true_eq]; omega

/-! ## Put -/
def bytesP (p : G_api_Ptr) : Str := put6 p.Addr p.Birth (p.Sum.x0.toNat : Int) (p.Sum.x1.toNat : Int) (p.Sum.x2.toNat : Int) (p.Sum.x3.toNat : Int)
def putPs (l : List G_api_Ptr) : Str := if l.all okPtr = true then l.flatMap bytesP else []
theorem bytesP_length (p : G_api_Ptr) : (bytesP p).length = 22 := put6_length ..
theorem numbers_eq (p : G_api_Ptr) : M_ptr_pointer_numbers ⟨p⟩ = some [p.Addr, p.Birth, (p.Sum.x0.toNat : Int), (p.Sum.x1.toNat : Int), (p.Sum.x2.toNat : Int), (p.Sum.x3.toNat : Int)] := by kernel_rfl
theorem put_l1 (t0 : List G_api_Ptr) (hl : t0.length < 1000000) : ∀ (j : Nat), j ≤ t0.length → ∀ v1 : Str, v1.length ≤ 22 * j → M_ptr_Put_l1 t0 fuel v1 (j : Int) = some (if (t0.drop j).all okPtr = true then v1 ++ (t0.drop j).flatMap bytesP else []) := by
  refine up_fuel (Q := fun n j => ∀ v1 : Str, v1.length ≤ 22 * j → M_ptr_Put_l1 t0 n v1 (j : Int) = some (if (t0.drop j).all okPtr = true then v1 ++ (t0.drop j).flatMap bytesP else [])) t0.length (by omega) ?_ ?_
  · intro n v1 hv
    rw [M_ptr_Put_l1, decide_eq_false (by omega), cond_false]
    simp
  · intro n j hj ih v1 hv
    rw [M_ptr_Put_l1, decide_eq_true (by omega), cond_true, getI_lt hj, bind_some', may_eq, bind_some', List.drop_eq_getElem_cons hj, List.all_cons, List.flatMap_cons]
    cases hok : okPtr t0[j] with
    | false => rfl
    | true =>
      rw [Bool.not_true, cond_false, numbers_eq, bind_some', pput6, bind_some']
      have hb : (bytesP t0[j]).length = 22 := bytesP_length _
      change (Option.bind (addS v1 (bytesP t0[j])) fun x9 => M_ptr_Put_l1 t0 n x9 (w64 ((j : Int) + 1))) = _
      rw [addS_eq (by omega), bind_some', w64_succ (by omega), ih _ (by simp; omega), Bool.true_and, List.append_assoc]
theorem put_eq (l : List G_api_Ptr) (hl : l.length < 1000000) : M_ptr_Put l = some (putPs l) := by
  have := put_l1 l hl 0 (Nat.zero_le _) [] (by simp)
  simpa [M_ptr_Put, putPs] using this
/-! ## Take -/
def ptrOf (s : Str) : G_api_Ptr := ⟨val (s.take 2), val ((s.drop 2).take 4), ⟨UInt32.ofInt (val ((s.drop 6).take 4)), UInt32.ofInt (val ((s.drop 10).take 4)), UInt32.ofInt (val ((s.drop 14).take 4)), UInt32.ofInt (val ((s.drop 18).take 4))⟩⟩
def takePs : Nat → Str → Option (List G_api_Ptr × Str)
  | 0, s => some ([], s)
  | k + 1, s => if s.length < 22 then none else if okPtr (ptrOf s) = true then (takePs k (s.drop 22)).map (fun r => (ptrOf s :: r.1, r.2)) else none
def tans (o : Option (List G_api_Ptr × Str)) : List G_api_Ptr × Str × Bool := match o with | none => ([], [], false) | some (l, r) => (l, r, true)
def preP (acc : List G_api_Ptr) (o : Option (List G_api_Ptr × Str)) : Option (List G_api_Ptr × Str) := o.map fun r => (acc ++ r.1, r.2)
/-! ## What is put is taken -/
/-! ## One byte is turned -/
end Go.Proofs

/-
  Texts of noughts.
-/
set_option maxRecDepth 20000
namespace Go.Proofs
open Go Go.Fhl
set_option linter.unusedVariables false
def zeros (n : Nat) : Str := List.replicate n 0
theorem repeat_zero (n : Nat) : Lib.repeatL [0] n = zeros n := by
  induction n with
  | zero => rfl
  | succ n ih => rw [Lib.repeatL, ih]; rfl
theorem rep_eq {n : Nat} (h : n ≤ 1000000) : M_strings_Repeat [0] (n : Int) = some (zeros n) := by
  unfold M_strings_Repeat M_repeat
  rw [if_pos ⟨by omega, by omega, by simp; omega⟩, Int.toNat_natCast, repeat_zero]
end Go.Proofs

/-
  Where groups begin: what the program's package uber and the document's answer come to.
-/
set_option maxRecDepth 20000
namespace Go.Proofs
open Go Go.Fhl
set_option linter.unusedVariables false
set_option linter.unusedSimpArgs false

/-! ## A text with its sum behind it, filled -/
def sumBytes (x : A4 UInt32) : Str := puts (x.x0.toNat : Int) (x.x1.toNat : Int) (x.x2.toNat : Int) (x.x3.toNat : Int)
def seal' (s : Str) : Str := (s ++ sumBytes (sumOf s)) ++ zeros (240 - s.length)
theorem sumBytes_length (x : A4 UInt32) : (sumBytes x).length = 16 := puts_length ..
theorem seal_length {s : Str} (h : s.length ≤ 240) : (seal' s).length = 256 := by
  unfold seal' zeros; simp only [List.length_append, sumBytes_length, List.length_replicate]; omega
theorem sealed_l1 (t : Str) (x : A4 UInt32) : M_uber_sealed_l1 t x fuel 0 [] = (M_pack_Put ([52, 52, 52, 52] : Str) [(x.x0.toNat : Int), (x.x1.toNat : Int), (x.x2.toNat : Int), (x.x3.toNat : Int)]).bind fun x7 => (addS t x7).bind fun x8 => (M_strings_Repeat ([0] : Str) (w64 (256 - (x8.length : Int)))).bind fun x9 => (addS x8 x9).bind fun x10 => some x10 := by kernel_rfl
theorem sealed_eq (s : Str) (h : s.length ≤ 240) : M_uber_sealed s = some (seal' s) := by
  unfold M_uber_sealed
  have hl : (s ++ sumBytes (sumOf s)).length = s.length + 16 := by rw [List.length_append, sumBytes_length]
  have hw : w64 (256 - (((s ++ sumBytes (sumOf s)).length : Nat) : Int)) = ((240 - s.length : Nat) : Int) := by rw [hl, w64_id (by omega) (by omega)]; omega
  rw [sum1_eq s (by omega), bind_some', sealed_l1, pputs, bind_some']
  change (addS s (sumBytes (sumOf s))).bind _ = _
  rw [addS_eq (by rw [sumBytes_length]; omega), bind_some', hw, rep_eq (by omega), bind_some', addS_eq (by rw [hl]; unfold zeros; rw [List.length_replicate]; omega), bind_some']
  rfl
/-! ## Ubers -/
def zu : G_api_Uber := ⟨0, 0, 0, zp⟩
def okUber (u : G_api_Uber) : Bool := decide (1 ≤ u.Txg ∧ u.Txg ≤ 1073741824 ∧ 0 ≤ u.Guid ∧ u.Guid ≤ 1073741824 ∧ 0 ≤ u.Seat ∧ u.Seat < 6) && (okPtr u.Root && !decide (u.Root = zp))
theorem umay_eq (u : G_api_Uber) : M_uber_root_may ⟨u⟩ = some (okUber u) := by
  unfold M_uber_root_may
  rw [may_eq, gd_some, bind_some', zp_eq, beq_tt, and_ite]
  congr 1
  unfold okUber
  rw [Bool.eq_iff_iff]
  simp only [Bool.and_eq_true, decide_eq_true_eq, Bool.not_eq_true', decide_eq_false_iff_not, ge_iff_le, and_assoc]
def headU (u : G_api_Uber) : Str := put4 171 u.Txg u.Guid u.Seat ++ bytesP u.Root
def bytesU (u : G_api_Uber) : Str := seal' (headU u)
theorem headU_length (u : G_api_Uber) : (headU u).length = 32 := by unfold headU; rw [List.length_append, put4_length, bytesP_length]
theorem bytesU_length (u : G_api_Uber) : (bytesU u).length = 256 := seal_length (by rw [headU_length]; omega)
theorem one_ptr (p : G_api_Ptr) (h : okPtr p = true) : putPs [p] = bytesP p := by unfold putPs; simp [h]
theorem okUber_root {u : G_api_Uber} (h : okUber u = true) : okPtr u.Root = true := by
  unfold okUber at h; simp only [Bool.and_eq_true] at h; exact h.2.1
theorem ubytes_eq (u : G_api_Uber) : M_uber_root_bytes ⟨u⟩ = some (if okUber u = true then bytesU u else []) := by
  unfold M_uber_root_bytes
  rw [umay_eq, bind_some']
  dsimp only
  cases h : okUber u with
  | false => rfl
  | true =>
    have hb := bytesP_length u.Root
    have hp := put4_length 171 u.Txg u.Guid u.Seat
    rw [Bool.not_true, cond_false, pput4, bind_some', put_eq _ (by simp), one_ptr _ (okUber_root h), bind_some', addS_eq (by omega), bind_some', sealed_eq _ (by rw [List.length_append]; omega), bind_some', if_pos rfl]
    rfl
theorem uput_eq (u : G_api_Uber) : M_uber_Put u = some (if okUber u = true then bytesU u else []) := by
  unfold M_uber_Put; rw [ubytes_eq, bind_some']
theorem umay_eq' (u : G_api_Uber) : M_uber_May u = some (okUber u) := by
  unfold M_uber_May; rw [umay_eq, bind_some']
def uberOf (s : Str) : G_api_Uber := ⟨val ((s.drop 1).take 4), val ((s.drop 5).take 4), val ((s.drop 9).take 1), ptrOf (s.drop 10)⟩
def takeU (s : Str) : Option G_api_Uber := if 32 ≤ s.length ∧ okPtr (ptrOf (s.drop 10)) = true ∧ okUber (uberOf s) = true ∧ bytesU (uberOf s) = s then some (uberOf s) else none
def uans (o : Option G_api_Uber) : G_api_Uber × Bool := match o with | none => (zu, false) | some u => (u, true)
/-! ## Configs -/
def okCfg (g d : Int) : Bool := decide (0 ≤ g ∧ g ≤ 1073741824 ∧ 40 ≤ d ∧ d ≤ 240)
def bytesC (g d : Int) : Str := seal' (put3 172 g d)
def putC (g d : Int) : Str := if okCfg g d = true then bytesC g d else []
def takeC (s : Str) : Option (Int × Int) := if 7 ≤ s.length ∧ okCfg (val ((s.drop 1).take 4)) (val ((s.drop 5).take 2)) = true ∧ bytesC (val ((s.drop 1).take 4)) (val ((s.drop 5).take 2)) = s then some (val ((s.drop 1).take 4), val ((s.drop 5).take 2)) else none
def cans (o : Option (Int × Int)) : Int × Int × Bool := match o with | none => (0, 0, false) | some u => (u.1, u.2, true)
end Go.Proofs

/-
  Rows of ubers that fall: the same ones are the same row.
-/
set_option maxRecDepth 20000
namespace Go.Proofs
open Go Go.Fhl
set_option linter.unusedVariables false
set_option linter.unusedSimpArgs false
abbrev Ub := G_api_Uber
/-- Into its place, falling; of one number the first alone. -/
def fallS : List Ub → Ub → List Ub
  | [], u => [u]
  | a :: r, u => if a.Txg = u.Txg then a :: r else if a.Txg < u.Txg then u :: a :: r else a :: fallS r u
def addS' (l : List Ub) (u : Ub) : List Ub := if l.any (fun v => v.Txg == u.Txg) = true then l else l ++ [u]
abbrev Falls (l : List Ub) : Prop := l.Pairwise (fun a b => b.Txg < a.Txg)
abbrev Apart (l : List Ub) : Prop := l.Pairwise (fun a b => b.Txg ≠ a.Txg)
end Go.Proofs

/-
  Devices: what the document's functions on them, and the program's read, come to.
-/
set_option maxRecDepth 20000
namespace Go.Proofs
open Go Go.Fhl
set_option linter.unusedVariables false
set_option linter.unusedSimpArgs false
/-! ## New -/
/-! ## Read -/
/-- All sectors are whole ones. -/
structure DevOk (d : G_api_Dev) : Prop where
  last : ∀ s ∈ d.Last, s.length = 256
  wait : ∀ p ∈ d.Wait, p.B.length = 256
  ll : d.Last.length ≤ 1000
  wl : d.Wait.length ≤ 100000
/-! ## Write -/
def okW (d : G_api_Dev) (p : G_api_Put) : Bool := decide (0 ≤ p.At ∧ p.At < d.Last.length ∧ p.B.length = 256)
def waits (d : G_api_Dev) (p : G_api_Put) : G_api_Dev := { d with Wait := d.Wait ++ [p] }
def wrU (d : G_api_Dev) : List G_api_Put → G_api_Dev × Bool
  | [] => (d, true)
  | p :: l => if okW d p = true then wrU (waits d p) l else (d, false)
/-! ## Flush, Crash -/
def howN (how : List Int) (k : Nat) : Int := match how[k]? with | some h => andI h 3 | none => 0
def tornN (n : Int) (was b : Str) : Str := (if (andI n 1 == 1) = true then b.take 128 else was.take 128) ++ (if (andI n 2 == 2) = true then b.drop 128 else was.drop 128)
def last1 (n : Int) (out : List Str) (w : G_api_Put) : List Str :=
  match out[w.At.toNat]? with
  | none => out
  | some was => if 0 ≤ w.At ∧ w.B.length = 256 ∧ was.length = 256 then out.set w.At.toNat (tornN n was w.B) else out
def lastG (how : List Int) : Nat → List Str → List G_api_Put → List Str
  | _, out, [] => out
  | k, out, w :: l => lastG how (k + 1) (last1 (howN how k) out w) l
/-- All that waits lasts. -/
def flushed : List Str → List G_api_Put → List Str
  | out, [] => out
  | out, w :: l => flushed (match out[w.At.toNat]? with | none => out | some was => if 0 ≤ w.At ∧ w.B.length = 256 ∧ was.length = 256 then out.set w.At.toNat w.B else out) l
end Go.Proofs

/-
  Labels: where they are, what is written there.
-/
set_option maxRecDepth 20000
namespace Go.Proofs
open Go Go.Fhl
set_option linter.unusedVariables false
set_option linter.unusedSimpArgs false
theorem lTT : ((true : Bool) == true) = true := rfl
theorem lFF : ((false : Bool) == false) = true := rfl
def atS (data k : Int) : Int := if (40 ≤ data ∧ data ≤ 240) ∧ 0 ≤ k ∧ k < 4 then k * 7 + (if 2 ≤ k then data else 0) else -1
theorem at_eq (data k : Int) : M_label_At data k = some (atS data k) := by
  unfold M_label_At M_label_may M_label_At_k1 atS
  rw [bind_some']
  by_cases h : (40 ≤ data ∧ data ≤ 240) ∧ 0 ≤ k ∧ k < 4
  · obtain ⟨⟨h1, h2⟩, h3, h4⟩ := h
    have e : (((!((decide (data ≥ 40)) && (decide (data ≤ 240)))) || (decide (k < 0))) || (decide (k ≥ 4))) = false := by
      simp only [Bool.or_eq_false_iff, Bool.not_eq_false', Bool.and_eq_true, decide_eq_true_eq, decide_eq_false_iff_not]
      omega
    have e1 : w64 (k * 7) = k * 7 := w64_id (by omega) (by omega)
    rw [e, cond_false, if_pos ⟨⟨h1, h2⟩, h3, h4⟩, e1]
    by_cases h5 : 2 ≤ k
    · rw [decide_eq_true h5, cond_true, if_pos h5, w64_id (by omega) (by omega)]
    · rw [decide_eq_false h5, cond_false, if_neg h5, Int.add_zero]
  · have e : (((!((decide (data ≥ 40)) && (decide (data ≤ 240)))) || (decide (k < 0))) || (decide (k ≥ 4))) = true := by
      simp only [Bool.or_eq_true, Bool.not_eq_true', Bool.and_eq_false_iff, decide_eq_true_eq, decide_eq_false_iff_not]
      omega
    rw [e, cond_true, if_neg h]
def slotS (data k seat : Int) : Int := if ((40 ≤ data ∧ data ≤ 240) ∧ 0 ≤ k ∧ k < 4) ∧ 0 ≤ seat ∧ seat < 6 then atS data k + 1 + seat else -1
theorem atS_in {data k : Int} (h : (40 ≤ data ∧ data ≤ 240) ∧ 0 ≤ k ∧ k < 4) : atS data k = k * 7 + (if 2 ≤ k then data else 0) := if_pos h
theorem slot_eq (data k seat : Int) : M_label_Slot data k seat = some (slotS data k seat) := by
  unfold M_label_Slot slotS
  rw [at_eq, bind_some']
  by_cases h : (40 ≤ data ∧ data ≤ 240) ∧ 0 ≤ k ∧ k < 4
  · have ha := atS_in h
    have hr : 0 ≤ atS data k ∧ atS data k ≤ 261 := by
      rw [ha]; split <;> omega
    by_cases h2 : 0 ≤ seat ∧ seat < 6
    · have e : (((decide (atS data k < 0)) || (decide (seat < 0))) || (decide (seat ≥ 6))) = false := by
        simp only [Bool.or_eq_false_iff, decide_eq_false_iff_not]
        omega
      have e1 : w64 (atS data k + 1) = atS data k + 1 := w64_id (by omega) (by omega)
      rw [e, cond_false, if_pos ⟨h, h2⟩, e1, w64_id (by omega) (by omega)]
    · have e : (((decide (atS data k < 0)) || (decide (seat < 0))) || (decide (seat ≥ 6))) = true := by
        simp only [Bool.or_eq_true, decide_eq_true_eq]
        omega
      rw [e, cond_true, if_neg (fun q => h2 q.2)]
  · have ha : atS data k = -1 := if_neg h
    rw [ha, if_neg (fun q => h q.1)]
    rfl
def phaseS (data : Int) (u : Ub) (half : Int) : List G_api_Put := if ((40 ≤ data ∧ data ≤ 240) ∧ okUber u = true) ∧ 0 ≤ half ∧ half < 2 then [⟨slotS data half u.Seat, bytesU u⟩, ⟨slotS data (half + 2) u.Seat, bytesU u⟩] else []
theorem phase_eq (data : Int) (u : Ub) (half : Int) : M_label_Phase data u half = some (phaseS data u half) := by
  unfold M_label_Phase M_label_may phaseS
  rw [bind_some', umay_eq']
  by_cases h : ((40 ≤ data ∧ data ≤ 240) ∧ okUber u = true) ∧ 0 ≤ half ∧ half < 2
  · obtain ⟨⟨⟨h1, h2⟩, h3⟩, h4, h5⟩ := h
    have e0 : ((decide (data ≥ 40)) && (decide (data ≤ 240))) = true := by rw [decide_eq_true h1, decide_eq_true h2]; rfl
    have e : ((((!true) || (!true)) || (decide (half < 0))) || (decide (half ≥ 2))) = false := by
      rw [decide_eq_false (by omega), decide_eq_false (by omega)]; rfl
    rw [e0, h3]
    simp only [Bool.not_true, lFF, gd_true, bind_some', Bool.or_self, Bool.false_or] at e ⊢
    rw [e, cond_false, if_pos ⟨⟨⟨h1, h2⟩, trivial⟩, h4, h5⟩]
    show M_label_Phase_l1 data u (4611686018427387901 + 1 + 1 + 1) half [] = _
    rw [M_label_Phase_l1, decide_eq_true (by omega), cond_true, slot_eq, bind_some', uput_eq, h3, if_pos rfl, bind_some', appL_eq (by simp), bind_some', w64_id (by omega) (by omega)]
    rw [M_label_Phase_l1, decide_eq_true (by omega), cond_true, slot_eq, bind_some', uput_eq, h3, if_pos rfl, bind_some', appL_eq (by simp), bind_some', w64_id (by omega) (by omega)]
    rw [M_label_Phase_l1, decide_eq_false (by omega), cond_false]
    rfl
  · rw [if_neg h]
    have e : ∀ b : Bool, b = okUber u → ((((!((decide (data ≥ 40)) && (decide (data ≤ 240)))) || (!b)) || (decide (half < 0))) || (decide (half ≥ 2))) = true := by
      intro b hb
      subst hb
      simp only [Bool.or_eq_true, Bool.not_eq_true', Bool.and_eq_false_iff, decide_eq_true_eq, decide_eq_false_iff_not]
      by_cases q : okUber u = true
      · have : ¬ ((40 ≤ data ∧ data ≤ 240) ∧ 0 ≤ half ∧ half < 2) := fun r => h ⟨⟨r.1, q⟩, r.2⟩
        omega
      · exact .inl (.inl (.inr (by simpa using q)))
    cases q : (!((decide (data ≥ 40)) && (decide (data ≤ 240)))) with
    | false =>
      have := e _ rfl
      rw [q] at this
      simp only [lFF, gd_true, bind_some', this, cond_true]
    | true =>
      simp only [show ((true : Bool) == false) = false from rfl, gd_false, bind_some', Bool.true_or, cond_true]
end Go.Proofs

/-
  The laws of labels: what they all begin with.
-/
set_option maxRecDepth 20000
namespace Go.Proofs
open Go Go.Fhl
set_option linter.unusedVariables false
set_option linter.unusedSimpArgs false
theorem begun7 : M_law7_begun = some true := by kernel_rfl
theorem uof_eq (t : A4 UInt8) : ∃ u : Ub, M_law7_uberOf t = some u ∧ okUber u = true ∧ (1 ≤ u.Txg ∧ u.Txg ≤ 12) ∧ (u.Guid = 7 ∨ u.Guid = 8) ∧ 0 ≤ u.Seat ∧ u.Seat < 6 ∧ okPtr u.Root = true ∧ ¬ u.Root = zp := by
  have e1 : rem8 t.x0 12 = some (t.x0 % 12) := rfl
  have e2 : quo8 t.x1 200 = some (t.x1 / 200) := rfl
  have e3 : rem8 t.x1 6 = some (t.x1 % 6) := rfl
  have b1 : (t.x0 % 12).toNat < 12 := by
    rw [UInt8.toNat_mod]; exact Nat.mod_lt _ (by decide)
  have b2 : (t.x1 / 200).toNat ≤ 1 := by
    have := t.x1.toNat_lt
    rw [UInt8.toNat_div]; show t.x1.toNat / 200 ≤ 1; omega
  have b3 : (t.x1 % 6).toNat < 6 := by
    rw [UInt8.toNat_mod]; exact Nat.mod_lt _ (by decide)
  have b4 := t.x2.toNat_lt
  have b5 := t.x3.toNat_lt
  have w1 : w64 (1 + ((t.x0 % 12).toNat : Int)) = 1 + ((t.x0 % 12).toNat : Int) := w64_id (by omega) (by omega)
  have w2 : w64 (7 + ((t.x1 / 200).toNat : Int)) = 7 + ((t.x1 / 200).toNat : Int) := w64_id (by omega) (by omega)
  have w3 : w64 (1 + (t.x2.toNat : Int)) = 1 + (t.x2.toNat : Int) := w64_id (by omega) (by omega)
  unfold M_law7_uberOf
  rw [e1, bind_some', e2, bind_some', e3, bind_some', w1, w2, w3]
  have hp : okPtr ⟨1 + (t.x2.toNat : Int), (t.x3.toNat : Int), ⟨0, 0, 0, 0⟩⟩ = true := (okPtr_iff _).2 (.inr ⟨by show (0 : Int) < 1 + (t.x2.toNat : Int); omega, by show 1 + (t.x2.toNat : Int) ≤ 65535; omega, by show (0 : Int) ≤ (t.x3.toNat : Int); omega, by show (t.x3.toNat : Int) ≤ 1073741824; omega⟩)
  have hz : ¬ (⟨1 + (t.x2.toNat : Int), (t.x3.toNat : Int), ⟨0, 0, 0, 0⟩⟩ : G_api_Ptr) = zp := by
    intro e
    have : 1 + (t.x2.toNat : Int) = 0 := congrArg G_api_Ptr.Addr e
    omega
  refine ⟨_, rfl, ?_, ⟨?_, ?_⟩, ?_, ?_, ?_, hp, hz⟩
  · unfold okUber
    simp only [hp, decide_eq_false hz, Bool.not_false, Bool.and_true, decide_eq_true_eq]
    omega
  all_goals simp only
  all_goals omega
theorem rem201 (t : UInt8) : ∃ m : Nat, m < 201 ∧ remI (t.toNat : Int) 201 = some (m : Int) ∧ w64 (40 + (m : Int)) = 40 + (m : Int) := by
  have h : remI (t.toNat : Int) ((201 : Nat) : Int) = some ((t.toNat % 201 : Nat) : Int) := remI_nat (by decide)
  have hl : t.toNat % 201 < 201 := Nat.mod_lt _ (by decide)
  exact ⟨_, hl, h, w64_id (by omega) (by omega)⟩
end Go.Proofs
