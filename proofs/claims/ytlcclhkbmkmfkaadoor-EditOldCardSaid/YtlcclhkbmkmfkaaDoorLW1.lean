/-
  Facts on the models of the functions, and the laws on them, in one text.
-/
import Derived.Test.YtlcclhkbmkmfkaaDoorFHd1
import Derived.Test.YtlcclhkbmkmfkaaDoorREO0
import Derived.Test.YtlcclhkbmkmfkaaDoorREO1
import Derived.Test.YtlcclhkbmkmfkaaDoorREO7
import Derived.Test.YtlcclhkbmkmfkaaDoorREO8
import Derived.Test.YtlcclhkbmkmfkaaDoorREOB
import Derived.KernelRfl
import Derived.Test.YtlcclhkbmkmfkaaDoorREO12
import Derived.Test.YtlcclhkbmkmfkaaDoorREO9
import Derived.Test.YtlcclhkbmkmfkaaDoorREO13
import Derived.Test.YtlcclhkbmkmfkaaDoorREO10
import Derived.Test.YtlcclhkbmkmfkaaDoorREO14
import Derived.Test.YtlcclhkbmkmfkaaDoorREO2
import Derived.Test.YtlcclhkbmkmfkaaDoorREO4
import Derived.Test.YtlcclhkbmkmfkaaDoorREOX
import Derived.Test.YtlcclhkbmkmfkaaDoorREO3
import Derived.Test.YtlcclhkbmkmfkaaDoorREO5
import Derived.Test.YtlcclhkbmkmfkaaDoorREO6
import Derived.Test.YtlcclhkbmkmfkaaDoorREO11
import Derived.Test.YtlcclhkbmkmfkaaDoorREO15
/-
  Plain facts on the models' words: places of rows, whole numbers of 64 bits, bytes and numbers.
-/
namespace Go.Fhl
set_option linter.unusedVariables false
set_option linter.unusedSimpArgs false

/-! ## Loops -/
/-- A loop that goes up: right at its end, and ahead of each round if right behind it. -/
theorem up_loop {Q : Nat → Nat → Prop} (m : Nat) (hend : ∀ n, Q (n + 1) m) (hstep : ∀ n i, i < m → Q n (i + 1) → Q (n + 1) i) : ∀ k i n, i + k = m → k < n → Q n i := by
  intro k
  induction k with
  | zero => intro i n h hn; obtain ⟨n, rfl⟩ : ∃ x, n = x + 1 := ⟨n - 1, by omega⟩; obtain rfl : i = m := by omega
            exact hend n
  | succ k ih => intro i n h hn; obtain ⟨n, rfl⟩ : ∃ x, n = x + 1 := ⟨n - 1, by omega⟩; exact hstep n i (by omega) (ih (i + 1) n (by omega) (by omega))
theorem up_fuel {Q : Nat → Nat → Prop} (m : Nat) (hm : m < 4611686018427387904) (hend : ∀ n, Q (n + 1) m) (hstep : ∀ n i, i < m → Q n (i + 1) → Q (n + 1) i) : ∀ i, i ≤ m → Q fuel i :=
  fun i hi => up_loop m hend hstep (m - i) i fuel (by omega) (by unfold fuel; omega)
/-! ## Numbers -/
theorem w64_nat {n : Nat} (h : n < 9223372036854775808) : w64 (n : Int) = n := w64_id (by omega) (by omega)
theorem w64_succ {i : Nat} (h : i < 9223372036854775807) : w64 ((i : Int) + 1) = ((i + 1 : Nat) : Int) := by rw [w64_id (by omega) (by omega)]; rfl
theorem w64_pred {i : Nat} (h : i < 9223372036854775807) : w64 (((i + 1 : Nat) : Int) - 1) = (i : Int) := by rw [w64_id (by omega) (by omega)]; omega
theorem getI_nat {α : Type} (xs : List α) (i : Nat) : getI xs (i : Int) = xs[i]? := by simp [getI]
theorem getI_lt {α : Type} {xs : List α} {i : Nat} (h : i < xs.length) : getI xs (i : Int) = some xs[i] := by rw [getI_nat]; exact List.getElem?_eq_getElem h
theorem appL_eq {α : Type} {b : Nat} {xs ys : List α} (h : (2 * (xs.length + ys.length) + 192) * b ≤ 281474976710656) : appL b xs ys = some (xs ++ ys) := if_pos h
theorem slL_nat {α : Type} {xs : List α} {l h : Nat} (h1 : l ≤ h) (h2 : h ≤ xs.length) : slL xs (l : Int) (h : Int) = some ((xs.take h).drop l) := by
  unfold slL; rw [if_pos (by omega)]; simp
theorem slL_from {α : Type} {xs : List α} {l : Nat} (h1 : l ≤ xs.length) : slL xs (l : Int) (xs.length : Int) = some (xs.drop l) := by
  rw [slL_nat h1 (Nat.le_refl _), List.take_length]
theorem slL_to {α : Type} {xs : List α} {l : Nat} (h1 : l ≤ xs.length) : slL xs 0 (l : Int) = some (xs.take l) := by
  have := slL_nat (xs := xs) (l := 0) (h := l) (Nat.zero_le _) h1
  simpa using this
theorem setI_nat {α : Type} {xs : List α} {i : Nat} {y : α} (h : i < xs.length) : setI xs (i : Int) y = some (xs.set i y) := by
  unfold setI; rw [if_pos (by omega)]; simp
theorem makeL_nat {α : Type} {b n : Nat} {z : α} (h : b * n ≤ 281474976710656) (hb : n < 9223372036854775808) : makeL b (n : Int) z = some (List.replicate n z) := by
  have h2 : (b : Int) * (n : Int) ≤ 281474976710656 := by
    have : ((b * n : Nat) : Int) ≤ ((281474976710656 : Nat) : Int) := Int.ofNat_le.2 h
    rw [Int.natCast_mul] at this; exact this
  unfold makeL; rw [if_pos ⟨by omega, by omega, h2⟩, Int.toNat_natCast]
theorem gdT {α : Type} [Inhabited α] {g : Bool} {o : Option α} (h : g = true) : gd g o = o := by unfold gd; rw [if_pos h]
theorem gdF {α : Type} [Inhabited α] {g : Bool} {o : Option α} (h : g = false) : gd g o = some default := by unfold gd; rw [h]; rfl
theorem gd_true {α : Type} [Inhabited α] {o : Option α} : gd true o = o := gdT rfl
theorem gd_false {α : Type} [Inhabited α] {o : Option α} : gd false o = some default := gdF rfl
theorem gd_some {α : Type} [Inhabited α] {g : Bool} {x : α} : gd g (some x) = some (if g = true then x else default) := by cases g <;> rfl
theorem bind_some' {α β : Type} (x : α) (f : α → Option β) : Option.bind (some x) f = f x := rfl
theorem remI_nat {a b : Nat} (h : b ≠ 0) : remI (a : Int) (b : Int) = some ((a % b : Nat) : Int) := by
  unfold remI; rw [if_neg (by omega)]; congr 1
/-! ## Bytes of a number, the greatest first -/
def be : Nat → Int → Str
  | 0, _ => []
  | k + 1, v => UInt8.ofInt (v / 2 ^ (8 * k)) :: be k v
def valF (n : Int) (b : Str) : Int := b.foldl (fun n c => n * 256 + (c.toNat : Int)) n
def val (b : Str) : Int := valF 0 b
end Go.Fhl

/-
  Plain facts on texts that are cut at a byte, and put together.
-/
set_option maxRecDepth 20000
namespace Go.Proofs
open Go Go.Fhl
set_option linter.unusedVariables false
set_option linter.unusedSimpArgs false
/-- A text's parts. -/
def splitS : Str → List Str
  | [] => [[]]
  | c :: s => if c = 47 then [] :: splitS s else match splitS s with | [] => [[c]] | p :: r => (c :: p) :: r
theorem splitS_cons (c : UInt8) (s : Str) : splitS (c :: s) = if c = 47 then [] :: splitS s else match splitS s with | [] => [[c]] | p :: r => (c :: p) :: r := rfl
theorem splitS_ne (s : Str) : splitS s ≠ [] := by
  cases s with
  | nil => simp [splitS]
  | cons c s => unfold splitS; split; simp; split <;> simp
theorem splitS_none : ∀ (s : Str), (47 : UInt8) ∉ s → splitS s = [s]
  | [], _ => rfl
  | c :: s, h => by
    have h1 : c ≠ 47 := fun e => h (by simp [e])
    have h2 := splitS_none s (fun e => h (by simp [e]))
    unfold splitS; rw [if_neg h1, h2]
theorem splitS_cat : ∀ (a b : Str), (47 : UInt8) ∉ a → splitS (a ++ 47 :: b) = a :: splitS b
  | [], b, _ => by simp [splitS]
  | c :: a, b, h => by
    have h1 : c ≠ 47 := fun e => h (by simp [e])
    have h2 := splitS_cat a b (fun e => h (by simp [e]))
    rw [List.cons_append, splitS_cons, if_neg h1, h2]
theorem splitS_length : ∀ s : Str, (splitS s).length = s.count 47 + 1
  | [] => rfl
  | c :: s => by
    have ih := splitS_length s
    unfold splitS
    by_cases h : c = 47
    · rw [if_pos h, List.length_cons, ih, h, List.count_cons_self]
    · rw [if_neg h, List.count_cons_of_ne (fun e => h e)]
      split
      · rename_i e; exact absurd e (splitS_ne s)
      · rename_i p r e; rw [e] at ih; simpa using ih
/-- Where a byte is. -/
theorem idx_spec (c : UInt8) : ∀ s : Str, (c ∉ s ∧ Lib.indexByte s c = -1) ∨ ∃ a b, s = a ++ c :: b ∧ c ∉ a ∧ Lib.indexByte s c = (a.length : Int)
  | [] => .inl ⟨by simp, rfl⟩
  | x :: s => by
    by_cases h : x = c
    · exact .inr ⟨[], s, by simp [h], by simp, by simp [Lib.indexByte, h]⟩
    · have hb : (x == c) = false := by simp [h]
      rcases idx_spec c s with ⟨h1, h2⟩ | ⟨a, b, h1, h2, h3⟩
      · refine .inl ⟨fun hm => by rcases List.mem_cons.1 hm with e | e; exact h e.symm; exact h1 e, ?_⟩
        unfold Lib.indexByte; rw [hb, h2]; rfl
      · refine .inr ⟨x :: a, b, by simp [h1], fun hm => by rcases List.mem_cons.1 hm with e | e; exact h e.symm; exact h2 e, ?_⟩
        unfold Lib.indexByte; rw [hb, h3]
        have : ((a.length : Int) == -1) = false := by simp
        rw [this]; simp
theorem idx_neg (c : UInt8) (s : Str) : decide (Lib.indexByte s c < 0) = !s.contains c := by
  rcases idx_spec c s with ⟨h1, h2⟩ | ⟨a, b, h1, h2, h3⟩
  · rw [h2]; simp [h1]
  · rw [h3]
    have : c ∈ s := by rw [h1]; simp
    simp [this]
end Go.Proofs

/-
  Names, ways: what the models of the program's functions and of the document's answer compute.
-/
set_option maxRecDepth 20000
namespace Go.Proofs
open Go Go.Fhl
set_option linter.unusedVariables false
set_option linter.unusedSimpArgs false
def abc : Str := [97, 98, 99, 100, 101, 102, 103, 104, 105, 106, 107, 108, 109, 110, 111, 112, 113, 114, 115, 116, 117, 118, 119, 120, 121, 122, 48, 49, 50, 51, 52, 53, 54, 55, 56, 57, 46, 95, 45]
def okc (c : UInt8) : Bool := abc.contains c
def mayN (s : Str) : Bool := s != [] && decide (s.length ≤ 8) && s.all okc && s != [46] && s != [46, 46]
/-- All bytes. -/
theorem all8 {p : UInt8 → Bool} (h : (List.range 256).all (fun n => p (UInt8.ofNat n)) = true) (c : UInt8) : p c = true := by
  have := List.all_eq_true.1 h c.toNat (List.mem_range.2 c.toNat_lt)
  simpa using this
theorem okc_eq (c : UInt8) : ((((((decide (c ≥ 97)) && (decide (c ≤ 122))) || ((decide (c ≥ 48)) && (decide (c ≤ 57)))) || (c == 46)) || (c == 95)) || (c == 45)) = okc c := by
  have := all8 (p := fun c => ((((((decide (c ≥ 97)) && (decide (c ≤ 122))) || ((decide (c ≥ 48)) && (decide (c ≤ 57)))) || (c == 46)) || (c == 95)) || (c == 45)) == okc c) (by decide +kernel) c
  simpa using this
theorem plain_l1 (s : Str) (hs : s.length < 1000000) : ∀ (j : Nat), j ≤ s.length → M_name_plain_l1 s fuel (j : Int) = some ((s.drop j).all okc) := by
  refine up_fuel (Q := fun n j => M_name_plain_l1 s n (j : Int) = some ((s.drop j).all okc)) s.length (by omega) ?_ ?_
  · intro n
    rw [M_name_plain_l1, decide_eq_false (by omega), cond_false]
    simp
  · intro n j hj ih
    rw [M_name_plain_l1, decide_eq_true (by omega), cond_true, getI_lt hj, bind_some']
    show Option.bind (some (Lib.indexByte abc s[j])) _ = _
    rw [bind_some', idx_neg, w64_succ (by omega), ih, List.drop_eq_getElem_cons hj, List.all_cons]
    show cond (!okc s[j]) _ _ = _
    cases okc s[j] <;> rfl
theorem plain_eq (s : Str) (hs : s.length < 1000000) : M_name_plain s = some (s.all okc) := by
  have := plain_l1 s hs 0 (Nat.zero_le _)
  simpa [M_name_plain] using this
theorem nmay_eq (s : Str) : M_name_May s = some (mayN s) := by
  unfold M_name_May
  by_cases h : s.length ≤ 8
  · rw [plain_eq s (by omega), gd_some, bind_some']
    have e : decide ((s.length : Int) ≤ 8) = decide (s.length ≤ 8) := by rw [decide_eq_decide]; omega
    rw [e]
    unfold mayN
    cases hx : (s != [] && decide (s.length ≤ 8)) <;> rfl
  · have e : decide ((s.length : Int) ≤ 8) = false := decide_eq_false (by omega)
    have e2 : decide (s.length ≤ 8) = false := decide_eq_false h
    unfold mayN
    rw [e, e2]
    simp [gd_false]
theorem rmayn_l1 (s : Str) (hs : s.length < 1000000) : ∀ (j : Nat), j ≤ s.length → M_ref11_MayName_l1 s fuel (j : Int) = some ((s.drop j).all okc && (decide (1 ≤ s.length) && decide (s.length ≤ 8) && s != [46] && s != [46, 46])) := by
  refine up_fuel (Q := fun n j => M_ref11_MayName_l1 s n (j : Int) = some ((s.drop j).all okc && (decide (1 ≤ s.length) && decide (s.length ≤ 8) && s != [46] && s != [46, 46]))) s.length (by omega) ?_ ?_
  · intro n
    rw [M_ref11_MayName_l1, decide_eq_false (by omega), cond_false]
    have e1 : decide ((s.length : Int) ≥ 1) = decide (1 ≤ s.length) := by rw [decide_eq_decide]; omega
    have e2 : decide ((s.length : Int) ≤ 8) = decide (s.length ≤ 8) := by rw [decide_eq_decide]; omega
    rw [e1, e2]
    simp
  · intro n j hj ih
    rw [M_ref11_MayName_l1, decide_eq_true (by omega), cond_true, getI_lt hj, bind_some', okc_eq, w64_succ (by omega), ih, List.drop_eq_getElem_cons hj, List.all_cons]
    cases okc s[j] <;> rfl
theorem rmayn_eq (s : Str) (hs : s.length < 1000000) : M_ref11_MayName s = some (mayN s) := by
  have := rmayn_l1 s hs 0 (Nat.zero_le _)
  unfold M_ref11_MayName
  rw [show (0 : Int) = ((0 : Nat) : Int) from rfl, this, List.drop_zero]
  unfold mayN
  congr 1
  have : (s != []) = decide (1 ≤ s.length) := by cases s <;> simp
  rw [this]
  cases s.all okc <;> simp
theorem mayN_no47 {p : Str} (h : mayN p = true) : (47 : UInt8) ∉ p ∧ p.length ≤ 8 ∧ p ≠ [] := by
  unfold mayN at h
  simp only [Bool.and_eq_true, bne_iff_ne, decide_eq_true_eq, List.all_eq_true] at h
  exact ⟨fun hm => by have := h.1.1.2 _ hm; revert this; decide, h.1.1.1.2, h.1.1.1.1⟩

/-! ## A way's parts -/
theorem gs_l1 (t0 : Str) (y4 : Int) (N : Nat) (hy : min y4 (w64 ((t0.length : Int) + 1)) = ((N + 1 : Nat) : Int)) (hN : N < 1000000) :
    ∀ (k j n : Nat) (s : Str) (a : List Str), j + k = N → s.count 47 = k → a.length = N + 1 → s.length < 1000000 → k < n → M_strings_genSplit_l1 t0 [47] 0 y4 n s (j : Int) a = some (a.take j ++ splitS s) := by
  have e0 : w64 (((N + 1 : Nat) : Int) - 1) = (N : Int) := w64_pred (by omega)
  have fin : ∀ (s : Str) (a : List Str), s.count 47 = 0 → a.length = N + 1 → M_strings_genSplit_k2 s (N : Int) a = some (a.take N ++ splitS s) := by
    intro s a hc ha
    unfold M_strings_genSplit_k2
    rw [getI_lt (by omega), bind_some', setI_nat (by omega), bind_some', w64_succ (by omega), slL_to (by simp; omega), bind_some', splitS_none s (by simpa [List.count_eq_zero] using hc)]
    congr 1
    apply List.ext_getElem?
    intro i
    rw [List.getElem?_take, List.getElem?_append, List.getElem?_take, List.getElem?_set, List.length_take]
    by_cases h1 : i < N
    · rw [if_pos (by omega), if_neg (by omega), if_pos (by omega), if_pos h1]
    · by_cases h2 : i = N
      · subst h2; rw [if_pos (by omega), if_pos rfl, if_pos (by omega), if_neg (by omega)]; simp [Nat.min_eq_left (show i ≤ a.length by omega)]
      · rw [if_neg (by omega), if_neg (by omega), List.getElem?_eq_none (by simp; omega)]
  intro k
  induction k with
  | zero =>
    intro j n s a h1 h2 h3 h4 hn
    obtain ⟨n, rfl⟩ : ∃ x, n = x + 1 := ⟨n - 1, by omega⟩
    obtain rfl : j = N := by omega
    rw [M_strings_genSplit_l1, hy, e0, decide_eq_false (by omega), cond_false, fin s a h2 h3]
  | succ k ih =>
    intro j n s a h1 h2 h3 h4 hn
    obtain ⟨n, rfl⟩ : ∃ x, n = x + 1 := ⟨n - 1, by omega⟩
    rw [M_strings_genSplit_l1, hy, e0, decide_eq_true (by omega), cond_true]
    show Option.bind (some (Lib.indexByte s 47)) _ = _
    rw [bind_some']
    rcases idx_spec 47 s with ⟨q1, q2⟩ | ⟨b, c, q1, q2, q3⟩
    · rw [List.count_eq_zero.2 q1] at h2; omega
    · have hl : s.length = b.length + 1 + c.length := by rw [q1]; simp; omega
      have hcnt : c.count 47 = k := by
        rw [q1, List.count_append, List.count_cons_self, List.count_eq_zero.2 q2] at h2; omega
      rw [q3, decide_eq_false (by omega), cond_false, show w64 ((b.length : Int) + 0) = ((b.length : Nat) : Int) by rw [Int.add_zero]; exact w64_nat (by omega), slL_to (by omega), bind_some', getI_lt (by omega), bind_some', setI_nat (by omega), bind_some']
      rw [show w64 ((b.length : Int) + (([47] : Str).length : Int)) = ((b.length + 1 : Nat) : Int) from w64_succ (by omega), slL_from (by omega), bind_some', w64_succ (by omega)]
      have d1 : s.take b.length = b := by rw [q1]; simp
      have d2 : s.drop (b.length + 1) = c := by rw [q1]; simp
      rw [d1, d2, ih (j + 1) n c _ (by omega) hcnt (by simp [h3]) (by omega) (by omega), q1, splitS_cat _ _ q2]
      congr 1
      have : (a.set j b).take (j + 1) = a.take j ++ [b] := by
        apply List.ext_getElem?
        intro i
        rw [List.getElem?_take, List.getElem?_append, List.getElem?_take, List.getElem?_set, List.length_take]
        by_cases h1 : i < j
        · rw [if_pos (by omega), if_neg (by omega), if_pos (by omega), if_pos h1]
        · by_cases h2 : i = j
          · subst h2; rw [if_pos (by omega), if_pos rfl, if_pos (by omega), if_neg (by omega)]; simp [Nat.min_eq_left (show i ≤ a.length by omega)]
          · rw [if_neg (by omega), if_neg (by omega), List.getElem?_eq_none (by simp; omega)]
      rw [this, List.append_assoc, List.singleton_append]
theorem count_le (s : Str) : s.count 47 ≤ s.length := List.count_le_length
theorem split_eq (s : Str) (hs : s.length < 1000000) : M_strings_Split s [47] = some (splitS s) := by
  have hc := count_le s
  unfold M_strings_Split M_strings_genSplit
  have e1 : ((-1 : Int) == 0) = false := rfl
  have e2 : (([47] : Str) == []) = false := rfl
  have e3 : decide ((-1 : Int) < 0) = true := rfl
  rw [e1, cond_false, e2, cond_false, e3, cond_true]
  show Option.bind (Option.bind (some (Lib.countByte s 47 : Int)) _) _ = _
  rw [bind_some']
  have e4 : (Lib.countByte s 47 : Int) = ((s.count 47 : Nat) : Int) := rfl
  rw [e4, w64_succ (by omega)]
  unfold M_strings_genSplit_k1
  have hy : min ((s.count 47 + 1 : Nat) : Int) (w64 ((s.length : Int) + 1)) = ((s.count 47 + 1 : Nat) : Int) := by
    rw [w64_succ (by omega)]; omega
  rw [hy, makeL_nat (by omega) (by omega), bind_some']
  have := gs_l1 s ((s.count 47 + 1 : Nat) : Int) (s.count 47) hy (by omega) (s.count 47) 0 fuel s (List.replicate (s.count 47 + 1) []) (by omega) rfl (by simp) hs (by unfold fuel; omega)
  rw [show ((0 : Nat) : Int) = 0 from rfl] at this
  rw [this]
  simp
def partsN (s : Str) : List Str × Bool :=
  if s = [] then ([], true) else if (splitS s).length ≥ 8 then ([], false) else if (splitS s).all mayN then (splitS s, true) else ([], false)
theorem parts_l1 (l : List Str) (hs : l.length < 1000000) : ∀ (j : Nat), j ≤ l.length → M_name_Parts_l1 l fuel (j : Int) = some (if (l.drop j).all mayN then (l, true) else ([], false)) := by
  refine up_fuel (Q := fun n j => M_name_Parts_l1 l n (j : Int) = some (if (l.drop j).all mayN then (l, true) else ([], false))) l.length (by omega) ?_ ?_
  · intro n
    rw [M_name_Parts_l1, decide_eq_false (by omega), cond_false]
    simp
  · intro n j hj ih
    rw [M_name_Parts_l1, decide_eq_true (by omega), cond_true, getI_lt hj, bind_some', nmay_eq, bind_some', w64_succ (by omega), ih, List.drop_eq_getElem_cons hj, List.all_cons]
    cases mayN l[j] <;> simp
theorem parts_eq (s : Str) (hs : s.length < 1000000) : M_name_Parts s = some (partsN s) := by
  unfold M_name_Parts partsN
  by_cases h : s = []
  · subst h; rfl
  · have e : (s == []) = false := by simp [h]
    have hc := count_le s
    have hl := splitS_length s
    rw [e, cond_false, if_neg h, split_eq s hs, bind_some']
    by_cases h8 : (splitS s).length ≥ 8
    · rw [decide_eq_true (by omega), cond_true, if_pos h8]
    · rw [decide_eq_false (by omega), cond_false, if_neg h8]
      have := parts_l1 (splitS s) (by omega) 0 (Nat.zero_le _)
      simpa using this
/-- The document's: a part at a time. -/
theorem rparts_l1 (s : Str) (hs : s.length < 1000000) : ∀ (k j n : Nat) (i : Nat) (acc : List Str), j + k = s.length + 1 → i ≤ j → k < n → acc.length ≤ 7 → (47 : UInt8) ∉ (s.drop i).take (j - i) →
    (acc.all mayN = true) → j ≤ s.length → M_ref11_Parts_l1 s n (i : Int) (j : Int) acc = some (if (splitS (s.drop i)).all mayN = true ∧ acc.length + (splitS (s.drop i)).length < 8 then (acc ++ splitS (s.drop i), true) else ([], false)) := by
  intro k
  induction k with
  | zero => intro j n i acc h1 h2 h3 h4 h5 h6 h7; omega
  | succ k ih =>
    intro j n i acc h1 h2 h3 h4 h5 h6 h7
    obtain ⟨n, rfl⟩ : ∃ x, n = x + 1 := ⟨n - 1, by omega⟩
    rw [M_ref11_Parts_l1, decide_eq_true (by omega), cond_true]
    -- what is behind i, cut at j
    have hcut : s.drop i = (s.drop i).take (j - i) ++ s.drop j := by
      have := List.take_append_drop (j - i) (s.drop i)
      rw [List.drop_drop, show i + (j - i) = j by omega] at this
      exact this.symm
    generalize hp : (s.drop i).take (j - i) = p at *
    have hsl : slL s (i : Int) (j : Int) = some p := by
      rw [slL_nat h2 h7, ← hp]
      congr 1
      rw [List.drop_take]
    have hpl : p.length ≤ s.length := by rw [← hp]; simp; omega
    have step : ∀ (c : UInt8) (r : Str), s.drop j = c :: r → s.drop (j + 1) = r := fun c r e => by rw [← List.drop_drop, e]; rfl
    by_cases hj : j < s.length
    · rw [decide_eq_true (by omega), show ((true : Bool) == true) = true from rfl, gd_true, getI_lt hj, bind_some', Bool.true_and]
      have hd : s.drop j = s[j] :: s.drop (j + 1) := List.drop_eq_getElem_cons hj
      by_cases hc : s[j] = 47
      · have e : (s[j] != 47) = false := by simp [hc]
        rw [e, cond_false, hsl, bind_some', rmayn_eq p (by omega), bind_some']
        have hsp : splitS (s.drop i) = p :: splitS (s.drop (j + 1)) := by rw [hcut, hd, hc, splitS_cat _ _ h5]
        have hne := splitS_ne (s.drop (j + 1))
        have hpos : 0 < (splitS (s.drop (j + 1))).length := List.length_pos_iff.2 hne
        rw [hsp, List.all_cons, List.length_cons]
        cases hm : mayN p
        · simp
        · by_cases h7' : acc.length ≥ 7
          · rw [decide_eq_true (by omega), if_neg (by omega)]; rfl
          · rw [decide_eq_false (by omega)]
            simp only [Bool.not_true, Bool.or_self, cond_false]
            rw [bind_some', appL_eq (by simp; omega), bind_some']
            unfold M_ref11_Parts_k1
            rw [w64_succ (by omega)]
            by_cases hlast : j + 1 ≤ s.length
            · rw [ih (j + 1) n (j + 1) (acc ++ [p]) (by omega) (Nat.le_refl _) (by omega) (by simp; omega) (by simp) (by simp [h6, hm]) hlast]
              simp only [List.length_append, List.length_cons, List.length_nil, List.append_assoc, List.singleton_append, Bool.true_and]
              congr 1
              by_cases q : (splitS (s.drop (j + 1))).all mayN = true ∧ acc.length + (0 + 1) + (splitS (s.drop (j + 1))).length < 8
              · rw [if_pos q, if_pos ⟨q.1, by omega⟩]
              · rw [if_neg q, if_neg (fun x => q ⟨x.1, by omega⟩)]
            · omega
      · have e : (s[j] != 47) = true := by simp [hc]
        rw [e, cond_true]
        unfold M_ref11_Parts_k1
        rw [w64_succ (by omega)]
        by_cases hlast : j + 1 ≤ s.length
        · exact ih (j + 1) n i acc (by omega) (by omega) (by omega) h4 (by
            have : (s.drop i).take (j + 1 - i) = p ++ [s[j]] := by
              rw [hcut, hd, show j + 1 - i = p.length + 1 by rw [← hp]; simp; omega]
              rw [List.take_append, Nat.add_sub_cancel_left, List.take_of_length_le (by omega)]; rfl
            rw [this]; simp [h5]; exact fun e => hc e.symm) h6 hlast
        · omega
    · obtain rfl : j = s.length := by omega
      rw [decide_eq_false (by omega), show ((false : Bool) == true) = false from rfl, gd_false, bind_some', Bool.false_and, cond_false, hsl, bind_some', rmayn_eq p (by omega), bind_some']
      have hsp : splitS (s.drop i) = [p] := by rw [hcut, List.drop_length, List.append_nil, splitS_none _ h5]
      rw [hsp]
      cases hm : mayN p
      · simp [hm]
      · by_cases h7' : acc.length ≥ 7
        · rw [decide_eq_true (by omega), if_neg (by simp; omega)]; rfl
        · rw [decide_eq_false (by omega)]
          simp only [Bool.not_true, Bool.or_self, cond_false]
          rw [bind_some', appL_eq (by simp; omega), bind_some']
          unfold M_ref11_Parts_k1
          rw [w64_succ (by omega)]
          obtain ⟨n, rfl⟩ : ∃ x, n = x + 1 := ⟨n - 1, by omega⟩
          rw [M_ref11_Parts_l1, decide_eq_false (by omega), cond_false, if_pos ⟨by simp [hm], by simp; omega⟩]
theorem rparts_eq (s : Str) (hs : s.length < 1000000) : M_ref11_Parts s = some (partsN s) := by
  unfold M_ref11_Parts partsN
  by_cases h : s = []
  · subst h; rfl
  · have e : (s == []) = false := by simp [h]
    rw [e, cond_false, if_neg h]
    have := rparts_l1 s hs (s.length + 1) 0 fuel 0 [] (by omega) (by omega) (by unfold fuel; omega) (by simp) (by simp) rfl (by omega)
    rw [show (0 : Int) = ((0 : Nat) : Int) from rfl, this, List.drop_zero]
    congr 1
    by_cases h8 : (splitS s).length ≥ 8
    · rw [if_pos h8, if_neg (fun x => by have := x.2; simp at this; omega)]
    · rw [if_neg h8]
      by_cases q : (splitS s).all mayN = true
      · rw [if_pos q, if_pos ⟨q, by simp; omega⟩]; rfl
      · rw [if_neg q, if_neg (fun x => q x.1)]

/-! ## Texts that are alike -/
theorem partsN_len (s : Str) : (partsN s).1.length < 8 := by
  unfold partsN
  split
  · simp
  · split
    · simp
    · split
      · simp; omega
      · simp
end Go.Proofs

/-
  Texts of noughts.
-/
set_option maxRecDepth 20000
namespace Go.Proofs
open Go Go.Fhl
set_option linter.unusedVariables false
theorem getI_pos {α : Type} {xs : List α} {i : Int} (h0 : 0 ≤ i) (h : i.toNat < xs.length) : getI xs i = some xs[i.toNat] := by
  obtain ⟨k, rfl⟩ : ∃ k : Nat, i = k := ⟨i.toNat, by omega⟩
  exact getI_lt h
theorem setI_pos {α : Type} {xs : List α} {i : Int} {y : α} (h0 : 0 ≤ i) (h : i.toNat < xs.length) : setI xs i y = some (xs.set i.toNat y) := by
  obtain ⟨k, rfl⟩ : ∃ k : Nat, i = k := ⟨i.toNat, by omega⟩
  exact setI_nat h
def zeros (n : Nat) : Str := List.replicate n 0
theorem zeros_length (n : Nat) : (zeros n).length = n := List.length_replicate
end Go.Proofs

/-
  Sets of nodes: who lies in whom, in the order of names; what the document's functions on sets come to.
-/
set_option maxRecDepth 20000
namespace Go.Proofs
open Go Go.Fhl
set_option linter.unusedVariables false
set_option linter.unusedSimpArgs false
abbrev Nod := G_api_Node
def zN : Nod := ⟨0, 0, [], [], 0⟩
def rootN : Nod := ⟨2, 0, [], [], 0⟩
def lostN : Nod := ⟨3, 0, [], [], 0⟩
/-- The node of a number. -/
def nd (s : List Nod) (i : Int) : Nod := s.getD i.toNat zN
theorem nd_nat (s : List Nod) (j : Nat) : nd s (j : Int) = s.getD j zN := rfl
theorem getI_nd {s : List Nod} {i : Int} (h0 : 0 ≤ i) (h : i < s.length) : getI s i = some (nd s i) := by
  have hk : i.toNat < s.length := by omega
  rw [getI_pos h0 hk]; unfold nd; simp [hk]
theorem getI_some {α : Type} {s : List α} {i : Int} {x : α} (h : getI s i = some x) : 0 ≤ i ∧ i < s.length := by
  unfold getI at h
  split at h
  · have := (List.getElem?_eq_some_iff.1 h).1; omega
  · cases h
theorem nd_set {s : List Nod} {i j : Int} {x : Nod} (h0 : 0 ≤ i) (h : i < s.length) (h1 : 0 ≤ j) : nd (s.set i.toNat x) j = if j = i then x else nd s j := by
  unfold nd
  by_cases e : j = i
  · subst e; simp [show j.toNat < s.length by omega]
  · have : i.toNat ≠ j.toNat := by omega
    simp [List.getElem?_set, this, e]

/-! ## Names in order -/
theorem ltS_tri (a b : Str) : (!(ltS a b || a == b)) = ltS b a := by
  unfold ltS
  induction a generalizing b with
  | nil => cases b <;> rfl
  | cons x a ih =>
    cases b with
    | nil => rfl
    | cons y b =>
      have := ih b
      simp only [Op.bytesLess]
      by_cases h : x = y
      · subst h; simpa using this
      · have h' : ¬ y = x := fun e => h e.symm
        have e1 : ((x :: a) == (y :: b)) = false := by simp [h]
        rw [e1]
        simp only [beq_eq_false_iff_ne.2 h, beq_eq_false_iff_ne.2 h', Bool.false_and, Bool.or_false]
        rcases Nat.lt_or_gt_of_ne (fun e => h (UInt8.toNat_inj.1 e) : x.toNat ≠ y.toNat) with q | q
        · simp [UInt8.lt_iff_toNat_lt, q, Nat.not_lt.2 (Nat.le_of_lt q)]
        · simp [UInt8.lt_iff_toNat_lt, q, Nat.not_lt.2 (Nat.le_of_lt q)]
/-! ## A row, in order -/
section
variable {α : Type} (gt : α → α → Bool)
/-- Into its place, from behind; the row stands turned round. -/
def insV (i : α) : List α → List α
  | [] => [i]
  | a :: r => if gt a i = true then a :: insV i r else i :: a :: r
def sortV (l : List α) : List α := l.foldl (fun r i => insV gt i r) []
theorem insV_perm (i : α) (r : List α) : (insV gt i r).Perm (i :: r) := by
  induction r with
  | nil => exact List.Perm.refl _
  | cons a r ih =>
    rw [insV]; split
    · exact (ih.cons a).trans (List.Perm.swap i a r)
    · exact List.Perm.refl _
theorem fold_perm (l r : List α) : (l.foldl (fun r i => insV gt i r) r).Perm (l ++ r) := by
  induction l generalizing r with
  | nil => exact List.Perm.refl _
  | cons a l ih =>
    refine (ih _).trans ?_
    refine ((insV_perm gt a r).append_left l).trans ?_
    exact List.perm_middle
theorem sortV_perm (l : List α) : (sortV gt l).Perm l := by
  have := fold_perm gt l []
  rwa [List.append_nil] at this
theorem insV_length (i : α) (r : List α) : (insV gt i r).length = r.length + 1 := by rw [(insV_perm gt i r).length_eq]; rfl
end

/-! ## Kids -/
def liveB (x : Nod) : Bool := x.Kind == 1 || x.Kind == 2
def isKid (n : Int) (x : Nod) : Bool := liveB x && x.Up == n
/-- The numbers of those that lie in one, rising, from a place on. -/
def kidsFrom (n : Int) : Nat → List Nod → List Int
  | _, [] => []
  | j, x :: l => if isKid n x = true then (j : Int) :: kidsFrom n (j + 1) l else kidsFrom n (j + 1) l
def gtN (s : List Nod) (a b : Int) : Bool := ltS (nd s b).Name (nd s a).Name
def kidsL (s : List Nod) (n : Int) : List Int := kidsFrom n 1 (s.drop 1)
def kidsS (s : List Nod) (n : Int) : List Int := (sortV (gtN s) (kidsL s n)).reverse
theorem kidsFrom_mem {n : Int} {s : List Nod} : ∀ (l : List Nod) (j : Nat), s.drop j = l → ∀ k : Int, k ∈ kidsFrom n j l ↔ ((j : Int) ≤ k ∧ k < s.length ∧ isKid n (nd s k) = true) := by
  intro l
  induction l with
  | nil =>
    intro j hj k
    have : s.length ≤ j := by simpa using hj
    constructor
    · intro h; cases h
    · intro ⟨h1, h2, _⟩; omega
  | cons x l ih =>
    intro j hj k
    have hlt : j < s.length := by
      rcases Nat.lt_or_ge j s.length with q | q
      · exact q
      · rw [List.drop_eq_nil_of_le q] at hj; cases hj
    rw [List.drop_eq_getElem_cons hlt] at hj
    injection hj with e1 e2
    have hx : nd s (j : Int) = x := by rw [nd_nat]; simp [hlt, e1]
    have := ih (j + 1) e2 k
    rw [kidsFrom]
    split
    · rename_i q
      rw [List.mem_cons, this]
      constructor
      · rintro (rfl | ⟨h1, h2, h3⟩)
        · exact ⟨Int.le_refl _, by omega, by rw [hx]; exact q⟩
        · exact ⟨by omega, h2, h3⟩
      · rintro ⟨h1, h2, h3⟩
        by_cases e : k = j
        · exact .inl e
        · exact .inr ⟨by omega, h2, h3⟩
    · rename_i q
      rw [this]
      constructor
      · rintro ⟨h1, h2, h3⟩; exact ⟨by omega, h2, h3⟩
      · rintro ⟨h1, h2, h3⟩
        refine ⟨?_, h2, h3⟩
        by_cases e : k = j
        · subst e; rw [hx] at h3; exact absurd h3 q
        · omega
theorem kidsS_perm (s : List Nod) (n : Int) : (kidsS s n).Perm (kidsL s n) := (List.reverse_perm _).trans (sortV_perm _ _)
theorem kidsS_mem {s : List Nod} {n k : Int} : k ∈ kidsS s n ↔ (1 ≤ k ∧ k < s.length ∧ isKid n (nd s k) = true) := by
  rw [(kidsS_perm s n).mem_iff]
  exact kidsFrom_mem _ 1 rfl k
theorem kidsFrom_len (n : Int) : ∀ (l : List Nod) (j : Nat), (kidsFrom n j l).length ≤ l.length := by
  intro l
  induction l with
  | nil => intro j; exact Nat.le_refl _
  | cons x l ih => intro j; rw [kidsFrom]; have := ih (j + 1); split <;> simp <;> omega
theorem kidsS_len (s : List Nod) (n : Int) : (kidsS s n).length ≤ s.length := by
  rw [(kidsS_perm s n).length_eq]
  have := kidsFrom_len n (s.drop 1) 1
  unfold kidsL; rw [List.length_drop] at this; omega
end Go.Proofs

/-
  Sets of nodes: what the document's functions on sets come to.
-/
set_option maxRecDepth 20000
namespace Go.Proofs
open Go Go.Fhl
set_option linter.unusedVariables false
set_option linter.unusedSimpArgs false
theorem drop_cons {α : Type} [Inhabited α] {l : List α} {j : Nat} {x : α} {r : List α} (h : l.drop j = x :: r) : j < l.length ∧ l[j]? = some x ∧ l.drop (j + 1) = r := by
  have hlt : j < l.length := by
    rcases Nat.lt_or_ge j l.length with q | q
    · exact q
    · rw [List.drop_eq_nil_of_le q] at h; cases h
  rw [List.drop_eq_getElem_cons hlt] at h
  injection h with e1 e2
  exact ⟨hlt, by rw [List.getElem?_eq_getElem hlt, e1], e2⟩
theorem bTT : ((true : Bool) == true) = true := rfl
theorem bFT : ((false : Bool) == true) = false := rfl
theorem bFF : ((false : Bool) == false) = true := rfl
/-! ## Kids -/
theorem gtN_eq (s : List Nod) (a b : Int) : (!(ltS (nd s a).Name (nd s b).Name || (nd s a).Name == (nd s b).Name)) = gtN s a b := by rw [ltS_tri]; rfl
/-- The new one goes down to its place. 'A': what stands ahead of it, turned round. -/
theorem rkids_l2 (c : Int → List Int → Option (List Int)) (s : List Nod) (n v1 : Int) (hv : 0 ≤ v1 ∧ v1 < s.length) : ∀ (A B : List Int) (f : Nat), A.length < f → A.length + B.length ≤ 100000 → (∀ a ∈ A, 0 ≤ a ∧ a < s.length) →
    M_ref11_Kids_l2 c s n v1 f (A.length : Int) (A.reverse ++ v1 :: B) = c (w64 (v1 + 1)) ((insV (gtN s) v1 A).reverse ++ B) := by
  intro A
  induction A with
  | nil =>
    intro B f hf hB hA
    obtain ⟨f, rfl⟩ : ∃ x, f = x + 1 := ⟨f - 1, by simp at hf; omega⟩
    rw [M_ref11_Kids_l2]
    rfl
  | cons a A ih =>
    intro B f hf hB hA
    obtain ⟨f, rfl⟩ : ∃ x, f = x + 1 := ⟨f - 1, by simp at hf; omega⟩
    have ha := hA a (List.mem_cons_self ..)
    simp only [List.length_cons] at hf hB
    rw [M_ref11_Kids_l2]
    have hpos : decide (((a :: A).length : Int) > 0) = true := decide_eq_true (by simp)
    have e1 : w64 (((a :: A).length : Int) - 1) = (A.length : Int) := by rw [List.length_cons]; exact w64_pred (by omega)
    have hl : (a :: A).reverse ++ v1 :: B = A.reverse ++ a :: v1 :: B := by simp
    have g1 : getI (A.reverse ++ a :: v1 :: B) (A.length : Int) = some a := by rw [getI_nat]; simp
    have g2 : getI (A.reverse ++ a :: v1 :: B) ((a :: A).length : Int) = some v1 := by
      rw [getI_nat, List.getElem?_append_right (by simp)]; simp
    simp only [hpos, e1, hl, bTT, gd_true, g1, bind_some', getI_nd ha.1 ha.2, getI_nd hv.1 hv.2, gtN_eq, Bool.true_and]
    cases hg : gtN s a v1 with
    | false =>
      rw [cond_false, insV, hg]
      simp [M_ref11_Kids_k1]
    | true =>
      have s1 : setI (A.reverse ++ a :: v1 :: B) (A.length : Int) v1 = some (A.reverse ++ v1 :: v1 :: B) := by
        rw [setI_nat (by simp)]; simp
      have g3 : getI (A.reverse ++ v1 :: v1 :: B) ((a :: A).length : Int) = some v1 := by
        rw [getI_nat, List.getElem?_append_right (by simp)]; simp
      have s2 : setI (A.reverse ++ v1 :: v1 :: B) ((a :: A).length : Int) a = some (A.reverse ++ v1 :: a :: B) := by
        rw [setI_nat (by simp), List.set_append_right _ _ (by simp)]; simp
      simp only [cond_true, g2, g1, bind_some', s1, g3, s2]
      have := ih (a :: B) f (by omega) (by simp; omega) (fun x hx => hA x (List.mem_cons_of_mem _ hx))
      rw [this, insV, hg]
      simp
theorem rkids_l1 (s : List Nod) (n : Int) (hs : s.length ≤ 1000) : ∀ (l : List Nod) (j f : Nat) (R : List Int), s.drop j = l → l.length < f → j ≤ s.length → R.length ≤ j → (∀ a ∈ R, 0 ≤ a ∧ a < s.length) →
    M_ref11_Kids_l1 s n f (j : Int) R.reverse = some ((kidsFrom n j l).foldl (fun r i => insV (gtN s) i r) R).reverse := by
  intro l
  induction l with
  | nil =>
    intro j f R hj hf hjs hR hA
    obtain ⟨f, rfl⟩ : ∃ x, f = x + 1 := ⟨f - 1, by simp at hf; omega⟩
    have : s.length ≤ j := by simpa using hj
    rw [M_ref11_Kids_l1, decide_eq_false (by omega), cond_false]
    rfl
  | cons x l ih =>
    intro j f R hj hf hjs hR hA
    obtain ⟨f, rfl⟩ : ∃ x, f = x + 1 := ⟨f - 1, by simp at hf; omega⟩
    simp only [List.length_cons] at hf
    obtain ⟨hlt, hx, hd⟩ := drop_cons hj
    have gx : getI s (j : Int) = some x := by rw [getI_nat, hx]
    rw [M_ref11_Kids_l1, decide_eq_true (by omega), cond_true]
    simp only [gx, bind_some', gd_some]
    have hk : (((x.Kind != 1) && ((if (x.Kind != 1) == true then x else default).Kind != 2)) || ((if ((x.Kind != 1) && ((if (x.Kind != 1) == true then x else default).Kind != 2)) == false then x else default).Up != n)) = !isKid n x := by
      unfold isKid liveB
      by_cases h1 : x.Kind = 1
      · simp [h1, bne]
      · by_cases h2 : x.Kind = 2
        · simp [h2, bne]
        · have e1 : (x.Kind == 1) = false := by simp [h1]
          have e2 : (x.Kind == 2) = false := by simp [h2]
          simp [bne, e1, e2]
    rw [hk, kidsFrom]
    cases hq : isKid n x with
    | false =>
      simp only [Bool.not_false, cond_true, Bool.false_eq_true, if_false]
      rw [M_ref11_Kids_k1, w64_succ (by omega)]
      exact ih (j + 1) f R hd (by omega) (by omega) (by omega) hA
    | true =>
      simp only [Bool.not_true, cond_false, if_true, List.foldl_cons]
      rw [appL_eq (by simp; omega), bind_some']
      have hl : ((R.reverse.length : Nat) : Int) = (R.length : Int) := by simp
      have := rkids_l2 (M_ref11_Kids_l1 s n f) s n (j : Int) ⟨by omega, by omega⟩ R [] fuel (by unfold fuel; omega) (by simp; omega) hA
      rw [hl, this, w64_succ (by omega), List.append_nil]
      refine ih (j + 1) f _ hd (by omega) (by omega) (by rw [insV_length]; omega) (fun a ha => ?_)
      rcases List.mem_cons.1 ((insV_perm _ _ _).mem_iff.1 ha) with rfl | ha
      · exact ⟨by omega, by omega⟩
      · exact hA a ha
theorem rkids_eq (s : List Nod) (n : Int) (hs : s.length ≤ 1000) (h1 : 1 ≤ s.length) : M_ref11_Kids s n = some (kidsS s n) :=
  rkids_l1 s n hs (s.drop 1) 1 fuel [] rfl (by simp; unfold fuel; omega) h1 (Nat.zero_le _) (fun a h => by cases h)
/-! ## Kid -/
def kidS (s : List Nod) (n : Int) (x : Str) : Int × Bool := match (kidsS s n).find? (fun k => (nd s k).Name == x) with | some k => (k, true) | none => (0, false)
theorem rkid_l1 (s : List Nod) (x : Str) (K : List Int) (hK : ∀ k ∈ K, 0 ≤ k ∧ k < s.length) (hl : K.length ≤ 100000) : ∀ (l : List Int) (j f : Nat), K.drop j = l → l.length < f → j ≤ K.length →
    M_ref11_Kid_l1 s x K f (j : Int) = some (match l.find? (fun k => (nd s k).Name == x) with | some k => (k, true) | none => (0, false)) := by
  intro l
  induction l with
  | nil =>
    intro j f hj hf hjs
    obtain ⟨f, rfl⟩ : ∃ x, f = x + 1 := ⟨f - 1, by simp at hf; omega⟩
    have : K.length ≤ j := by simpa using hj
    rw [M_ref11_Kid_l1, decide_eq_false (by omega), cond_false]
    rfl
  | cons k l ih =>
    intro j f hj hf hjs
    obtain ⟨f, rfl⟩ : ∃ x, f = x + 1 := ⟨f - 1, by simp at hf; omega⟩
    simp only [List.length_cons] at hf
    obtain ⟨hlt, hx, hd⟩ := drop_cons hj
    have hk := hK k (List.mem_of_getElem? hx)
    have gx : getI K (j : Int) = some k := by rw [getI_nat, hx]
    rw [M_ref11_Kid_l1, decide_eq_true (by omega), cond_true, gx, bind_some', getI_nd hk.1 hk.2, bind_some', List.find?_cons, w64_succ (by omega), bind_some']
    cases hq : ((nd s k).Name == x) with
    | false => exact ih (j + 1) f hd (by omega) (by omega)
    | true => rfl
theorem kids_range {s : List Nod} {n k : Int} (h : k ∈ kidsS s n) : 0 ≤ k ∧ k < s.length := by have := kidsS_mem.1 h; omega
theorem rkid_eq (s : List Nod) (n : Int) (x : Str) (hs : s.length ≤ 1000) (h1 : 1 ≤ s.length) : M_ref11_Kid s n x = some (kidS s n x) := by
  unfold M_ref11_Kid
  have := kidsS_len s n
  rw [rkids_eq s n hs h1, bind_some']
  exact rkid_l1 s x _ (fun k hk => kids_range hk) (by omega) _ 0 fuel rfl (by unfold fuel; omega) (Nat.zero_le _)
theorem kidS_some {s : List Nod} {n : Int} {x : Str} (h : (kidS s n x).2 = true) : (kidS s n x).1 ∈ kidsS s n ∧ (nd s (kidS s n x).1).Name = x := by
  unfold kidS at *
  split at h
  · rename_i k e
    exact ⟨List.mem_of_find?_eq_some e, by have := List.find?_some e; simpa using this⟩
  · cases h
theorem kidS_none {s : List Nod} {n : Int} {x : Str} (h : (kidS s n x).2 = false) : kidS s n x = (0, false) ∧ ∀ k ∈ kidsS s n, (nd s k).Name ≠ x := by
  unfold kidS at *
  split at h
  · cases h
  · rename_i e
    exact ⟨rfl, fun k hk => by have := List.find?_eq_none.1 e k hk; simpa using this⟩
/-! ## Free -/
def freeFrom : Nat → List Nod → Int × Bool
  | _, [] => (0, false)
  | j, x :: l => if x.Kind = 0 then ((j : Int), true) else freeFrom (j + 1) l
def freeS (s : List Nod) : Int × Bool := freeFrom 0 s
theorem rfree_l1 (s : List Nod) (hs : s.length ≤ 100000) : ∀ (l : List Nod) (j f : Nat), s.drop j = l → l.length < f → j ≤ s.length → M_ref11_Free_l1 s f (j : Int) = some (freeFrom j l) := by
  intro l
  induction l with
  | nil =>
    intro j f hj hf hjs
    obtain ⟨f, rfl⟩ : ∃ x, f = x + 1 := ⟨f - 1, by simp at hf; omega⟩
    have : s.length ≤ j := by simpa using hj
    rw [M_ref11_Free_l1, decide_eq_false (by omega), cond_false]
    rfl
  | cons x l ih =>
    intro j f hj hf hjs
    obtain ⟨f, rfl⟩ : ∃ x, f = x + 1 := ⟨f - 1, by simp at hf; omega⟩
    simp only [List.length_cons] at hf
    obtain ⟨hlt, hx, hd⟩ := drop_cons hj
    rw [M_ref11_Free_l1, decide_eq_true (by omega), cond_true, getI_nat, hx, bind_some', w64_succ (by omega), freeFrom]
    by_cases q : x.Kind = 0
    · simp [q]
    · have : (x.Kind == 0) = false := by simp [q]
      rw [this, cond_false, if_neg q]
      exact ih (j + 1) f hd (by omega) (by omega)
theorem rfree_eq (s : List Nod) (hs : s.length ≤ 100000) : M_ref11_Free s = some (freeS s) := rfree_l1 s hs s 0 fuel rfl (by unfold fuel; omega) (Nat.zero_le _)
theorem freeFrom_spec {s : List Nod} : ∀ (l : List Nod) (j : Nat), s.drop j = l → j ≤ s.length → ((freeFrom j l).2 = true → (j : Int) ≤ (freeFrom j l).1 ∧ (freeFrom j l).1 < s.length ∧ (nd s (freeFrom j l).1).Kind = 0) ∧ (∀ k : Int, (j : Int) ≤ k → k < s.length → ((freeFrom j l).2 = true → k < (freeFrom j l).1) → (nd s k).Kind ≠ 0) ∧ ((freeFrom j l).2 = false → (freeFrom j l).1 = 0) := by
  intro l
  induction l with
  | nil =>
    intro j hj hjs
    have : s.length ≤ j := by simpa using hj
    exact ⟨(fun h => by cases h), fun k h1 h2 _ => by omega, fun _ => rfl⟩
  | cons x l ih =>
    intro j hj hjs
    obtain ⟨hlt, hx, hd⟩ := drop_cons hj
    have hn : nd s (j : Int) = x := by rw [nd_nat]; simp [List.getD_eq_getElem?_getD, hx]
    obtain ⟨i1, i2, i3⟩ := ih (j + 1) hd (by omega)
    rw [freeFrom]
    by_cases q : x.Kind = 0
    · rw [if_pos q]
      exact ⟨fun _ => ⟨Int.le_refl _, by simp; omega, by simp only; rw [hn]; exact q⟩, fun k h1 h2 h3 => by have := h3 rfl; simp at this; omega, fun h => by cases h⟩
    · rw [if_neg q]
      refine ⟨fun h => ?_, fun k h1 h2 h3 => ?_, i3⟩
      · obtain ⟨a, b, c⟩ := i1 h; exact ⟨by omega, b, c⟩
      · by_cases e : k = j
        · subst e; rw [hn]; exact q
        · exact i2 k (by omega) h2 h3
theorem freeS_spec (s : List Nod) : ((freeS s).2 = true → 0 ≤ (freeS s).1 ∧ (freeS s).1 < s.length ∧ (nd s (freeS s).1).Kind = 0) ∧ (∀ k : Int, 0 ≤ k → k < s.length → ((freeS s).2 = true → k < (freeS s).1) → (nd s k).Kind ≠ 0) ∧ ((freeS s).2 = false → (freeS s).1 = 0) :=
  freeFrom_spec s 0 rfl (Nat.zero_le _)
/-! ## Lost -/
theorem rlost_l1 (s : List Nod) (hs : s.length ≤ 100000) : ∀ (l : List Nod) (j f : Nat), s.drop j = l → l.length < f → j ≤ s.length → M_ref11_lost_l1 s f (j : Int) = some (l.any (fun x => x.Kind == 3)) := by
  intro l
  induction l with
  | nil =>
    intro j f hj hf hjs
    obtain ⟨f, rfl⟩ : ∃ x, f = x + 1 := ⟨f - 1, by simp at hf; omega⟩
    have : s.length ≤ j := by simpa using hj
    rw [M_ref11_lost_l1, decide_eq_false (by omega), cond_false]
    rfl
  | cons x l ih =>
    intro j f hj hf hjs
    obtain ⟨f, rfl⟩ : ∃ x, f = x + 1 := ⟨f - 1, by simp at hf; omega⟩
    simp only [List.length_cons] at hf
    obtain ⟨hlt, hx, hd⟩ := drop_cons hj
    rw [M_ref11_lost_l1, decide_eq_true (by omega), cond_true, getI_nat, hx, bind_some', w64_succ (by omega), List.any_cons]
    cases q : (x.Kind == 3) with
    | false => rw [cond_false, Bool.false_or]; exact ih (j + 1) f hd (by omega) (by omega)
    | true => rfl
def lostS (s : List Nod) : Bool := s.any (fun x => x.Kind == 3)
theorem rlost_eq (s : List Nod) (hs : s.length ≤ 100000) : M_ref11_lost s = some (lostS s) := rlost_l1 s hs s 0 fuel rfl (by unfold fuel; omega) (Nat.zero_le _)
end Go.Proofs

/-
  Sets of nodes: where ways lead, and what becomes of them, as the document has it.
-/
set_option maxRecDepth 20000
namespace Go.Proofs
open Go Go.Fhl
set_option linter.unusedVariables false
set_option linter.unusedSimpArgs false
/-! ## Ways down -/
def downS (s : List Nod) : List Str → Int → Int × Int
  | [], at' => (at', 0)
  | x :: r, at' => if (nd s at').Kind ≠ 2 then (0, 5) else if (kidS s at' x).2 = true then downS s r (kidS s at' x).1 else if lostS s = true then (0, 12) else (0, 2)
theorem kidS_range {s : List Nod} {n : Int} {x : Str} (h1 : 1 ≤ s.length) : 0 ≤ (kidS s n x).1 ∧ (kidS s n x).1 < s.length := by
  cases h : (kidS s n x).2 with
  | true => exact kids_range (kidS_some h).1
  | false => rw [(kidS_none h).1]; simp only; omega
theorem downS_range {s : List Nod} (h1 : 1 ≤ s.length) : ∀ (l : List Str) (a : Int), 0 ≤ a ∧ a < s.length → 0 ≤ (downS s l a).1 ∧ (downS s l a).1 < s.length := by
  intro l
  induction l with
  | nil => intro a h; exact h
  | cons x l ih =>
    intro a h
    rw [downS]
    split
    · simp only; omega
    · split
      · exact ih _ (kidS_range h1)
      · split <;> (simp only; omega)
theorem rdown_l1 (s : List Nod) (hs : s.length ≤ 1000) (h1 : 1 ≤ s.length) (L : List Str) (hL : L.length ≤ 100000) : ∀ (l : List Str) (j f : Nat) (a : Int), L.drop j = l → l.length < f → j ≤ L.length → 0 ≤ a ∧ a < s.length → M_ref11_down_l1 s L f a (j : Int) = some (downS s l a) := by
  intro l
  induction l with
  | nil =>
    intro j f a hj hf hjs ha
    obtain ⟨f, rfl⟩ : ∃ x, f = x + 1 := ⟨f - 1, by simp at hf; omega⟩
    have : L.length ≤ j := by simpa using hj
    rw [M_ref11_down_l1, decide_eq_false (by omega), cond_false]
    rfl
  | cons x l ih =>
    intro j f a hj hf hjs ha
    obtain ⟨f, rfl⟩ : ∃ x, f = x + 1 := ⟨f - 1, by simp at hf; omega⟩
    simp only [List.length_cons] at hf
    obtain ⟨hlt, hx, hd⟩ := drop_cons hj
    have gx : getI L (j : Int) = some x := by rw [getI_nat, hx]
    rw [M_ref11_down_l1, decide_eq_true (by omega), cond_true, decide_eq_false (show ¬ a ≥ (s.length : Int) by omega)]
    simp only [bFF, gd_true, getI_nd ha.1 ha.2, bind_some', Bool.false_or, gx, rkid_eq s a x hs h1, rlost_eq s (by omega), w64_succ (show j < 9223372036854775807 by omega)]
    rw [downS]
    by_cases k2 : (nd s a).Kind = 2
    · have e1 : ((nd s a).Kind != 2) = false := by simp [k2]
      rw [e1, cond_false, if_neg (fun q => q k2)]
      cases hk : (kidS s a x).2 with
      | true =>
        simp only [Bool.not_true, bFT, gd_false, bind_some', Bool.false_and, cond_false, if_true]
        exact ih (j + 1) f _ hd (by omega) (by omega) (kidS_range h1)
      | false =>
        simp only [Bool.not_false, bTT, gd_true, bind_some', Bool.true_and, cond_true, Bool.false_eq_true, if_false, k2, ne_eq, not_true_eq_false]
        cases hl : lostS s <;> rfl
    · have e1 : ((nd s a).Kind != 2) = true := by simp [k2]
      rw [e1, cond_true, if_pos k2]
theorem rdown_eq (s : List Nod) (L : List Str) (hs : s.length ≤ 1000) (h1 : 1 ≤ s.length) (hL : L.length ≤ 100000) : M_ref11_down s L = some (downS s L 0) :=
  rdown_l1 s hs h1 L hL L 0 fuel 0 rfl (by unfold fuel; omega) (Nat.zero_le _) ⟨Int.le_refl _, by omega⟩
/-! ## Find, Place -/
def findS (s : List Nod) (w : Str) : Int × Int := if (partsN w).2 = true then downS s (partsN w).1 0 else (0, 1)
def placeS (s : List Nod) (w : Str) : Int × Str × Int :=
  if (partsN w).2 = false ∨ (partsN w).1 = [] then (0, [], 1) else
  if (downS s (partsN w).1.dropLast 0).2 ≠ 0 then (0, [], (downS s (partsN w).1.dropLast 0).2) else
  if (nd s (downS s (partsN w).1.dropLast 0).1).Kind ≠ 2 then (0, [], 5) else ((downS s (partsN w).1.dropLast 0).1, (partsN w).1.getLastD [], 0)
theorem rfind_eq (s : List Nod) (w : Str) (hs : s.length ≤ 1000) (h1 : 1 ≤ s.length) (hw : w.length < 1000000) : M_ref11_Find s w = some (findS s w) := by
  unfold M_ref11_Find findS
  have hl := partsN_len w
  rw [rparts_eq w hw, bind_some']
  cases h : (partsN w).2 with
  | false => rfl
  | true =>
    rw [Bool.not_true, cond_false, rdown_eq s _ hs h1 (by omega), bind_some', if_pos rfl]
theorem rplace_eq (s : List Nod) (w : Str) (hs : s.length ≤ 1000) (h1 : 1 ≤ s.length) (hw : w.length < 1000000) : M_ref11_Place s w = some (placeS s w) := by
  unfold M_ref11_Place placeS
  have hl := partsN_len w
  rw [rparts_eq w hw, bind_some']
  cases h : (partsN w).2 with
  | false => simp
  | true =>
    cases hp : (partsN w).1 with
    | nil => simp
    | cons x r =>
      rw [hp, List.length_cons] at hl
      have e0 : (((x :: r).length : Int) == 0) = false := by simp; omega
      have e1 : w64 (((x :: r).length : Int) - 1) = (r.length : Int) := by rw [List.length_cons]; exact w64_pred (by omega)
      have e2 : slL (x :: r) 0 (r.length : Int) = some (x :: r).dropLast := by
        rw [slL_to (by simp), List.dropLast_eq_take]; simp
      have e3 : getI (x :: r) (r.length : Int) = some ((x :: r).getLastD []) := by
        rw [getI_nat, List.getLastD_eq_getLast?, List.getLast?_eq_getElem?]; simp
      have hlen : (x :: r).dropLast.length ≤ 100000 := by simp; omega
      have hr := downS_range h1 (x :: r).dropLast 0 ⟨Int.le_refl _, by omega⟩
      rw [e0, Bool.not_true, Bool.or_self, cond_false]
      simp only [e1, e2, e3, bind_some', rdown_eq s _ hs h1 hlen, Bool.true_eq_false, false_or, List.cons_ne_nil, if_false]
      rw [decide_eq_false (show ¬ (downS s (x :: r).dropLast 0).1 ≥ (s.length : Int) by omega)]
      simp only [bFF, gd_true, getI_nd hr.1 hr.2, bind_some', Bool.false_or]
      by_cases q : (downS s (x :: r).dropLast 0).2 = 0
      · have : ((downS s (x :: r).dropLast 0).2 != 0) = false := by simp [q]
        rw [this, cond_false, if_neg (fun e => e q)]
        by_cases k2 : (nd s (downS s (x :: r).dropLast 0).1).Kind = 2
        · have e1 : ((nd s (downS s (x :: r).dropLast 0).1).Kind != 2) = false := by simp [k2]
          rw [e1, cond_false, if_neg (fun q => q k2)]
        · have e1 : ((nd s (downS s (x :: r).dropLast 0).1).Kind != 2) = true := by simp [k2]
          rw [e1, cond_true, if_pos k2]
      · have : ((downS s (x :: r).dropLast 0).2 != 0) = true := by simp [q]
        rw [this, cond_true, if_pos q]
/-! ## Within -/
def thereB (s : List Nod) (n : Int) : Bool := decide (0 ≤ n ∧ n < s.length) && ((nd s n).Kind != 0)
theorem rthere_eq (s : List Nod) (n : Int) : M_ref11_there s n = some (thereB s n) := by
  unfold M_ref11_there thereB
  by_cases h : 0 ≤ n ∧ n < s.length
  · rw [decide_eq_true (show n ≥ 0 from h.1), decide_eq_true h.2, decide_eq_true h, Bool.and_self, bTT, gd_true, getI_nd h.1 h.2, bind_some']
  · rw [decide_eq_false h]
    have : (decide (n ≥ 0) && decide (n < (s.length : Int))) = false := by simp; intro a; omega
    rw [this, bFT, gd_false, bind_some']
    rfl
def climbTo (s : List Nod) (top : Int) : Nat → Int → Int
  | 0, n => n
  | k + 1, n => if n = top ∨ n = 0 then n else climbTo s top k (nd s n).Up
def withinS (s : List Nod) (n top : Int) : Bool := thereB s n && (thereB s top && (climbTo s top s.length n == top))
/-- Who lies in whom is told of numbers that are there. -/
def UpOk (s : List Nod) : Prop := ∀ n : Int, 0 ≤ n → n < s.length → 0 ≤ (nd s n).Up ∧ (nd s n).Up < s.length
theorem rwithin_l1 (s : List Nod) (hs : s.length ≤ 1000) (hu : UpOk s) (top : Int) : ∀ (k j f : Nat) (n : Int), j + k = s.length → k < f → 0 ≤ n ∧ n < s.length → M_ref11_Within_l1 s top f n (j : Int) = some (climbTo s top k n == top) := by
  intro k
  induction k with
  | zero =>
    intro j f n hj hf hn
    obtain ⟨f, rfl⟩ : ∃ x, f = x + 1 := ⟨f - 1, by omega⟩
    rw [M_ref11_Within_l1, decide_eq_false (by omega)]
    rfl
  | succ k ih =>
    intro j f n hj hf hn
    obtain ⟨f, rfl⟩ : ∃ x, f = x + 1 := ⟨f - 1, by omega⟩
    rw [M_ref11_Within_l1, decide_eq_true (by omega), Bool.true_and, climbTo]
    by_cases h : n = top ∨ n = 0
    · have : ((n != top) && (n != 0)) = false := by rcases h with h | h <;> simp [h]
      rw [this, cond_false, if_pos h]
    · have : ((n != top) && (n != 0)) = true := by simp; exact ⟨fun e => h (.inl e), fun e => h (.inr e)⟩
      rw [this, cond_true, if_neg h, getI_nd hn.1 hn.2, bind_some', w64_succ (by omega)]
      exact ih (j + 1) f _ (by omega) (by omega) (hu n hn.1 hn.2)
theorem rwithin_eq (s : List Nod) (hs : s.length ≤ 1000) (hu : UpOk s) (n top : Int) : M_ref11_Within s n top = some (withinS s n top) := by
  unfold M_ref11_Within withinS
  rw [rthere_eq, bind_some', rthere_eq]
  cases h : thereB s n with
  | false => rfl
  | true =>
    rw [Bool.not_true, bFF, gd_true, bind_some', Bool.false_or, Bool.true_and]
    cases h2 : thereB s top with
    | false => rfl
    | true =>
      have : 0 ≤ n ∧ n < s.length := by unfold thereB at h; simp at h; exact ⟨h.1.1, h.1.2⟩
      rw [Bool.not_true, cond_false, Bool.true_and]
      exact rwithin_l1 s hs hu top s.length 0 fuel n (by omega) (by unfold fuel; omega) this
/-! ## Changes -/
theorem rwith_eq (s : List Nod) (n : Int) (x : Nod) (hs : s.length ≤ 1000) (hn : 0 ≤ n ∧ n < s.length) : M_ref11_with s n x = some (s.set n.toNat x) := by
  unfold M_ref11_with
  rw [appL_eq (by simp; omega), bind_some', List.nil_append, decide_eq_true (show n ≥ 0 from hn.1), decide_eq_true hn.2, Bool.and_self, cond_true, getI_nd hn.1 hn.2, bind_some', setI_pos hn.1 (by omega), bind_some']
  rfl
def makeS (s : List Nod) (w : Str) (k : Int) : List Nod × Int :=
  if k ≠ 1 ∧ k ≠ 2 then (s, 1) else if (placeS s w).2.2 ≠ 0 then (s, (placeS s w).2.2) else
  if (kidS s (placeS s w).1 (placeS s w).2.1).2 = true then (s, 3) else if (freeS s).2 = false then (s, 8) else
  (s.set (freeS s).1.toNat ⟨k, (placeS s w).1, (placeS s w).2.1, [], 0⟩, 0)
theorem bneF {a b : Int} (h : a = b) : (a != b) = false := by simp [h]
theorem bneT {a b : Int} (h : a ≠ b) : (a != b) = true := by simp [h]
theorem beqT {a b : Int} (h : a = b) : (a == b) = true := by simp [h]
theorem beqF {a b : Int} (h : a ≠ b) : (a == b) = false := by simp [h]
theorem rmake_eq (s : List Nod) (w : Str) (k : Int) (hs : s.length ≤ 1000) (h1 : 1 ≤ s.length) (hw : w.length < 1000000) : M_ref11_Make s w k = some (makeS s w k) := by
  unfold M_ref11_Make makeS
  have hfr := (freeS_spec s).1
  simp only [rplace_eq s w hs h1 hw, bind_some', rkid_eq s _ _ hs h1, rfree_eq s (by omega)]
  by_cases c1 : k ≠ 1 ∧ k ≠ 2
  · rw [bneT c1.1, bneT c1.2, if_pos c1]; rfl
  · have : ((k != 1) && (k != 2)) = false := by
      by_cases a : k = 1
      · rw [bneF a]; rfl
      · by_cases b : k = 2
        · rw [bneF b, Bool.and_false]
        · exact absurd ⟨a, b⟩ c1
    rw [this, cond_false, if_neg c1]
    by_cases c2 : (placeS s w).2.2 = 0
    · rw [bneF c2, cond_false, if_neg (fun e => e c2)]
      cases c3 : (kidS s (placeS s w).1 (placeS s w).2.1).2 with
      | true => rfl
      | false =>
        rw [cond_false, if_neg (by simp)]
        cases c4 : (freeS s).2 with
        | false => rfl
        | true =>
          have := hfr c4
          rw [Bool.not_true, cond_false, if_neg (by simp), rwith_eq s _ _ hs ⟨this.1, this.2.1⟩, bind_some']
    · rw [bneT c2, cond_true, if_pos c2]
def dropS (s : List Nod) (w : Str) : List Nod × Int :=
  if (findS s w).2 ≠ 0 then (s, (findS s w).2) else if (findS s w).1 = 0 then (s, 4) else if kidsS s (findS s w).1 ≠ [] then (s, 6) else (s.set (findS s w).1.toNat zN, 0)
theorem findS_range {s : List Nod} (h1 : 1 ≤ s.length) (w : Str) : 0 ≤ (findS s w).1 ∧ (findS s w).1 < s.length := by
  unfold findS
  split
  · exact downS_range h1 _ 0 ⟨Int.le_refl _, by omega⟩
  · simp only; omega
theorem placeS_range {s : List Nod} (h1 : 1 ≤ s.length) (w : Str) : 0 ≤ (placeS s w).1 ∧ (placeS s w).1 < s.length := by
  unfold placeS
  split
  · simp only; omega
  · split
    · simp only; omega
    · split
      · simp only; omega
      · exact downS_range h1 _ 0 ⟨Int.le_refl _, by omega⟩
theorem rdrop_eq (s : List Nod) (w : Str) (hs : s.length ≤ 1000) (h1 : 1 ≤ s.length) (hw : w.length < 1000000) : M_ref11_Drop s w = some (dropS s w) := by
  unfold M_ref11_Drop dropS
  simp only [rfind_eq s w hs h1 hw, bind_some', rkids_eq s _ hs h1]
  by_cases c2 : (findS s w).2 = 0
  · rw [bneF c2, cond_false, if_neg (fun e => e c2)]
    by_cases c3 : (findS s w).1 = 0
    · rw [beqT c3, cond_true, if_pos c3]
    · rw [beqF c3, cond_false, if_neg c3]
      cases c4 : kidsS s (findS s w).1 with
      | nil =>
        rw [if_neg (fun q => q rfl), rwith_eq s _ _ hs (findS_range h1 w), bind_some', decide_eq_false (by simp), cond_false]
        rfl
      | cons x l =>
        rw [decide_eq_true (by rw [List.length_cons]; omega), cond_true, if_pos (by simp)]
  · rw [bneT c2, cond_true, if_pos c2]
def moveS (s : List Nod) (w v : Str) : List Nod × Int :=
  if (findS s w).2 ≠ 0 then (s, (findS s w).2) else if (findS s w).1 = 0 then (s, 4) else if (placeS s v).2.2 ≠ 0 then (s, (placeS s v).2.2) else
  if (kidS s (placeS s v).1 (placeS s v).2.1).2 = true ∧ (kidS s (placeS s v).1 (placeS s v).2.1).1 = (findS s w).1 then (s, 0) else
  if (kidS s (placeS s v).1 (placeS s v).2.1).2 = true then (s, 3) else if withinS s (placeS s v).1 (findS s w).1 = true then (s, 7) else
  (s.set (findS s w).1.toNat { nd s (findS s w).1 with Up := (placeS s v).1, Name := (placeS s v).2.1 }, 0)
theorem rmove_eq (s : List Nod) (w v : Str) (hs : s.length ≤ 1000) (h1 : 1 ≤ s.length) (hu : UpOk s) (hw : w.length < 1000000) (hv : v.length < 1000000) : M_ref11_Move s w v = some (moveS s w v) := by
  unfold M_ref11_Move moveS
  have hr := findS_range h1 w
  simp only [rfind_eq s w hs h1 hw, bind_some', rplace_eq s v hs h1 hv, rkid_eq s _ _ hs h1, rwithin_eq s hs hu, getI_nd hr.1 hr.2, rwith_eq s _ _ hs hr]
  by_cases c2 : (findS s w).2 = 0
  · rw [bneF c2, cond_false, if_neg (fun e => e c2)]
    by_cases c3 : (findS s w).1 = 0
    · rw [beqT c3, cond_true, if_pos c3]
    · rw [beqF c3, cond_false, if_neg c3]
      by_cases c4 : (placeS s v).2.2 = 0
      · rw [bneF c4, cond_false, if_neg (fun e => e c4)]
        cases c5 : (kidS s (placeS s v).1 (placeS s v).2.1).2 with
        | true =>
          rw [Bool.true_and]
          by_cases c6 : (kidS s (placeS s v).1 (placeS s v).2.1).1 = (findS s w).1
          · rw [beqT c6, cond_true, if_pos ⟨rfl, c6⟩]
          · rw [beqF c6, cond_false, if_neg (fun q => c6 q.2)]; rfl
        | false =>
          rw [Bool.false_and, cond_false, cond_false, if_neg (fun q => by cases q.1), if_neg (by simp)]
          cases c7 : withinS s (placeS s v).1 (findS s w).1 <;> rfl
      · rw [bneT c4, cond_true, if_pos c4]
  · rw [bneT c2, cond_true, if_pos c2]
end Go.Proofs

/-
  Numbers of made ones.
-/
set_option maxRecDepth 20000
namespace Go.Proofs
open Go Go.Fhl
set_option linter.unusedVariables false
set_option linter.unusedSimpArgs false
def WfP (p : G_palimpmade_Picks) : Prop := 0 ≤ p.n ∧ p.n ≤ p.l.length ∧ p.l.length < 1000000
theorem num_ok (p : G_palimpmade_Picks) (h : WfP p) (m : Int) (hm : 1 ≤ m) : ∃ x q, M_made_Picks_Num p m = some (x, q) ∧ WfP q ∧ 0 ≤ x ∧ x < m ∧ q.l = p.l := by
  obtain ⟨h0, h1, h2⟩ := h
  unfold M_made_Picks_Num
  by_cases q : p.n ≥ (p.l.length : Int)
  · exact ⟨0, p, by simp [q], ⟨h0, h1, h2⟩, Int.le_refl _, by omega, rfl⟩
  · obtain ⟨n, hn⟩ : ∃ n : Nat, p.n = n := ⟨p.n.toNat, by omega⟩
    have hlt : n < p.l.length := by omega
    have e1 : w64 (p.n + 1) = ((n + 1 : Nat) : Int) := by rw [hn, w64_succ (by omega)]
    have e2 : w64 (((n + 1 : Nat) : Int) - 1) = (n : Int) := w64_pred (by omega)
    refine ⟨((p.l[n].toNat : Int).tmod m), ⟨p.l, ((n + 1 : Nat) : Int)⟩, ?_, ⟨by show (0 : Int) ≤ ((n + 1 : Nat) : Int); omega, by show ((n + 1 : Nat) : Int) ≤ (p.l.length : Int); omega, h2⟩, ?_, ?_, rfl⟩
    · rw [decide_eq_false q, decide_eq_false (by omega), e1, e2, getI_lt hlt]
      simp only [Bool.or_false, cond_false, bind_some']
      unfold remI
      rw [if_neg (by omega)]; rfl
    · exact Int.tmod_nonneg _ (by omega)
    · exact Int.tmod_lt_of_pos _ (by omega)
end Go.Proofs

/-
  The laws of names, on the models.
-/
set_option maxRecDepth 20000
namespace Go.Proofs
open Go Go.Fhl
set_option linter.unusedVariables false
set_option linter.unusedSimpArgs false
def ways15 : List Str := [([97] : Str), ([98] : Str), ([99] : Str), ([97, 47, 98] : Str), ([97, 47, 99] : Str), ([98, 47, 97] : Str), ([97, 47, 98, 47, 99] : Str), ([100] : Str), ([99, 47, 100] : Str), [], ([47, 97] : Str), ([97, 47, 47, 98] : Str), ([116, 111, 111, 108, 111, 110, 103, 110, 97, 109, 101] : Str), ([65] : Str), ([46, 46] : Str)]
theorem ways15_small : ∀ x ∈ ways15, x.length ≤ 11 ∧ (splitS x).length ≤ 3 := by
  have : ways15.all (fun x => decide (x.length ≤ 11) && decide ((splitS x).length ≤ 3)) = true := by decide +kernel
  intro x hx
  have := List.all_eq_true.1 this x hx
  simpa using this
theorem path_ok (p : G_palimpmade_Picks) (h : WfP p) : ∃ x q, M_made_Picks_Path p = some (x, q) ∧ WfP q ∧ x ∈ ways15 := by
  obtain ⟨x, q, e, w, h1, h2, _⟩ := num_ok p h 15 (by omega)
  unfold M_made_Picks_Path
  rw [e, bind_some']
  obtain ⟨k, rfl⟩ : ∃ k : Nat, x = k := ⟨x.toNat, by omega⟩
  have hk : k < ways15.length := by show k < 15; omega
  refine ⟨ways15[k], q, ?_, w, List.getElem_mem _⟩
  show Option.bind (getI ways15 (k : Int)) _ = _
  rw [getI_lt hk, bind_some']
def five : List Str := [([97] : Str), ([98, 46, 99] : Str), ([46, 46, 46] : Str), ([120, 45, 121, 95, 122] : Str), ([49, 50, 51, 52, 53, 54, 55, 56] : Str)]
theorem partsN_all (s : Str) : (partsN s).1.all mayN = true := by
  unfold partsN
  split
  · rfl
  · split
    · rfl
    · split
      · assumption
      · rfl
end Go.Proofs

/-
  Sets of nodes that may be, and that they stay so, whatever is done.
-/
set_option maxRecDepth 20000
namespace Go.Proofs
open Go Go.Fhl
set_option linter.unusedVariables false
set_option linter.unusedSimpArgs false
/-- A node that may be, but for the others. -/
structure NodOk (s : List Nod) (x : Nod) : Prop where
  live : x.Kind = 1 ∨ x.Kind = 2
  bad : x.Bad = 0
  name : mayN x.Name = true
  body : x.Body.length ≤ 128
  nobody : x.Kind = 2 → x.Body = []
  up : 0 ≤ x.Up ∧ x.Up < 8 ∧ (nd s x.Up).Kind = 2
structure SetOk (s : List Nod) : Prop where
  len : s.length = 8
  root : nd s 0 = rootN
  nod : ∀ i : Int, 1 ≤ i → i < 8 → nd s i = zN ∨ NodOk s (nd s i)
  uniq : ∀ i k : Int, 1 ≤ i → i < 8 → 1 ≤ k → k < 8 → i ≠ k → (nd s i).Kind ≠ 0 → (nd s k).Kind ≠ 0 → (nd s i).Up = (nd s k).Up → (nd s i).Name ≠ (nd s k).Name
  rank : ∃ d : Int → Nat, ∀ i : Int, 1 ≤ i → i < 8 → (nd s i).Kind ≠ 0 → d (nd s i).Up < d i
theorem SetOk.upOk {s : List Nod} (h : SetOk s) : UpOk s := by
  intro n h0 h1
  rw [h.len] at h1 ⊢
  by_cases e : n = 0
  · subst e; rw [h.root]; decide
  · rcases h.nod n (by omega) (by omega) with q | q
    · rw [q]; decide
    · exact ⟨q.up.1, by have := q.up.2.1; omega⟩
theorem SetOk.kind {s : List Nod} (h : SetOk s) (i : Int) (h0 : 0 ≤ i) (h1 : i < 8) : (nd s i).Kind = 0 ∨ (nd s i).Kind = 1 ∨ (nd s i).Kind = 2 := by
  by_cases e : i = 0
  · subst e; rw [h.root]; exact .inr (.inr rfl)
  · rcases h.nod i (by omega) (by omega) with q | q
    · rw [q]; exact .inl rfl
    · exact .inr q.live
theorem SetOk.ok {s : List Nod} (h : SetOk s) {i : Int} (h0 : 1 ≤ i) (h1 : i < 8) (hk : (nd s i).Kind ≠ 0) : NodOk s (nd s i) :=
  (h.nod i h0 h1).resolve_left fun q => hk (by rw [q]; rfl)
theorem mem_nd {s : List Nod} {x : Nod} (h : x ∈ s) : ∃ i : Int, 0 ≤ i ∧ i < s.length ∧ nd s i = x := by
  obtain ⟨j, hj, rfl⟩ := List.mem_iff_getElem.1 h
  exact ⟨j, by omega, by omega, by rw [nd_nat]; simp [hj]⟩
theorem SetOk.lost {s : List Nod} (h : SetOk s) : lostS s = false := by
  unfold lostS
  rw [List.any_eq_false]
  intro x hx
  obtain ⟨i, h0, h1, rfl⟩ := mem_nd hx
  have := h.kind i h0 (by rw [h.len] at h1; omega)
  simp; omega
/-- Kids are nodes. -/
theorem SetOk.kid {s : List Nod} (h : SetOk s) {n k : Int} : k ∈ kidsS s n ↔ (1 ≤ k ∧ k < 8 ∧ (nd s k).Kind ≠ 0 ∧ (nd s k).Up = n) := by
  rw [kidsS_mem, h.len]
  unfold isKid liveB
  constructor
  · rintro ⟨h1, h2, h3⟩
    simp at h3
    exact ⟨h1, h2, by omega, h3.2⟩
  · rintro ⟨h1, h2, h3, h4⟩
    refine ⟨h1, h2, ?_⟩
    have := h.kind k (by omega) h2
    simp [h4]; omega
theorem kidS_of {s : List Nod} (h : SetOk s) {n k : Int} {x : Str} (h1 : 1 ≤ k) (h2 : k < 8) (h3 : (nd s k).Kind ≠ 0) (h4 : (nd s k).Up = n) (h5 : (nd s k).Name = x) : kidS s n x = (k, true) := by
  cases hq : (kidS s n x).2 with
  | false => exact absurd h5 ((kidS_none hq).2 k (h.kid.2 ⟨h1, h2, h3, h4⟩))
  | true =>
    obtain ⟨a, b⟩ := kidS_some hq
    obtain ⟨a1, a2, a3, a4⟩ := h.kid.1 a
    have : (kidS s n x).1 = k := by
      refine Classical.byContradiction fun e => ?_
      exact h.uniq _ _ a1 a2 h1 h2 e a3 h3 (by rw [a4, h4]) (by rw [b, h5])
    rw [← this, ← hq]
theorem kidS_not {s : List Nod} (h : SetOk s) {n : Int} {x : Str} (hq : (kidS s n x).2 = false) : ∀ k : Int, 1 ≤ k → k < 8 → (nd s k).Kind ≠ 0 → (nd s k).Up = n → (nd s k).Name ≠ x :=
  fun k h1 h2 h3 h4 => (kidS_none hq).2 k (h.kid.2 ⟨h1, h2, h3, h4⟩)
/-- Where a name is placed: a folder that is there, and a name that may be. -/
theorem place_ok {s : List Nod} (h : SetOk s) {w : Str} (hp : (placeS s w).2.2 = 0) : 0 ≤ (placeS s w).1 ∧ (placeS s w).1 < 8 ∧ (nd s (placeS s w).1).Kind = 2 ∧ mayN (placeS s w).2.1 = true := by
  have hr := placeS_range (s := s) (by rw [h.len]; omega) w
  rw [h.len] at hr
  refine ⟨hr.1, by omega, ?_⟩
  unfold placeS at hp ⊢
  split at hp
  · cases hp
  · rename_i q1
    split at hp
    · rename_i q2; exact absurd hp q2
    · rename_i q2
      split at hp
      · cases hp
      · rename_i q3
        rw [if_neg q1, if_neg q2, if_neg q3]
        refine ⟨Decidable.of_not_not q3, ?_⟩
        have hall := partsN_all w
        have hne : (partsN w).1 ≠ [] := fun e => q1 (.inr e)
        have : (partsN w).1.getLastD [] ∈ (partsN w).1 := by
          rw [List.getLastD_eq_getLast?, List.getLast?_eq_some_getLast hne]
          exact List.getLast_mem hne
        exact List.all_eq_true.1 hall _ this
/-- A free number is not the root's. -/
theorem free_ok {s : List Nod} (h : SetOk s) (hf : (freeS s).2 = true) : 1 ≤ (freeS s).1 ∧ (freeS s).1 < 8 ∧ (nd s (freeS s).1).Kind = 0 := by
  obtain ⟨a, b, c⟩ := (freeS_spec s).1 hf
  rw [h.len] at b
  refine ⟨?_, by omega, c⟩
  by_cases e : (freeS s).1 = 0
  · rw [e, h.root] at c; cases c
  · omega
/-- One node becomes another one, of the same kind: a folder stays a folder. -/
theorem set_ok {s : List Nod} (h : SetOk s) {n : Int} {x : Nod} (h1 : 1 ≤ n) (h2 : n < 8) (hx : x = zN ∨ NodOk s x) (hfold : (nd s n).Kind = 2 → x.Kind = 2 ∨ ∀ k : Int, 1 ≤ k → k < 8 → (nd s k).Kind ≠ 0 → (nd s k).Up ≠ n)
    (hself : x.Kind ≠ 0 → x.Up ≠ n) (huniq : x.Kind ≠ 0 → ∀ k : Int, 1 ≤ k → k < 8 → k ≠ n → (nd s k).Kind ≠ 0 → (nd s k).Up = x.Up → (nd s k).Name ≠ x.Name)
    (hrank : ∃ d : Int → Nat, (∀ i : Int, 1 ≤ i → i < 8 → i ≠ n → (nd s i).Kind ≠ 0 → d (nd s i).Up < d i) ∧ (x.Kind ≠ 0 → d x.Up < d n)) : SetOk (s.set n.toNat x) := by
  have hl : n < s.length := by rw [h.len]; omega
  have hn : ∀ j : Int, 0 ≤ j → nd (s.set n.toNat x) j = if j = n then x else nd s j := fun j hj => nd_set (by omega) hl hj
  have hfk : ∀ j : Int, 0 ≤ j → j ≠ n → (nd s j).Kind = 2 → (nd (s.set n.toNat x) j).Kind = 2 := fun j hj e q => by rw [hn j hj, if_neg e]; exact q
  have hok : ∀ y : Nod, (y.Up = n → x.Kind = 2) → NodOk s y → NodOk (s.set n.toNat x) y := fun y hy q =>
    ⟨q.live, q.bad, q.name, q.body, q.nobody, q.up.1, q.up.2.1, by
      by_cases e : y.Up = n
      · rw [hn _ q.up.1, if_pos e]; exact hy e
      · exact hfk _ q.up.1 e q.up.2.2⟩
  refine ⟨by rw [List.length_set, h.len], by rw [hn 0 (by omega), if_neg (by omega), h.root], fun i hi1 hi2 => ?_, fun i k a1 a2 b1 b2 hne hi hk hu => ?_, ?_⟩
  · rw [hn i (by omega)]
    by_cases e : i = n
    · rw [if_pos e]
      rcases hx with q | q
      · exact .inl q
      · exact .inr (hok x (fun e2 => absurd e2 (hself (by have := q.live; omega))) q)
    · rw [if_neg e]
      rcases h.nod i hi1 hi2 with q | q
      · exact .inl q
      · refine .inr (hok _ (fun e2 => ?_) q)
        have hk2 : (nd s n).Kind = 2 := by rw [← e2]; exact q.up.2.2
        rcases hfold hk2 with r | r
        · exact r
        · exact absurd e2 (r i hi1 hi2 (by have := q.live; omega))
  · rw [hn i (by omega)] at hi hu ⊢
    rw [hn k (by omega)] at hk hu ⊢
    by_cases e : i = n
    · have e' : k ≠ n := fun q => hne (by rw [e, q])
      simp only [if_pos e, if_neg e'] at hi hk hu ⊢
      exact fun q => huniq hi k b1 b2 e' hk hu.symm q.symm
    · by_cases e' : k = n
      · simp only [if_neg e, if_pos e'] at hi hk hu ⊢
        exact huniq hk i a1 a2 e hi hu
      · simp only [if_neg e, if_neg e'] at hi hk hu ⊢
        exact h.uniq i k a1 a2 b1 b2 hne hi hk hu
  · obtain ⟨d, d1, d2⟩ := hrank
    refine ⟨d, fun i hi1 hi2 hi => ?_⟩
    rw [hn i (by omega)] at hi ⊢
    by_cases e : i = n
    · simp only [if_pos e] at hi ⊢
      rw [e]; exact d2 hi
    · simp only [if_neg e] at hi ⊢
      exact d1 i hi1 hi2 e hi
/-! ## Making -/
theorem make_ok {s : List Nod} (h : SetOk s) (w : Str) (k : Int) : SetOk (makeS s w k).1 := by
  unfold makeS
  split
  · exact h
  · rename_i c1
    split
    · exact h
    · rename_i c2
      split
      · exact h
      · rename_i c3
        split
        · exact h
        · rename_i c4
          have c2' : (placeS s w).2.2 = 0 := Decidable.of_not_not c2
          obtain ⟨p1, p2, p3, p4⟩ := place_ok h c2'
          obtain ⟨f1, f2, f3⟩ := free_ok h (by simpa using c4)
          have hk : k = 1 ∨ k = 2 := by omega
          have hup : (placeS s w).1 ≠ (freeS s).1 := fun e => by rw [e, f3] at p3; cases p3
          obtain ⟨d, hd⟩ := h.rank
          refine set_ok h f1 f2 (.inr ⟨hk, rfl, p4, by simp, fun _ => rfl, p1, p2, p3⟩) (fun e => by rw [f3] at e; cases e) (fun _ => hup)
            (fun _ k' a1 a2 a3 a4 a5 => kidS_not h (by simpa using c3) k' a1 a2 a4 a5) ⟨fun i => if i = (freeS s).1 then d (placeS s w).1 + 1 else d i, fun i a1 a2 a3 a4 => ?_, fun _ => ?_⟩
          · have : (nd s i).Up ≠ (freeS s).1 := fun e => by
              have := (h.ok a1 a2 a4).up.2.2
              rw [e, f3] at this; cases this
            simp only [if_neg a3, if_neg this]
            exact hd i a1 a2 a4
          · simp only [if_neg hup, if_pos]
            exact Nat.lt_succ_self _
theorem drop_ok {s : List Nod} (h : SetOk s) (w : Str) : SetOk (dropS s w).1 := by
  unfold dropS
  split
  · exact h
  · split
    · exact h
    · rename_i c1
      split
      · exact h
      · rename_i c2
        have hr := findS_range (s := s) (by rw [h.len]; omega) w
        rw [h.len] at hr
        have c2' : kidsS s (findS s w).1 = [] := Decidable.of_not_not c2
        obtain ⟨d, hd⟩ := h.rank
        refine set_ok h (by omega) (by omega) (.inl rfl) (fun _ => .inr fun k a1 a2 a3 a4 => ?_) (fun q => absurd rfl q) (fun q => absurd rfl q) ⟨d, fun i a1 a2 _ a4 => hd i a1 a2 a4, fun q => absurd rfl q⟩
        have := h.kid.2 ⟨a1, a2, a3, a4⟩
        rw [c2'] at this; cases this
end Go.Proofs

/-
  Sets of nodes that may be: moving, writing, cutting; how deep nodes lie.
-/
set_option maxRecDepth 20000
namespace Go.Proofs
open Go Go.Fhl
set_option linter.unusedVariables false
set_option linter.unusedSimpArgs false
/-! ## How deep -/
theorem countP_lt {α : Type} {p q : α → Bool} (h : ∀ x, p x = true → q x = true) {y : α} (hq : q y = true) (hp : p y = false) : ∀ l : List α, y ∈ l → l.countP p < l.countP q := by
  have hle : ∀ l : List α, l.countP p ≤ l.countP q := fun l => List.countP_mono_left fun x _ => h x
  intro l
  induction l with
  | nil => intro hy; cases hy
  | cons x l ih =>
    intro hy
    rw [List.countP_cons, List.countP_cons]
    rcases List.mem_cons.1 hy with rfl | hy
    · rw [hp, hq]; have := hle l; simp; omega
    · have := ih hy
      cases hpx : p x with
      | true => rw [h x hpx]; simp; omega
      | false =>
        simp only [Bool.false_eq_true, if_false]
        split <;> omega
def eight : List Int := [0, 1, 2, 3, 4, 5, 6, 7]
theorem mem_eight {i : Int} : i ∈ eight ↔ 0 ≤ i ∧ i < 8 := by
  unfold eight
  simp only [List.mem_cons, List.not_mem_nil, or_false]; omega
theorem SetOk.rank7 {s : List Nod} (h : SetOk s) : ∃ d : Int → Nat, (∀ i : Int, 0 ≤ i → i < 8 → d i ≤ 7) ∧ ∀ i : Int, 1 ≤ i → i < 8 → (nd s i).Kind ≠ 0 → d (nd s i).Up < d i := by
  obtain ⟨d, hd⟩ := h.rank
  refine ⟨fun i => eight.countP (fun j => decide (d j < d i)), fun i h0 h1 => ?_, fun i h1 h2 hk => ?_⟩
  · have := countP_lt (p := fun j => decide (d j < d i)) (q := fun _ => true) (fun _ _ => rfl) (y := i) rfl (by simp) eight (mem_eight.2 ⟨h0, h1⟩)
    have e : eight.countP (fun _ => true) = 8 := by decide
    show eight.countP (fun j => decide (d j < d i)) ≤ 7
    omega
  · have hlt := hd i h1 h2 hk
    have hu := (h.ok h1 h2 hk).up
    exact countP_lt (fun x hx => by simp at hx ⊢; omega) (y := (nd s i).Up) (by simp; exact hlt) (by simp) eight (mem_eight.2 ⟨hu.1, hu.2.1⟩)
/-- One that is there. -/
def Here (s : List Nod) (i : Int) : Prop := 0 ≤ i ∧ i < 8 ∧ (nd s i).Kind ≠ 0
theorem SetOk.here0 {s : List Nod} (h : SetOk s) : Here s 0 := ⟨by omega, by omega, by rw [h.root]; decide⟩
theorem SetOk.hereUp {s : List Nod} (h : SetOk s) {i : Int} (hi : Here s i) : Here s (nd s i).Up := by
  by_cases e : i = 0
  · subst e; rw [h.root]; exact h.here0
  · have := (h.ok (by have := hi.1; omega) hi.2.1 hi.2.2).up
    exact ⟨this.1, this.2.1, by rw [this.2.2]; decide⟩
theorem climb_stable {s : List Nod} (h : SetOk s) (t : Int) {d : Int → Nat} (hd : ∀ i : Int, 1 ≤ i → i < 8 → (nd s i).Kind ≠ 0 → d (nd s i).Up < d i) : ∀ (k : Nat) (i : Int), Here s i → d i ≤ k → climbTo s t (k + 1) i = climbTo s t k i := by
  intro k
  induction k with
  | zero =>
    intro i hi hk
    have : i = 0 := by
      refine Classical.byContradiction fun e => ?_
      have := hd i (by have := hi.1; omega) hi.2.1 hi.2.2
      omega
    subst this
    show (if (0 : Int) = t ∨ (0 : Int) = 0 then (0 : Int) else _) = 0
    rw [if_pos (.inr rfl)]
  | succ k ih =>
    intro i hi hk
    rw [climbTo]; conv => rhs; rw [climbTo]
    by_cases e : i = t ∨ i = 0
    · rw [if_pos e, if_pos e]
    · rw [if_neg e, if_neg e]
      have := hd i (by have := hi.1; omega) hi.2.1 hi.2.2
      exact ih _ (h.hereUp hi) (by omega)
/-- Lies it in one? -/
def inB (s : List Nod) (i t : Int) : Bool := climbTo s t 8 i == t
theorem inB_self (s : List Nod) (t : Int) : inB s t t = true := by unfold inB; rw [climbTo, if_pos (.inl rfl)]; simp
theorem inB_up {s : List Nod} (h : SetOk s) {i t : Int} (hi : Here s i) (ht : i ≠ t) (h0 : i ≠ 0) : inB s i t = inB s (nd s i).Up t := by
  obtain ⟨d, d1, d2⟩ := h.rank7
  unfold inB
  have e : climbTo s t 8 i = climbTo s t 7 (nd s i).Up := by rw [climbTo, if_neg (fun q => q.elim ht h0)]
  have hu := h.hereUp hi
  have hl := d2 i (by have := hi.1; omega) hi.2.1 hi.2.2
  have := d1 i hi.1 hi.2.1
  rw [e, ← climb_stable h t d2 7 _ hu (by omega)]
theorem within_inB {s : List Nod} (h : SetOk s) {i t : Int} (hi : Here s i) (ht : Here s t) : withinS s i t = inB s i t := by
  unfold withinS inB thereB
  rw [h.len]
  have e1 : decide (0 ≤ i ∧ i < ((8 : Nat) : Int)) = true := decide_eq_true ⟨hi.1, hi.2.1⟩
  have e2 : decide (0 ≤ t ∧ t < ((8 : Nat) : Int)) = true := decide_eq_true ⟨ht.1, ht.2.1⟩
  rw [e1, e2, bneT hi.2.2, bneT ht.2.2]
  simp
/-- What is found is there. -/
theorem down_here {s : List Nod} (h : SetOk s) : ∀ (l : List Str) (a : Int), Here s a → (downS s l a).2 = 0 → Here s (downS s l a).1 := by
  intro l
  induction l with
  | nil => intro a ha _; exact ha
  | cons x l ih =>
    intro a ha he
    rw [downS] at he ⊢
    split at he
    · cases he
    · rename_i q
      rw [if_neg q]
      split at he
      · rename_i q2
        rw [if_pos q2]
        obtain ⟨b, c⟩ := kidS_some q2
        obtain ⟨b1, b2, b3, b4⟩ := h.kid.1 b
        exact ih _ ⟨by omega, b2, b3⟩ he
      · split at he <;> cases he
theorem find_here {s : List Nod} (h : SetOk s) {w : Str} (he : (findS s w).2 = 0) : Here s (findS s w).1 := by
  unfold findS at he ⊢
  split at he
  · rename_i q; rw [if_pos q]; exact down_here h _ _ h.here0 he
  · cases he
theorem Here.folder {s : List Nod} {i : Int} (h0 : 0 ≤ i) (h1 : i < 8) (h2 : (nd s i).Kind = 2) : Here s i := ⟨h0, h1, by rw [h2]; decide⟩
/-! ## Moving -/
theorem move_ok {s : List Nod} (h : SetOk s) (w v : Str) : SetOk (moveS s w v).1 := by
  unfold moveS
  split
  · exact h
  · rename_i c1
    have c1' : (findS s w).2 = 0 := Decidable.of_not_not c1
    split
    · exact h
    · rename_i c2
      split
      · exact h
      · rename_i c3
        have c3' : (placeS s v).2.2 = 0 := Decidable.of_not_not c3
        split
        · exact h
        · split
          · exact h
          · rename_i c5
            split
            · exact h
            · rename_i c6
              obtain ⟨p1, p2, p3, p4⟩ := place_ok h c3'
              have hn := find_here h c1'
              generalize hnn : (findS s w).1 = n at *
              have n1 : 1 ≤ n := by have := hn.1; omega
              have hu := Here.folder p1 p2 p3
              rw [within_inB h hu hn] at c6
              have c6' : inB s (placeS s v).1 n = false := by simpa using c6
              have hq := h.ok n1 hn.2.1 hn.2.2
              have hne : (placeS s v).1 ≠ n := fun e => by rw [e, inB_self] at c6'; cases c6'
              obtain ⟨d, hd⟩ := h.rank
              refine set_ok h n1 hn.2.1 (.inr ⟨hq.live, hq.bad, p4, hq.body, hq.nobody, p1, p2, p3⟩) (fun e => .inl e) (fun _ => hne) (fun _ k a1 a2 a3 a4 a5 => kidS_not h (by simpa using c5) k a1 a2 a4 a5)
                ⟨fun i => if inB s i n = true then d i + d (placeS s v).1 + 1 else d i, fun i a1 a2 a3 a4 => ?_, fun _ => ?_⟩
              · have hi : Here s i := ⟨by omega, a2, a4⟩
                have := hd i a1 a2 a4
                simp only [inB_up h hi a3 (by omega)]
                split <;> omega
              · simp only [c6', inB_self, if_true, Bool.false_eq_true, if_false]; omega
/-! ## Files -/
def fileS (s : List Nod) (w : Str) : Int × Int := if (findS s w).2 = 0 ∧ (nd s (findS s w).1).Kind = 2 then (0, 4) else findS s w
theorem rfile_eq (s : List Nod) (w : Str) (hs : s.length ≤ 1000) (h1 : 1 ≤ s.length) (hw : w.length < 1000000) : M_ref11_file s w = some (fileS s w) := by
  unfold M_ref11_file fileS
  have hr := findS_range h1 w
  rw [rfind_eq s w hs h1 hw, bind_some']
  by_cases c : (findS s w).2 = 0
  · rw [beqT c, bTT, gd_true, getI_nd hr.1 hr.2, bind_some', Bool.true_and]
    by_cases k : (nd s (findS s w).1).Kind = 2
    · rw [beqT k, cond_true, if_pos ⟨c, k⟩]
    · rw [beqF k, cond_false, if_neg (fun q => k q.2)]
  · rw [beqF c, bFT, gd_false, bind_some', Bool.false_and, cond_false, if_neg (fun q => c q.1)]
def longS (b : Str) (n : Nat) : Str := b.take n ++ zeros (n - b.length)
theorem longS_length (b : Str) (n : Nat) : (longS b n).length = n := by unfold longS; rw [List.length_append, zeros_length, List.length_take]; omega
theorem copyL_zeros (b : Str) (n : Nat) : copyL (List.replicate n 0) 0 b = longS b n := by
  unfold copyL longS zeros
  simp only [List.take_zero, List.nil_append, List.length_replicate, Nat.sub_zero, Nat.zero_add, List.drop_replicate]
  have : b.take (min b.length n) = b.take n := by
    rcases Nat.le_total b.length n with q | q
    · rw [Nat.min_eq_left q, List.take_length, List.take_of_length_le q]
    · rw [Nat.min_eq_right q]
  rw [this]; congr 2; omega
theorem rlong_eq (b : Str) (n : Nat) (hn : n ≤ 100000) : M_ref11_long b (n : Int) = some (longS b n) := by
  unfold M_ref11_long
  rw [makeL_nat (by omega) (by omega), bind_some', copyL_zeros]
def bodyS (b : Str) (off : Int) (t : Str) : Str := copyL (longS b (max b.length (off.toNat + t.length))) off.toNat t
def writeS (s : List Nod) (w : Str) (off : Int) (t : Str) : List Nod × Int :=
  if (fileS s w).2 ≠ 0 then (s, (fileS s w).2) else if off < 0 then (s, 1) else if off > 128 ∨ (t.length : Int) > 128 - off then (s, 8) else if t = [] then (s, 0) else
  (s.set (fileS s w).1.toNat { nd s (fileS s w).1 with Body := bodyS (nd s (fileS s w).1).Body off t }, 0)
theorem fileS_range {s : List Nod} (h1 : 1 ≤ s.length) (w : Str) : 0 ≤ (fileS s w).1 ∧ (fileS s w).1 < s.length := by
  unfold fileS
  split
  · simp only; omega
  · exact findS_range h1 w
theorem rwrite11_eq (s : List Nod) (w : Str) (off : Int) (t : Str) (hs : s.length ≤ 1000) (h1 : 1 ≤ s.length) (hw : w.length < 1000000) (hb : ∀ i : Int, 0 ≤ i → i < s.length → (nd s i).Body.length ≤ 1000) : M_ref11_Write s w off t = some (writeS s w off t) := by
  unfold M_ref11_Write writeS
  have hr := fileS_range h1 w
  simp only [rfile_eq s w hs h1 hw, bind_some', getI_nd hr.1 hr.2]
  by_cases c : (fileS s w).2 = 0
  · rw [bneF c, cond_false, if_neg (fun e => e c)]
    by_cases c2 : off < 0
    · rw [decide_eq_true c2, cond_true, if_pos c2]
    · rw [decide_eq_false c2, cond_false, if_neg c2]
      obtain ⟨k, rfl⟩ : ∃ k : Nat, off = k := ⟨off.toNat, by omega⟩
      by_cases c3 : (k : Int) > 128
      · rw [decide_eq_true c3, Bool.true_or, cond_true, if_pos (.inl c3)]
      · rw [decide_eq_false c3, Bool.false_or, w64_id (by omega) (by omega)]
        by_cases c4 : (t.length : Int) > 128 - k
        · rw [decide_eq_true c4, cond_true, if_pos (.inr c4)]
        · rw [decide_eq_false c4, cond_false, if_neg (fun q => q.elim c3 c4)]
          by_cases c5 : t = []
          · rw [if_pos c5, c5]; rfl
          · have : (t == []) = false := by simp [c5]
            have hbl := hb (fileS s w).1 hr.1 hr.2
            have e1 : max ((nd s (fileS s w).1).Body.length : Int) (w64 ((k : Int) + (t.length : Int))) = ((max (nd s (fileS s w).1).Body.length (k + t.length) : Nat) : Int) := by
              rw [w64_id (by omega) (by omega)]; omega
            have e2 : inS (longS (nd s (fileS s w).1).Body (max (nd s (fileS s w).1).Body.length (k + t.length))).length (k : Int) = some () := by
              unfold inS; rw [longS_length, if_pos (by omega)]
            rw [this, cond_false, if_neg c5, e1, rlong_eq _ _ (by omega), bind_some', e2, bind_some', rwith_eq s _ _ hs hr, bind_some']
            rfl
  · rw [bneT c, cond_true, if_pos c]
def cutS (s : List Nod) (w : Str) (n : Int) : List Nod × Int :=
  if (fileS s w).2 ≠ 0 then (s, (fileS s w).2) else if n < 0 then (s, 1) else if n > 128 then (s, 8) else
  (s.set (fileS s w).1.toNat { nd s (fileS s w).1 with Body := longS (nd s (fileS s w).1).Body n.toNat }, 0)
theorem rcut_eq (s : List Nod) (w : Str) (n : Int) (hs : s.length ≤ 1000) (h1 : 1 ≤ s.length) (hw : w.length < 1000000) : M_ref11_Cut s w n = some (cutS s w n) := by
  unfold M_ref11_Cut cutS
  have hr := fileS_range h1 w
  simp only [rfile_eq s w hs h1 hw, bind_some', getI_nd hr.1 hr.2]
  by_cases c : (fileS s w).2 = 0
  · rw [bneF c, cond_false, if_neg (fun e => e c)]
    by_cases c2 : n < 0
    · rw [decide_eq_true c2, cond_true, if_pos c2]
    · rw [decide_eq_false c2, cond_false, if_neg c2]
      obtain ⟨k, rfl⟩ : ∃ k : Nat, n = k := ⟨n.toNat, by omega⟩
      by_cases c3 : (k : Int) > 128
      · rw [decide_eq_true c3, cond_true, if_pos c3]
      · rw [decide_eq_false c3, cond_false, if_neg c3, rlong_eq _ _ (by omega), bind_some', rwith_eq s _ _ hs hr, bind_some']
        rfl
  · rw [bneT c, cond_true, if_pos c]
theorem file_ok {s : List Nod} (h : SetOk s) {w : Str} (he : (fileS s w).2 = 0) : 1 ≤ (fileS s w).1 ∧ (fileS s w).1 < 8 ∧ (nd s (fileS s w).1).Kind = 1 := by
  unfold fileS at he ⊢
  split at he
  · cases he
  · rename_i q
    rw [if_neg q]
    have hh := find_here h he
    have : (nd s (findS s w).1).Kind ≠ 2 := fun e => q ⟨he, e⟩
    have hk := h.kind _ hh.1 hh.2.1
    refine ⟨?_, hh.2.1, by have := hh.2.2; omega⟩
    by_cases e : (findS s w).1 = 0
    · rw [e, h.root] at this; exact absurd rfl this
    · have := hh.1; omega
theorem body_ok {s : List Nod} (h : SetOk s) {n : Int} (h1 : 1 ≤ n) (h2 : n < 8) (h3 : (nd s n).Kind = 1) (b : Str) (hb : b.length ≤ 128) : SetOk (s.set n.toNat { nd s n with Body := b }) := by
  have hk : (nd s n).Kind ≠ 0 := by rw [h3]; decide
  have q := h.ok h1 h2 hk
  obtain ⟨d, hd⟩ := h.rank
  refine set_ok h h1 h2 (.inr ⟨q.live, q.bad, q.name, hb, fun e => (by simp only at e; rw [h3] at e; cases e), q.up⟩) (fun e => by rw [h3] at e; cases e) (fun _ e => ?_) (fun _ k a1 a2 a3 a4 a5 => h.uniq k n a1 a2 h1 h2 a3 a4 hk a5) ⟨d, fun i a1 a2 _ a4 => hd i a1 a2 a4, fun _ => hd n h1 h2 hk⟩
  have := hd n h1 h2 hk
  simp only at e
  rw [e] at this; omega
theorem copyL_len (xs : List UInt8) (off : Nat) (u : Str) (h : off ≤ xs.length) : (copyL xs off u).length = xs.length := copyL_length xs off u h
theorem write_ok {s : List Nod} (h : SetOk s) (w : Str) (off : Int) (t : Str) : SetOk (writeS s w off t).1 := by
  unfold writeS
  split
  · exact h
  · rename_i c1
    split
    · exact h
    · rename_i c2
      split
      · exact h
      · rename_i c3
        split
        · exact h
        · have c1' : (fileS s w).2 = 0 := Decidable.of_not_not c1
          obtain ⟨a1, a2, a3⟩ := file_ok h c1'
          refine body_ok h a1 a2 a3 _ ?_
          have hb := (h.ok a1 a2 (by rw [a3]; decide)).body
          unfold bodyS
          rw [copyL_len _ _ _ (by rw [longS_length]; omega), longS_length]
          omega
theorem cut_ok {s : List Nod} (h : SetOk s) (w : Str) (n : Int) : SetOk (cutS s w n).1 := by
  unfold cutS
  split
  · exact h
  · rename_i c1
    split
    · exact h
    · split
      · exact h
      · have c1' : (fileS s w).2 = 0 := Decidable.of_not_not c1
        obtain ⟨a1, a2, a3⟩ := file_ok h c1'
        exact body_ok h a1 a2 a3 _ (by rw [longS_length]; omega)
end Go.Proofs

/-
  Sets of nodes: a way leads where its folder has that name; what is kept when a node becomes another one.
-/
set_option maxRecDepth 20000
namespace Go.Proofs
open Go Go.Fhl
set_option linter.unusedVariables false
set_option linter.unusedSimpArgs false
/-! ## Ways -/
/-! ## Back from where a way leads -/
/-! ## What is kept -/
/-- `t` is `s`, but for one node. -/
def But (s t : List Nod) (n : Int) : Prop := ∀ i : Int, 0 ≤ i → i ≠ n → nd t i = nd s i
theorem kid_in {s : List Nod} (h : SetOk s) {a : Int} {y : Str} (q : (kidS s a y).2 = true) : 1 ≤ (kidS s a y).1 ∧ (kidS s a y).1 < 8 ∧ (nd s (kidS s a y).1).Kind ≠ 0 ∧ (nd s (kidS s a y).1).Up = a ∧ (nd s (kidS s a y).1).Name = y := by
  obtain ⟨a1, a2⟩ := kidS_some q
  obtain ⟨b1, b2, b3, b4⟩ := h.kid.1 a1
  exact ⟨b1, b2, b3, b4, a2⟩
/-! ## One that is made, or dropped -/
end Go.Proofs

/-
  Sets of nodes: what is moved is found where it is; the way of each node.
-/
set_option maxRecDepth 20000
namespace Go.Proofs
open Go Go.Fhl
set_option linter.unusedVariables false
set_option linter.unusedSimpArgs false
/-! ## Who lies in whom -/
/-! ## Moving -/
structure Moved (s : List Nod) (w v : Str) (n u : Int) (x : Str) (t : List Nod) : Prop where
  n1 : 1 ≤ n
  n8 : n < 8
  here : (nd s n).Kind ≠ 0
  from' : findS s w = (n, 0)
  to' : placeS s v = (u, x, 0)
  is : t = s.set n.toNat { nd s n with Up := u, Name := x }
  u0 : 0 ≤ u
  u8 : u < 8
  fold : (nd s u).Kind = 2
  name : mayN x = true
  free : (kidS s u x).2 = false
  out : inB s u n = false
/-! ## The way of a node -/
def wayL (s : List Nod) : Nat → Int → List Str
  | 0, _ => []
  | k + 1, n => if n = 0 then [] else wayL s k (nd s n).Up ++ [(nd s n).Name]
def wayS (s : List Nod) (n : Int) : Str := joinS (wayL s 8 n) [47]
end Go.Proofs

/-
  Package node: what its functions come to.
-/
set_option maxRecDepth 20000
namespace Go.Proofs
open Go Go.Fhl
set_option linter.unusedVariables false
set_option linter.unusedSimpArgs false
theorem compare_iff (a b : Str) : Lib.compareBytes a b < 0 ↔ Op.bytesLess a b = true := by
  induction a generalizing b with
  | nil => cases b <;> simp [Lib.compareBytes, Op.bytesLess]
  | cons x a ih =>
    cases b with
    | nil => simp [Lib.compareBytes, Op.bytesLess]
    | cons y b =>
      rw [Lib.compareBytes, Op.bytesLess, Bool.or_eq_true, Bool.and_eq_true, decide_eq_true_iff, beq_iff_eq]
      by_cases h : x < y
      · rw [if_pos h]; simp [h]
      · rw [if_neg h]
        by_cases h2 : y < x
        · rw [if_pos h2]
          have : ¬ x = y := fun e => by subst e; exact h h2
          simp [h, this]
        · rw [if_neg h2, ih b]
          have : x = y := by
            apply UInt8.toNat_inj.1
            rw [UInt8.lt_iff_toNat_lt] at h h2; omega
          simp [h, this]
theorem compare_lt (a b : Str) : decide (Lib.compareBytes a b < 0) = ltS a b := by
  rw [Bool.eq_iff_iff, decide_eq_true_iff]; exact compare_iff a b
theorem kcmp_eq (s : List Nod) (a b : Int) (ha : 0 ≤ a ∧ a < s.length) (hb : 0 ≤ b ∧ b < s.length) : M_node_Kids_1 a b s = some (Lib.compareBytes (nd s a).Name (nd s b).Name) := by
  unfold M_node_Kids_1
  rw [getI_nd ha.1 ha.2, bind_some', getI_nd hb.1 hb.2, bind_some']
  rfl
/-! ## Sorting -/
theorem isort_l2 (c : Int → List Int → Option (Unit × List Int)) (s : List Nod) (t2 v1 : Int) : ∀ (A B : List Int) (x : Int) (f : Nat), A.length < f → A.length + B.length ≤ 100000 → (0 ≤ x ∧ x < s.length) → (∀ a ∈ A, 0 ≤ a ∧ a < s.length) →
    M_slices_insertionSortCmpFunc_int_c37_l2 c 0 t2 s v1 f (A.length : Int) (A.reverse ++ x :: B) = c (w64 (v1 + 1)) ((insV (gtN s) x A).reverse ++ B) := by
  intro A
  induction A with
  | nil =>
    intro B x f hf hB hx hA
    obtain ⟨f, rfl⟩ : ∃ x, f = x + 1 := ⟨f - 1, by simp at hf; omega⟩
    rw [M_slices_insertionSortCmpFunc_int_c37_l2]
    rfl
  | cons a A ih =>
    intro B x f hf hB hx hA
    obtain ⟨f, rfl⟩ : ∃ x, f = x + 1 := ⟨f - 1, by simp at hf; omega⟩
    have ha := hA a (List.mem_cons_self ..)
    simp only [List.length_cons] at hf hB
    rw [M_slices_insertionSortCmpFunc_int_c37_l2]
    have hpos : decide (((a :: A).length : Int) > 0) = true := decide_eq_true (by simp)
    have e1 : w64 (((a :: A).length : Int) - 1) = (A.length : Int) := by rw [List.length_cons]; exact w64_pred (by omega)
    have hl : (a :: A).reverse ++ x :: B = A.reverse ++ a :: x :: B := by simp
    have g1 : getI (A.reverse ++ a :: x :: B) (A.length : Int) = some a := by rw [getI_nat]; simp
    have g2 : getI (A.reverse ++ a :: x :: B) ((a :: A).length : Int) = some x := by
      rw [getI_nat, List.getElem?_append_right (by simp)]; simp
    have s1 : setI (A.reverse ++ a :: x :: B) ((a :: A).length : Int) a = some (A.reverse ++ a :: a :: B) := by
      rw [setI_nat (by simp), List.set_append_right _ _ (by simp)]; simp
    have g3 : getI (A.reverse ++ a :: a :: B) (A.length : Int) = some a := by rw [getI_nat]; simp
    have s2 : setI (A.reverse ++ a :: a :: B) (A.length : Int) x = some (A.reverse ++ x :: a :: B) := by
      rw [setI_nat (by simp)]; simp
    have hc : decide (Lib.compareBytes (nd s x).Name (nd s a).Name < 0) = gtN s a x := compare_lt _ _
    simp only [hpos, e1, hl, bTT, gd_true, g1, g2, bind_some', cond_true, kcmp_eq s x a hx ha, hc, Bool.true_and]
    cases hg : gtN s a x with
    | false =>
      rw [cond_false, insV, hg]
      simp
    | true =>
      simp only [cond_true, s1, g3, s2, bind_some']
      have := ih (a :: B) x f (by omega) (by simp; omega) hx (fun x hx => hA x (List.mem_cons_of_mem _ hx))
      rw [this, insV, hg]
      simp
theorem isort_l1 (s : List Nod) (N : Nat) (hN : N ≤ 10000) : ∀ (r R : List Int) (f : Nat), R.length + r.length = N → r.length < f → (∀ a ∈ r, 0 ≤ a ∧ a < s.length) → (∀ a ∈ R, 0 ≤ a ∧ a < s.length) →
    M_slices_insertionSortCmpFunc_int_c37_l1 0 (N : Int) s f (R.length : Int) (R.reverse ++ r) = some ((), (r.foldl (fun r i => insV (gtN s) i r) R).reverse) := by
  intro r
  induction r with
  | nil =>
    intro R f hl hf hr hR
    obtain ⟨f, rfl⟩ : ∃ x, f = x + 1 := ⟨f - 1, by simp at hf; omega⟩
    simp only [List.length_nil, Nat.add_zero] at hl
    rw [M_slices_insertionSortCmpFunc_int_c37_l1, decide_eq_false (by omega), cond_false, List.append_nil]
    rfl
  | cons x r ih =>
    intro R f hl hf hr hR
    obtain ⟨f, rfl⟩ : ∃ x, f = x + 1 := ⟨f - 1, by simp at hf; omega⟩
    simp only [List.length_cons] at hl hf
    rw [M_slices_insertionSortCmpFunc_int_c37_l1, decide_eq_true (by omega), cond_true,
      isort_l2 _ s _ _ R r x fuel (by unfold fuel; omega) (by omega) (hr x (List.mem_cons_self ..)) hR, w64_succ (by omega), List.foldl_cons]
    have hl2 := insV_length (gtN s) x R
    have := ih (insV (gtN s) x R) f (by omega) (by omega) (fun a ha => hr a (List.mem_cons_of_mem _ ha)) (fun a ha => by
      rcases List.mem_cons.1 ((insV_perm _ _ _).mem_iff.1 ha) with rfl | ha
      · exact hr _ (List.mem_cons_self ..)
      · exact hR a ha)
    rw [hl2] at this
    exact this
theorem isort_eq (s : List Nod) (l : List Int) (hl : l.length ≤ 10000) (h : ∀ a ∈ l, 0 ≤ a ∧ a < s.length) : M_slices_insertionSortCmpFunc_int_c37 l 0 (l.length : Int) s = some ((), (sortV (gtN s) l).reverse) := by
  unfold M_slices_insertionSortCmpFunc_int_c37
  cases l with
  | nil =>
    show M_slices_insertionSortCmpFunc_int_c37_l1 0 0 s (4611686018427387903 + 1) 1 [] = _
    rw [M_slices_insertionSortCmpFunc_int_c37_l1]
    rfl
  | cons x l =>
    have := isort_l1 s (l.length + 1) (by simpa using hl) l [x] fuel (by simp; omega) (by unfold fuel; simp at hl; omega) (fun a ha => h a (List.mem_cons_of_mem _ ha)) (fun a ha => by simp at ha; subst ha; exact h _ (List.mem_cons_self ..))
    exact this
theorem sortV_length (gt : Int → Int → Bool) (l : List Int) : (sortV gt l).length = l.length := (sortV_perm gt l).length_eq
theorem withLen_some {α ρ : Type} {xs : List α} {p : ρ × List α} (h : p.2.length = xs.length) : withLen xs (some p) = some p := by
  unfold withLen
  show (if p.2.length = xs.length then some p else none) = some p
  rw [if_pos h]
theorem sort_eq (s : List Nod) (l : List Int) (hl : l.length ≤ 12) (h : ∀ a ∈ l, 0 ≤ a ∧ a < s.length) : M_slices_SortFunc_int_int_c37 l s = some ((), (sortV (gtN s) l).reverse) := by
  unfold M_slices_SortFunc_int_int_c37 M_math_bits_Len M_bitLen
  rw [bind_some']
  have e : M_slices_pdqsortCmpFunc_int_c37 l 0 ((l.length : Nat) : Int) (Lib.bitLen (UInt64.ofInt ((l.length : Nat) : Int)).toNat : Int) s = some ((), (sortV (gtN s) l).reverse) := by
    unfold M_slices_pdqsortCmpFunc_int_c37
    show M_slices_pdqsortCmpFunc_int_c37_l1 l 0 (l.length : Int) _ s (4611686018427387903 + 1) = _
    rw [M_slices_pdqsortCmpFunc_int_c37_l1]
    have : w64 ((l.length : Int) - 0) = (l.length : Int) := by rw [Int.sub_zero]; exact w64_nat (by omega)
    rw [this, decide_eq_true (by omega), cond_true, isort_eq s l (by omega) h, withLen_some (by simp [sortV_length]), bind_some']
  rw [e, withLen_some (by simp [sortV_length]), bind_some']
/-! ## Kids, Kid, Free -/
def kidsFrom' (n : Int) (j : Nat) (l : List Nod) : List Int := match j, l with | 0, _ :: r => kidsFrom n 1 r | 0, [] => [] | j + 1, l => kidsFrom n (j + 1) l
theorem nkids_l1 (s : List Nod) (n : Int) (hs : s.length ≤ 12) : ∀ (l : List Nod) (j f : Nat) (acc : List Int), s.drop j = l → l.length < f → j ≤ s.length → acc.length ≤ j → (∀ a ∈ acc, 0 ≤ a ∧ a < s.length) →
    M_node_Kids_l1 s n f (j : Int) acc = some (sortV (gtN s) (acc ++ kidsFrom' n j l)).reverse := by
  intro l
  induction l with
  | nil =>
    intro j f acc hj hf hjs hacc hA
    obtain ⟨f, rfl⟩ : ∃ x, f = x + 1 := ⟨f - 1, by simp at hf; omega⟩
    have : s.length ≤ j := by simpa using hj
    have e : kidsFrom' n j [] = [] := by cases j <;> rfl
    rw [M_node_Kids_l1, decide_eq_false (by omega), cond_false, e, List.append_nil, sort_eq s acc (by omega) hA, withLen_some (by simp [sortV_length]), bind_some']
  | cons x l ih =>
    intro j f acc hj hf hjs hacc hA
    obtain ⟨f, rfl⟩ : ∃ x, f = x + 1 := ⟨f - 1, by simp at hf; omega⟩
    simp only [List.length_cons] at hf
    obtain ⟨hlt, hx, hd⟩ := drop_cons hj
    have gx : getI s (j : Int) = some x := by rw [getI_nat, hx]
    rw [M_node_Kids_l1, decide_eq_true (by omega), cond_true, gx, bind_some']
    have hk : (((decide ((j : Int) > 0)) && ((x.Kind == 1) || (x.Kind == 2))) && (x.Up == n)) = (decide (0 < j) && isKid n x) := by
      have : decide ((j : Int) > 0) = decide (0 < j) := by congr 1; simp
      rw [this]; unfold isKid liveB; rw [Bool.and_assoc]
    rw [hk]
    have hnext : ∀ r, kidsFrom' n (j + 1) r = kidsFrom n (j + 1) r := fun r => rfl
    cases j with
    | zero =>
      rw [decide_eq_false (by omega), Bool.false_and, cond_false, M_node_Kids_k1, w64_succ (by omega)]
      rw [ih 1 f acc hd (by omega) (by omega) (by omega) hA]
      rfl
    | succ j =>
      rw [decide_eq_true (by omega), Bool.true_and]
      have he : kidsFrom' n (j + 1) (x :: l) = if isKid n x = true then ((j + 1 : Nat) : Int) :: kidsFrom n (j + 1 + 1) l else kidsFrom n (j + 1 + 1) l := rfl
      rw [he]
      cases hq : isKid n x with
      | false =>
        rw [cond_false, M_node_Kids_k1, w64_succ (by omega), ih (j + 1 + 1) f acc hd (by omega) (by omega) (by omega) hA]
        rfl
      | true =>
        rw [cond_true, appL_eq (by simp; omega), bind_some', M_node_Kids_k1, w64_succ (by omega), ih (j + 1 + 1) f (acc ++ [((j + 1 : Nat) : Int)]) hd (by omega) (by omega) (by simp; omega) (fun a ha => by
          rcases List.mem_append.1 ha with ha | ha
          · exact hA a ha
          · simp at ha; subst ha; omega)]
        rw [List.append_assoc]
        rfl
theorem nkids_eq (s : List Nod) (n : Int) (hs : s.length ≤ 12) (h1 : 1 ≤ s.length) : M_node_Kids s n = some (kidsS s n) := by
  unfold M_node_Kids
  have := nkids_l1 s n hs s 0 fuel [] rfl (by unfold fuel; omega) (Nat.zero_le _) (Nat.le_refl _) (fun a h => by cases h)
  have e : kidsFrom' n 0 s = kidsL s n := by
    cases s with
    | nil => simp at h1
    | cons x l => rfl
  rw [e] at this
  exact this
theorem nkid_l1 (s : List Nod) (x : Str) (K : List Int) (hK : ∀ k ∈ K, 0 ≤ k ∧ k < s.length) (hl : K.length ≤ 100000) : ∀ (l : List Int) (j f : Nat), K.drop j = l → l.length < f → j ≤ K.length →
    M_node_Kid_l1 s x K f (j : Int) = some (match l.find? (fun k => (nd s k).Name == x) with | some k => (k, true) | none => (0, false)) := by
  intro l
  induction l with
  | nil =>
    intro j f hj hf hjs
    obtain ⟨f, rfl⟩ : ∃ x, f = x + 1 := ⟨f - 1, by simp at hf; omega⟩
    have : K.length ≤ j := by simpa using hj
    rw [M_node_Kid_l1, decide_eq_false (by omega), cond_false]
    rfl
  | cons k l ih =>
    intro j f hj hf hjs
    obtain ⟨f, rfl⟩ : ∃ x, f = x + 1 := ⟨f - 1, by simp at hf; omega⟩
    simp only [List.length_cons] at hf
    obtain ⟨hlt, hx, hd⟩ := drop_cons hj
    have hk := hK k (List.mem_of_getElem? hx)
    have gx : getI K (j : Int) = some k := by rw [getI_nat, hx]
    rw [M_node_Kid_l1, decide_eq_true (by omega), cond_true, gx, bind_some', getI_nd hk.1 hk.2, bind_some', List.find?_cons, w64_succ (by omega)]
    cases hq : ((nd s k).Name == x) with
    | false => exact ih (j + 1) f hd (by omega) (by omega)
    | true => rfl
theorem nkid_eq (s : List Nod) (n : Int) (x : Str) (hs : s.length ≤ 12) (h1 : 1 ≤ s.length) : M_node_Kid s n x = some (kidS s n x) := by
  unfold M_node_Kid
  have := kidsS_len s n
  rw [nkids_eq s n hs h1, bind_some']
  exact nkid_l1 s x _ (fun k hk => kids_range hk) (by omega) _ 0 fuel rfl (by unfold fuel; omega) (Nat.zero_le _)
theorem nfree_l1 (s : List Nod) (hs : s.length ≤ 100000) : ∀ (l : List Nod) (j f : Nat), s.drop j = l → l.length < f → j ≤ s.length → M_slices_IndexFunc_api_Set_api_Node_c32_l1 s f (j : Int) = some (if (freeFrom j l).2 = true then (freeFrom j l).1 else -1) := by
  intro l
  induction l with
  | nil =>
    intro j f hj hf hjs
    obtain ⟨f, rfl⟩ : ∃ x, f = x + 1 := ⟨f - 1, by simp at hf; omega⟩
    have : s.length ≤ j := by simpa using hj
    rw [M_slices_IndexFunc_api_Set_api_Node_c32_l1, decide_eq_false (by omega), cond_false]
    rfl
  | cons x l ih =>
    intro j f hj hf hjs
    obtain ⟨f, rfl⟩ : ∃ x, f = x + 1 := ⟨f - 1, by simp at hf; omega⟩
    simp only [List.length_cons] at hf
    obtain ⟨hlt, hx, hd⟩ := drop_cons hj
    rw [M_slices_IndexFunc_api_Set_api_Node_c32_l1, decide_eq_true (by omega), cond_true, getI_nat, hx, bind_some', M_node_Free_1, bind_some', w64_succ (by omega), freeFrom]
    by_cases q : x.Kind = 0
    · rw [beqT q, cond_true, if_pos q]; rfl
    · rw [beqF q, cond_false, if_neg q]
      exact ih (j + 1) f hd (by omega) (by omega)
theorem nfree_eq (s : List Nod) (hs : s.length ≤ 100000) : M_node_Free s = some (freeS s) := by
  unfold M_node_Free M_slices_IndexFunc_api_Set_api_Node_c32
  have := nfree_l1 s hs s 0 fuel rfl (by unfold fuel; omega) (Nat.zero_le _)
  have h1 := (freeS_spec s).1
  have h2 := (freeS_spec s).2.2
  have e : M_slices_IndexFunc_api_Set_api_Node_c32_l1 s fuel 0 = some (if (freeS s).2 = true then (freeS s).1 else -1) := this
  rw [e, bind_some']
  cases hq : (freeS s).2 with
  | true =>
    have := (h1 hq).1
    rw [if_pos rfl, decide_eq_true (by omega)]
    congr 1
    refine Prod.ext ?_ hq.symm
    show max (freeS s).1 0 = _; omega
  | false =>
    rw [if_neg (by simp)]
    congr 1
    refine Prod.ext ?_ hq.symm
    show max (-1 : Int) 0 = _; rw [h2 hq]; rfl
end Go.Proofs

/-
  The program's ways and changes are the document's.
-/
set_option maxRecDepth 20000
namespace Go.Proofs
open Go Go.Fhl
set_option linter.unusedVariables false
set_option linter.unusedSimpArgs false
/-! ## Ways -/
theorem wat_eq (s : List Nod) (n : Int) : M_walk_files_at ⟨s⟩ n = some (if 0 ≤ n ∧ n < s.length then nd s n else zN) := by
  unfold M_walk_files_at
  by_cases h : 0 ≤ n ∧ n < s.length
  · rw [if_pos h, decide_eq_false (show ¬ n < 0 by omega), decide_eq_false (show ¬ n ≥ ((G_walk_files.mk s).Set.length : Int) from by show ¬ n ≥ (s.length : Int); omega), Bool.or_self, cond_false, getI_nd h.1 h.2, bind_some']
  · rw [if_neg h]
    have : (decide (n < 0) || decide (n ≥ ((G_walk_files.mk s).Set.length : Int))) = true := by
      show (decide (n < 0) || decide (n ≥ (s.length : Int))) = true
      rw [Bool.or_eq_true, decide_eq_true_iff, decide_eq_true_iff]; omega
    rw [this, cond_true]; rfl
theorem wat_in {s : List Nod} {n : Int} (h : 0 ≤ n ∧ n < s.length) : M_walk_files_at ⟨s⟩ n = some (nd s n) := by rw [wat_eq, if_pos h]
theorem wmiss_l1 (s : List Nod) (hs : s.length ≤ 100000) : ∀ (l : List Nod) (j f : Nat), s.drop j = l → l.length < f → j ≤ s.length → ∃ r, M_slices_IndexFunc_api_Set_api_Node_c67_l1 s f (j : Int) = some r ∧ decide (r ≥ 0) = l.any (fun x => x.Kind == 3) := by
  intro l
  induction l with
  | nil =>
    intro j f hj hf hjs
    obtain ⟨f, rfl⟩ : ∃ x, f = x + 1 := ⟨f - 1, by simp at hf; omega⟩
    have : s.length ≤ j := by simpa using hj
    rw [M_slices_IndexFunc_api_Set_api_Node_c67_l1, decide_eq_false (by omega), cond_false]
    exact ⟨-1, rfl, rfl⟩
  | cons x l ih =>
    intro j f hj hf hjs
    obtain ⟨f, rfl⟩ : ∃ x, f = x + 1 := ⟨f - 1, by simp at hf; omega⟩
    simp only [List.length_cons] at hf
    obtain ⟨hlt, hx, hd⟩ := drop_cons hj
    rw [M_slices_IndexFunc_api_Set_api_Node_c67_l1, decide_eq_true (by omega), cond_true, getI_nat, hx, bind_some', M_walk_files_missing_1, bind_some', w64_succ (by omega), List.any_cons]
    cases q : (x.Kind == 3) with
    | true => exact ⟨j, rfl, by rw [Bool.true_or]; exact decide_eq_true (by omega)⟩
    | false =>
      rw [cond_false, Bool.false_or]
      exact ih (j + 1) f hd (by omega) (by omega)
theorem wmissing_eq (s : List Nod) (hs : s.length ≤ 100000) : M_walk_files_missing ⟨s⟩ = some (if lostS s = true then 12 else 2) := by
  unfold M_walk_files_missing M_slices_ContainsFunc_api_Set_api_Node_c67 M_slices_IndexFunc_api_Set_api_Node_c67
  obtain ⟨r, e, h⟩ := wmiss_l1 s hs s 0 fuel rfl (by unfold fuel; omega) (Nat.zero_le _)
  have e' : M_slices_IndexFunc_api_Set_api_Node_c67_l1 s fuel 0 = some r := e
  show Option.bind (Option.bind (M_slices_IndexFunc_api_Set_api_Node_c67_l1 s fuel 0) _) _ = _
  rw [e', bind_some', bind_some', h]
  show cond (lostS s) _ _ = _
  cases lostS s <;> rfl
theorem wfind_l1 (s : List Nod) (hs : s.length ≤ 12) (h1 : 1 ≤ s.length) (L : List Str) (hL : L.length ≤ 100000) : ∀ (l : List Str) (j f : Nat) (a : Int), L.drop j = l → l.length < f → j ≤ L.length → 0 ≤ a ∧ a < s.length → M_walk_files_find_l1 ⟨s⟩ L f a (j : Int) = some (downS s l a) := by
  intro l
  induction l with
  | nil =>
    intro j f a hj hf hjs ha
    obtain ⟨f, rfl⟩ : ∃ x, f = x + 1 := ⟨f - 1, by simp at hf; omega⟩
    have : L.length ≤ j := by simpa using hj
    rw [M_walk_files_find_l1, decide_eq_false (by omega), cond_false]
    rfl
  | cons x l ih =>
    intro j f a hj hf hjs ha
    obtain ⟨f, rfl⟩ : ∃ x, f = x + 1 := ⟨f - 1, by simp at hf; omega⟩
    simp only [List.length_cons] at hf
    obtain ⟨hlt, hx, hd⟩ := drop_cons hj
    have gx : getI L (j : Int) = some x := by rw [getI_nat, hx]
    have ek : M_node_Kid (G_walk_files.mk s).Set a x = some (kidS s a x) := nkid_eq s a x hs h1
    rw [M_walk_files_find_l1, decide_eq_true (by omega), cond_true, gx, bind_some', wat_in ha, bind_some', downS]
    by_cases k2 : (nd s a).Kind = 2
    · rw [bneF k2, cond_false, if_neg (fun q => q k2), ek, bind_some']
      cases hk : (kidS s a x).2 with
      | true =>
        rw [Bool.not_true, cond_false, if_pos rfl, w64_succ (by omega)]
        exact ih (j + 1) f _ hd (by omega) (by omega) (kidS_range h1)
      | false =>
        rw [Bool.not_false, cond_true, wmissing_eq s (by omega), bind_some']
        cases lostS s <;> rfl
    · rw [bneT k2, cond_true, if_pos k2]
theorem wfiles_eq (s : List Nod) (L : List Str) (hs : s.length ≤ 12) (h1 : 1 ≤ s.length) (hL : L.length ≤ 100000) : M_walk_files_find ⟨s⟩ L = some (downS s L 0) :=
  wfind_l1 s hs h1 L hL L 0 fuel 0 rfl (by unfold fuel; omega) (Nat.zero_le _) ⟨Int.le_refl _, by omega⟩
theorem wfind_eq (s : List Nod) (w : Str) (hs : s.length ≤ 12) (h1 : 1 ≤ s.length) (hw : w.length < 1000000) : M_walk_Find s w = some (findS s w) := by
  unfold M_walk_Find findS
  have hl := partsN_len w
  rw [parts_eq w hw, bind_some']
  cases h : (partsN w).2 with
  | false => rfl
  | true =>
    rw [Bool.not_true, cond_false, wfiles_eq s _ hs h1 (by omega), bind_some', if_pos rfl]
theorem wplace_eq (s : List Nod) (w : Str) (hs : s.length ≤ 12) (h1 : 1 ≤ s.length) (hw : w.length < 1000000) : M_walk_Place s w = some (placeS s w) := by
  unfold M_walk_Place placeS
  have hl := partsN_len w
  rw [parts_eq w hw, bind_some']
  cases h : (partsN w).2 with
  | false => simp
  | true =>
    cases hp : (partsN w).1 with
    | nil => simp
    | cons x r =>
      rw [hp, List.length_cons] at hl
      have e0 : (((x :: r).length : Int) == 0) = false := by simp; omega
      have e1 : w64 (((x :: r).length : Int) - 1) = (r.length : Int) := by rw [List.length_cons]; exact w64_pred (by omega)
      have e2 : slL (x :: r) 0 (r.length : Int) = some (x :: r).dropLast := by
        rw [slL_to (by simp), List.dropLast_eq_take]; simp
      have e3 : getI (x :: r) (r.length : Int) = some ((x :: r).getLastD []) := by
        rw [getI_nat, List.getLastD_eq_getLast?, List.getLast?_eq_getElem?]; simp
      have hlen : (x :: r).dropLast.length ≤ 100000 := by simp; omega
      have hr := downS_range h1 (x :: r).dropLast 0 ⟨Int.le_refl _, by omega⟩
      rw [e0, Bool.not_true, Bool.or_self, cond_false]
      simp only [e1, e2, e3, bind_some', wfiles_eq s _ hs h1 hlen, Bool.true_eq_false, false_or, List.cons_ne_nil, if_false, wat_in hr]
      by_cases q : (downS s (x :: r).dropLast 0).2 = 0
      · rw [bneF q, cond_false, if_neg (fun e => e q)]
        by_cases k2 : (nd s (downS s (x :: r).dropLast 0).1).Kind = 2
        · rw [bneF k2, cond_false, if_neg (fun q => q k2)]
        · rw [bneT k2, cond_true, if_pos k2]
      · rw [bneT q, cond_true, if_pos q]
/-! ## Within -/
def upR (s : List Nod) : Nat → Int → List Int
  | 0, _ => []
  | k + 1, n => if n = 0 then [] else (nd s n).Up :: upR s k (nd s n).Up
theorem wup_l1 {s : List Nod} (h : SetOk s) {d : Int → Nat} (hd : ∀ i : Int, 1 ≤ i → i < 8 → (nd s i).Kind ≠ 0 → d (nd s i).Up < d i) : ∀ (k f : Nat) (n : Int) (v : List Int), k < f → Here s n → d n ≤ k → v.length + k ≤ 8 → M_walk_files_up_l1 ⟨s⟩ f n v = some (v ++ upR s k n) := by
  intro k
  induction k with
  | zero =>
    intro f n v hf hn hk hv
    obtain ⟨f, rfl⟩ : ∃ x, f = x + 1 := ⟨f - 1, by omega⟩
    have : n = 0 := by
      by_cases e : n = 0
      · exact e
      · have := hd n (by have := hn.1; omega) hn.2.1 hn.2.2; omega
    rw [M_walk_files_up_l1, decide_eq_false (show ¬ n > 0 by omega), Bool.false_and, cond_false, M_walk_files_up_k1, upR, List.append_nil]
  | succ k ih =>
    intro f n v hf hn hk hv
    obtain ⟨f, rfl⟩ : ∃ x, f = x + 1 := ⟨f - 1, by omega⟩
    rw [M_walk_files_up_l1, upR]
    by_cases e : n = 0
    · rw [decide_eq_false (show ¬ n > 0 by omega), Bool.false_and, cond_false, M_walk_files_up_k1, if_pos e, List.append_nil]
    · have n0 := hn.1
      have hl : n < (s.length : Int) := by rw [h.len]; exact hn.2.1
      have hlen : ((v.length : Nat) : Int) ≤ ((G_walk_files.mk s).Set.length : Int) := by show (v.length : Int) ≤ (s.length : Int); rw [h.len]; omega
      rw [decide_eq_true (show n > 0 by omega), decide_eq_true hlen, Bool.and_self, cond_true, wat_in ⟨n0, hl⟩, bind_some', appL_eq (by simp; omega), bind_some', if_neg e]
      have := hd n (by omega) hn.2.1 hn.2.2
      rw [ih f _ _ (by omega) (h.hereUp hn) (by omega) (by simp; omega), List.append_assoc, List.singleton_append]
theorem climb_mem (s : List Nod) (t : Int) : ∀ (k : Nat) (n : Int), (climbTo s t k n == t) = decide (t ∈ n :: upR s k n) := by
  intro k
  induction k with
  | zero =>
    intro n
    rw [climbTo, upR]
    by_cases e : n = t
    · subst e; simp
    · rw [beqF e]; symm; rw [decide_eq_false_iff_not]; simp; exact fun q => e q.symm
  | succ k ih =>
    intro n
    rw [climbTo, upR]
    by_cases e : n = t
    · subst e; rw [if_pos (.inl rfl)]; simp
    · by_cases z : n = 0
      · rw [if_pos (.inr z), if_pos z, beqF e]; symm; rw [decide_eq_false_iff_not]; simp; exact fun q => e q.symm
      · rw [if_neg (fun q => q.elim e z), if_neg z, ih, Bool.eq_iff_iff, decide_eq_true_iff, decide_eq_true_iff, List.mem_cons (a := t) (b := n)]
        constructor
        · intro q; exact .inr q
        · rintro (q | q)
          · exact absurd q.symm e
          · exact q
theorem cidx_l1 (L : List Int) (x : Int) (hs : L.length ≤ 100000) : ∀ (l : List Int) (j f : Nat), L.drop j = l → l.length < f → j ≤ L.length → ∃ r, M_slices_Index_int_int_l1 L x f (j : Int) = some r ∧ decide (r ≥ 0) = decide (x ∈ l) := by
  intro l
  induction l with
  | nil =>
    intro j f hj hf hjs
    obtain ⟨f, rfl⟩ : ∃ x, f = x + 1 := ⟨f - 1, by simp at hf; omega⟩
    have : L.length ≤ j := by simpa using hj
    rw [M_slices_Index_int_int_l1, decide_eq_false (by omega), cond_false]
    exact ⟨-1, rfl, by simp⟩
  | cons y l ih =>
    intro j f hj hf hjs
    obtain ⟨f, rfl⟩ : ∃ x, f = x + 1 := ⟨f - 1, by simp at hf; omega⟩
    simp only [List.length_cons] at hf
    obtain ⟨hlt, hx, hd⟩ := drop_cons hj
    rw [M_slices_Index_int_int_l1, decide_eq_true (by omega), cond_true, getI_nat, hx, bind_some', w64_succ (by omega)]
    by_cases q : x = y
    · rw [beqT q, cond_true]
      exact ⟨j, rfl, by subst q; rw [decide_eq_true (show (j : Int) ≥ 0 by omega)]; simp⟩
    · rw [beqF q, cond_false]
      obtain ⟨r, e1, e2⟩ := ih (j + 1) f hd (by omega) (by omega)
      refine ⟨r, e1, ?_⟩
      rw [e2]; simp [q]
theorem contains_int (L : List Int) (x : Int) (hs : L.length ≤ 100000) : M_slices_Contains_int_int L x = some (decide (x ∈ L)) := by
  unfold M_slices_Contains_int_int M_slices_Index_int_int
  obtain ⟨r, e, h⟩ := cidx_l1 L x hs L 0 fuel rfl (by unfold fuel; omega) (Nat.zero_le _)
  have e' : M_slices_Index_int_int_l1 L x fuel 0 = some r := e
  rw [e', bind_some', h]
theorem upR_len (s : List Nod) : ∀ (k : Nat) (n : Int), (upR s k n).length ≤ k := by
  intro k
  induction k with
  | zero => intro n; exact Nat.le_refl _
  | succ k ih => intro n; rw [upR]; split <;> simp; exact ih _
theorem wat_kind (s : List Nod) (n : Int) : ∃ x, M_walk_files_at ⟨s⟩ n = some x ∧ (x.Kind != 0) = thereB s n := by
  rw [wat_eq]
  unfold thereB
  by_cases q : 0 ≤ n ∧ n < s.length
  · rw [if_pos q, decide_eq_true q]; exact ⟨_, rfl, by simp⟩
  · rw [if_neg q, decide_eq_false q]; exact ⟨_, rfl, rfl⟩
theorem here_of {s : List Nod} (h : SetOk s) {n : Int} (q : thereB s n = true) : Here s n := by
  unfold thereB at q
  rw [Bool.and_eq_true, decide_eq_true_iff, h.len] at q
  exact ⟨q.1.1, q.1.2, by simpa using q.2⟩
theorem wwithin_eq {s : List Nod} (h : SetOk s) (n t : Int) : M_walk_Within s n t = some (withinS s n t) := by
  unfold M_walk_Within withinS
  obtain ⟨x, ex, kx⟩ := wat_kind s n
  obtain ⟨y, ey, ky⟩ := wat_kind s t
  rw [ex, bind_some', kx, ey]
  cases hn : thereB s n with
  | false => rfl
  | true =>
    rw [bTT, gd_true, bind_some', ky]
    cases ht : thereB s t with
    | false => rfl
    | true =>
      have hh := here_of h hn
      obtain ⟨d, d1, d2⟩ := h.rank7
      have eu : M_walk_files_up ⟨s⟩ n = some (n :: upR s 7 n) := by
        unfold M_walk_files_up
        exact wup_l1 h d2 7 fuel n [n] (by unfold fuel; omega) hh (d1 n hh.1 hh.2.1) (by simp)
      have hl := upR_len s 7 n
      rw [Bool.and_self, bTT, gd_true, eu, bind_some', gd_true, contains_int _ _ (by simp; omega), bind_some', ← climb_mem, Bool.true_and, Bool.true_and, Bool.true_and, h.len, climb_stable h t d2 7 n hh (d1 n hh.1 hh.2.1)]
/-! ## Changes -/
theorem clone_eq (s : List Nod) (hs : s.length ≤ 1000) : M_slices_Clone_api_Set_api_Node s = some s := by
  unfold M_slices_Clone_api_Set_api_Node
  rw [appL_eq (by simp; omega), bind_some', List.nil_append]
theorem eplace_eq (s : List Nod) (w : Str) (hs : s.length ≤ 12) (h1 : 1 ≤ s.length) (hw : w.length < 1000000) : M_edit_place s w = some (⟨s, (placeS s w).1, (placeS s w).2.1⟩, (placeS s w).2.2) := by
  unfold M_edit_place
  rw [wplace_eq s w hs h1 hw, bind_some']
theorem taken_eq (s : List Nod) (u : Int) (x : Str) (hs : s.length ≤ 12) (h1 : 1 ≤ s.length) : M_edit_spot_taken ⟨s, u, x⟩ = some (kidS s u x).2 := by
  unfold M_edit_spot_taken
  show Option.bind (M_node_Kid s u x) _ = _
  rw [nkid_eq s u x hs h1, bind_some']
theorem put_eq (s : List Nod) (u : Int) (x : Str) (n : Int) (y : Nod) (hs : s.length ≤ 12) (hn : 0 ≤ n ∧ n < s.length) : M_edit_spot_put ⟨s, u, x⟩ n y = some (s.set n.toNat { y with Up := u, Name := x }) := by
  unfold M_edit_spot_put
  show Option.bind (M_slices_Clone_api_Set_api_Node s) _ = _
  rw [clone_eq s (by omega), bind_some', getI_nd hn.1 hn.2, bind_some', setI_pos hn.1 (by omega), bind_some']
theorem emake_eq (s : List Nod) (w : Str) (k : Int) (hs : s.length ≤ 12) (h1 : 1 ≤ s.length) (hw : w.length < 1000000) : M_edit_Make s w k = some (makeS s w k) := by
  unfold M_edit_Make makeS
  have hfr := (freeS_spec s).1
  rw [eplace_eq s w hs h1 hw, bind_some', nfree_eq s (by omega), bind_some']
  by_cases c1 : k ≠ 1 ∧ k ≠ 2
  · rw [bneT c1.1, bneT c1.2, if_pos c1, Bool.and_self, cond_true, M_edit_Make_k1, clone_eq s (by omega), bind_some']
  · have : ((k != 1) && (k != 2)) = false := by
      by_cases a : k = 1
      · rw [bneF a]; rfl
      · by_cases b : k = 2
        · rw [bneF b, Bool.and_false]
        · exact absurd ⟨a, b⟩ c1
    rw [this, cond_false, if_neg c1]
    by_cases c2 : (placeS s w).2.2 = 0
    · rw [bneF c2, cond_false, if_neg (fun e => e c2), taken_eq s _ _ hs h1, bind_some']
      cases c3 : (kidS s (placeS s w).1 (placeS s w).2.1).2 with
      | true => rw [cond_true, M_edit_Make_k1, clone_eq s (by omega), bind_some', if_pos rfl]
      | false =>
        rw [cond_false, if_neg (by simp)]
        cases c4 : (freeS s).2 with
        | false => rw [Bool.not_false, cond_true, M_edit_Make_k1, clone_eq s (by omega), bind_some', if_pos rfl]
        | true =>
          have := hfr c4
          rw [Bool.not_true, cond_false, if_neg (by simp), put_eq s _ _ _ _ hs ⟨this.1, this.2.1⟩, bind_some']
    · rw [bneT c2, cond_true, if_pos c2, M_edit_Make_k1, clone_eq s (by omega), bind_some']
theorem edrop_eq (s : List Nod) (w : Str) (hs : s.length ≤ 12) (h1 : 1 ≤ s.length) (hw : w.length < 1000000) : M_edit_Drop s w = some (dropS s w) := by
  unfold M_edit_Drop dropS
  have hr := findS_range h1 w
  rw [wfind_eq s w hs h1 hw, bind_some', clone_eq s (by omega), bind_some', nkids_eq s _ hs h1]
  by_cases c2 : (findS s w).2 = 0
  · rw [bneF c2, cond_false, if_neg (fun e => e c2)]
    by_cases c3 : (findS s w).1 = 0
    · rw [beqT c3, cond_true, if_pos c3]
    · rw [beqF c3, cond_false, if_neg c3, bind_some']
      cases c4 : kidsS s (findS s w).1 with
      | nil =>
        rw [if_neg (fun q => q rfl), decide_eq_false (by simp), cond_false, getI_nd hr.1 hr.2, bind_some', setI_pos hr.1 (by omega), bind_some']
        rfl
      | cons x l =>
        rw [decide_eq_true (by rw [List.length_cons]; omega), cond_true, if_pos (by simp)]
  · rw [bneT c2, cond_true, if_pos c2]
theorem emove_eq {s : List Nod} (h : SetOk s) (w v : Str) (hw : w.length < 1000000) (hv : v.length < 1000000) : M_edit_Move s w v = some (moveS s w v) := by
  have hs : s.length ≤ 12 := by rw [h.len]; omega
  have h1 : 1 ≤ s.length := by rw [h.len]; omega
  have hr := findS_range h1 w
  unfold M_edit_Move moveS
  rw [wfind_eq s w hs h1 hw, bind_some']
  by_cases c2 : (findS s w).2 = 0
  · rw [beqT c2, Bool.true_and, if_neg (fun e => e c2)]
    by_cases c3 : (findS s w).1 = 0
    · rw [beqT c3, cond_true, if_pos c3, M_edit_Move_k1, bneT (by decide), cond_true, clone_eq s (by omega), bind_some']
    · have hn := find_here h c2
      have n1 : 1 ≤ (findS s w).1 := by have := hn.1; omega
      rw [beqF c3, cond_false, if_neg c3, M_edit_Move_k1, bneF c2, cond_false, eplace_eq s v hs h1 hv, bind_some']
      by_cases c4 : (placeS s v).2.2 = 0
      · rw [bneF c4, cond_false, if_neg (fun e => e c4), getI_nd hr.1 hr.2, bind_some']
        have key : (kidS s (placeS s v).1 (placeS s v).2.1).2 = true ∧ (kidS s (placeS s v).1 (placeS s v).2.1).1 = (findS s w).1 ↔ (nd s (findS s w).1).Up = (placeS s v).1 ∧ (nd s (findS s w).1).Name = (placeS s v).2.1 := by
          constructor
          · rintro ⟨q1, q2⟩
            obtain ⟨_, _, _, k4, k5⟩ := kid_in h q1
            rw [q2] at k4 k5
            exact ⟨k4, k5⟩
          · rintro ⟨q1, q2⟩
            rw [kidS_of h n1 hn.2.1 hn.2.2 q1 q2]
            exact ⟨rfl, rfl⟩
        by_cases a : (nd s (findS s w).1).Up = (placeS s v).1
        · rw [beqT a, bTT, gd_true, bind_some', Bool.true_and]
          by_cases b : (nd s (findS s w).1).Name = (placeS s v).2.1
          · have eb : ((nd s (findS s w).1).Name == (placeS s v).2.1) = true := by simp [b]
            rw [eb, cond_true, if_pos (key.2 ⟨a, b⟩), M_edit_Move_k2, clone_eq s (by omega), bind_some', c4]
          · have eb : ((nd s (findS s w).1).Name == (placeS s v).2.1) = false := by simp [b]
            rw [eb, cond_false, if_neg (fun q => b (key.1 q).2), taken_eq s _ _ hs h1, bind_some']
            cases c5 : (kidS s (placeS s v).1 (placeS s v).2.1).2 with
            | true => rw [cond_true, if_pos rfl, M_edit_Move_k2, clone_eq s (by omega), bind_some']
            | false =>
              rw [cond_false, if_neg (by simp), wwithin_eq h, bind_some']
              cases c7 : withinS s (placeS s v).1 (findS s w).1 with
              | true => rw [cond_true, if_pos rfl, M_edit_Move_k2, clone_eq s (by omega), bind_some']
              | false => rw [cond_false, if_neg (by simp), bind_some', put_eq s _ _ _ _ hs hr, bind_some']
        · rw [beqF a, bFT, gd_false, bind_some', Bool.false_and, cond_false, if_neg (fun q => a (key.1 q).1), taken_eq s _ _ hs h1, bind_some']
          cases c5 : (kidS s (placeS s v).1 (placeS s v).2.1).2 with
          | true => rw [cond_true, if_pos rfl, M_edit_Move_k2, clone_eq s (by omega), bind_some']
          | false =>
            rw [cond_false, if_neg (by simp), wwithin_eq h, bind_some']
            cases c7 : withinS s (placeS s v).1 (findS s w).1 with
            | true => rw [cond_true, if_pos rfl, M_edit_Move_k2, clone_eq s (by omega), bind_some']
            | false => rw [cond_false, if_neg (by simp), bind_some', put_eq s _ _ _ _ hs hr, bind_some']
      · rw [bneT c4, cond_true, if_pos c4, M_edit_Move_k2, clone_eq s (by omega), bind_some']
  · rw [beqF c2, Bool.false_and, cond_false, if_pos c2, M_edit_Move_k1, bneT c2, cond_true, clone_eq s (by omega), bind_some']
end Go.Proofs

/-
  Sets that are made of numbers: they may be.
-/
set_option maxRecDepth 20000
namespace Go.Proofs
open Go Go.Fhl
set_option linter.unusedVariables false
set_option linter.unusedSimpArgs false
theorem text_l1 (n : Nat) (x3 : Int × G_palimpmade_Picks) (hn : n < 1000000) : ∀ (j : Nat), j ≤ n → ∀ b : List UInt8, b.length = n → ∃ b' : List UInt8, M_made_Picks_Text_l1 (n : Int) x3 fuel (j : Int) b = some (b', x3.2) ∧ b'.length = n := by
  refine up_fuel (Q := fun f j => ∀ b : List UInt8, b.length = n → ∃ b' : List UInt8, M_made_Picks_Text_l1 (n : Int) x3 f (j : Int) b = some (b', x3.2) ∧ b'.length = n) n (by omega) ?_ ?_
  · intro f b hb
    refine ⟨b, ?_, hb⟩
    rw [M_made_Picks_Text_l1, decide_eq_false (by omega), cond_false]
  · intro f j hj ih b hb
    rw [M_made_Picks_Text_l1, decide_eq_true (by omega), cond_true]
    cases hc : decide ((UInt8.ofInt (w64 (x3.1 * 40))) > 0) with
    | true =>
      have e1 : remI (j : Int) 5 = some (((j % 5 : Nat)) : Int) := remI_nat (b := 5) (by decide)
      rw [cond_true, e1, bind_some', getI_lt (by omega), bind_some', setI_nat (by omega), bind_some', M_made_Picks_Text_k1, w64_succ (by omega)]
      exact ih _ (by simp [hb])
    | false =>
      rw [cond_false, M_made_Picks_Text_k1, w64_succ (by omega)]
      exact ih _ hb
theorem text_ok (p : G_palimpmade_Picks) (h : WfP p) : ∃ x q, M_made_Picks_Text p = some (x, q) ∧ WfP q ∧ x.length ≤ 129 := by
  unfold M_made_Picks_Text
  obtain ⟨x, q, e1, h1, a1, a2, _⟩ := num_ok p h 8 (by omega)
  obtain ⟨y, q', e2, h2, _⟩ := num_ok q h1 4 (by omega)
  have hg : ∃ n : Nat, getI ([0, 1, 3, 17, 32, 33, 64, 129] : List Int) x = some (n : Int) ∧ n ≤ 129 := by
    obtain ⟨k, rfl⟩ : ∃ k : Nat, x = k := ⟨x.toNat, by omega⟩
    have : k < 8 := by omega
    match k, this with
    | 0, _ => exact ⟨0, rfl, by omega⟩
    | 1, _ => exact ⟨1, rfl, by omega⟩
    | 2, _ => exact ⟨3, rfl, by omega⟩
    | 3, _ => exact ⟨17, rfl, by omega⟩
    | 4, _ => exact ⟨32, rfl, by omega⟩
    | 5, _ => exact ⟨33, rfl, by omega⟩
    | 6, _ => exact ⟨64, rfl, by omega⟩
    | 7, _ => exact ⟨129, rfl, by omega⟩
    | k + 8, q => omega
  obtain ⟨n, g1, g2⟩ := hg
  rw [e1, bind_some', g1, bind_some', e2, bind_some', makeL_nat (by omega) (by omega), bind_some']
  obtain ⟨b, g3, g4⟩ := text_l1 n (y, q') (by omega) 0 (Nat.zero_le _) (List.replicate n 0) (by simp)
  exact ⟨b, q', g3, h2, by omega⟩
theorem get12 {x : Int} (h0 : 0 ≤ x) (h1 : x < 12) : ∃ k : Int, getI ([1, 1, 1, 2, 3, 3, 4, 4, 4, 5, 1, 4] : List Int) x = some k ∧ 1 ≤ k ∧ k ≤ 5 := by
  obtain ⟨k, rfl⟩ : ∃ k : Nat, x = k := ⟨x.toNat, by omega⟩
  have : ∀ k : Nat, k < 12 → ∃ y : Int, ([1, 1, 1, 2, 3, 3, 4, 4, 4, 5, 1, 4] : List Int)[k]? = some y ∧ 1 ≤ y ∧ y ≤ 5 := by
    intro k hk
    have hl : k < ([1, 1, 1, 2, 3, 3, 4, 4, 4, 5, 1, 4] : List Int).length := hk
    refine ⟨_, List.getElem?_eq_getElem hl, ?_⟩
    have : ∀ y ∈ ([1, 1, 1, 2, 3, 3, 4, 4, 4, 5, 1, 4] : List Int), 1 ≤ y ∧ y ≤ 5 := by decide
    exact this _ (List.getElem_mem hl)
  rw [getI_nat]; exact this k (by omega)
theorem get8 {l : List Int} (hl : l.length = 8) {x : Int} (h0 : 0 ≤ x) (h1 : x < 8) : ∃ k : Int, getI l x = some k ∧ k ∈ l := by
  obtain ⟨k, rfl⟩ : ∃ k : Nat, x = k := ⟨x.toNat, by omega⟩
  exact ⟨_, getI_lt (by omega), List.getElem_mem _⟩
theorem ways15_len {x : Str} (h : x ∈ ways15) : x.length ≤ 11 := (ways15_small x h).1
structure StepOk (st : G_api_Step) : Prop where
  kind : 1 ≤ st.Kind ∧ st.Kind ≤ 5
  path : st.Path ∈ ways15
  dest : st.To.length ≤ 11
  toW : st.Kind = 3 → st.To ∈ ways15
  text : st.Text.length ≤ 129
theorem edit_ok (p : G_palimpmade_Picks) (h : WfP p) (id : Int) : ∃ st q, M_made_Picks_Edit p id = some (st, q) ∧ WfP q ∧ StepOk st := by
  unfold M_made_Picks_Edit
  obtain ⟨x, q1, e1, h1, a1, a2, _⟩ := num_ok p h 12 (by omega)
  obtain ⟨k, g1, k1, k2⟩ := get12 a1 a2
  obtain ⟨w, q2, e2, h2, hw⟩ := path_ok q1 h1
  rw [e1, bind_some', g1, bind_some', e2, bind_some']
  simp only [M_made_Picks_Edit_k1]
  by_cases c1 : k = 1
  · rw [beqT c1, cond_true]
    obtain ⟨y, q3, e3, h3, _⟩ := num_ok q2 h2 2 (by omega)
    obtain ⟨z, q4, e4, h4, _⟩ := num_ok q3 h3 16 (by omega)
    rw [e3, bind_some', e4, bind_some']
    by_cases c2 : z = 0
    · obtain ⟨u, q5, e5, h5, _⟩ := num_ok q4 h4 5 (by omega)
      rw [beqT c2, cond_true, e5, bind_some']
      exact ⟨_, _, rfl, h5, ⟨k1, k2⟩, hw, by simp, fun e => by simp only at e; omega, by simp⟩
    · rw [beqF c2, cond_false]
      exact ⟨_, _, rfl, h4, ⟨k1, k2⟩, hw, by simp, fun e => by simp only at e; omega, by simp⟩
  · rw [beqF c1, cond_false]
    by_cases c3 : k = 3
    · obtain ⟨v, q3, e3, h3, hv⟩ := path_ok q2 h2
      rw [beqT c3, cond_true, e3, bind_some']
      exact ⟨_, _, rfl, h3, ⟨k1, k2⟩, hw, ways15_len hv, fun _ => hv, by simp⟩
    · rw [beqF c3, cond_false]
      by_cases c4 : k = 4
      · obtain ⟨y, q3, e3, h3, b1, b2, _⟩ := num_ok q2 h2 8 (by omega)
        obtain ⟨n, g2, _⟩ := get8 (l := [0, 0, 1, 31, 32, 64, 100, 130]) rfl b1 b2
        obtain ⟨t, q4, e4, h4, ht⟩ := text_ok q3 h3
        rw [beqT c4, cond_true, e3, bind_some', g2, bind_some', e4, bind_some']
        exact ⟨_, _, rfl, h4, ⟨k1, k2⟩, hw, by simp, fun e => by simp only at e; omega, ht⟩
      · rw [beqF c4, cond_false]
        by_cases c5 : k = 5
        · obtain ⟨y, q3, e3, h3, b1, b2, _⟩ := num_ok q2 h2 8 (by omega)
          obtain ⟨n, g2, _⟩ := get8 (l := [0, 1, 32, 33, 128, 129, 60, 64]) rfl b1 b2
          rw [beqT c5, cond_true, e3, bind_some', g2, bind_some']
          exact ⟨_, _, rfl, h3, ⟨k1, k2⟩, hw, by simp, fun e => by simp only at e; omega, by simp⟩
        · rw [beqF c5, cond_false]
          exact ⟨_, _, rfl, h2, ⟨k1, k2⟩, hw, by simp, fun e => by simp only at e; omega, by simp⟩
theorem SetOk.bodies {s : List Nod} (h : SetOk s) : ∀ i : Int, 0 ≤ i → i < s.length → (nd s i).Body.length ≤ 1000 := by
  intro i h0 h1
  rw [h.len] at h1
  by_cases e : i = 0
  · subst e; rw [h.root]; exact Nat.zero_le _
  · rcases h.nod i (by omega) (by omega) with q | q
    · rw [q]; exact Nat.zero_le _
    · have := q.body; omega
def doneS (s : List Nod) (st : G_api_Step) : List Nod × Int :=
  if st.Kind = 1 then makeS s st.Path st.N else if st.Kind = 2 then dropS s st.Path else if st.Kind = 3 then moveS s st.Path st.To else if st.Kind = 4 then writeS s st.Path st.N st.Text else cutS s st.Path st.N
theorem done_eq {s : List Nod} (h : SetOk s) (st : G_api_Step) (h1 : st.Path.length < 1000000) (h2 : st.To.length < 1000000) : M_made_Done s st = some (doneS s st) := by
  unfold M_made_Done doneS
  have hs : s.length ≤ 1000 := by rw [h.len]; omega
  have hs1 : 1 ≤ s.length := by rw [h.len]; omega
  rw [rmake_eq s _ _ hs hs1 h1, rdrop_eq s _ hs hs1 h1, rmove_eq s _ _ hs hs1 h.upOk h1 h2, rwrite11_eq s _ _ _ hs hs1 h1 h.bodies, rcut_eq s _ _ hs hs1 h1]
  simp only [bind_some']
  by_cases c1 : st.Kind = 1
  · rw [beqT c1, cond_true, if_pos c1]
  · rw [beqF c1, cond_false, if_neg c1]
    by_cases c2 : st.Kind = 2
    · rw [beqT c2, cond_true, if_pos c2]
    · rw [beqF c2, cond_false, if_neg c2]
      by_cases c3 : st.Kind = 3
      · rw [beqT c3, cond_true, if_pos c3]
      · rw [beqF c3, cond_false, if_neg c3]
        by_cases c4 : st.Kind = 4
        · rw [beqT c4, cond_true, if_pos c4]
        · rw [beqF c4, cond_false, if_neg c4]
theorem done_ok {s : List Nod} (h : SetOk s) (st : G_api_Step) : SetOk (doneS s st).1 := by
  unfold doneS
  split
  · exact make_ok h _ _
  · split
    · exact drop_ok h _
    · split
      · exact move_ok h _ _
      · split
        · exact write_ok h _ _ _
        · exact cut_ok h _ _
/-! ## Sets of numbers -/
theorem grown_l1 (m : Nat) (hm : m < 1000000) : ∀ (j : Nat), j ≤ m → ∀ (s : List Nod) (p : G_palimpmade_Picks), SetOk s → WfP p → ∃ s' q, M_made_Picks_Grown_l1 (m : Int) fuel s (j : Int) p = some (s', q) ∧ SetOk s' ∧ WfP q := by
  refine up_fuel (Q := fun f j => ∀ (s : List Nod) (p : G_palimpmade_Picks), SetOk s → WfP p → ∃ s' q, M_made_Picks_Grown_l1 (m : Int) f s (j : Int) p = some (s', q) ∧ SetOk s' ∧ WfP q) m (by omega) ?_ ?_
  · intro f s p hs hp
    refine ⟨s, p, ?_, hs, hp⟩
    rw [M_made_Picks_Grown_l1, decide_eq_false (by omega)]
    rfl
  · intro f j hj ih s p hs hp
    rw [M_made_Picks_Grown_l1, decide_eq_true (by omega), bTT, cond_true, M_made_Picks_Over, bind_some', Bool.true_and]
    cases ho : decide (p.n ≥ (p.l.length : Int)) with
    | true =>
      exact ⟨s, p, rfl, hs, hp⟩
    | false =>
      obtain ⟨st, q, e1, h1, h2⟩ := edit_ok p hp 1
      have hl := ways15_len h2.path
      have ht := h2.dest
      rw [Bool.not_false, cond_true, e1, bind_some', done_eq hs st (by omega) (by omega), bind_some', w64_succ (by omega)]
      exact ih _ _ (done_ok hs st) h1
def newS : List Nod := [rootN, zN, zN, zN, zN, zN, zN, zN]
theorem rnew_eq : M_ref11_New = some newS := by kernel_rfl
theorem nd_new (i : Int) (h : 1 ≤ i) : nd newS i = zN := by
  unfold nd
  have : i.toNat ≠ 0 := by omega
  match e : i.toNat with
  | 0 => omega
  | 1 => rfl
  | 2 => rfl
  | 3 => rfl
  | 4 => rfl
  | 5 => rfl
  | 6 => rfl
  | 7 => rfl
  | n + 8 => rfl
theorem new_ok11 : SetOk newS :=
  ⟨rfl, rfl, fun i h1 h2 => .inl (nd_new i h1), fun i k h1 h2 h3 h4 h5 h6 => absurd (by rw [nd_new i h1]; rfl) h6, fun _ => 0, fun i h1 h2 h3 => absurd (by rw [nd_new i h1]; rfl) h3⟩
theorem set_made (p : G_palimpmade_Picks) (hp : WfP p) (m : Nat) (hm : m < 1000000) : ∃ s q, M_made_Picks_Set p (m : Int) = some (s, q) ∧ SetOk s ∧ WfP q := by
  unfold M_made_Picks_Set M_made_Picks_Grown
  rw [rnew_eq, bind_some']
  obtain ⟨s, q, e, h1, h2⟩ := grown_l1 m hm 0 (Nat.zero_le _) newS p new_ok11 hp
  have e' : M_made_Picks_Grown_l1 (m : Int) fuel newS 0 p = some (s, q) := e
  rw [e', bind_some']
  exact ⟨s, q, rfl, h1, h2⟩
theorem wf_made (l : List UInt8) (h : l.length < 1000000) : WfP ⟨l, 0⟩ := ⟨Int.le_refl _, by simp, h⟩
end Go.Proofs

/-
  Package node: which sets may be.
-/
set_option maxRecDepth 20000
namespace Go.Proofs
open Go Go.Fhl Classical
set_option linter.unusedVariables false
set_option linter.unusedSimpArgs false
/-- A node that may be, but for the others, as the program has it. -/
def AloneP (s : List Nod) (x : Nod) : Prop := x.Bad = 0 ∧ mayN x.Name = true ∧ (0 ≤ x.Up ∧ x.Up < s.length ∧ (nd s x.Up).Kind = 2) ∧ ((x.Kind = 1 ∧ x.Body.length ≤ 128) ∨ (x.Kind = 2 ∧ x.Body = []))
/-! ## Up to the root -/
def leadsR (s : List Nod) : Nat → Int → Bool
  | 0, _ => false
  | r + 1, n => if n = 0 then true else leadsR s r (nd s n).Up
def TwinP (s : List Nod) (n i : Int) : Prop := 0 < i ∧ i ≠ n ∧ (nd s i).Kind ≠ 0 ∧ (nd s i).Up = (nd s n).Up ∧ (nd s i).Name = (nd s n).Name
/-! ## May -/
def P2 (s : List Nod) (n : Int) : Prop := 0 < n → (nd s n).Kind ≠ 0 → leadsR s s.length n = true ∧ ∀ i : Int, 0 ≤ i → i < s.length → ¬ TwinP s n i
def P1 (s : List Nod) (x : Nod) : Prop := x = zN ∨ AloneP s x
/-! ## What that says -/
def stepsR (s : List Nod) : Nat → Int → Nat
  | 0, _ => 0
  | r + 1, n => if n = 0 then 0 else stepsR s r (nd s n).Up + 1
end Go.Proofs

/-
  Torn sets of nodes: what package node makes of them.
-/
set_option maxRecDepth 20000
namespace Go.Proofs
open Go Go.Fhl Classical
set_option linter.unusedVariables false
set_option linter.unusedSimpArgs false
/-! ## A spare name -/
def digS (n : Nat) : Str := [UInt8.ofNat (48 + n)]
/-! ## Mended -/
def badB (x : Nod) : Prop := x.Kind = 1 ∧ 0 < x.Bad ∧ x.Bad ≤ 15
structure MendR (s m : List Nod) (i : Int) : Prop where
  bad : badB (nd s i) → nd m i = { nd s i with Bad := 0 }
  lost : nd s i = lostN → 0 < i → ∃ nm, nd m i = ⟨2, 0, nm, [], 0⟩ ∧ mayN nm = true ∧ ∀ k : Int, 0 ≤ k → k < s.length → k ≠ i → (nd m k).Name ≠ nm
  same : ¬ badB (nd s i) → ¬ (nd s i = lostN ∧ 0 < i) → nd m i = nd s i
structure MendJ (s m : List Nod) (j : Int) : Prop where
  len : m.length = s.length
  done : ∀ i : Int, 0 ≤ i → i < s.length → i < j → MendR s m i
  todo : ∀ i : Int, 0 ≤ i → i < s.length → j ≤ i → nd m i = nd s i
/-! ## Torn -/
structure TNod (s : List Nod) (x : Nod) : Prop where
  live : (x.Kind = 1 ∧ 0 ≤ x.Bad ∧ x.Bad ≤ 15) ∨ (x.Kind = 2 ∧ x.Bad = 0 ∧ x.Body = [])
  name : mayN x.Name = true
  body : x.Body.length ≤ 128
  up : 0 ≤ x.Up ∧ x.Up < 8 ∧ ((nd s x.Up).Kind = 2 ∨ (nd s x.Up).Kind = 3)
structure TornOk (s : List Nod) : Prop where
  len : s.length = 8
  root : nd s 0 = rootN
  nod : ∀ i : Int, 1 ≤ i → i < 8 → nd s i = zN ∨ nd s i = lostN ∨ TNod s (nd s i)
  uniq : ∀ i k : Int, 1 ≤ i → i < 8 → 1 ≤ k → k < 8 → i ≠ k → liveB (nd s i) = true → liveB (nd s k) = true → (nd s i).Up = (nd s k).Up → (nd s i).Name ≠ (nd s k).Name
  rank : ∃ d : Int → Nat, ∀ i : Int, 1 ≤ i → i < 8 → liveB (nd s i) = true → d (nd s i).Up < d i
theorem liveB_iff {x : Nod} : liveB x = true ↔ x.Kind = 1 ∨ x.Kind = 2 := by unfold liveB; simp
theorem SetOk.torn {s : List Nod} (h : SetOk s) : TornOk s := by
  obtain ⟨d, hd⟩ := h.rank
  refine ⟨h.len, h.root, fun i a b => ?_, fun i k a1 a2 b1 b2 hne hi hk => h.uniq i k a1 a2 b1 b2 hne (by rcases liveB_iff.1 hi with c | c <;> omega) (by rcases liveB_iff.1 hk with c | c <;> omega), d, fun i a b hi => hd i a b (by rcases liveB_iff.1 hi with c | c <;> omega)⟩
  rcases h.nod i a b with q | q
  · exact .inl q
  · refine .inr (.inr ⟨?_, q.name, q.body, q.up.1, q.up.2.1, .inl q.up.2.2⟩)
    rcases q.live with c | c
    · exact .inl ⟨c, by rw [q.bad]; omega, by rw [q.bad]; omega⟩
    · exact .inr ⟨c, q.bad, q.nobody c⟩
end Go.Proofs

/-
  Torn sets of nodes: what the document says of them, and package node.
-/
set_option maxRecDepth 20000
namespace Go.Proofs
open Go Go.Fhl Classical
set_option linter.unusedVariables false
set_option linter.unusedSimpArgs false
def climbR (s : List Nod) : Nat → Int → Int
  | 0, n => n
  | r + 1, n => if 0 < n ∧ n < s.length then climbR s r (nd s n).Up else n
def TwinQ (s : List Nod) (i k : Int) : Prop := (nd s k).Kind ≠ 0 ∧ (nd s k).Kind ≠ 3 ∧ (nd s k).Up = (nd s i).Up ∧ (nd s k).Name = (nd s i).Name
def TN (s : List Nod) (x : Nod) : Prop := ((x.Kind = 1 ∧ 0 ≤ x.Bad ∧ x.Bad ≤ 15) ∨ (x.Kind = 2 ∧ x.Bad = 0 ∧ x.Body = [])) ∧ mayN x.Name = true ∧ (0 ≤ x.Up ∧ x.Up < s.length ∧ ((nd s x.Up).Kind = 2 ∨ (nd s x.Up).Kind = 3)) ∧ x.Body.length ≤ 128
def P3 (s : List Nod) (i : Int) : Prop := nd s i = zN ∨ nd s i = lostN ∨ (TN s (nd s i) ∧ (∀ k : Int, 1 ≤ k → k < i → ¬ TwinQ s i k) ∧ climbR s s.length i = 0)
/-- Names are no endless texts. -/
def SmallN (s : List Nod) : Prop := ∀ i : Int, (nd s i).Name.length < 1000000
/-! ## What that says -/
def stepsC (s : List Nod) : Nat → Int → Nat
  | 0, _ => 0
  | r + 1, n => if 0 < n ∧ n < s.length then stepsC s r (nd s n).Up + 1 else 0
/-! ## May, Same -/
theorem rsame_l1 (a b : List Nod) (hl : a.length = b.length) (hs : a.length < 1000000) : ∀ (j : Nat), j ≤ a.length → M_ref11_Same_l1 a b fuel (j : Int) = some (decide (a.drop j = b.drop j)) := by
  refine up_fuel (Q := fun n j => M_ref11_Same_l1 a b n (j : Int) = some (decide (a.drop j = b.drop j))) a.length (by omega) ?_ ?_
  · intro n
    rw [M_ref11_Same_l1, decide_eq_false (by omega), cond_false, List.drop_length, hl, List.drop_length]
    simp
  · intro n j hj ih
    rw [M_ref11_Same_l1, decide_eq_true (by omega), cond_true, getI_lt hj, bind_some', getI_lt (by omega), bind_some', w64_succ (by omega), ih, List.drop_eq_getElem_cons hj]
    have hbd : b.drop j = b[j]'(by omega) :: b.drop (j + 1) := List.drop_eq_getElem_cons (by omega)
    by_cases e : a[j] = b[j]'(by omega)
    · rw [decide_eq_true e, Bool.not_true, cond_false]
      congr 1; rw [decide_eq_decide, hbd, e]; simp only [List.cons.injEq, true_and]
    · rw [decide_eq_false e, Bool.not_false, cond_true]
      congr 1; symm; rw [decide_eq_false_iff_not, hbd]
      intro q; injection q with q1 _; exact e q1
theorem rsame_eq (a b : List Nod) (hs : a.length < 1000000) : M_ref11_Same a b = some (decide (a = b)) := by
  unfold M_ref11_Same
  by_cases h : a.length = b.length
  · have e : ((a.length : Int) != (b.length : Int)) = false := by rw [h]; simp
    have := rsame_l1 a b h hs 0 (Nat.zero_le _)
    have this' : M_ref11_Same_l1 a b fuel 0 = some (decide (a.drop 0 = b.drop 0)) := this
    rw [e, cond_false, this', List.drop_zero, List.drop_zero]
  · have e : ((a.length : Int) != (b.length : Int)) = true := by rw [bne_iff_ne]; omega
    rw [e, cond_true, decide_eq_false (fun q => h (by rw [q]))]
theorem TornOk.small {s : List Nod} (h : TornOk s) : SmallN s := by
  intro i
  by_cases a : i < 8
  · by_cases b : i ≤ 0
    · have : nd s i = nd s 0 := by unfold nd; rw [show i.toNat = (0 : Int).toNat by omega]
      rw [this, h.root]; decide
    · rcases h.nod i (by omega) a with q | q | q
      · rw [q]; decide
      · rw [q]; decide
      · have := (mayN_no47 q.name).2.1; omega
  · have : nd s i = zN := by unfold nd; rw [List.getD_eq_getElem?_getD, List.getElem?_eq_none (by rw [h.len]; omega)]; rfl
    rw [this]; decide
theorem SetOk.small {s : List Nod} (h : SetOk s) : SmallN s := h.torn.small
end Go.Proofs
