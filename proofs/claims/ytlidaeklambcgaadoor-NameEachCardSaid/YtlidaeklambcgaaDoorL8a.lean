/-
  Plain facts on texts that are cut at a byte, and put together.
-/
import Derived.Test.YtlidaeklambcgaaDoorL0
import Derived.Test.YtlidaeklambcgaaDoorFS
set_option maxRecDepth 20000
namespace Go.Proofs
open Go Go.Fhl
set_option linter.unusedVariables false
set_option linter.unusedSimpArgs false
/-- A text's parts. -/
def splitS : Str → List Str
  | [] => [[]]
  | c :: s => if c = 47 then [] :: splitS s else match splitS s with | [] => [[c]] | p :: r => (c :: p) :: r
theorem splitS_cons (c : UInt8) (s : Str) : splitS (c :: s) = if c = 47 then [] :: splitS s else match splitS s with | [] => [[c]] | p :: r => (c :: p) :: r := rfl
theorem splitS_ne (s : Str) : splitS s ≠ [] := by
  cases s with
  | nil => simp [splitS]
  | cons c s => unfold splitS; split; simp; split <;> simp
theorem splitS_none : ∀ (s : Str), (47 : UInt8) ∉ s → splitS s = [s]
  | [], _ => rfl
  | c :: s, h => by
    have h1 : c ≠ 47 := fun e => h (by simp [e])
    have h2 := splitS_none s (fun e => h (by simp [e]))
    unfold splitS; rw [if_neg h1, h2]
theorem splitS_cat : ∀ (a b : Str), (47 : UInt8) ∉ a → splitS (a ++ 47 :: b) = a :: splitS b
  | [], b, _ => by simp [splitS]
  | c :: a, b, h => by
    have h1 : c ≠ 47 := fun e => h (by simp [e])
    have h2 := splitS_cat a b (fun e => h (by simp [e]))
    rw [List.cons_append, splitS_cons, if_neg h1, h2]
theorem splitS_length : ∀ s : Str, (splitS s).length = s.count 47 + 1
  | [] => rfl
  | c :: s => by
    have ih := splitS_length s
    unfold splitS
    by_cases h : c = 47
    · rw [if_pos h, List.length_cons, ih, h, List.count_cons_self]
    · rw [if_neg h, List.count_cons_of_ne (fun e => h e)]
      split
      · rename_i e; exact absurd e (splitS_ne s)
      · rename_i p r e; rw [e] at ih; simpa using ih
theorem splitS_app : ∀ (a b : Str), splitS (a ++ 47 :: b) = splitS a ++ splitS b
  | [], b => by simp [splitS]
  | c :: a, b => by
    have ih := splitS_app a b
    rw [List.cons_append, splitS_cons, splitS_cons c a]
    by_cases h : c = 47
    · rw [if_pos h, if_pos h, ih]; rfl
    · rw [if_neg h, if_neg h, ih]
      cases e : splitS a with
      | nil => exact absurd e (splitS_ne a)
      | cons p r => rfl
theorem splitS_mem : ∀ (s p : Str), p ∈ splitS s → (47 : UInt8) ∉ p ∧ p.length ≤ s.length
  | [], p, h => by simp [splitS] at h; subst h; simp
  | c :: s, p, h => by
    have ih := splitS_mem s
    unfold splitS at h
    by_cases h1 : c = 47
    · rw [if_pos h1] at h
      rcases List.mem_cons.1 h with rfl | h
      · simp
      · have := ih p h; exact ⟨this.1, by simp; omega⟩
    · rw [if_neg h1] at h
      cases e : splitS s with
      | nil => exact absurd e (splitS_ne s)
      | cons q r =>
        rw [e] at h ih
        rcases List.mem_cons.1 h with rfl | h
        · have := ih q (by simp)
          refine ⟨fun hm => ?_, by simp; omega⟩
          rcases List.mem_cons.1 hm with e1 | e1
          · exact h1 e1.symm
          · exact this.1 e1
        · have := ih p (by simp [h]); exact ⟨this.1, by simp; omega⟩
theorem joinS_nil (sep : Str) : joinS [] sep = [] := rfl
theorem joinS_one (x sep : Str) : joinS [x] sep = x := Lib.join_one x sep
theorem joinS_cons (x y : Str) (r : List Str) (sep : Str) : joinS (x :: y :: r) sep = x ++ sep ++ joinS (y :: r) sep := by
  unfold joinS
  rw [Lib.join_cons, Lib.join_cons]
  simp [Lib.joinTail]
theorem join_split : ∀ s : Str, joinS (splitS s) [47] = s
  | [] => rfl
  | c :: s => by
    have ih := join_split s
    unfold splitS
    cases e : splitS s with
    | nil => exact absurd e (splitS_ne s)
    | cons q r =>
      rw [e] at ih
      by_cases h : c = 47
      · rw [if_pos h, joinS_cons, ih, h]; rfl
      · rw [if_neg h]
        show joinS ((c :: q) :: r) [47] = c :: s
        cases r with
        | nil => rw [joinS_one] at ih ⊢; rw [ih]
        | cons y r => rw [joinS_cons] at ih ⊢; rw [← ih]; simp
theorem split_join : ∀ l : List Str, l ≠ [] → (∀ p ∈ l, (47 : UInt8) ∉ p) → splitS (joinS l [47]) = l
  | [], h, _ => absurd rfl h
  | [x], _, h => by rw [joinS_one]; exact splitS_none x (h x (by simp))
  | x :: y :: r, _, h => by
    have ih := split_join (y :: r) (by simp) (fun p hp => h p (by simp [hp]))
    rw [joinS_cons, List.append_assoc, List.singleton_append, splitS_cat _ _ (h x (by simp)), ih]
theorem joinS_length : ∀ (l : List Str) (b : Nat), (∀ p ∈ l, p.length ≤ b) → (joinS l [47]).length ≤ l.length * (b + 1)
  | [], _, _ => by simp [joinS_nil]
  | [x], b, h => by rw [joinS_one]; have := h x (by simp); simp; omega
  | x :: y :: r, b, h => by
    have ih := joinS_length (y :: r) b (fun p hp => h p (by simp [hp]))
    have := h x (by simp)
    rw [joinS_cons]
    simp only [List.length_append, List.length_cons, List.length_nil] at ih ⊢
    rw [Nat.add_mul (r.length + 1) 1 (b + 1)]
    omega
/-- Where a byte is. -/
theorem idx_spec (c : UInt8) : ∀ s : Str, (c ∉ s ∧ Lib.indexByte s c = -1) ∨ ∃ a b, s = a ++ c :: b ∧ c ∉ a ∧ Lib.indexByte s c = (a.length : Int)
  | [] => .inl ⟨by simp, rfl⟩
  | x :: s => by
    by_cases h : x = c
    · exact .inr ⟨[], s, by simp [h], by simp, by simp [Lib.indexByte, h]⟩
    · have hb : (x == c) = false := by simp [h]
      rcases idx_spec c s with ⟨h1, h2⟩ | ⟨a, b, h1, h2, h3⟩
      · refine .inl ⟨fun hm => by rcases List.mem_cons.1 hm with e | e; exact h e.symm; exact h1 e, ?_⟩
        unfold Lib.indexByte; rw [hb, h2]; rfl
      · refine .inr ⟨x :: a, b, by simp [h1], fun hm => by rcases List.mem_cons.1 hm with e | e; exact h e.symm; exact h2 e, ?_⟩
        unfold Lib.indexByte; rw [hb, h3]
        have : ((a.length : Int) == -1) = false := by simp
        rw [this]; simp
theorem idx_neg (c : UInt8) (s : Str) : decide (Lib.indexByte s c < 0) = !s.contains c := by
  rcases idx_spec c s with ⟨h1, h2⟩ | ⟨a, b, h1, h2, h3⟩
  · rw [h2]; simp [h1]
  · rw [h3]
    have : c ∈ s := by rw [h1]; simp
    simp [this]
end Go.Proofs
