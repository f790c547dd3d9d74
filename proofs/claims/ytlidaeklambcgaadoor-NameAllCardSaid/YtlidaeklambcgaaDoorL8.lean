/-
  Names, ways: what the models of the program's functions and of the document's answer compute.
-/
import Derived.Test.YtlidaeklambcgaaDoorL8a
import Derived.Test.YtlidaeklambcgaaDoorR11M
import Derived.KernelRfl
set_option maxRecDepth 20000
namespace Go.Proofs
open Go Go.Fhl
set_option linter.unusedVariables false
set_option linter.unusedSimpArgs false
def abc : Str := [97, 98, 99, 100, 101, 102, 103, 104, 105, 106, 107, 108, 109, 110, 111, 112, 113, 114, 115, 116, 117, 118, 119, 120, 121, 122, 48, 49, 50, 51, 52, 53, 54, 55, 56, 57, 46, 95, 45]
def okc (c : UInt8) : Bool := abc.contains c
def mayN (s : Str) : Bool := s != [] && decide (s.length ≤ 8) && s.all okc && s != [46] && s != [46, 46]
/-- All bytes. -/
theorem all8 {p : UInt8 → Bool} (h : (List.range 256).all (fun n => p (UInt8.ofNat n)) = true) (c : UInt8) : p c = true := by
  have := List.all_eq_true.1 h c.toNat (List.mem_range.2 c.toNat_lt)
  simpa using this
theorem okc_eq (c : UInt8) : ((((((decide (c ≥ 97)) && (decide (c ≤ 122))) || ((decide (c ≥ 48)) && (decide (c ≤ 57)))) || (c == 46)) || (c == 95)) || (c == 45)) = okc c := by
  have := all8 (p := fun c => ((((((decide (c ≥ 97)) && (decide (c ≤ 122))) || ((decide (c ≥ 48)) && (decide (c ≤ 57)))) || (c == 46)) || (c == 95)) || (c == 45)) == okc c) (by decide +kernel) c
  simpa using this
theorem plain_l1 (s : Str) (hs : s.length < 1000000) : ∀ (j : Nat), j ≤ s.length → M_name_plain_l1 s fuel (j : Int) = some ((s.drop j).all okc) := by
  refine up_fuel (Q := fun n j => M_name_plain_l1 s n (j : Int) = some ((s.drop j).all okc)) s.length (by omega) ?_ ?_
  · intro n
    rw [M_name_plain_l1, decide_eq_false (by omega), cond_false]
    simp
  · intro n j hj ih
    rw [M_name_plain_l1, decide_eq_true (by omega), cond_true, getI_lt hj, bind_some']
    show Option.bind (some (Lib.indexByte abc s[j])) _ = _
    rw [bind_some', idx_neg, w64_succ (by omega), ih, List.drop_eq_getElem_cons hj, List.all_cons]
    show cond (!okc s[j]) _ _ = _
    cases okc s[j] <;> rfl
theorem plain_eq (s : Str) (hs : s.length < 1000000) : M_name_plain s = some (s.all okc) := by
  have := plain_l1 s hs 0 (Nat.zero_le _)
  simpa [M_name_plain] using this
theorem nmay_eq (s : Str) : M_name_May s = some (mayN s) := by
  unfold M_name_May
  by_cases h : s.length ≤ 8
  · rw [plain_eq s (by omega), gd_some, bind_some']
    have e : decide ((s.length : Int) ≤ 8) = decide (s.length ≤ 8) := by rw [decide_eq_decide]; omega
    rw [e]
    unfold mayN
    cases hx : (s != [] && decide (s.length ≤ 8)) <;> rfl
  · have e : decide ((s.length : Int) ≤ 8) = false := decide_eq_false (by omega)
    have e2 : decide (s.length ≤ 8) = false := decide_eq_false h
    unfold mayN
    rw [e, e2]
    simp [gd_false]
theorem rmayn_l1 (s : Str) (hs : s.length < 1000000) : ∀ (j : Nat), j ≤ s.length → M_ref11_MayName_l1 s fuel (j : Int) = some ((s.drop j).all okc && (decide (1 ≤ s.length) && decide (s.length ≤ 8) && s != [46] && s != [46, 46])) := by
  refine up_fuel (Q := fun n j => M_ref11_MayName_l1 s n (j : Int) = some ((s.drop j).all okc && (decide (1 ≤ s.length) && decide (s.length ≤ 8) && s != [46] && s != [46, 46]))) s.length (by omega) ?_ ?_
  · intro n
    rw [M_ref11_MayName_l1, decide_eq_false (by omega), cond_false]
    have e1 : decide ((s.length : Int) ≥ 1) = decide (1 ≤ s.length) := by rw [decide_eq_decide]; omega
    have e2 : decide ((s.length : Int) ≤ 8) = decide (s.length ≤ 8) := by rw [decide_eq_decide]; omega
    rw [e1, e2]
    simp
  · intro n j hj ih
    rw [M_ref11_MayName_l1, decide_eq_true (by omega), cond_true, getI_lt hj, bind_some', okc_eq, w64_succ (by omega), ih, List.drop_eq_getElem_cons hj, List.all_cons]
    cases okc s[j] <;> rfl
theorem rmayn_eq (s : Str) (hs : s.length < 1000000) : M_ref11_MayName s = some (mayN s) := by
  have := rmayn_l1 s hs 0 (Nat.zero_le _)
  unfold M_ref11_MayName
  rw [show (0 : Int) = ((0 : Nat) : Int) from rfl, this, List.drop_zero]
  unfold mayN
  congr 1
  have : (s != []) = decide (1 ≤ s.length) := by cases s <;> simp
  rw [this]
  cases s.all okc <;> simp
theorem mayN_no47 {p : Str} (h : mayN p = true) : (47 : UInt8) ∉ p ∧ p.length ≤ 8 ∧ p ≠ [] := by
  unfold mayN at h
  simp only [Bool.and_eq_true, bne_iff_ne, decide_eq_true_eq, List.all_eq_true] at h
  exact ⟨fun hm => by have := h.1.1.2 _ hm; revert this; decide, h.1.1.1.2, h.1.1.1.1⟩

/-! ## A way's parts -/
theorem gs_l1 (t0 : Str) (y4 : Int) (N : Nat) (hy : min y4 (w64 ((t0.length : Int) + 1)) = ((N + 1 : Nat) : Int)) (hN : N < 1000000) :
    ∀ (k j n : Nat) (s : Str) (a : List Str), j + k = N → s.count 47 = k → a.length = N + 1 → s.length < 1000000 → k < n → M_strings_genSplit_l1 t0 [47] 0 y4 n s (j : Int) a = some (a.take j ++ splitS s) := by
  have e0 : w64 (((N + 1 : Nat) : Int) - 1) = (N : Int) := w64_pred (by omega)
  have fin : ∀ (s : Str) (a : List Str), s.count 47 = 0 → a.length = N + 1 → M_strings_genSplit_k2 s (N : Int) a = some (a.take N ++ splitS s) := by
    intro s a hc ha
    unfold M_strings_genSplit_k2
    rw [getI_lt (by omega), bind_some', setI_nat (by omega), bind_some', w64_succ (by omega), slL_to (by simp; omega), bind_some', splitS_none s (by simpa [List.count_eq_zero] using hc)]
    congr 1
    apply List.ext_getElem?
    intro i
    rw [List.getElem?_take, List.getElem?_append, List.getElem?_take, List.getElem?_set, List.length_take]
    by_cases h1 : i < N
    · rw [if_pos (by omega), if_neg (by omega), if_pos (by omega), if_pos h1]
    · by_cases h2 : i = N
      · subst h2; rw [if_pos (by omega), if_pos rfl, if_pos (by omega), if_neg (by omega)]; simp [Nat.min_eq_left (show i ≤ a.length by omega)]
      · rw [if_neg (by omega), if_neg (by omega), List.getElem?_eq_none (by simp; omega)]
  intro k
  induction k with
  | zero =>
    intro j n s a h1 h2 h3 h4 hn
    obtain ⟨n, rfl⟩ : ∃ x, n = x + 1 := ⟨n - 1, by omega⟩
    obtain rfl : j = N := by omega
    rw [M_strings_genSplit_l1, hy, e0, decide_eq_false (by omega), cond_false, fin s a h2 h3]
  | succ k ih =>
    intro j n s a h1 h2 h3 h4 hn
    obtain ⟨n, rfl⟩ : ∃ x, n = x + 1 := ⟨n - 1, by omega⟩
    rw [M_strings_genSplit_l1, hy, e0, decide_eq_true (by omega), cond_true]
    show Option.bind (some (Lib.indexByte s 47)) _ = _
    rw [bind_some']
    rcases idx_spec 47 s with ⟨q1, q2⟩ | ⟨b, c, q1, q2, q3⟩
    · rw [List.count_eq_zero.2 q1] at h2; omega
    · have hl : s.length = b.length + 1 + c.length := by rw [q1]; simp; omega
      have hcnt : c.count 47 = k := by
        rw [q1, List.count_append, List.count_cons_self, List.count_eq_zero.2 q2] at h2; omega
      rw [q3, decide_eq_false (by omega), cond_false, show w64 ((b.length : Int) + 0) = ((b.length : Nat) : Int) by rw [Int.add_zero]; exact w64_nat (by omega), slL_to (by omega), bind_some', getI_lt (by omega), bind_some', setI_nat (by omega), bind_some']
      rw [show w64 ((b.length : Int) + (([47] : Str).length : Int)) = ((b.length + 1 : Nat) : Int) from w64_succ (by omega), slL_from (by omega), bind_some', w64_succ (by omega)]
      have d1 : s.take b.length = b := by rw [q1]; simp
      have d2 : s.drop (b.length + 1) = c := by rw [q1]; simp
      rw [d1, d2, ih (j + 1) n c _ (by omega) hcnt (by simp [h3]) (by omega) (by omega), q1, splitS_cat _ _ q2]
      congr 1
      have : (a.set j b).take (j + 1) = a.take j ++ [b] := by
        apply List.ext_getElem?
        intro i
        rw [List.getElem?_take, List.getElem?_append, List.getElem?_take, List.getElem?_set, List.length_take]
        by_cases h1 : i < j
        · rw [if_pos (by omega), if_neg (by omega), if_pos (by omega), if_pos h1]
        · by_cases h2 : i = j
          · subst h2; rw [if_pos (by omega), if_pos rfl, if_pos (by omega), if_neg (by omega)]; simp [Nat.min_eq_left (show i ≤ a.length by omega)]
          · rw [if_neg (by omega), if_neg (by omega), List.getElem?_eq_none (by simp; omega)]
      rw [this, List.append_assoc, List.singleton_append]
theorem count_le (s : Str) : s.count 47 ≤ s.length := List.count_le_length
theorem split_eq (s : Str) (hs : s.length < 1000000) : M_strings_Split s [47] = some (splitS s) := by
  have hc := count_le s
  unfold M_strings_Split M_strings_genSplit
  have e1 : ((-1 : Int) == 0) = false := rfl
  have e2 : (([47] : Str) == []) = false := rfl
  have e3 : decide ((-1 : Int) < 0) = true := rfl
  rw [e1, cond_false, e2, cond_false, e3, cond_true]
  show Option.bind (Option.bind (some (Lib.countByte s 47 : Int)) _) _ = _
  rw [bind_some']
  have e4 : (Lib.countByte s 47 : Int) = ((s.count 47 : Nat) : Int) := rfl
  rw [e4, w64_succ (by omega)]
  unfold M_strings_genSplit_k1
  have hy : min ((s.count 47 + 1 : Nat) : Int) (w64 ((s.length : Int) + 1)) = ((s.count 47 + 1 : Nat) : Int) := by
    rw [w64_succ (by omega)]; omega
  rw [hy, makeL_nat (by omega) (by omega), bind_some']
  have := gs_l1 s ((s.count 47 + 1 : Nat) : Int) (s.count 47) hy (by omega) (s.count 47) 0 fuel s (List.replicate (s.count 47 + 1) []) (by omega) rfl (by simp) hs (by unfold fuel; omega)
  rw [show ((0 : Nat) : Int) = 0 from rfl] at this
  rw [this]
  simp
def partsN (s : Str) : List Str × Bool :=
  if s = [] then ([], true) else if (splitS s).length ≥ 8 then ([], false) else if (splitS s).all mayN then (splitS s, true) else ([], false)
theorem parts_l1 (l : List Str) (hs : l.length < 1000000) : ∀ (j : Nat), j ≤ l.length → M_name_Parts_l1 l fuel (j : Int) = some (if (l.drop j).all mayN then (l, true) else ([], false)) := by
  refine up_fuel (Q := fun n j => M_name_Parts_l1 l n (j : Int) = some (if (l.drop j).all mayN then (l, true) else ([], false))) l.length (by omega) ?_ ?_
  · intro n
    rw [M_name_Parts_l1, decide_eq_false (by omega), cond_false]
    simp
  · intro n j hj ih
    rw [M_name_Parts_l1, decide_eq_true (by omega), cond_true, getI_lt hj, bind_some', nmay_eq, bind_some', w64_succ (by omega), ih, List.drop_eq_getElem_cons hj, List.all_cons]
    cases mayN l[j] <;> simp
theorem parts_eq (s : Str) (hs : s.length < 1000000) : M_name_Parts s = some (partsN s) := by
  unfold M_name_Parts partsN
  by_cases h : s = []
  · subst h; rfl
  · have e : (s == []) = false := by simp [h]
    have hc := count_le s
    have hl := splitS_length s
    rw [e, cond_false, if_neg h, split_eq s hs, bind_some']
    by_cases h8 : (splitS s).length ≥ 8
    · rw [decide_eq_true (by omega), cond_true, if_pos h8]
    · rw [decide_eq_false (by omega), cond_false, if_neg h8]
      have := parts_l1 (splitS s) (by omega) 0 (Nat.zero_le _)
      simpa using this
/-- The document's: a part at a time. -/
theorem rparts_l1 (s : Str) (hs : s.length < 1000000) : ∀ (k j n : Nat) (i : Nat) (acc : List Str), j + k = s.length + 1 → i ≤ j → k < n → acc.length ≤ 7 → (47 : UInt8) ∉ (s.drop i).take (j - i) →
    (acc.all mayN = true) → j ≤ s.length → M_ref11_Parts_l1 s n (i : Int) (j : Int) acc = some (if (splitS (s.drop i)).all mayN = true ∧ acc.length + (splitS (s.drop i)).length < 8 then (acc ++ splitS (s.drop i), true) else ([], false)) := by
  intro k
  induction k with
  | zero => intro j n i acc h1 h2 h3 h4 h5 h6 h7; omega
  | succ k ih =>
    intro j n i acc h1 h2 h3 h4 h5 h6 h7
    obtain ⟨n, rfl⟩ : ∃ x, n = x + 1 := ⟨n - 1, by omega⟩
    rw [M_ref11_Parts_l1, decide_eq_true (by omega), cond_true]
    -- what is behind i, cut at j
    have hcut : s.drop i = (s.drop i).take (j - i) ++ s.drop j := by
      have := List.take_append_drop (j - i) (s.drop i)
      rw [List.drop_drop, show i + (j - i) = j by omega] at this
      exact this.symm
    generalize hp : (s.drop i).take (j - i) = p at *
    have hsl : slL s (i : Int) (j : Int) = some p := by
      rw [slL_nat h2 h7, ← hp]
      congr 1
      rw [List.drop_take]
    have hpl : p.length ≤ s.length := by rw [← hp]; simp; omega
    have step : ∀ (c : UInt8) (r : Str), s.drop j = c :: r → s.drop (j + 1) = r := fun c r e => by rw [← List.drop_drop, e]; rfl
    by_cases hj : j < s.length
    · rw [decide_eq_true (by omega), show ((true : Bool) == true) = true from rfl, gd_true, getI_lt hj, bind_some', Bool.true_and]
      have hd : s.drop j = s[j] :: s.drop (j + 1) := List.drop_eq_getElem_cons hj
      by_cases hc : s[j] = 47
      · have e : (s[j] != 47) = false := by simp [hc]
        rw [e, cond_false, hsl, bind_some', rmayn_eq p (by omega), bind_some']
        have hsp : splitS (s.drop i) = p :: splitS (s.drop (j + 1)) := by rw [hcut, hd, hc, splitS_cat _ _ h5]
        have hne := splitS_ne (s.drop (j + 1))
        have hpos : 0 < (splitS (s.drop (j + 1))).length := List.length_pos_iff.2 hne
        rw [hsp, List.all_cons, List.length_cons]
        cases hm : mayN p
        · simp
        · by_cases h7' : acc.length ≥ 7
          · rw [decide_eq_true (by omega), if_neg (by omega)]; rfl
          · rw [decide_eq_false (by omega)]
            simp only [Bool.not_true, Bool.or_self, cond_false]
            rw [bind_some', appL_eq (by simp; omega), bind_some']
            unfold M_ref11_Parts_k1
            rw [w64_succ (by omega)]
            by_cases hlast : j + 1 ≤ s.length
            · rw [ih (j + 1) n (j + 1) (acc ++ [p]) (by omega) (Nat.le_refl _) (by omega) (by simp; omega) (by simp) (by simp [h6, hm]) hlast]
              simp only [List.length_append, List.length_cons, List.length_nil, List.append_assoc, List.singleton_append, Bool.true_and]
              congr 1
              by_cases q : (splitS (s.drop (j + 1))).all mayN = true ∧ acc.length + (0 + 1) + (splitS (s.drop (j + 1))).length < 8
              · rw [if_pos q, if_pos ⟨q.1, by omega⟩]
              · rw [if_neg q, if_neg (fun x => q ⟨x.1, by omega⟩)]
            · omega
      · have e : (s[j] != 47) = true := by simp [hc]
        rw [e, cond_true]
        unfold M_ref11_Parts_k1
        rw [w64_succ (by omega)]
        by_cases hlast : j + 1 ≤ s.length
        · exact ih (j + 1) n i acc (by omega) (by omega) (by omega) h4 (by
            have : (s.drop i).take (j + 1 - i) = p ++ [s[j]] := by
              rw [hcut, hd, show j + 1 - i = p.length + 1 by rw [← hp]; simp; omega]
              rw [List.take_append, Nat.add_sub_cancel_left, List.take_of_length_le (by omega)]; rfl
            rw [this]; simp [h5]; exact fun e => hc e.symm) h6 hlast
        · omega
    · obtain rfl : j = s.length := by omega
      rw [decide_eq_false (by omega), show ((false : Bool) == true) = false from rfl, gd_false, bind_some', Bool.false_and, cond_false, hsl, bind_some', rmayn_eq p (by omega), bind_some']
      have hsp : splitS (s.drop i) = [p] := by rw [hcut, List.drop_length, List.append_nil, splitS_none _ h5]
      rw [hsp]
      cases hm : mayN p
      · simp [hm]
      · by_cases h7' : acc.length ≥ 7
        · rw [decide_eq_true (by omega), if_neg (by simp; omega)]; rfl
        · rw [decide_eq_false (by omega)]
          simp only [Bool.not_true, Bool.or_self, cond_false]
          rw [bind_some', appL_eq (by simp; omega), bind_some']
          unfold M_ref11_Parts_k1
          rw [w64_succ (by omega)]
          obtain ⟨n, rfl⟩ : ∃ x, n = x + 1 := ⟨n - 1, by omega⟩
          rw [M_ref11_Parts_l1, decide_eq_false (by omega), cond_false, if_pos ⟨by simp [hm], by simp; omega⟩]
theorem rparts_eq (s : Str) (hs : s.length < 1000000) : M_ref11_Parts s = some (partsN s) := by
  unfold M_ref11_Parts partsN
  by_cases h : s = []
  · subst h; rfl
  · have e : (s == []) = false := by simp [h]
    rw [e, cond_false, if_neg h]
    have := rparts_l1 s hs (s.length + 1) 0 fuel 0 [] (by omega) (by omega) (by unfold fuel; omega) (by simp) (by simp) rfl (by omega)
    rw [show (0 : Int) = ((0 : Nat) : Int) from rfl, this, List.drop_zero]
    congr 1
    by_cases h8 : (splitS s).length ≥ 8
    · rw [if_pos h8, if_neg (fun x => by have := x.2; simp at this; omega)]
    · rw [if_neg h8]
      by_cases q : (splitS s).all mayN = true
      · rw [if_pos q, if_pos ⟨q, by simp; omega⟩]; rfl
      · rw [if_neg q, if_neg (fun x => q x.1)]

/-! ## Texts that are alike -/
theorem samet_l1 (a b : List Str) (hl : a.length = b.length) (hs : a.length < 1000000) : ∀ (j : Nat), j ≤ a.length → M_ref1_SameTexts_l1 a b fuel (j : Int) = some (decide (a.drop j = b.drop j)) := by
  refine up_fuel (Q := fun n j => M_ref1_SameTexts_l1 a b n (j : Int) = some (decide (a.drop j = b.drop j))) a.length (by omega) ?_ ?_
  · intro n
    rw [M_ref1_SameTexts_l1, decide_eq_false (by omega), cond_false]
    simp [List.drop_eq_nil_of_le (Nat.le_of_eq hl.symm)]
  · intro n j hj ih
    have hj2 : j < b.length := by omega
    rw [M_ref1_SameTexts_l1, decide_eq_true (by omega), cond_true, getI_lt hj, bind_some', getI_lt hj2, bind_some', List.drop_eq_getElem_cons hj, List.drop_eq_getElem_cons hj2, w64_succ (by omega), ih]
    by_cases q : a[j] = b[j]
    · have e : (a[j] != b[j]) = false := by simp [q]
      rw [e, cond_false]; simp only [List.cons.injEq, q, true_and]
    · have e : (a[j] != b[j]) = true := by simp [q]
      rw [e, cond_true]; simp only [List.cons.injEq, q, false_and, decide_false]
theorem samet_eq (a b : List Str) (hs : a.length < 1000000) : M_ref1_SameTexts a b = some (decide (a = b)) := by
  unfold M_ref1_SameTexts
  by_cases hl : a.length = b.length
  · have := samet_l1 a b hl hs 0 (Nat.zero_le _)
    have e : ((a.length : Int) != (b.length : Int)) = false := by simp [hl]
    rw [e, cond_false]
    simpa using this
  · have e : ((a.length : Int) != (b.length : Int)) = true := by simp; omega
    rw [e, cond_true, decide_eq_false (fun q => hl (by rw [q]))]
theorem partsN_len (s : Str) : (partsN s).1.length < 8 := by
  unfold partsN
  split
  · simp
  · split
    · simp
    · split
      · simp; omega
      · simp
theorem join_eq (l : List Str) (b : Nat) (h : ∀ p ∈ l, p.length ≤ b) (hl : l.length ≤ 1000) (hb : b ≤ 1000000) : M_name_Join l = some (joinS l [47]) := by
  have h1 := joinS_length l b h
  have h2 : l.length * (b + 1) ≤ 1000 * 1000001 := Nat.mul_le_mul hl (by omega)
  show Option.bind (M_join l [47]) _ = _
  unfold M_join
  rw [if_pos ⟨by omega, by omega⟩, bind_some']
end Go.Proofs
