/-
  The laws of names, on the models.
-/
import Derived.Test.YtlidaeklambcgaaDoorL8
import Derived.Test.YtlidaeklambcgaaDoorL3n
set_option maxRecDepth 20000
namespace Go.Proofs
open Go Go.Fhl
set_option linter.unusedVariables false
set_option linter.unusedSimpArgs false
theorem begun11 : M_law11_begun = some true := by kernel_rfl
theorem law_NameForms : M_law11_NameForms = some true := by kernel_rfl
def ways15 : List Str := [([97] : Str), ([98] : Str), ([99] : Str), ([97, 47, 98] : Str), ([97, 47, 99] : Str), ([98, 47, 97] : Str), ([97, 47, 98, 47, 99] : Str), ([100] : Str), ([99, 47, 100] : Str), [], ([47, 97] : Str), ([97, 47, 47, 98] : Str), ([116, 111, 111, 108, 111, 110, 103, 110, 97, 109, 101] : Str), ([65] : Str), ([46, 46] : Str)]
theorem ways15_small : ∀ x ∈ ways15, x.length ≤ 11 ∧ (splitS x).length ≤ 3 := by
  have : ways15.all (fun x => decide (x.length ≤ 11) && decide ((splitS x).length ≤ 3)) = true := by decide +kernel
  intro x hx
  have := List.all_eq_true.1 this x hx
  simpa using this
theorem path_ok (p : G_palimpmade_Picks) (h : WfP p) : ∃ x q, M_made_Picks_Path p = some (x, q) ∧ WfP q ∧ x ∈ ways15 := by
  obtain ⟨x, q, e, w, h1, h2, _⟩ := num_ok p h 15 (by omega)
  unfold M_made_Picks_Path
  rw [e, bind_some']
  obtain ⟨k, rfl⟩ : ∃ k : Nat, x = k := ⟨x.toNat, by omega⟩
  have hk : k < ways15.length := by show k < 15; omega
  refine ⟨ways15[k], q, ?_, w, List.getElem_mem _⟩
  show Option.bind (getI ways15 (k : Int)) _ = _
  rw [getI_lt hk, bind_some']
theorem na_l1 (t0 : Str) (x5 : Str × G_palimpmade_Picks) (x9 x10 x11 x12 x13 : Str) (hx : ∀ x ∈ [t0, x5.1, x9, x10, x11, x12, x13], x.length < 1000000) : M_law11_NameAll_l1 t0 x5 x9 x10 x11 x12 x13 fuel 0 = some true := by
  have := up_fuel (Q := fun n j => M_law11_NameAll_l1 t0 x5 x9 x10 x11 x12 x13 n (j : Int) = some true) [t0, x5.1, x9, x10, x11, x12, x13].length (by simp) ?_ ?_ 0 (Nat.zero_le _)
  · exact this
  · intro n
    rw [M_law11_NameAll_l1, decide_eq_false (by omega), cond_false]
  · intro n j hj ih
    have hl := hx _ (List.getElem_mem hj)
    rw [M_law11_NameAll_l1, decide_eq_true (by omega), cond_true]
    simp only [getI_lt hj, bind_some', parts_eq _ hl, rparts_eq _ hl, samet_eq _ _ (show (partsN [t0, x5.1, x9, x10, x11, x12, x13][j]).1.length < 1000000 by have := partsN_len [t0, x5.1, x9, x10, x11, x12, x13][j]; omega), nmay_eq, rmayn_eq _ hl, gd_some, bne_self_eq_false, beq_self_eq_true, if_true, decide_true, Bool.not_true, Bool.or_self, cond_false, w64_succ (show j < 9223372036854775807 by simp at hj; omega)]
    exact ih
theorem law_NameAll (t0 : Str) (t1 : List UInt8) : M_law11_NameAll t0 t1 = some true := by
  unfold M_law11_NameAll
  rw [begun11, bind_some', Bool.not_true, cond_false]
  by_cases h : (t0.length : Int) > 80 ∨ (t1.length : Int) > 3
  · have : (decide ((t0.length : Int) > 80) || decide ((t1.length : Int) > 3)) = true := by
      simp only [Bool.or_eq_true, decide_eq_true_eq]; exact h
    rw [this, cond_true]
  · have h1 : ¬ (t0.length : Int) > 80 := fun q => h (.inl q)
    have h2 : ¬ (t1.length : Int) > 3 := fun q => h (.inr q)
    rw [decide_eq_false h1, decide_eq_false h2]
    obtain ⟨a, q1, e1, w1, a1⟩ := path_ok ⟨t1, 0⟩ ⟨Int.le_refl _, by simp, by show t1.length < 1000000; omega⟩
    obtain ⟨b, q2, e2, w2, a2⟩ := path_ok q1 w1
    obtain ⟨c, q3, e3, w3, a3⟩ := path_ok q2 w2
    have b1 := (ways15_small a a1).1
    have b2 := (ways15_small b a2).1
    have b3 := (ways15_small c a3).1
    simp only [Bool.or_self, cond_false, M_made_Made, bind_some', e1, e2, e3]
    rw [addS_eq (by simp; omega), bind_some', addS_eq (by simp; omega), bind_some', addS_eq (by simp; omega), bind_some', addS_eq (by simp; omega), bind_some', addS_eq (by simp; omega), bind_some', addS_eq (by simp; omega), bind_some']
    exact na_l1 _ _ _ _ _ _ _ (by simp; omega)
def five : List Str := [([97] : Str), ([98, 46, 99] : Str), ([46, 46, 46] : Str), ([120, 45, 121, 95, 122] : Str), ([49, 50, 51, 52, 53, 54, 55, 56] : Str)]
theorem five_may : ∀ x ∈ five, mayN x = true := by
  have : five.all mayN = true := by decide +kernel
  exact List.all_eq_true.1 this
theorem parts_join (l : List Str) (h : l.all mayN = true) : partsN (joinS l [47]) = if l.length ≤ 7 then (l, true) else ([], false) := by
  cases l with
  | nil => rfl
  | cons x r =>
    have hx := List.all_eq_true.1 h
    have hs := split_join (x :: r) (by simp) (fun p hp => (mayN_no47 (hx p hp)).1)
    have hne : joinS (x :: r) [47] ≠ [] := by
      intro e
      rw [e] at hs
      have : x :: r = [[]] := hs.symm
      have h1 := hx x (by simp)
      rw [List.cons.injEq] at this
      rw [this.1] at h1
      exact absurd h1 (by decide)
    unfold partsN
    rw [if_neg hne, hs]
    by_cases q : (x :: r).length ≤ 7
    · rw [if_neg (by omega), if_pos h, if_pos q]
    · rw [if_pos (by omega), if_neg q]
theorem partsN_all (s : Str) : (partsN s).1.all mayN = true := by
  unfold partsN
  split
  · rfl
  · split
    · rfl
    · split
      · assumption
      · rfl
theorem partsN_join (s : Str) (h : (partsN s).2 = true) : joinS (partsN s).1 [47] = s := by
  unfold partsN at *
  split at h
  · rename_i e; rw [if_pos e, e]; rfl
  · rename_i e; rw [if_neg e]
    split at h
    · cases h
    · rename_i e2; rw [if_neg e2]
      split at h
      · rename_i e3; rw [if_pos e3]; exact join_split s
      · cases h
theorem partsN_mem (s p : Str) (h : p ∈ (partsN s).1) : p.length ≤ 8 := (mayN_no47 (List.all_eq_true.1 (partsN_all s) p h)).2.1
theorem nb_l2 (c1 : Int → List Str → Option Bool) (s : Str) (v8 : List Str) (hv : v8.all mayN = true) (hl : v8.length ≤ 9) : M_law11_NameBack_l2 c1 (partsN s) v8 (partsN (joinS v8 [47])) fuel 0 = some true := by
  have := up_fuel (Q := fun n j => M_law11_NameBack_l2 c1 (partsN s) v8 (partsN (joinS v8 [47])) n (j : Int) = some true) (partsN s).1.length (by have := partsN_len s; omega) ?_ ?_ 0 (Nat.zero_le _)
  · exact this
  · intro n
    rw [M_law11_NameBack_l2, decide_eq_false (by omega), cond_false, parts_join v8 hv]
    have e : decide ((v8.length : Int) ≤ 7) = decide (v8.length ≤ 7) := by rw [decide_eq_decide]; omega
    rw [e]
    by_cases q : v8.length ≤ 7
    · rw [if_pos q, decide_eq_true q, samet_eq _ _ (by simp; omega)]; simp [gd_some]
    · rw [if_neg q, decide_eq_false q]; simp [gd_false]
  · intro n j hj ih
    have hb := partsN_len s
    have hm : mayN (partsN s).1[j] = true := List.all_eq_true.1 (partsN_all s) _ (List.getElem_mem hj)
    rw [M_law11_NameBack_l2, decide_eq_true (by omega), cond_true, getI_lt hj, bind_some', nmay_eq, bind_some', hm, Bool.not_true, cond_false, w64_succ (by omega)]
    exact ih
theorem nb_l1 (t1 : List UInt8) (s : Str) (ht : t1.length ≤ 9) : ∀ (k j n : Nat) (acc : List Str), j + k = t1.length → acc.length = j → acc.all mayN = true → k < n → M_law11_NameBack_l1 t1 (partsN s) n (j : Int) acc = some true := by
  intro k
  induction k with
  | zero =>
    intro j n acc h1 h2 h3 hn
    obtain ⟨n, rfl⟩ : ∃ x, n = x + 1 := ⟨n - 1, by omega⟩
    have hm : ∀ p ∈ acc, p.length ≤ 8 := fun p hp => (mayN_no47 (List.all_eq_true.1 h3 p hp)).2.1
    have hj := joinS_length acc 8 hm
    have hj2 : acc.length * (8 + 1) ≤ 9 * 9 := Nat.mul_le_mul (by omega) (by omega)
    rw [M_law11_NameBack_l1, decide_eq_false (by omega), cond_false, join_eq acc 8 hm (by omega) (by omega), bind_some', parts_eq _ (by omega), bind_some', nb_l2 _ s acc h3 (by omega)]
  | succ k ih =>
    intro j n acc h1 h2 h3 hn
    obtain ⟨n, rfl⟩ : ∃ x, n = x + 1 := ⟨n - 1, by omega⟩
    have hlt : j < t1.length := by omega
    have hr : rem8 t1[j] 5 = some (t1[j] % 5) := rfl
    have hm : (t1[j] % 5).toNat < 5 := by
      have : (t1[j] % 5).toNat = t1[j].toNat % 5 := UInt8.toNat_mod ..
      omega
    have hg : getI five ((t1[j] % 5).toNat : Int) = some (five[(t1[j] % 5).toNat]'hm) := getI_lt hm
    rw [M_law11_NameBack_l1, decide_eq_true (by omega), cond_true, getI_lt hlt, bind_some', hr, bind_some']
    show Option.bind (getI five ((t1[j] % 5).toNat : Int)) _ = _
    rw [hg, bind_some', appL_eq (by simp; omega), bind_some', w64_succ (by omega)]
    refine ih (j + 1) n _ (by omega) (by simp; omega) ?_ (by omega)
    rw [List.all_append, h3]
    simp only [List.all_cons, List.all_nil, Bool.and_true, Bool.true_and]
    exact five_may _ (List.getElem_mem hm)
theorem law_NameBack (t0 : Str) (t1 : List UInt8) : M_law11_NameBack t0 t1 = some true := by
  unfold M_law11_NameBack
  rw [begun11, bind_some', Bool.not_true, cond_false]
  by_cases h : (t0.length : Int) > 80 ∨ (t1.length : Int) > 9
  · have : (decide ((t0.length : Int) > 80) || decide ((t1.length : Int) > 9)) = true := by
      simp only [Bool.or_eq_true, decide_eq_true_eq]; exact h
    rw [this, cond_true]
  · have h1 : ¬ (t0.length : Int) > 80 := fun q => h (.inl q)
    have h2 : ¬ (t1.length : Int) > 9 := fun q => h (.inr q)
    rw [decide_eq_false h1, decide_eq_false h2, parts_eq t0 (by omega)]
    have hb := partsN_len t0
    simp only [Bool.or_self, cond_false, bind_some']
    rw [join_eq (partsN t0).1 8 (partsN_mem t0) (by omega) (by omega), gd_some, bind_some']
    have : ((partsN t0).2 && ((if ((partsN t0).2 == true) = true then joinS (partsN t0).1 [47] else default) != t0)) = false := by
      cases e : (partsN t0).2
      · rfl
      · simp [partsN_join t0 e]
    rw [this, cond_false]
    exact nb_l1 t1 t0 (by omega) t1.length 0 fuel [] (by omega) rfl rfl (by unfold fuel; omega)
theorem partsN_nil (s : Str) (h : s = []) : partsN s = ([], true) := by unfold partsN; rw [if_pos h]
theorem partsN_cons (s : Str) (h : s ≠ []) : partsN s = if (splitS s).length < 8 ∧ (splitS s).all mayN = true then (splitS s, true) else ([], false) := by
  unfold partsN
  rw [if_neg h]
  by_cases q : (splitS s).length ≥ 8
  · rw [if_pos q, if_neg (by omega)]
  · rw [if_neg q]
    by_cases q2 : (splitS s).all mayN = true
    · rw [if_pos q2, if_pos ⟨by omega, q2⟩]
    · rw [if_neg q2, if_neg (fun x => q2 x.2)]
theorem mayN_split {s : Str} (h : mayN s = true) : splitS s = [s] := splitS_none s (mayN_no47 h).1
theorem law_NameEach (t0 : Str) (t1 : UInt8) : M_law11_NameEach t0 t1 = some true := by
  unfold M_law11_NameEach
  rw [begun11, bind_some', Bool.not_true, cond_false]
  by_cases h : (t0.length : Int) > 40
  · rw [decide_eq_true h, cond_true]
  · rw [decide_eq_false h, cond_false, parts_eq t0 (by omega), bind_some', nmay_eq, bind_some']
    -- the first part
    have first : ∀ x6, gd (((partsN t0).2 && (((partsN t0).1.length : Int) == 1)) == true) (getI (partsN t0).1 0) = some x6 →
        ((mayN t0 != (((partsN t0).2 && (((partsN t0).1.length : Int) == 1)) && (x6 == t0))) || (((partsN t0).2 && (t0 != [])) && (((partsN t0).1.length : Int) == 0))) = false := by
      intro x6 hx
      by_cases e : t0 = []
      · subst e; rw [partsN_nil _ rfl] at *; simp [gd_false] at hx; subst hx; decide
      · rw [partsN_cons t0 e] at *
        by_cases hm : mayN t0 = true
        · have hs := mayN_split hm
          rw [hs, if_pos ⟨by simp, by simp [hm]⟩] at hx
          simp [gd_true, getI] at hx
          subst hx
          rw [hs, if_pos ⟨by simp, by simp [hm]⟩, hm]; simp
        · by_cases hq : (splitS t0).length < 8 ∧ (splitS t0).all mayN = true
          · rw [if_pos hq] at hx ⊢
            have hne := splitS_ne t0
            have h1 : (((splitS t0).length : Int) == 0) = false := by
              have := List.length_pos_iff.2 hne; simp; omega
            rw [h1]
            have h2 : ((splitS t0).length : Int) ≠ 1 := by
              intro e1
              obtain ⟨y, hy⟩ := List.length_eq_one_iff.1 (show (splitS t0).length = 1 by omega)
              have hj := join_split t0
              rw [hy, joinS_one] at hj
              have := hq.2
              rw [hy, hj] at this
              simp at this
              exact hm this
            have h3 : (((splitS t0).length : Int) == 1) = false := by simp; omega
            rw [h3]
            simp [hm]
          · rw [if_neg hq]; simp [hm]
    have hg : ∃ x6, gd (((partsN t0).2 && (((partsN t0).1.length : Int) == 1)) == true) (getI (partsN t0).1 0) = some x6 := by
      cases e : ((partsN t0).2 && (((partsN t0).1.length : Int) == 1))
      · exact ⟨_, gd_false⟩
      · rw [show ((true : Bool) == true) = true from rfl, gd_true]
        simp at e
        rw [show (0 : Int) = ((0 : Nat) : Int) from rfl, getI_lt (by omega)]
        exact ⟨_, rfl⟩
    obtain ⟨x6, hx6⟩ := hg
    rw [hx6, bind_some', first x6 hx6, cond_false]
    obtain ⟨w, q1, e1, w1, a1⟩ := path_ok ⟨[t1], 0⟩ ⟨Int.le_refl _, by simp, by simp⟩
    obtain ⟨b1, b2⟩ := ways15_small w a1
    have hj : joinS [w, t0] [47] = w ++ 47 :: t0 := by rw [joinS_cons, joinS_one]; simp
    simp only [M_made_Made, bind_some', e1]
    rw [parts_eq w (by omega), bind_some', join_eq [w, t0] 1000 (by simp; omega) (by simp) (by omega), bind_some', hj, parts_eq _ (by simp; omega), bind_some']
    by_cases hc : w = [] ∨ ((partsN t0).1.length : Int) > 2
    · have e : ((w == []) || decide (((partsN t0).1.length : Int) > 2)) = true := by simpa using hc
      rw [e, cond_true]
      by_cases hw : w = []
      · rw [partsN_nil w hw, hw]; rfl
      · rw [partsN_cons w hw]
        have hne := splitS_ne w
        have hpos := List.length_pos_iff.2 hne
        have e2 : (w == []) = false := by simp [hw]
        rw [e2]
        by_cases hq : (splitS w).length < 8 ∧ (splitS w).all mayN = true
        · rw [if_pos hq]
          have : (((splitS w).length : Int) == 0) = false := by simp; omega
          simp [this]
        · rw [if_neg hq]; rfl
    · have hw : w ≠ [] := fun e => hc (.inl e)
      have hl2 : ¬ ((partsN t0).1.length : Int) > 2 := fun e => hc (.inr e)
      have e : ((w == []) || decide (((partsN t0).1.length : Int) > 2)) = false := by simp [hw]; omega
      rw [e, cond_false]
      have hP : partsN (w ++ 47 :: t0) = if (partsN w).2 = true ∧ (partsN t0).2 = true ∧ t0 ≠ [] then ((partsN w).1 ++ (partsN t0).1, true) else ([], false) := by
        rw [partsN_cons (w ++ 47 :: t0) (by simp), splitS_app, partsN_cons w hw]
        by_cases ht : t0 = []
        · subst ht
          rw [if_neg (fun x => by have := x.2; rw [List.all_append] at this; revert this; simp [splitS, mayN]), if_neg (fun x => x.2.2 rfl)]
        · rw [partsN_cons t0 ht] at hl2 ⊢
          by_cases hqw : (splitS w).length < 8 ∧ (splitS w).all mayN = true
          · by_cases hqt : (splitS t0).length < 8 ∧ (splitS t0).all mayN = true
            · rw [if_pos hqt] at hl2
              simp only at hl2
              rw [if_pos hqw, if_pos hqt, if_pos ⟨by simp; omega, by rw [List.all_append, hqw.2, hqt.2]; rfl⟩, if_pos ⟨rfl, rfl, ht⟩]
            · rw [if_pos hqw, if_neg hqt, if_neg (fun x => hqt ⟨by have := x.1; simp at this; omega, by have := x.2; rw [List.all_append, Bool.and_eq_true] at this; exact this.2⟩), if_neg (fun x => by simp at x)]
          · rw [if_neg hqw, if_neg (fun x => hqw ⟨by omega, by have := x.2; rw [List.all_append, Bool.and_eq_true] at this; exact this.1⟩), if_neg (fun x => by simp at x)]
      rw [hP]
      have l1 := partsN_len w
      have l2 := partsN_len t0
      have ht : (t0 != []) = decide (t0 ≠ []) := by by_cases q : t0 = [] <;> simp [q]
      by_cases hq : (partsN w).2 = true ∧ (partsN t0).2 = true ∧ t0 ≠ []
      · rw [if_pos hq, ht, hq.1, hq.2.1, decide_eq_true hq.2.2]
        simp only [Bool.and_self, beq_self_eq_true, Bool.not_true, cond_true, Bool.true_and]
        rw [appL_eq (by simp; omega), bind_some', appL_eq (by simp; omega), bind_some', samet_eq _ _ (by simp; omega), bind_some']
        simp
      · rw [if_neg hq]
        have : ((partsN w).2 && (partsN t0).2 && (t0 != [])) = false := by
          rw [ht]
          cases e1 : (partsN w).2
          · rfl
          · cases e2 : (partsN t0).2
            · rfl
            · simp only [Bool.and_self, Bool.true_and]; exact decide_eq_false (fun x => hq ⟨e1, e2, x⟩)
        rw [this]; rfl
end Go.Proofs
