/-
  The law that what is written into one file is in no other one.
-/
import Derived.Test.YtjdlpipeagjnfaaGreatDoorLW1
import Derived.Test.YtjdlpipeagjnfaaGreatDoorRDO10
import Derived.Test.YtjdlpipeagjnfaaGreatDoorRDO11
import Derived.Test.YtjdlpipeagjnfaaGreatDoorRDO15
import Derived.Test.YtjdlpipeagjnfaaGreatDoorRDO17
import Derived.Test.YtjdlpipeagjnfaaGreatDoorRDOB
import Derived.Test.YtjdlpipeagjnfaaGreatDoorRDOWDataOthers
import Derived.KernelRfl
set_option maxRecDepth 20000
namespace Go.Proofs
open Go Go.Fhl Classical
set_option linter.unusedVariables false
set_option linter.unusedSimpArgs false
theorem begun15o : M_law15_begun = some true := by kernel_rfl
theorem fitO {s : List Nod} (h : SetOk s) : Fit s := by
  refine ⟨by rw [h.len]; omega, by rw [h.len]; omega, fun i => ?_⟩
  by_cases a : 1 ≤ i ∧ i < 8
  · rcases h.nod i a.1 a.2 with q | q
    · rw [q]; exact Nat.zero_le _
    · exact q.body
  · by_cases b : i < 1
    · have : nd s i = nd s 0 := by unfold nd; congr 1; omega
      rw [this, h.root]; exact Nat.zero_le _
    · rw [nd_far (by rw [h.len]; omega)]; exact Nat.zero_le _
theorem sameO {s : List Nod} (h : SetOk s) : M_ref11_Same s s = some true := by rw [rsame_eq s s (by rw [h.len]; omega), decide_eq_true rfl]
theorem mayO {s : List Nod} (h : SetOk s) : M_ref11_May s = some true := by
  rw [rmay_eq s (by rw [h.len]; omega) h.small, decide_eq_true h]
/-- But for the Body of one node all is as it was. -/
def Only (n : Int) (s x : List Nod) : Prop := x.length = s.length ∧ ∀ j : Nat, (h : j < s.length) → ∃ y, x[j]? = some y ∧ ({ y with Body := s[j].Body } : Nod) = s[j] ∧ ((j : Int) ≠ n → y = s[j])
theorem only_self (n : Int) (s : List Nod) : Only n s s := ⟨rfl, fun j h => ⟨s[j], by simp [h], rfl, fun _ => rfl⟩⟩
theorem only_set {n : Int} {s : List Nod} (h0 : 0 ≤ n) (b : Str) : Only n s (s.set n.toNat { nd s n with Body := b }) := by
  refine ⟨by simp, fun j h => ?_⟩
  by_cases q : n.toNat = j
  · have e : nd s n = s[j] := by
      unfold nd; rw [q]; simp [h]
    refine ⟨{ nd s n with Body := b }, by rw [List.getElem?_set, if_pos q, if_pos (by omega)], by rw [e], fun z => absurd (by omega) z⟩
  · exact ⟨s[j], by rw [List.getElem?_set, if_neg q]; simp [h], rfl, fun _ => rfl⟩
theorem others_l1 (t2 : UInt8) (t3 : Str) (t4 : UInt8) (x5 : List Nod × G_palimpmade_Picks) (x8 : Int × Int) (x9 x10 : List Nod × Int) (hl : x5.1.length ≤ 1000) (h9 : Only x8.1 x5.1 x9.1) (h10 : Only x8.1 x5.1 x10.1) (r : Option Bool) :
    (∀ n, M_law15_DataOthers_l1 t2 t3 t4 x5 x8 x9 x10 (n + 1) (x5.1.length : Int) = r) → ∀ j : Nat, j ≤ x5.1.length → M_law15_DataOthers_l1 t2 t3 t4 x5 x8 x9 x10 fuel (j : Int) = r := by
  intro hr
  refine up_fuel (Q := fun f j => M_law15_DataOthers_l1 t2 t3 t4 x5 x8 x9 x10 f (j : Int) = r) x5.1.length (by omega) hr ?_
  intro f j hj ih
  obtain ⟨a, ea, a1, a2⟩ := h9.2 j hj
  obtain ⟨b, eb, b1, b2⟩ := h10.2 j hj
  have gs : getI x5.1 (j : Int) = some x5.1[j] := getI_lt hj
  have ga : getI x9.1 (j : Int) = some a := by rw [getI_nat]; exact ea
  have gb : getI x10.1 (j : Int) = some b := by rw [getI_nat]; exact eb
  rw [M_law15_DataOthers_l1, decide_eq_true (by omega), cond_true]
  have a1' : (⟨a.Kind, a.Up, a.Name, x5.1[j].Body, a.Bad⟩ : Nod) = x5.1[j] := a1
  have b1' : (⟨b.Kind, b.Up, b.Name, x5.1[j].Body, b.Bad⟩ : Nod) = x5.1[j] := b1
  have d1 : (!decide (x5.1[j] = x5.1[j])) = false := by rw [decide_eq_true rfl]; rfl
  simp only [gs, ga, gb, bind_some', a1', b1', decide_true, Bool.not_true, bFF, gd_true, Bool.or_self, Bool.true_and]
  by_cases q : (j : Int) = x8.1
  · have e1 : ((j : Int) != x8.1) = false := by rw [q]; simp
    simp only [e1, bFT, bFF, decide_true, Bool.not_true, gd_true, Bool.true_and, Bool.and_false, Bool.false_and, gd_false, bind_some', Bool.or_self, cond_false, w64_succ (show j < 9223372036854775807 by omega)]
    exact ih
  · have e1 : ((j : Int) != x8.1) = true := by rw [bne_iff_ne]; exact q
    simp only [e1, bTT, bFF, decide_true, Bool.not_true, Bool.true_and, Bool.and_self, gd_true, bind_some', a2 q, b2 q, Bool.or_self, cond_false, w64_succ (show j < 9223372036854775807 by omega)]
    exact ih
theorem law_DataOthers (t0 : List UInt8) (t1 t2 : UInt8) (t3 : Str) (t4 : UInt8) : M_law15_DataOthers t0 t1 t2 t3 t4 = some true := by
  unfold M_law15_DataOthers
  rw [begun15o, bind_some', Bool.not_true, cond_false]
  cases hc : (decide ((t0.length : Int) > 60) || decide ((t3.length : Int) > 140)) with
  | true => rfl
  | false =>
    simp only [Bool.or_eq_false_iff, decide_eq_false_iff_not] at hc
    obtain ⟨s, p, e1, hs, _⟩ := set_made _ (wf_made t0 (by omega)) 25 (by omega)
    have e1' : M_made_Picks_Set ⟨t0, 0⟩ 25 = some (s, p) := e1
    obtain ⟨w, q, e2, w2, m2⟩ := path_ok _ (wf_made [t1] (by simp))
    have k2 := ways15_len m2
    have hw : w.length < 1000000 := by omega
    have hf := fitO hs
    have hl : s.length ≤ 1000 := by rw [hs.len]; omega
    have ok1 := write_ok hs w (t2.toNat : Int) t3
    have ok2 := cut_ok hs w (t4.toNat : Int)
    rw [cond_false, M_made_Made, bind_some', e1', bind_some', M_made_Made, bind_some', e2, bind_some', rfind_eq s w hl hf.l1 hw, bind_some', dwrite_eq hf w _ t3 hw (by omega), bind_some', dcut_eq hf w _ hw, bind_some']
    have l1 : (((writeS s w (t2.toNat : Int) t3).1.length : Int) != (s.length : Int)) = false := by rw [ok1.len, hs.len]; rfl
    have l2 : (((cutS s w (t4.toNat : Int)).1.length : Int) != (s.length : Int)) = false := by rw [ok2.len, hs.len]; rfl
    have t2b := t2.toNat_lt
    have t4b := t4.toNat_lt
    have werr : (writeS s w (t2.toNat : Int) t3).2 ≠ 0 → (writeS s w (t2.toNat : Int) t3).1 = s := by
      unfold writeS
      intro z
      split at z
      · rename_i a; rw [if_pos a]
      · rename_i a; rw [if_neg a]
        split at z
        · rename_i b; rw [if_pos b]
        · rename_i b; rw [if_neg b]
          split at z
          · rename_i c; rw [if_pos c]
          · rename_i c; rw [if_neg c]
            split at z
            · exact absurd rfl z
            · exact absurd rfl z
    have cerr : (cutS s w (t4.toNat : Int)).2 ≠ 0 → (cutS s w (t4.toNat : Int)).1 = s := by
      unfold cutS
      intro z
      split at z
      · rename_i a; rw [if_pos a]
      · rename_i a; rw [if_neg a]
        split at z
        · rename_i b; rw [if_pos b]
        · rename_i b; rw [if_neg b]
          split at z
          · rename_i c; rw [if_pos c]
          · exact absurd rfl z
    have hn : (fileS s w).2 = 0 → (fileS s w).1 = (findS s w).1 ∧ (findS s w).2 = 0 ∧ (nd s (findS s w).1).Kind ≠ 2 := by
      unfold fileS
      split
      · intro z; exact absurd z (by decide)
      · rename_i a
        intro z
        exact ⟨rfl, z, fun k => a ⟨z, k⟩⟩
    have hr := findS_range hf.l1 w
    have wonly : Only (findS s w).1 s (writeS s w (t2.toNat : Int) t3).1 := by
      unfold writeS
      split
      · exact only_self _ _
      · rename_i a
        split
        · exact only_self _ _
        · split
          · exact only_self _ _
          · split
            · exact only_self _ _
            · rw [(hn (Decidable.of_not_not a)).1]; exact only_set hr.1 _
    have conly : Only (findS s w).1 s (cutS s w (t4.toNat : Int)).1 := by
      unfold cutS
      split
      · exact only_self _ _
      · rename_i a
        split
        · exact only_self _ _
        · split
          · exact only_self _ _
          · rw [(hn (Decidable.of_not_not a)).1]; exact only_set hr.1 _
    have s1 : ∀ g, gd (g && ((writeS s w (t2.toNat : Int) t3).2 != 0) == true) (M_ref11_Same (writeS s w (t2.toNat : Int) t3).1 s) = some (if (g && ((writeS s w (t2.toNat : Int) t3).2 != 0) == true) = true then true else default) := by
      intro g
      by_cases z : (writeS s w (t2.toNat : Int) t3).2 = 0
      · have : ((writeS s w (t2.toNat : Int) t3).2 != 0) = false := by rw [z]; rfl
        rw [this, bFT, Bool.and_false]; rfl
      · rw [werr z, sameO hs, gd_some]
    have c1 : ∀ b : Bool, b = (if (((writeS s w (t2.toNat : Int) t3).2 != 0) == true) = true then true else default) → (((writeS s w (t2.toNat : Int) t3).2 != 0) && !b) = false := by
      intro b hb
      subst hb
      cases ((writeS s w (t2.toNat : Int) t3).2 != 0) <;> rfl
    have c2 : ∀ b : Bool, b = (if (((cutS s w (t4.toNat : Int)).2 != 0) == true) = true then true else default) → (((cutS s w (t4.toNat : Int)).2 != 0) && !b) = false := by
      intro b hb
      subst hb
      cases ((cutS s w (t4.toNat : Int)).2 != 0) <;> rfl
    have g1 : gd (((writeS s w (t2.toNat : Int) t3).2 != 0) == true) (M_ref11_Same (writeS s w (t2.toNat : Int) t3).1 s) = some (if (((writeS s w (t2.toNat : Int) t3).2 != 0) == true) = true then true else default) := by
      have := s1 true
      simpa only [Bool.true_and] using this
    have g2 : gd (((cutS s w (t4.toNat : Int)).2 != 0) == true) (M_ref11_Same (cutS s w (t4.toNat : Int)).1 s) = some (if (((cutS s w (t4.toNat : Int)).2 != 0) == true) = true then true else default) := by
      by_cases z : (cutS s w (t4.toNat : Int)).2 = 0
      · have : ((cutS s w (t4.toNat : Int)).2 != 0) = false := by rw [z]; rfl
        rw [this, bFT]; rfl
      · rw [cerr z, sameO hs, gd_some]
    simp only [l1, l2, Bool.or_self, bFF, Bool.true_and, g1, bind_some', Bool.false_or]
    rw [c1 _ rfl]
    simp only [bFF, Bool.true_and, g2, bind_some']
    rw [c2 _ rfl]
    simp only [Bool.or_self, cond_false]
    refine others_l1 t2 t3 t4 (s, p) (findS s w) (writeS s w (t2.toNat : Int) t3) (cutS s w (t4.toNat : Int)) hl wonly conly (some true) (fun n => ?_) 0 (Nat.zero_le _)
    rw [M_law15_DataOthers_l1, decide_eq_false (by omega), cond_false]
    have gs : getI s (findS s w).1 = some (nd s (findS s w).1) := getI_nd hr.1 hr.2
    have gc : getI (cutS s w (t4.toNat : Int)).1 (findS s w).1 = some (nd (cutS s w (t4.toNat : Int)).1 (findS s w).1) := getI_nd hr.1 (by rw [ok2.len, ← hs.len]; exact hr.2)
    simp only [gs, gc, mayO ok1, mayO ok2, gd_some, bind_some']
    have w1 : w64 ((t2.toNat : Int) + (t3.length : Int)) = (t2.toNat : Int) + (t3.length : Int) := w64_id (by omega) (by omega)
    rw [w1]
    have key : (fileS s w).2 = 0 ↔ ((findS s w).2 = 0 ∧ (findS s w).1 > 0) ∧ (nd s (findS s w).1).Kind = 1 := by
      constructor
      · intro z
        obtain ⟨_, z2, z3⟩ := hn z
        have hh := find_here hs z2
        by_cases n0 : (findS s w).1 = 0
        · rw [n0, hs.root] at z3; exact absurd rfl z3
        · have ge : 1 ≤ (findS s w).1 := by have := hh.1; omega
          refine ⟨⟨z2, by omega⟩, ?_⟩
          rcases hs.nod _ ge hh.2.1 with q | q
          · have := hh.2.2; rw [q] at this; exact absurd rfl this
          · rcases q.live with k | k
            · exact k
            · exact absurd k z3
      · rintro ⟨⟨z1, _⟩, z3⟩
        unfold fileS
        rw [if_neg (fun z => by rw [z3] at z; exact absurd z.2 (by decide))]
        exact z1
    have wz : (writeS s w (t2.toNat : Int) t3).2 = 0 ↔ (fileS s w).2 = 0 ∧ (t2.toNat : Int) ≤ 128 ∧ (t2.toNat : Int) + (t3.length : Int) ≤ 128 := by
      unfold writeS
      by_cases a : (fileS s w).2 = 0
      · rw [if_neg (by simpa using a), if_neg (show ¬ (t2.toNat : Int) < 0 by omega)]
        by_cases b : (t2.toNat : Int) > 128 ∨ (t3.length : Int) > 128 - (t2.toNat : Int)
        · rw [if_pos b]
          exact ⟨fun z => absurd (show (8 : Int) = 0 from z) (by decide), fun z => by omega⟩
        · rw [if_neg b]
          have : (t2.toNat : Int) ≤ 128 ∧ (t2.toNat : Int) + (t3.length : Int) ≤ 128 := by omega
          split
          · exact ⟨fun _ => ⟨a, this⟩, fun _ => rfl⟩
          · exact ⟨fun _ => ⟨a, this⟩, fun _ => rfl⟩
      · rw [if_pos a]
        exact ⟨fun z => absurd z a, fun z => absurd z.1 a⟩
    have hR : ((((writeS s w (t2.toNat : Int) t3).2 == 0) == (((((((findS s w).2 == 0) && decide ((findS s w).1 > 0)) && ((if ((((findS s w).2 == 0) && decide ((findS s w).1 > 0)) == true) = true then nd s (findS s w).1 else default).Kind == 1)) && decide ((t2.toNat : Int) ≤ 128)) && decide ((t2.toNat : Int) + (t3.length : Int) ≤ 128))))) = true := by
      rw [beq_iff_eq, Bool.eq_iff_iff, beq_iff_eq, wz, key]
      by_cases p1 : (findS s w).2 = 0 ∧ (findS s w).1 > 0
      · have e : ((findS s w).2 == 0 && decide ((findS s w).1 > 0)) = true := by rw [p1.1, decide_eq_true p1.2]; rfl
        rw [e]
        simp only [bTT, if_true, Bool.true_and, Bool.and_eq_true, beq_iff_eq, decide_eq_true_eq]
        exact ⟨fun z => ⟨⟨z.1.2, z.2.1⟩, z.2.2⟩, fun z => ⟨⟨p1, z.1.1⟩, z.1.2, z.2⟩⟩
      · have e : ((findS s w).2 == 0 && decide ((findS s w).1 > 0)) = false := by
          rw [Bool.eq_false_iff, ne_eq, Bool.and_eq_true, beq_iff_eq, decide_eq_true_eq]; exact p1
        rw [e]
        simp only [Bool.false_and]
        exact ⟨fun z => absurd z.1.1 p1, fun z => absurd z (by decide)⟩
    rw [hR]
    by_cases z : (cutS s w (t4.toNat : Int)).2 = 0
    · have hb : (((nd (cutS s w (t4.toNat : Int)).1 (findS s w).1).Body.length : Int) == (t4.toNat : Int)) = true := by
        rw [beq_iff_eq]
        have := z
        unfold cutS at this ⊢
        by_cases a : (fileS s w).2 = 0
        · rw [if_neg (by simpa using a), if_neg (show ¬ (t4.toNat : Int) < 0 by omega)] at this ⊢
          by_cases b : (t4.toNat : Int) > 128
          · rw [if_pos b] at this; exact absurd (show (8 : Int) = 0 from this) (by decide)
          · rw [if_neg b]
            have hfn := (hn a).1
            simp only
            rw [hfn]
            have hnd : nd (s.set (findS s w).1.toNat { nd s (findS s w).1 with Body := longS (nd s (findS s w).1).Body (t4.toNat : Int).toNat }) (findS s w).1 = { nd s (findS s w).1 with Body := longS (nd s (findS s w).1).Body (t4.toNat : Int).toNat } := by
              unfold nd
              have h3 : (findS s w).1.toNat < s.length := by omega
              simp [h3]
            rw [hnd]
            show ((longS (nd s (findS s w).1).Body (t4.toNat : Int).toNat).length : Int) = _
            rw [longS_length]; omega
        · rw [if_pos a] at this; exact absurd this a
      have zz : ((cutS s w (t4.toNat : Int)).2 != 0) = false := by rw [z]; rfl
      simp only [zz, bTT, bFF, Bool.and_self, if_true, hb, Bool.false_or]
    · have zz : ((cutS s w (t4.toNat : Int)).2 != 0) = true := by rw [bne_iff_ne]; exact z
      simp only [zz, bTT, Bool.true_or, Bool.and_self, if_true]
end Go.Proofs
