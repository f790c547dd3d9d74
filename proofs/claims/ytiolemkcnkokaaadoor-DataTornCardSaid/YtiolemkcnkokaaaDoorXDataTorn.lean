/-
  The law of torn files.
-/
import Derived.Test.YtiolemkcnkokaaaDoorLW1
import Derived.Test.YtiolemkcnkokaaaDoorR1511
import Derived.Test.YtiolemkcnkokaaaDoorR15B
import Derived.Test.YtiolemkcnkokaaaDoorR15WDataTorn
import Derived.KernelRfl
set_option maxRecDepth 20000
namespace Go.Proofs
open Go Go.Fhl
set_option linter.unusedVariables false
set_option linter.unusedSimpArgs false
def bit8 (x : UInt8) (k : Nat) : Bool := (UInt8.ofNat (x.toNat / 2 ^ k)) &&& 1 == 1
theorem bits_same (x : UInt8) : ∀ k, k < 4 → bit8 x k = bitB ((x % 16).toNat : Int) k := by
  have := all8 (p := fun x => (bit8 x 0 == bitB ((x % 16).toNat : Int) 0) && ((bit8 x 1 == bitB ((x % 16).toNat : Int) 1) && ((bit8 x 2 == bitB ((x % 16).toNat : Int) 2) && (bit8 x 3 == bitB ((x % 16).toNat : Int) 3)))) (by kernel_rfl) x
  simp only [Bool.and_eq_true, beq_iff_eq] at this
  intro k hk
  match k, hk with
  | 0, _ => exact this.1
  | 1, _ => exact this.2.1
  | 2, _ => exact this.2.2.1
  | 3, _ => exact this.2.2.2
def Hit (x : UInt8) (j e : Nat) : Prop := ∃ i, j ≤ i ∧ i < e ∧ bit8 x (i / 32) = true
noncomputable instance instHit (x : UInt8) (j e : Nat) : Decidable (Hit x j e) := Classical.propDecidable _
theorem hit_step {x : UInt8} {j e : Nat} (h : j < e) : Hit x j e ↔ bit8 x (j / 32) = true ∨ Hit x (j + 1) e := by
  constructor
  · rintro ⟨i, h1, h2, h3⟩
    by_cases q : i = j
    · rw [q] at h3; exact .inl h3
    · exact .inr ⟨i, by omega, h2, h3⟩
  · rintro (q | ⟨i, h1, h2, h3⟩)
    · exact ⟨j, Nat.le_refl _, h, q⟩
    · exact ⟨i, by omega, h2, h3⟩
theorem torn_l1' (t0 : Str) (t1 t2 t3 : UInt8) (x10 : List G_api_Node) (x11 x12 : Str × Int) (R : Bool → Option Bool) (ht : t0.length ≤ 128) (e : Nat) (he : e = max t2.toNat (min (t2.toNat + t3.toNat) t0.length))
    (hR : ∀ f v (j : Nat), t2.toNat ≤ j → e ≤ j → M_law15_DataTorn_l1 t0 t1 t2 t3 x10 x11 x12 (f + 1) v (j : Int) = R v) : ∀ j : Nat, j ≤ e → t2.toNat ≤ j → ∀ v : Bool, M_law15_DataTorn_l1 t0 t1 t2 t3 x10 x11 x12 fuel v (j : Int) = R (v || decide (Hit t1 j e)) := by
  have h2 := t2.toNat_lt
  have h3 := t3.toNat_lt
  refine up_fuel (Q := fun f j => t2.toNat ≤ j → ∀ v : Bool, M_law15_DataTorn_l1 t0 t1 t2 t3 x10 x11 x12 f v (j : Int) = R (v || decide (Hit t1 j e))) e (by omega) ?_ ?_
  · intro f hj v
    have : ¬ Hit t1 e e := by rintro ⟨i, a, b, _⟩; omega
    rw [hR f v e hj (Nat.le_refl _), decide_eq_false this, Bool.or_false]
  · intro f j hj ih hj2 v
    have c1 : (j : Int) < w64 ((t2.toNat : Int) + (t3.toNat : Int)) := by rw [w64_id (by omega) (by omega)]; omega
    have c2 : (j : Int) < (t0.length : Int) := by omega
    have q1 : quoI (j : Int) 32 = some ((j / 32 : Nat) : Int) := by
      unfold quoI
      rw [if_neg (by decide)]
      have : (j : Int).tdiv 32 = ((j / 32 : Nat) : Int) := by rw [Int.tdiv_eq_ediv_of_nonneg (by omega)]; rfl
      rw [this, w64_id (by omega) (by omega)]
    have hk : j / 32 < 4 := by omega
    have q2 : shr8 t1 ((j / 32 : Nat) : Int) = some (UInt8.ofNat (t1.toNat / 2 ^ (j / 32))) := by
      unfold shr8
      rw [if_pos (by omega)]
      have : min ((j / 32 : Nat) : Int).toNat 8 = j / 32 := by omega
      rw [this]
    rw [M_law15_DataTorn_l1, decide_eq_true c1, decide_eq_true c2, Bool.and_self, cond_true, q1, w64_succ (by omega)]
    have hs : decide (Hit t1 j e) = (bit8 t1 (j / 32) || decide (Hit t1 (j + 1) e)) := by
      rw [Bool.eq_iff_iff, Bool.or_eq_true, decide_eq_true_iff, decide_eq_true_iff]; exact hit_step hj
    cases v with
    | true =>
      rw [bTF, gd_false, bind_some', gd_false, bind_some', Bool.true_or, ih (by omega), Bool.true_or, Bool.true_or]
    | false =>
      rw [bFF, gd_true, bind_some', gd_true, q2, bind_some', ih (by omega), hs, Bool.false_or, Bool.false_or]
      rfl
theorem hit_bad (t0 : Str) (x : UInt8) (f n : Nat) (ht : t0.length ≤ 128) : decide (Hit x f (max f (min (f + n) t0.length))) = badB' ((x % 16).toNat : Int) ((readF t0 (f : Int) (n : Int)).1 : Int) ((readF t0 (f : Int) (n : Int)).2 : Int) := by
  have hr : ∃ a c : Nat, (readF t0 (f : Int) (n : Int)).1 = a ∧ (readF t0 (f : Int) (n : Int)).2 = c ∧ ((f ≤ t0.length ∧ a = f ∧ (c = f + n ∨ c = t0.length) ∧ c ≤ t0.length ∧ c ≤ f + n) ∨ (t0.length < f ∧ a = t0.length ∧ c = t0.length)) := by
    refine ⟨_, _, rfl, rfl, ?_⟩
    unfold readF; simp only
    by_cases q : f ≤ t0.length
    · left
      rw [show min (f : Int) (t0.length : Int) = (f : Int) by omega]
      omega
    · right
      rw [show min (f : Int) (t0.length : Int) = (t0.length : Int) by omega]
      omega
  obtain ⟨a, c, e1, e2, hac⟩ := hr
  have b := bits_same x
  have key : badB' ((x % 16).toNat : Int) ((readF t0 (f : Int) (n : Int)).1 : Int) ((readF t0 (f : Int) (n : Int)).2 : Int) = true ↔ ∃ k, k < 4 ∧ hitB ((x % 16).toNat : Int) ((readF t0 (f : Int) (n : Int)).1 : Int) ((readF t0 (f : Int) (n : Int)).2 : Int) k = true := by
    unfold badB'
    simp only [Bool.or_eq_true]
    constructor
    · rintro (q | q | q | q)
      · exact ⟨0, by omega, q⟩
      · exact ⟨1, by omega, q⟩
      · exact ⟨2, by omega, q⟩
      · exact ⟨3, by omega, q⟩
    · rintro ⟨k, hk, q⟩
      match k, hk with
      | 0, _ => exact .inl q
      | 1, _ => exact .inr (.inl q)
      | 2, _ => exact .inr (.inr (.inl q))
      | 3, _ => exact .inr (.inr (.inr q))
  rw [Bool.eq_iff_iff, decide_eq_true_iff, key]
  unfold hitB
  rw [e1, e2]
  constructor
  · rintro ⟨i, h1, h2, h3⟩
    have g1 : i < f + n ∧ i < t0.length := by clear hac e1 e2 key; omega
    have g2 : a ≤ i ∧ i < c := by clear e1 e2 key h2; omega
    have g3 : i / 32 < 4 := by clear hac e1 e2 key h2 g2; omega
    have g4 : 32 * (i / 32) ≤ i ∧ i < 32 * (i / 32) + 32 := by clear hac e1 e2 key h2 g1 g2 g3; omega
    refine ⟨i / 32, g3, ?_⟩
    rw [← b _ g3, h3, Bool.true_and, decide_eq_true_iff]
    clear hac e1 e2 key h2 h3 g1 g3
    generalize i / 32 = k at *
    omega
  · rintro ⟨k, hk, q⟩
    rw [Bool.and_eq_true, decide_eq_true_iff, ← b k hk] at q
    obtain ⟨q1, q2⟩ := q
    have g1 : a < c ∧ 32 * k < c ∧ a < 32 * k + 32 := by clear hac e1 e2 key q1 b; omega
    have g2 : f ≤ t0.length ∧ a = f := by clear e1 e2 key q1 b q2; omega
    have g3 : c ≤ f + n ∧ c ≤ t0.length := by clear e1 e2 key q1 b q2; omega
    clear hac e1 e2 key q2
    obtain ⟨g4, g5⟩ := g2
    subst g5
    have g6 : max a (32 * k) / 32 = k := by
      have : 32 * k ≤ max a (32 * k) ∧ max a (32 * k) < 32 * k + 32 := by omega
      generalize max a (32 * k) = z at *
      clear g1 g3 g4 b
      omega
    refine ⟨max a (32 * k), by omega, by omega, ?_⟩
    rw [g6]; exact q1
theorem law_DataTorn (t0 : Str) (t1 t2 t3 : UInt8) : M_law15_DataTorn t0 t1 t2 t3 = some true := by
  unfold M_law15_DataTorn
  rw [begun15, bind_some', Bool.not_true, cond_false]
  by_cases hc : (t0.length : Int) > 128
  · rw [decide_eq_true hc]; rfl
  · have w0 := rwriteF (b := []) (by simp) 0 0 t0 (by omega)
    rw [wrB_new] at w0
    have w0' : M_ref11_Write (setF [] 0) [102] 0 t0 = some (setF t0 0, 0) := w0
    have ht : t0.length ≤ 128 := by omega
    have r : rem8 t1 16 = some (t1 % 16) := rfl
    have g1 : getI (setF t0 0) 1 = some (fN t0 0) := rfl
    have s1 : setI (setF t0 0) 1 (⟨(fN t0 0).Kind, (fN t0 0).Up, (fN t0 0).Name, (fN t0 0).Body, ((t1 % 16).toNat : Int)⟩ : G_api_Node) = some (setF t0 ((t1 % 16).toNat : Int)) := rfl
    rw [decide_eq_false hc, cond_false, newF, bind_some', makeF, bind_some', w0', bind_some', appL_eq (by show (2 * (0 + 8) + 192) * 56 ≤ _; decide), bind_some', List.nil_append, r, bind_some', g1, bind_some', s1, bind_some', dreadF ht 0, bind_some', dreadF ht, bind_some']
    have hb : badB' 0 ((readF t0 (t2.toNat : Int) (t3.toNat : Int)).1 : Int) ((readF t0 (t2.toNat : Int) (t3.toNat : Int)).2 : Int) = false := bad0 _ _
    have key := torn_l1' t0 t1 t2 t3 (setF t0 ((t1 % 16).toNat : Int)) (readS (fN t0 0) (t2.toNat : Int) (t3.toNat : Int)) (readS (fN t0 ((t1 % 16).toNat : Int)) (t2.toNat : Int) (t3.toNat : Int))
      (fun v13 => some (((((((readS (fN t0 0) (t2.toNat : Int) (t3.toNat : Int)).2 == 0) && (((readS (fN t0 ((t1 % 16).toNat : Int)) (t2.toNat : Int) (t3.toNat : Int)).2 == 12) == v13)) && ((v13 && ((readS (fN t0 ((t1 % 16).toNat : Int)) (t2.toNat : Int) (t3.toNat : Int)).1 == [])) || (((!v13) && ((readS (fN t0 ((t1 % 16).toNat : Int)) (t2.toNat : Int) (t3.toNat : Int)).2 == 0)) && ((readS (fN t0 ((t1 % 16).toNat : Int)) (t2.toNat : Int) (t3.toNat : Int)).1 == (readS (fN t0 0) (t2.toNat : Int) (t3.toNat : Int)).1)))) && true) && true) && true)) ht _ rfl (fun f v j h1 h2 => by
        have c : (decide ((j : Int) < w64 ((t2.toNat : Int) + (t3.toNat : Int))) && decide ((j : Int) < (t0.length : Int))) = false := by
          have := t2.toNat_lt
          have := t3.toNat_lt
          rw [w64_id (by omega) (by omega), Bool.and_eq_false_iff, decide_eq_false_iff_not, decide_eq_false_iff_not]; omega
        rw [M_law15_DataTorn_l1, c, cond_false, dstatF ht, bind_some']
        simp only [beq_self_eq_true]) t2.toNat (by omega) (Nat.le_refl _) false
    rw [key, Bool.false_or, hit_bad t0 t1 t2.toNat t3.toNat ht]
    have a : readS (fN t0 0) (t2.toNat : Int) (t3.toNat : Int) = ((t0.take (readF t0 (t2.toNat : Int) (t3.toNat : Int)).2).drop (readF t0 (t2.toNat : Int) (t3.toNat : Int)).1, 0) := by
      unfold readS; rw [show (fN t0 0).Bad = 0 from rfl, show (fN t0 0).Body = t0 from rfl, hb, if_neg (by simp)]
    rw [a]
    unfold readS
    rw [show (fN t0 ((t1 % 16).toNat : Int)).Bad = ((t1 % 16).toNat : Int) from rfl, show (fN t0 ((t1 % 16).toNat : Int)).Body = t0 from rfl]
    cases badB' ((t1 % 16).toNat : Int) ((readF t0 (t2.toNat : Int) (t3.toNat : Int)).1 : Int) ((readF t0 (t2.toNat : Int) (t3.toNat : Int)).2 : Int) with
    | true => rw [if_pos rfl]; rfl
    | false => rw [if_neg (by simp)]; simp
end Go.Proofs
