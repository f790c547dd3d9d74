/-
  The law of two words that change places, of the models alone.
-/
import Derived.Test.YthndajeemdfebaaL1
set_option maxRecDepth 20000
namespace Go.Proofs
open Go Go.Fhl
set_option linter.unusedVariables false
set_option linter.unusedSimpArgs false
theorem begun2 : M_law2_begun = some true := by kernel_rfl
def S0 (W : Nat → UInt32) : Nat → UInt32
  | 0 => 0
  | m + 1 => S0 W m + W m
def S1 (W : Nat → UInt32) : Nat → UInt32
  | 0 => 0
  | m + 1 => S1 W m + S0 W (m + 1)
def far (i k m : Nat) : Nat := if m ≤ i then 0 else if m ≤ k then m - i else k - i
theorem S_swap {W W' : Nat → UInt32} {i k : Nat} (hik : i < k) (hi : W' i = W k) (hk : W' k = W i) (ho : ∀ j, j ≠ i → j ≠ k → W' j = W j) :
    ∀ m, S0 W' m = S0 W m + (if i < m ∧ m ≤ k then W k - W i else 0) ∧ S1 W' m = S1 W m + (W k - W i) * UInt32.ofNat (far i k m) := by
  intro m
  induction m with
  | zero =>
    refine ⟨?_, ?_⟩
    · rw [if_neg (by omega)]; simp [S0]
    · have : far i k 0 = 0 := by unfold far; rw [if_pos (Nat.zero_le _)]
      rw [this]; simp [S1]
  | succ m ih =>
    obtain ⟨h0, h1⟩ := ih
    have e0 : S0 W' (m + 1) = S0 W (m + 1) + (if i < m + 1 ∧ m + 1 ≤ k then W k - W i else 0) := by
      simp only [S0]
      rw [h0]
      by_cases a : m = i
      · subst a
        rw [hi, if_neg (by omega), if_pos (by omega)]
        grind
      · by_cases b : m = k
        · subst b
          rw [hk, if_pos (by omega), if_neg (by omega)]
          grind
        · rw [ho m a b]
          by_cases c : i < m ∧ m ≤ k
          · rw [if_pos c, if_pos (by omega)]; grind
          · rw [if_neg c, if_neg (by omega)]; grind
    refine ⟨e0, ?_⟩
    show S1 W' m + S0 W' (m + 1) = S1 W m + S0 W (m + 1) + _
    rw [e0, h1]
    by_cases c : i < m + 1 ∧ m + 1 ≤ k
    · have : far i k (m + 1) = far i k m + 1 := by
        unfold far
        rw [if_neg (by omega), if_pos (by omega)]
        by_cases z : m ≤ i
        · rw [if_pos z]; omega
        · rw [if_neg z, if_pos (by omega)]; omega
      rw [if_pos c, this, UInt32.ofNat_add]
      have e1 : UInt32.ofNat 1 = 1 := rfl
      rw [e1]; grind
    · have : far i k (m + 1) = far i k m := by
        unfold far
        by_cases z : m + 1 ≤ i
        · rw [if_pos z, if_pos (by omega)]
        · rw [if_neg z, if_neg (by omega)]
          by_cases y : m ≤ i
          · omega
          · rw [if_neg y]
            by_cases x : m ≤ k
            · rw [if_pos x]; omega
            · rw [if_neg x]
      rw [if_neg c, this]; grind
def Wb (b : Str) (j : Nat) : UInt32 := word4 (byteAt b (4 * j)) (byteAt b (4 * j + 1)) (byteAt b (4 * j + 2)) (byteAt b (4 * j + 3))
theorem byteAt_lt {b : Str} {i : Nat} (h : i < b.length) : b[i]? = some (byteAt b i) := by unfold byteAt; rw [List.getElem?_eq_getElem h]; rfl
theorem sumG_S (b : Str) (n : Nat) (hl : b.length = 4 * n) : ∀ k j (s : A4 UInt32), j + k = n → s.x0 = S0 (Wb b) j → s.x1 = S1 (Wb b) j → (sumG s (b.drop (4 * j))).x0 = S0 (Wb b) n ∧ (sumG s (b.drop (4 * j))).x1 = S1 (Wb b) n := by
  intro k
  induction k with
  | zero =>
    intro j s h h0 h1
    obtain rfl : j = n := by omega
    rw [List.drop_eq_nil_of_le (by omega)]
    exact ⟨h0, h1⟩
  | succ k ih =>
    intro j s h h0 h1
    have hd : ∀ p, p < 4 → b[4 * j + p]? = some (byteAt b (4 * j + p)) := fun p hp => byteAt_lt (by omega)
    have e : b.drop (4 * j) = byteAt b (4 * j) :: byteAt b (4 * j + 1) :: byteAt b (4 * j + 2) :: byteAt b (4 * j + 3) :: b.drop (4 * (j + 1)) := by
      have g : ∀ p (hp : 4 * j + p < b.length), b.drop (4 * j + p) = byteAt b (4 * j + p) :: b.drop (4 * j + p + 1) := fun p hp => by
        rw [List.drop_eq_getElem_cons hp]
        congr 1
        have := byteAt_lt hp
        rw [List.getElem?_eq_getElem hp] at this
        exact Option.some.inj this
      have g0 := g 0 (by omega)
      have g1 := g 1 (by omega)
      have g2 := g 2 (by omega)
      have g3 := g 3 (by omega)
      rw [Nat.add_zero] at g0
      rw [g0, g1, g2, g3]
      rfl
    rw [e, sumG]
    exact ih (j + 1) (sstep s (Wb b j)) (by omega) (by show s.x0 + Wb b j = S0 (Wb b) j + Wb b j; rw [h0]) (by show s.x1 + (s.x0 + Wb b j) = S1 (Wb b) j + (S0 (Wb b) j + Wb b j); rw [h0, h1])
theorem sumOf_S (b : Str) (n : Nat) (hl : b.length = 4 * n) : (sumOf b).x0 = S0 (Wb b) n ∧ (sumOf b).x1 = S1 (Wb b) n := by
  have := sumG_S b n hl n 0 ⟨0, 0, 0, 0⟩ (by omega) rfl rfl
  simpa [sumOf] using this
/-- So many bytes of the two words have changed places. -/
def Swp (b : Str) (i k j : Nat) (v : Str) : Prop := ∀ p, v[p]? = if 4 * i ≤ p ∧ p < 4 * i + j then b[4 * k + (p - 4 * i)]? else if 4 * k ≤ p ∧ p < 4 * k + j then b[4 * i + (p - 4 * k)]? else b[p]?
theorem swp_step {b v : Str} {i k j n : Nat} (hl : b.length = 4 * n) (hik : i ≤ k) (hk : k < n) (hj : j < 4) (h : Swp b i k j v) :
    ∃ x30 x31, v[4 * k + j]? = some x30 ∧ v[4 * i + j]? = some x31 ∧ v.length = 4 * n ∧ Swp b i k (j + 1) ((v.set (4 * i + j) x30).set (4 * k + j) x31) := by
  have hvl : v.length = 4 * n := by
    have h1 : v[4 * n]? = none := by
      rw [h]
      rw [if_neg (by omega), if_neg (by omega)]; exact List.getElem?_eq_none (by omega)
    have h2 : ∀ p, p < 4 * n → v[p]? ≠ none := by
      intro p hp
      rw [h]
      split
      · rw [List.getElem?_eq_getElem (by omega)]; simp
      · split
        · rw [List.getElem?_eq_getElem (by omega)]; simp
        · rw [List.getElem?_eq_getElem (by omega)]; simp
    rw [List.getElem?_eq_none_iff] at h1
    rcases Nat.lt_or_ge v.length (4 * n) with q | q
    · exact absurd (List.getElem?_eq_none (Nat.le_refl _)) (h2 _ q)
    · omega
  refine ⟨byteAt v (4 * k + j), byteAt v (4 * i + j), byteAt_lt (by omega), byteAt_lt (by omega), hvl, ?_⟩
  have r1 : v[4 * k + j]? = b[4 * k + j]? := by
    rw [h]
    by_cases q : i = k
    · subst q; rw [if_neg (by omega), if_neg (by omega)]
    · rw [if_neg (by omega), if_neg (by omega)]
  have r2 : v[4 * i + j]? = b[4 * i + j]? := by
    rw [h]
    by_cases q : i = k
    · subst q; rw [if_neg (by omega), if_neg (by omega)]
    · rw [if_neg (by omega), if_neg (by omega)]
  have e1 := byteAt_lt (b := v) (i := 4 * k + j) (by omega)
  have e2 := byteAt_lt (b := v) (i := 4 * i + j) (by omega)
  intro p
  rw [List.getElem?_set, List.getElem?_set]
  simp only [List.length_set, hvl]
  by_cases a : 4 * k + j = p
  · subst a
    rw [if_pos rfl, if_pos (by omega)]
    by_cases q : i = k
    · subst q
      rw [if_pos (by omega), ← e2, r2]; congr 1; omega
    · rw [if_neg (by omega), if_pos (by omega), ← e2, r2]; congr 1; omega
  · rw [if_neg a]
    by_cases c : 4 * i + j = p
    · subst c
      rw [if_pos rfl, if_pos (by omega), if_pos (by omega), ← e1, r1]; congr 1; omega
    · rw [if_neg c, h]
      have hi' : (4 * i ≤ p ∧ p < 4 * i + (j + 1)) ↔ (4 * i ≤ p ∧ p < 4 * i + j) := by omega
      have hk' : (4 * k ≤ p ∧ p < 4 * k + (j + 1)) ↔ (4 * k ≤ p ∧ p < 4 * k + j) := by omega
      simp only [hi', hk']
theorem swp_W {b v : Str} {i k n : Nat} (hl : b.length = 4 * n) (hik : i < k) (hk : k < n) (h : Swp b i k 4 v) : Wb v i = Wb b k ∧ Wb v k = Wb b i ∧ ∀ j, j ≠ i → j ≠ k → Wb v j = Wb b j := by
  have hb : ∀ p q, v[p]? = b[q]? → byteAt v p = byteAt b q := fun p q e => by unfold byteAt; rw [e]
  refine ⟨?_, ?_, fun j hj hk' => ?_⟩
  · unfold Wb
    rw [hb (4 * i) (4 * k) (by rw [h, if_pos (by omega)]; congr 1; omega), hb (4 * i + 1) (4 * k + 1) (by rw [h, if_pos (by omega)]; congr 1; omega), hb (4 * i + 2) (4 * k + 2) (by rw [h, if_pos (by omega)]; congr 1; omega), hb (4 * i + 3) (4 * k + 3) (by rw [h, if_pos (by omega)]; congr 1; omega)]
  · unfold Wb
    rw [hb (4 * k) (4 * i) (by rw [h, if_neg (by omega), if_pos (by omega)]; congr 1; omega), hb (4 * k + 1) (4 * i + 1) (by rw [h, if_neg (by omega), if_pos (by omega)]; congr 1; omega), hb (4 * k + 2) (4 * i + 2) (by rw [h, if_neg (by omega), if_pos (by omega)]; congr 1; omega), hb (4 * k + 3) (4 * i + 3) (by rw [h, if_neg (by omega), if_pos (by omega)]; congr 1; omega)]
  · unfold Wb
    rw [hb (4 * j) (4 * j) (by rw [h, if_neg (by omega), if_neg (by omega)]), hb (4 * j + 1) (4 * j + 1) (by rw [h, if_neg (by omega), if_neg (by omega)]), hb (4 * j + 2) (4 * j + 2) (by rw [h, if_neg (by omega), if_neg (by omega)]), hb (4 * j + 3) (4 * j + 3) (by rw [h, if_neg (by omega), if_neg (by omega)])]
theorem swp_same {b v : Str} {i : Nat} (h : Swp b i i 4 v) : v = b := by
  refine List.ext_getElem? fun p => ?_
  rw [h p]
  by_cases a : 4 * i ≤ p ∧ p < 4 * i + 4
  · rw [if_pos a]; congr 1; omega
  · rw [if_neg a, if_neg a]
theorem shl_word (a b c d : UInt8) : ∃ x y z, shl32 b.toUInt32 8 = some x ∧ shl32 c.toUInt32 16 = some y ∧ shl32 d.toUInt32 24 = some z ∧ a.toUInt32 + x + y + z = word4 a b c d := by
  refine ⟨_, _, _, rfl, rfl, rfl, ?_⟩
  have := a.toNat_lt
  have := b.toNat_lt
  have := c.toNat_lt
  have := d.toNat_lt
  apply UInt32.toNat_inj.1
  unfold word4 wordN
  have m8 : min (Int.toNat 8) 32 = 8 := by decide
  have m16 : min (Int.toNat 16) 32 = 16 := by decide
  have m24 : min (Int.toNat 24) 32 = 24 := by decide
  simp only [UInt32.toNat_add, UInt8.toNat_toUInt32, UInt32.toNat_ofNat', m8, m16, m24]
  omega
theorem k1_eq (t0 : List UInt8) (n i k : Nat) (hn : n = t0.length / 4) (h60 : t0.length ≤ 60) (hik : i ≤ k) (hk : k < n) : M_law2_SumOrder_k1 t0 (n : Int) (i : Int) (k : Int) = some true := by
  unfold M_law2_SumOrder_k1
  have e4 : w64 (4 * (n : Int)) = ((4 * n : Nat) : Int) := by rw [w64_id (by omega) (by omega)]; omega
  obtain ⟨b, hb⟩ : ∃ b : Str, b = t0.take (4 * n) := ⟨_, rfl⟩
  have hl : b.length = 4 * n := by rw [hb, List.length_take]; omega
  rw [e4, slL_to (by omega), bind_some', ← hb, appL_eq (by simp only [List.length_nil]; omega), List.nil_append, bind_some', sum1_eq b (by omega), bind_some']
  have ei : w64 (4 * (i : Int)) = ((4 * i : Nat) : Int) := by rw [w64_id (by omega) (by omega)]; omega
  have ek : w64 (4 * (k : Int)) = ((4 * k : Nat) : Int) := by rw [w64_id (by omega) (by omega)]; omega
  have ea : ∀ (q p : Nat), q < 100 → p < 4 → w64 (((4 * q : Nat) : Int) + (p : Int)) = ((4 * q + p : Nat) : Int) := fun q p hq hp => by rw [w64_id (by omega) (by omega)]; omega
  have eg : ∀ p, p < b.length → getI b (p : Int) = some (byteAt b p) := fun p hp => by rw [getI_nat, byteAt_lt hp]
  have a1 := ea i 1 (by omega) (by omega)
  have a2 := ea i 2 (by omega) (by omega)
  have a3 := ea i 3 (by omega) (by omega)
  have b1 := ea k 1 (by omega) (by omega)
  have b2 := ea k 2 (by omega) (by omega)
  have b3 := ea k 3 (by omega) (by omega)
  have n1 : ((1 : Nat) : Int) = 1 := rfl
  have n2 : ((2 : Nat) : Int) = 2 := rfl
  have n3 : ((3 : Nat) : Int) = 3 := rfl
  rw [n1] at a1 b1
  rw [n2] at a2 b2
  rw [n3] at a3 b3
  obtain ⟨x15, x17, x19, s1, s2, s3, sv⟩ := shl_word (byteAt b (4 * i)) (byteAt b (4 * i + 1)) (byteAt b (4 * i + 2)) (byteAt b (4 * i + 3))
  obtain ⟨x22, x24, x26, u1, u2, u3, uv⟩ := shl_word (byteAt b (4 * k)) (byteAt b (4 * k + 1)) (byteAt b (4 * k + 2)) (byteAt b (4 * k + 3))
  simp only [ei, ek, a1, a2, a3, b1, b2, b3, eg (4 * i) (by omega), eg (4 * i + 1) (by omega), eg (4 * i + 2) (by omega), eg (4 * i + 3) (by omega), eg (4 * k) (by omega), eg (4 * k + 1) (by omega), eg (4 * k + 2) (by omega), eg (4 * k + 3) (by omega), bind_some', s1, s2, s3, u1, u2, u3]
  -- the loop
  have step : ∀ (m j : Nat) (v : Str), j < 4 → Swp b i k j v → ∃ v2, Swp b i k (j + 1) v2 ∧ M_law2_SumOrder_l1 (i : Int) (k : Int) (sumOf b) (byteAt b (4 * i)) x15 x17 x19 (byteAt b (4 * k)) x22 x24 x26 (m + 1) (j : Int) v = M_law2_SumOrder_l1 (i : Int) (k : Int) (sumOf b) (byteAt b (4 * i)) x15 x17 x19 (byteAt b (4 * k)) x22 x24 x26 m ((j + 1 : Nat) : Int) v2 := by
    intro m j v hj hv
    obtain ⟨x30, x31, q1, q2, q3, q4⟩ := swp_step hl hik hk hj hv
    refine ⟨_, q4, ?_⟩
    have hx34 : ∃ z, ((v.set (4 * i + j) x30)[4 * k + j]?) = some z := ⟨_, byteAt_lt (by rw [List.length_set]; omega)⟩
    obtain ⟨z, hz⟩ := hx34
    rw [M_law2_SumOrder_l1, decide_eq_true (by omega), cond_true, ei, ek, ea i j (by omega) hj, ea k j (by omega) hj]
    simp only [getI_nat, q1, q2, bind_some']
    rw [setI_nat (by omega), bind_some', hz, bind_some', setI_nat (by rw [List.length_set]; omega), bind_some', w64_succ (by omega)]
  have h0 : Swp b i k 0 b := fun p => by rw [if_neg (by omega), if_neg (by omega)]
  obtain ⟨v1, g1, r1⟩ := step (4611686018427387899 + 1 + 1 + 1 + 1) 0 b (by omega) h0
  obtain ⟨v2, g2, r2⟩ := step (4611686018427387899 + 1 + 1 + 1) 1 v1 (by omega) g1
  obtain ⟨v3, g3, r3⟩ := step (4611686018427387899 + 1 + 1) 2 v2 (by omega) g2
  obtain ⟨v4, g4, r4⟩ := step (4611686018427387899 + 1) 3 v3 (by omega) g3
  have hv4 : v4.length = 4 * n := by
    obtain ⟨_, _, _, _, q, _⟩ := swp_step hl hik hk (show 3 < 4 by omega) g3
    by_cases z : i = k
    · subst z; rw [swp_same g4]; exact hl
    · have h1 : v4[4 * n]? = none := by
        rw [g4, if_neg (by omega), if_neg (by omega)]; exact List.getElem?_eq_none (by omega)
      have h2 : ∀ p, p < 4 * n → v4[p]? ≠ none := by
        intro p hp
        rw [g4]
        split
        · rw [List.getElem?_eq_getElem (by omega)]; simp
        · split
          · rw [List.getElem?_eq_getElem (by omega)]; simp
          · rw [List.getElem?_eq_getElem (by omega)]; simp
      rw [List.getElem?_eq_none_iff] at h1
      rcases Nat.lt_or_ge v4.length (4 * n) with q | q
      · exact absurd (List.getElem?_eq_none (Nat.le_refl _)) (h2 _ q)
      · omega
  have hf : fuel = 4611686018427387899 + 1 + 1 + 1 + 1 + 1 := rfl
  have e0 : (0 : Int) = ((0 : Nat) : Int) := rfl
  rw [hf, e0, r1, r2, r3, r4, M_law2_SumOrder_l1, decide_eq_false (by omega), cond_false, sum1_eq v4 (by omega), bind_some']
  congr 1
  have ew : w64 ((k : Int) - (i : Int)) = ((k - i : Nat) : Int) := by rw [w64_id (by omega) (by omega)]; omega
  have eo : UInt32.ofInt ((k - i : Nat) : Int) = UInt32.ofNat (k - i) := by
    show UInt32.ofNat ((((k - i : Nat) : Int) % 4294967296).toNat) = _
    congr 1; omega
  rw [ew, eo]
  have hsv : ((byteAt b (4 * i)).toUInt32 + x15) + x17 + x19 = Wb b i := sv
  have huv : ((byteAt b (4 * k)).toUInt32 + x22) + x24 + x26 = Wb b k := uv
  rw [hsv, huv]
  obtain ⟨c0, c1⟩ := sumOf_S b n hl
  obtain ⟨d0, d1⟩ := sumOf_S v4 n hv4
  by_cases z : i = k
  · subst z
    rw [swp_same g4]
    simp
  · obtain ⟨w1, w2, w3⟩ := swp_W hl (by omega) hk g4
    obtain ⟨t1, t2⟩ := S_swap (by omega) w1 w2 w3 n
    rw [if_neg (by omega)] at t1
    have hfar : far i k n = k - i := by
      unfold far
      rw [if_neg (by omega)]
      by_cases q : n ≤ k
      · omega
      · rw [if_neg q]
    rw [hfar] at t2
    rw [c0, c1, d0, d1, t1, t2]
    simp
theorem law_SumOrder (t0 : List UInt8) (t1 t2 : UInt8) : M_law2_SumOrder t0 t1 t2 = some true := by
  unfold M_law2_SumOrder
  rw [begun2, bind_some', Bool.not_true, cond_false]
  by_cases h : (t0.length : Int) > 60 ∨ (t0.length : Int) < 8
  · have : (decide ((t0.length : Int) > 60) || decide ((t0.length : Int) < 8)) = true := by
      simp only [Bool.or_eq_true, decide_eq_true_eq]; exact h
    rw [this, cond_true]
  · have a : ¬ (t0.length : Int) > 60 := fun q => h (.inl q)
    have b : ¬ (t0.length : Int) < 8 := fun q => h (.inr q)
    obtain ⟨n, hn⟩ : ∃ n, n = t0.length / 4 := ⟨_, rfl⟩
    have hq : quoI (t0.length : Int) 4 = some (n : Int) := by
      unfold quoI
      rw [if_neg (by decide)]
      have : ((t0.length : Int).tdiv 4) = ((t0.length / 4 : Nat) : Int) := rfl
      rw [this, ← hn, w64_nat (by omega)]
    rw [decide_eq_false a, decide_eq_false b, Bool.or_self, cond_false, hq, bind_some', remI_nat (by omega), bind_some', remI_nat (by omega), bind_some']
    have l1 := Nat.mod_lt t1.toNat (show 0 < n by omega)
    have l2 := Nat.mod_lt t2.toNat (show 0 < n by omega)
    by_cases q : ((t1.toNat % n : Nat) : Int) > ((t2.toNat % n : Nat) : Int)
    · rw [decide_eq_true q, cond_true, k1_eq t0 n _ _ hn (by omega) (by omega) l1]
    · rw [decide_eq_false q, cond_false, k1_eq t0 n _ _ hn (by omega) (by omega) l2]
end Go.Proofs
