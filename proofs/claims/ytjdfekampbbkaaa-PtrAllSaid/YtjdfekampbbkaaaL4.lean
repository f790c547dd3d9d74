/-
  The laws of pointers, of the models alone.
-/
import Derived.Test.YtjdfekampbbkaaaL3
set_option maxRecDepth 20000
namespace Go.Proofs
open Go Go.Fhl
set_option linter.unusedVariables false
set_option linter.unusedSimpArgs false
theorem begun4 : M_law4_begun = some true := by kernel_rfl
theorem law_PtrForms : M_law4_PtrForms = some true := by kernel_rfl

theorem takePs_length : ∀ (k : Nat) (s : Str) (l : List G_api_Ptr) (r : Str), takePs k s = some (l, r) → l.length = k := by
  intro k
  induction k with
  | zero => intro s l r h; simp [takePs] at h; simp [h.1]
  | succ k ih =>
    intro s l r h
    rw [takePs] at h
    split at h
    · cases h
    · split at h
      · cases hq : takePs k (s.drop 22) with
        | none => rw [hq] at h; cases h
        | some x => rw [hq] at h; cases h; simp [ih _ _ _ hq]
      · cases h
theorem tans_length (k : Nat) (s : Str) : (tans (takePs k s)).1.length ≤ k := by
  cases h : takePs k s with
  | none => simp [tans]
  | some x => simp [tans, takePs_length k s x.1 x.2 h]
theorem same_self (a : List G_api_Ptr) (h : a.length < 1000000) : M_ref1_SamePtrs a a = some true := by rw [same_eq a a h, decide_eq_true rfl]

section
variable (c1 c2 : Int → Option Bool) (t0 : G_api_Ptr) (t2 : Str) (t3 : Int) (t4 : Str) (t5 t6 : Int) (x15 x17 : Str)
theorem pa_round (v18 : Int) (tx : Str) (htx : getI ([t2, x15, x17] : List Str) v18 = some tx) (n k : Nat) (hk : k < 4) (m : Int) (hm : getI ([t3, 3, 2, 0] : List Int) (k : Int) = some m) :
    M_law4_PtrAll_l3 c1 c2 t0 t2 t3 t4 t5 t6 x15 x17 v18 (n + 1) (k : Int) = M_law4_PtrAll_l3 c1 c2 t0 t2 t3 t4 t5 t6 x15 x17 v18 n ((k + 1 : Nat) : Int) := by
  rw [M_law4_PtrAll_l3, decide_eq_true (by omega), cond_true, hm, bind_some']
  unfold M_law4_PtrAll_k1
  rw [w64_succ (by omega)]
  by_cases q : m > 100
  · rw [decide_eq_true q, cond_true]
  · rw [decide_eq_false q, cond_false, htx, bind_some', bind_some', take_eq _ _ (by omega), bind_some', bind_some', bind_some', rtakePs_eq _ _ (by omega), bind_some']
    have hl := tans_length m.toNat tx
    simp only [bne_self_eq_false, Bool.or_self, show ((false : Bool) == false) = true from rfl, gd_true]
    rw [same_self _ (by omega), bind_some']
    rfl
theorem pa_l3 (v18 : Int) (tx : Str) (htx : getI ([t2, x15, x17] : List Str) v18 = some tx) :
    M_law4_PtrAll_l3 c1 c2 t0 t2 t3 t4 t5 t6 x15 x17 v18 fuel 0 = c2 (w64 (v18 + 1)) := by
  have hf : fuel = 4611686018427387899 + 1 + 1 + 1 + 1 + 1 := rfl
  have e0 : (0 : Int) = ((0 : Nat) : Int) := rfl
  rw [hf, e0, pa_round c1 c2 t0 t2 t3 t4 t5 t6 x15 x17 v18 tx htx _ 0 (by omega) t3 rfl, pa_round c1 c2 t0 t2 t3 t4 t5 t6 x15 x17 v18 tx htx _ 1 (by omega) 3 rfl,
    pa_round c1 c2 t0 t2 t3 t4 t5 t6 x15 x17 v18 tx htx _ 2 (by omega) 2 rfl, pa_round c1 c2 t0 t2 t3 t4 t5 t6 x15 x17 v18 tx htx _ 3 (by omega) 0 rfl,
    M_law4_PtrAll_l3, decide_eq_false (by omega), cond_false]
theorem pa_l2s (v18 : Nat) (hv : v18 < 3) (n : Nat) (tx : Str) (htx : getI ([t2, x15, x17] : List Str) (v18 : Int) = some tx) :
    M_law4_PtrAll_l2 c1 t0 t2 t3 t4 t5 t6 x15 x17 (n + 1) (v18 : Int) = M_law4_PtrAll_l2 c1 t0 t2 t3 t4 t5 t6 x15 x17 n ((v18 + 1 : Nat) : Int) := by
  rw [M_law4_PtrAll_l2, decide_eq_true (by omega), cond_true, pa_l3 c1 _ t0 t2 t3 t4 t5 t6 x15 x17 _ tx htx, w64_succ (by omega)]
theorem to_eq (a : Int) (s : Str) (b : Int) (h : s.length ≤ 140737488355328) : M_ptr_To a s b = some ⟨a, b, sumOf s⟩ := by
  unfold M_ptr_To; rw [sum1_eq s h, bind_some']
theorem rto_eq (a : Int) (s : Str) (b : Int) (h : s.length ≤ 140737488355328) : M_ref1_To a s b = some ⟨a, b, sumOf s⟩ := by
  unfold M_ref1_To; rw [rsum1_eq s (by omega), bind_some']
theorem fits_eq (p : G_api_Ptr) (s : Str) (h : s.length ≤ 140737488355328) : M_ptr_Fits p s = some (decide (p.Sum = sumOf s)) := by
  unfold M_ptr_Fits; rw [sum1_eq s h, bind_some']
theorem pa_l2 (h4 : t4.length ≤ 60) : M_law4_PtrAll_l2 c1 t0 t2 t3 t4 t5 t6 x15 x17 fuel 0 = some true := by
  have hf : fuel = 4611686018427387900 + 1 + 1 + 1 + 1 := rfl
  have e0 : (0 : Int) = ((0 : Nat) : Int) := rfl
  rw [hf, e0, pa_l2s c1 t0 t2 t3 t4 t5 t6 x15 x17 0 (by omega) _ t2 rfl, pa_l2s c1 t0 t2 t3 t4 t5 t6 x15 x17 1 (by omega) _ x15 rfl, pa_l2s c1 t0 t2 t3 t4 t5 t6 x15 x17 2 (by omega) _ x17 rfl,
    M_law4_PtrAll_l2, decide_eq_false (by omega), cond_false, to_eq _ _ _ (by omega), bind_some', may_eq, bind_some', rmay_eq, bind_some', rto_eq _ _ _ (by omega), gd_some, bind_some', fits_eq _ _ (by omega), gd_some, bind_some', fits_eq _ _ (by omega), gd_some, bind_some', rsum1_eq _ (by omega), gd_some, bind_some']
  simp
end
theorem pa_l1s (t0 : G_api_Ptr) (t2 : Str) (t3 : Int) (t4 : Str) (t5 t6 : Int) (x5 : List G_api_Ptr × G_palimpmade_Picks) (x7 : List G_api_Ptr) (n j : Nat) (hj : j < 4) (x : List G_api_Ptr) (hx : getI ([x5.1, ([t0] : List G_api_Ptr), x7, []] : List (List G_api_Ptr)) (j : Int) = some x) (hl : x.length < 1000000) :
    M_law4_PtrAll_l1 t0 t2 t3 t4 t5 t6 x5 x7 (n + 1) (j : Int) = M_law4_PtrAll_l1 t0 t2 t3 t4 t5 t6 x5 x7 n ((j + 1 : Nat) : Int) := by
  have hd : decide ((j : Int) < (([x5.1, ([t0] : List G_api_Ptr), x7, []] : List (List G_api_Ptr)).length : Int)) = true := decide_eq_true (by simp; omega)
  rw [M_law4_PtrAll_l1, hd, cond_true, hx, bind_some', put_eq x hl, bind_some', bind_some', rput_eq x hl, bind_some', bne_self_eq_false, cond_false, w64_succ (by omega)]
theorem putPs_length (l : List G_api_Ptr) : (putPs l).length ≤ l.length * 22 := by
  unfold putPs
  split
  · rw [bytesPs_length]; exact Nat.le_refl _
  · simp
theorem law_PtrAll (t0 : G_api_Ptr) (t1 : List UInt8) (t2 : Str) (t3 : Int) (t4 : Str) (t5 t6 : Int) : M_law4_PtrAll t0 t1 t2 t3 t4 t5 t6 = some true := by
  unfold M_law4_PtrAll
  rw [begun4, bind_some', Bool.not_true, cond_false]
  by_cases h : (t1.length : Int) > 20 ∨ (t2.length : Int) > 70 ∨ (t4.length : Int) > 60
  · have : (decide ((t1.length : Int) > 20) || decide ((t2.length : Int) > 70) || decide ((t4.length : Int) > 60)) = true := by
      simp only [Bool.or_eq_true, decide_eq_true_eq, or_assoc]; exact h
    rw [this, cond_true]
  · have h1 : ¬ (t1.length : Int) > 20 := fun q => h (.inl q)
    have h2 : ¬ (t2.length : Int) > 70 := fun q => h (.inr (.inl q))
    have h4 : ¬ (t4.length : Int) > 60 := fun q => h (.inr (.inr q))
    rw [decide_eq_false h1, decide_eq_false h2, decide_eq_false h4]
    obtain ⟨l, q, e, hl, hok⟩ := ptrs_ok t1 (by omega) 3 (by omega)
    simp only [Bool.or_self, cond_false, M_made_Made, bind_some']
    have e3 : ((3 : Nat) : Int) = 3 := rfl
    rw [e3] at e
    rw [e, bind_some', appL_eq (by simp; omega), bind_some', appL_eq (by simp; omega), bind_some']
    have hf : fuel = 4611686018427387899 + 1 + 1 + 1 + 1 + 1 := rfl
    have e0 : (0 : Int) = ((0 : Nat) : Int) := rfl
    rw [hf, e0]
    rw [pa_l1s _ _ _ _ _ _ _ _ _ 0 (by omega) l rfl (by omega), pa_l1s _ _ _ _ _ _ _ _ _ 1 (by omega) [t0] rfl (by simp), pa_l1s _ _ _ _ _ _ _ _ _ 2 (by omega) ([] ++ l ++ [t0]) rfl (by simp; omega), pa_l1s _ _ _ _ _ _ _ _ _ 3 (by omega) [] rfl (by simp)]
    have hd : decide (((3 + 1 : Nat) : Int) < (([l, ([t0] : List G_api_Ptr), [] ++ l ++ [t0], []] : List (List G_api_Ptr)).length : Int)) = false := rfl
    have hp := putPs_length l
    rw [M_law4_PtrAll_l1, hd, cond_false, rput_eq l (by omega), bind_some', bind_some', addS_eq (by omega), bind_some', pa_l2 _ _ _ _ _ _ _ _ _ (by omega)]

/-! ## What is put is taken -/
theorem u32_ofInt (x : UInt32) : UInt32.ofInt (x.toNat : Int) = x := by
  have : UInt32.ofInt (x.toNat : Int) = UInt32.ofNat ((x.toNat : Int) % 4294967296).toNat := rfl
  rw [this]
  apply UInt32.toNat_inj.1
  have := x.toNat_lt
  rw [UInt32.toNat_ofNat']; omega
theorem u32_toNat_ofInt {v : Int} (h0 : 0 ≤ v) (h1 : v < 4294967296) : ((UInt32.ofInt v).toNat : Int) = v := by
  have : UInt32.ofInt v = UInt32.ofNat (v % 4294967296).toNat := rfl
  rw [this, UInt32.toNat_ofNat']; omega
theorem p256_2 : (256 : Int) ^ 2 = 65536 := by decide
theorem p256_4 : (256 : Int) ^ 4 = 4294967296 := by decide
theorem cut6 (a b c d e f : Str) (r : Str) (ha : a.length = 2) (hb : b.length = 4) (hc : c.length = 4) (hd : d.length = 4) (he : e.length = 4) (hf : f.length = 4) :
    let s := (a ++ (b ++ (c ++ (d ++ (e ++ f))))) ++ r
    s.take 2 = a ∧ (s.drop 2).take 4 = b ∧ (s.drop 6).take 4 = c ∧ (s.drop 10).take 4 = d ∧ (s.drop 14).take 4 = e ∧ (s.drop 18).take 4 = f ∧ s.drop 22 = r := by
  match a, ha with
  | [a0, a1], _ =>
  match b, hb with
  | [b0, b1, b2, b3], _ =>
  match c, hc with
  | [c0, c1, c2, c3], _ =>
  match d, hd with
  | [d0, d1, d2, d3], _ =>
  match e, he with
  | [e0, e1, e2, e3], _ =>
  match f, hf with
  | [f0, f1, f2, f3], _ => exact ⟨rfl, rfl, rfl, rfl, rfl, rfl, rfl⟩
theorem okPtr_range {p : G_api_Ptr} (h : okPtr p = true) : 0 ≤ p.Addr ∧ p.Addr < 65536 ∧ 0 ≤ p.Birth ∧ p.Birth < 4294967296 := by
  rcases (okPtr_iff p).1 h with rfl | h
  · decide
  · omega
theorem ptrOf_bytes (p : G_api_Ptr) (h : okPtr p = true) (r : Str) : ptrOf (bytesP p ++ r) = p ∧ (bytesP p ++ r).drop 22 = r := by
  obtain ⟨h1, h2, h3, h4⟩ := okPtr_range h
  have hx : ∀ x : UInt32, val (be 4 (x.toNat : Int)) = x.toNat := fun x => by
    have := x.toNat_lt
    exact val_be_id (by omega) (by rw [p256_4]; omega)
  obtain ⟨a1, a2, a3, a4, a5, a6, a7⟩ := cut6 (be 2 p.Addr) (be 4 p.Birth) (be 4 (p.Sum.x0.toNat : Int)) (be 4 (p.Sum.x1.toNat : Int)) (be 4 (p.Sum.x2.toNat : Int)) (be 4 (p.Sum.x3.toNat : Int)) r (be_length _ _) (be_length _ _) (be_length _ _) (be_length _ _) (be_length _ _) (be_length _ _)
  refine ⟨?_, a7⟩
  unfold ptrOf bytesP put6
  rw [a1, a2, a3, a4, a5, a6, val_be_id h1 (by rw [p256_2]; omega), val_be_id h3 (by rw [p256_4]; omega), hx, hx, hx, hx, u32_ofInt, u32_ofInt, u32_ofInt, u32_ofInt]
theorem take_put : ∀ (l : List G_api_Ptr) (r : Str), l.all okPtr = true → takePs l.length (l.flatMap bytesP ++ r) = some (l, r) := by
  intro l
  induction l with
  | nil => intro r _; rfl
  | cons p l ih =>
    intro r h
    simp only [List.all_cons, Bool.and_eq_true] at h
    have hb : (bytesP p).length = 22 := bytesP_length _
    obtain ⟨g1, g2⟩ := ptrOf_bytes p h.1 (l.flatMap bytesP ++ r)
    rw [List.flatMap_cons, List.append_assoc, List.length_cons, takePs, if_neg (by simp; omega), g1, if_pos h.1, g2, ih r h.2]
    rfl
theorem take_short : ∀ (k : Nat) (s : Str), s.length < 22 * k → takePs k s = none := by
  intro k
  induction k with
  | zero => intro s h; omega
  | succ k ih =>
    intro s h
    rw [takePs]
    split
    · rfl
    · split
      · rw [ih _ (by simp; omega)]; rfl
      · rfl
theorem putPs_ok {l : List G_api_Ptr} (h : l.all okPtr = true) : putPs l = l.flatMap bytesP := by unfold putPs; rw [if_pos h]
theorem putPs_inj {x y : List G_api_Ptr} (hx : x.all okPtr = true) (hy : y.all okPtr = true) (hl : x.length = y.length) (h : putPs x = putPs y) : x = y := by
  rw [putPs_ok hx, putPs_ok hy] at h
  have a := take_put x [] hx
  have b := take_put y [] hy
  rw [h, hl] at a
  rw [b] at a
  cases a; rfl
theorem law_PtrBack (t0 t1 : List UInt8) (t2 t3 : UInt8) : M_law4_PtrBack t0 t1 t2 t3 = some true := by
  unfold M_law4_PtrBack
  rw [begun4, bind_some', Bool.not_true, cond_false]
  by_cases h : (t0.length : Int) > 20 ∨ (t1.length : Int) > 20
  · have : (decide ((t0.length : Int) > 20) || decide ((t1.length : Int) > 20)) = true := by
      simp only [Bool.or_eq_true, decide_eq_true_eq]; exact h
    rw [this, cond_true]
  · have h1 : ¬ (t0.length : Int) > 20 := fun q => h (.inl q)
    have h2 : ¬ (t1.length : Int) > 20 := fun q => h (.inr q)
    rw [decide_eq_false h1, decide_eq_false h2]
    have hr : rem8 t2 4 = some (t2 % 4) := rfl
    have hm : (t2 % 4).toNat < 4 := by
      have : (t2 % 4).toNat = t2.toNat % 4 := UInt8.toNat_mod ..
      omega
    obtain ⟨k, hk⟩ : ∃ k : Nat, k = 1 + (t2 % 4).toNat := ⟨_, rfl⟩
    have hw : w64 (1 + ((t2 % 4).toNat : Int)) = (k : Int) := by rw [w64_id (by omega) (by omega)]; omega
    obtain ⟨x, q1, e1, hx1, hx2⟩ := ptrs_ok t0 (by omega) k (by omega)
    obtain ⟨y, q2, e2, hy1, hy2⟩ := ptrs_ok t1 (by omega) k (by omega)
    have hsl : (putPs x).length = 22 * k := by rw [putPs_ok hx2, bytesPs_length]; omega
    have htl : (putPs y).length = 22 * k := by rw [putPs_ok hy2, bytesPs_length]; omega
    have hne : (((putPs x).length : Int) != w64 ((k : Int) * 22)) = false := by
      rw [w64_id (by omega) (by omega)]; simp; omega
    have t1 := take_put x (putPs y) hx2
    rw [← putPs_ok hx2, hx1] at t1
    have ht2 : ((t3.toNat % (22 * k) : Nat)) < 22 * k := Nat.mod_lt _ (by omega)
    simp only [Bool.or_self, cond_false, hr, M_made_Made, bind_some', hw, e1, e2, put_eq x (by omega), put_eq y (by omega), hne]
    rw [addS_eq (by omega), bind_some', take_eq _ _ (by omega), bind_some', Int.toNat_natCast, t1, hsl, remI_nat (by omega), bind_some', slL_to (by omega), bind_some', take_eq _ _ (by omega), Int.toNat_natCast, bind_some', take_short _ _ (by simp; omega)]
    simp only [tans, beq_self_eq_true, Bool.and_self, show ((true : Bool) == true) = true from rfl, gd_true, same_eq x x (by omega), same_eq x y (by omega), bind_some', decide_true, Bool.true_and, Bool.not_false]
    congr 1
    by_cases q : x = y
    · subst q; simp
    · have : putPs x ≠ putPs y := fun e => q (putPs_inj hx2 hy2 (by omega) e)
      simp [q, this]

/-! ## One byte is turned -/
theorem bytes_ptrOf (s : Str) (h : s.length = 22) : bytesP (ptrOf s) = s := by
  match s, h with
  | [a0, a1, b0, b1, b2, b3, c0, c1, c2, c3, d0, d1, d2, d3, e0, e1, e2, e3, f0, f1, f2, f3], _ =>
    have hu : ∀ a b c d : UInt8, ((UInt32.ofInt (val [a, b, c, d])).toNat : Int) = val [a, b, c, d] := fun a b c d => by
      have h1 := val_nonneg [a, b, c, d]
      have h2 := val_lt [a, b, c, d]
      have : (256 : Int) ^ [a, b, c, d].length = 4294967296 := p256_4
      rw [this] at h2
      exact u32_toNat_ofInt h1 h2
    show be 2 (val [a0, a1]) ++ (be 4 (val [b0, b1, b2, b3]) ++ (be 4 ((UInt32.ofInt (val [c0, c1, c2, c3])).toNat : Int) ++ (be 4 ((UInt32.ofInt (val [d0, d1, d2, d3])).toNat : Int) ++ (be 4 ((UInt32.ofInt (val [e0, e1, e2, e3])).toNat : Int) ++ be 4 ((UInt32.ofInt (val [f0, f1, f2, f3])).toNat : Int))))) = _
    rw [hu, hu, hu, hu, be_val (k := 2) (b := [a0, a1]) rfl, be_val (k := 4) (b := [b0, b1, b2, b3]) rfl, be_val (k := 4) (b := [c0, c1, c2, c3]) rfl, be_val (k := 4) (b := [d0, d1, d2, d3]) rfl, be_val (k := 4) (b := [e0, e1, e2, e3]) rfl, be_val (k := 4) (b := [f0, f1, f2, f3]) rfl]
    rfl
theorem xor_ne {a b : UInt8} (h : b ≠ 0) : a ^^^ b ≠ a := by
  intro e
  apply h
  have : a ^^^ (a ^^^ b) = a ^^^ a := by rw [e]
  rwa [← UInt8.xor_assoc, UInt8.xor_self, UInt8.zero_xor] at this
theorem set_ne {l : Str} {k : Nat} {y : UInt8} (h : k < l.length) (hy : y ≠ l[k]) : l.set k y ≠ l := by
  intro e
  apply hy
  have : (l.set k y)[k]? = l[k]? := by rw [e]
  rw [List.getElem?_set_self h, List.getElem?_eq_getElem h] at this
  cases this; rfl
theorem law_PtrTurned (t0 : List UInt8) (t1 t2 : UInt8) : M_law4_PtrTurned t0 t1 t2 = some true := by
  unfold M_law4_PtrTurned
  rw [begun4, bind_some', Bool.not_true, cond_false]
  by_cases h : (t0.length : Int) > 20 ∨ t2 = 0
  · have : (decide ((t0.length : Int) > 20) || (t2 == 0)) = true := by
      simp only [Bool.or_eq_true, decide_eq_true_eq, beq_iff_eq]; exact h
    rw [this, cond_true]
  · have h1 : ¬ (t0.length : Int) > 20 := fun q => h (.inl q)
    have h2 : ¬ t2 = 0 := fun q => h (.inr q)
    have h2b : (t2 == 0) = false := by simp [h2]
    rw [decide_eq_false h1, h2b]
    obtain ⟨x, q1, e1, hx1, hx2⟩ := ptrs_ok t0 (by omega) 1 (by omega)
    obtain ⟨p, rfl⟩ : ∃ p, x = [p] := by
      match x, hx1 with
      | [p], _ => exact ⟨p, rfl⟩
    have hp : okPtr p = true := by simpa using hx2
    have e1' : ((1 : Nat) : Int) = 1 := rfl
    rw [e1'] at e1
    have hs : putPs [p] = bytesP p := by rw [putPs_ok hx2]; simp
    have hl : (bytesP p).length = 22 := bytesP_length p
    have hne : ((((bytesP p).length : Nat) : Int) != 22) = false := by rw [hl]; rfl
    have hk : t1.toNat % 22 < (bytesP p).length := by rw [hl]; exact Nat.mod_lt _ (by decide)
    simp only [Bool.or_self, cond_false, M_made_Made, bind_some', e1, put_eq [p] (by simp), hs, hne]
    rw [hl, remI_nat (by decide), bind_some', getI_lt hk, bind_some', bind_some', setI_nat hk, bind_some', take_eq _ _ (by decide), bind_some']
    generalize hb : (bytesP p).set (t1.toNat % 22) ((bytesP p)[t1.toNat % 22] ^^^ t2) = b'
    have hbl : b'.length = 22 := by rw [← hb]; simp [hl]
    have hbne : b' ≠ bytesP p := by rw [← hb]; exact set_ne hk (xor_ne h2)
    have ht : takePs (Int.toNat 1) b' = if okPtr (ptrOf b') = true then some ([ptrOf b'], []) else none := by
      show takePs (0 + 1) b' = _
      rw [takePs, if_neg (by omega), List.drop_eq_nil_of_le (by omega)]
      rfl
    rw [ht]
    cases hok : okPtr (ptrOf b') with
    | false =>
      simp only [Bool.false_eq_true, if_false, tans, Bool.not_false, show ((true : Bool) == false) = false from rfl, Bool.false_and, gd_false, bind_some', Bool.true_or]
    | true =>
      have hpn : ptrOf b' ≠ p := fun e => hbne (by rw [← e, bytes_ptrOf b' hbl])
      have hput : putPs [ptrOf b'] = b' := by rw [putPs_ok (by simp [hok])]; simp [bytes_ptrOf b' hbl]
      have hd : decide (ptrOf b' = p) = false := decide_eq_false hpn
      simp only [if_true, tans, Bool.not_true, show ((false : Bool) == false) = true from rfl, List.length_cons, List.length_nil, show (((0 + 1 : Nat) : Int) == 1) = true from rfl, show ((([] : Str)) == []) = true from rfl, Bool.true_and, show ((true : Bool) == true) = true from rfl, gd_true, getI_zero, bind_some', hd, Bool.not_false, may_eq, hok, put_eq [ptrOf b'] (by simp), hput, beq_self_eq_true, Bool.or_true]
theorem law_PtrFits (t0 : Str) (t1 t2 : UInt16) (t3 t4 : UInt8) : M_law4_PtrFits t0 t1 t2 t3 t4 = some true := by
  unfold M_law4_PtrFits
  rw [begun4, bind_some', Bool.not_true, cond_false]
  have e4 : (4 : Int) = ((4 : Nat) : Int) := rfl
  have hrem : remI (t0.length : Int) 4 = some ((t0.length % 4 : Nat) : Int) := remI_nat (b := 4) (by decide)
  rw [hrem, gd_some, bind_some']
  by_cases h : (t0.length : Int) > 60 ∨ (t0.length : Int) < 4 ∨ t0.length % 4 ≠ 0 ∨ t4 = 0
  · have : ((((decide ((t0.length : Int) > 60)) || (decide ((t0.length : Int) < 4))) || ((if ((decide ((t0.length : Int) > 60)) || (decide ((t0.length : Int) < 4))) == false then ((t0.length % 4 : Nat) : Int) else default) != 0)) || (t4 == 0)) = true := by
      by_cases a : (t0.length : Int) > 60
      · simp [a]
      · by_cases b : (t0.length : Int) < 4
        · simp [b]
        · rw [decide_eq_false a, decide_eq_false b]
          rcases h with h | h | h | h
          · exact absurd h a
          · exact absurd h b
          · have e : (((t0.length % 4 : Nat) : Int) != 0) = true := by
              rw [bne_iff_ne]; omega
            simp only [Bool.or_self, show ((false : Bool) == false) = true from rfl, if_true, e, Bool.false_or, Bool.true_or]
          · simp [h]
    rw [this, cond_true]
  · have a : ¬ (t0.length : Int) > 60 := fun q => h (.inl q)
    have b : ¬ (t0.length : Int) < 4 := fun q => h (.inr (.inl q))
    have c : t0.length % 4 = 0 := Decidable.byContradiction fun q => h (.inr (.inr (.inl q)))
    have d : ¬ t4 = 0 := fun q => h (.inr (.inr (.inr q)))
    have db : (t4 == 0) = false := by simp [d]
    have hk : t3.toNat % t0.length < t0.length := Nat.mod_lt _ (by omega)
    rw [decide_eq_false a, decide_eq_false b, db, c]
    simp only [Bool.or_self, show ((false : Bool) == false) = true from rfl, if_true, show (((0 : Nat) : Int) != 0) = false from rfl, cond_false, to_eq _ t0 _ (by omega), bind_some', beq_self_eq_true, Bool.and_self]
    rw [remI_nat (by omega), bind_some', getI_lt hk, bind_some', bind_some', setI_nat hk, bind_some', fits_eq _ _ (by omega), gd_true, bind_some', fits_eq _ _ (by simp; omega)]
    have hn1 : decide (sumOf t0 = sumOf (t0.set (t3.toNat % t0.length) (t0[t3.toNat % t0.length] ^^^ t4))) = false := decide_eq_false fun e => xor_ne d (sum_set hk e.symm).symm
    have hn2 : decide (sumOf t0 = sumOf (t0 ++ [t4, 0, 0, 0])) = false := decide_eq_false fun e => d (sum_word c e.symm)
    simp only [decide_true, show ((true && true) == true) = true from rfl, gd_true, bind_some', hn1, Bool.not_false, Bool.and_self, Bool.true_and, show ((true : Bool) == true) = true from rfl]
    rw [addS_eq (by simp; omega), bind_some', fits_eq _ _ (by simp; omega), bind_some']
    simp only [hn2, Bool.not_false, Bool.and_self, show ((true : Bool) == true) = true from rfl, gd_true, fits_eq _ t0 (by omega), bind_some', decide_true]
end Go.Proofs
