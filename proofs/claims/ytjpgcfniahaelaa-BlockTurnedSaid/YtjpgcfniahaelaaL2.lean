/-
  Numbers as bytes, at the forms that are used: what the program's pack and the document's come to.
-/
import Derived.Test.YtjpgcfniahaelaaR5M
import Derived.Test.YtjpgcfniahaelaaL0
import Derived.KernelRfl
set_option maxRecDepth 20000
namespace Go.Proofs
open Go Go.Fhl
set_option linter.unusedVariables false
set_option linter.unusedSimpArgs false
def beF : Nat → Int → Str
  | 0, _ => []
  | k + 1, v => UInt8.ofInt (v.fdiv (2 ^ (8 * k))) :: beF k v
theorem beF_eq (k : Nat) (v : Int) : beF k v = be k v := by
  induction k with
  | zero => rfl
  | succ k ih => rw [beF, be, ih, Int.fdiv_eq_ediv_of_nonneg _ (Int.le_of_lt (Int.pow_pos (by decide)))]
def pv (b : Str) : Int := b.foldl (fun n c => orI (w64 (n * 256)) (c.toNat : Int)) 0
def rv (b : Str) : Int := b.foldl (fun n c => w64 (w64 (n * 256) + (c.toNat : Int))) 0
theorem pv_go (b : Str) : ∀ (n : Int) (k : Nat), 0 ≤ n → n < 256 ^ k → k + b.length ≤ 6 → b.foldl (fun n c => orI (w64 (n * 256)) (c.toNat : Int)) n = valF n b := by
  induction b with
  | nil => intro n k _ _ _; rfl
  | cons c b ih =>
    intro n k h0 h1 h2
    have hc := c.toNat_lt
    rw [List.length_cons] at h2
    have hk : (256 : Int) ^ k ≤ 256 ^ 5 := by
      have : (256 : Int) ^ k = ((256 ^ k : Nat) : Int) := by rw [Int.natCast_pow]; rfl
      rw [this]
      have h3 : 256 ^ k ≤ 256 ^ 5 := Nat.pow_le_pow_right (by decide) (by omega)
      omega
    have e5 : (256 : Int) ^ 5 = 1099511627776 := by decide
    rw [List.foldl_cons, valF_cons, w64_id (by omega) (by omega), orI_low h0 (by omega)]
    exact ih _ (k + 1) (by omega) (by rw [Int.pow_succ]; omega) (by omega)
theorem pv_eq {b : Str} (h : b.length ≤ 4) : pv b = val b := pv_go b 0 0 (by omega) (by decide) (by omega)
theorem rv_go (b : Str) : ∀ (n : Int) (k : Nat), 0 ≤ n → n < 256 ^ k → k + b.length ≤ 6 → b.foldl (fun n c => w64 (w64 (n * 256) + (c.toNat : Int))) n = valF n b := by
  induction b with
  | nil => intro n k _ _ _; rfl
  | cons c b ih =>
    intro n k h0 h1 h2
    have hc := c.toNat_lt
    rw [List.length_cons] at h2
    have hk : (256 : Int) ^ k ≤ 256 ^ 5 := by
      have : (256 : Int) ^ k = ((256 ^ k : Nat) : Int) := by rw [Int.natCast_pow]; rfl
      rw [this]
      have h3 : 256 ^ k ≤ 256 ^ 5 := Nat.pow_le_pow_right (by decide) (by omega)
      omega
    have e5 : (256 : Int) ^ 5 = 1099511627776 := by decide
    rw [List.foldl_cons, valF_cons, w64_id (n := n * 256) (by omega) (by omega), w64_id (by omega) (by omega)]
    exact ih _ (k + 1) (by omega) (by rw [Int.pow_succ]; omega) (by omega)
theorem rv_eq {b : Str} (h : b.length ≤ 4) : rv b = val b := rv_go b 0 0 (by omega) (by decide) (by omega)
theorem uncons {α : Type} {s : List α} {n : Nat} (h : n + 1 ≤ s.length) : ∃ b t, s = b :: t ∧ n ≤ t.length := by
  cases s with
  | nil => simp at h
  | cons b t => exact ⟨b, t, rfl, by simpa using h⟩
/-- Numbers out of bytes. -/
def vals : List Nat → Str → List Int
  | [], _ => []
  | k :: ks, s => val (s.take k) :: vals ks (s.drop k)
theorem vals_length (ks : List Nat) : ∀ s, (vals ks s).length = ks.length := by
  induction ks with
  | nil => intro s; rfl
  | cons k ks ih => intro s; simp [vals, ih]
def total : List Nat → Nat
  | [] => 0
  | k :: ks => k + total ks
def okk (k : Nat) : Bool := k == 1 || k == 2 || k == 4
theorem p_l2_1 (c : Str → Int → List Int → Option (List Int × Str × Bool)) (x1 : List Int × Int × Bool) (v3 : Str) (v4 : Int) (v5 : List Int) (x7 : Int) (a : UInt8) :
    M_pack_Take_l2 c x1 v3 v4 v5 x7 [a] fuel 0 0 = Option.bind (appL 8 v5 [pv [a]]) fun x14 => Option.bind (slL v3 x7 (v3.length : Int)) fun x15 => c x15 (w64 (v4 + 1)) x14 := by kernel_rfl
theorem p_l2_2 (c : Str → Int → List Int → Option (List Int × Str × Bool)) (x1 : List Int × Int × Bool) (v3 : Str) (v4 : Int) (v5 : List Int) (x7 : Int) (a b : UInt8) :
    M_pack_Take_l2 c x1 v3 v4 v5 x7 [a, b] fuel 0 0 = Option.bind (appL 8 v5 [pv [a, b]]) fun x14 => Option.bind (slL v3 x7 (v3.length : Int)) fun x15 => c x15 (w64 (v4 + 1)) x14 := by kernel_rfl
theorem p_l2_4 (c : Str → Int → List Int → Option (List Int × Str × Bool)) (x1 : List Int × Int × Bool) (v3 : Str) (v4 : Int) (v5 : List Int) (x7 : Int) (a b d e : UInt8) :
    M_pack_Take_l2 c x1 v3 v4 v5 x7 [a, b, d, e] fuel 0 0 = Option.bind (appL 8 v5 [pv [a, b, d, e]]) fun x14 => Option.bind (slL v3 x7 (v3.length : Int)) fun x15 => c x15 (w64 (v4 + 1)) x14 := by kernel_rfl
theorem p_l2 (c : Str → Int → List Int → Option (List Int × Str × Bool)) (x1 : List Int × Int × Bool) (v3 : Str) (v4 : Int) (v5 : List Int) (x7 : Int) (p : Str) (k : Nat) (hk : okk k = true) (hp : p.length = k) :
    M_pack_Take_l2 c x1 v3 v4 v5 x7 p fuel 0 0 = Option.bind (appL 8 v5 [val p]) fun x14 => Option.bind (slL v3 x7 (v3.length : Int)) fun x15 => c x15 (w64 (v4 + 1)) x14 := by
  have hk2 : k = 1 ∨ k = 2 ∨ k = 4 := by simpa [okk, or_assoc] using hk
  rw [← pv_eq (b := p) (by omega)]
  rcases p with _ | ⟨a, _ | ⟨b, _ | ⟨d, _ | ⟨e, _ | ⟨f, r⟩⟩⟩⟩⟩ <;> simp only [List.length_cons, List.length_nil] at hp
  · omega
  · exact p_l2_1 ..
  · exact p_l2_2 ..
  · omega
  · exact p_l2_4 ..
  · omega
theorem p_l1 (x1 : List Int × Int × Bool) (hx : x1.1.length < 1000) : ∀ (ks : List Nat) (j n : Nat) (v3 : Str) (v5 : List Int), x1.1.drop j = ks.map (fun k : Nat => (k : Int)) → ks.all okk = true → total ks ≤ v3.length → v5.length + ks.length < 1000 → ks.length < n →
    M_pack_Take_l1 x1 n v3 (j : Int) v5 = some (v5 ++ vals ks v3, v3.drop (total ks), true) := by
  intro ks
  induction ks with
  | nil =>
    intro j n v3 v5 h1 h2 h3 h4 hn
    obtain ⟨n, rfl⟩ : ∃ x, n = x + 1 := ⟨n - 1, by omega⟩
    have hj : x1.1.length ≤ j := by simpa using h1
    rw [M_pack_Take_l1, decide_eq_false (by omega), cond_false]
    simp [vals, total]
  | cons k ks ih =>
    intro j n v3 v5 h1 h2 h3 h4 hn
    obtain ⟨n, rfl⟩ : ∃ x, n = x + 1 := ⟨n - 1, by omega⟩
    simp only [List.all_cons, Bool.and_eq_true] at h2
    simp only [total] at h3
    simp only [List.length_cons] at h4 hn
    have hj : j < x1.1.length := by
      have := congrArg List.length h1
      simp at this; omega
    have hget : x1.1[j]? = some (k : Int) := by
      have := congrArg (fun l => l[0]?) h1
      simpa using this
    rw [M_pack_Take_l1, decide_eq_true (by omega), cond_true, getI_nat, hget, bind_some', slL_to (by omega), bind_some', p_l2 _ _ _ _ _ _ _ k h2.1 (by simp; omega), appL_eq (by simp; omega), bind_some', slL_from (by omega), bind_some', w64_succ (by omega)]
    rw [ih (j + 1) n (v3.drop k) _ (by rw [← List.drop_drop, h1]; rfl) h2.2 (by simp; omega) (by simp; omega) (by omega)]
    simp [vals, total]
theorem ptake_eq (f : Str) (ks : List Nat) (hs : M_pack_sizes f = some (ks.map (fun k : Nat => (k : Int)), (total ks : Int), true)) (hk : ks.all okk = true) (hl : ks.length < 900) (s : Str) :
    M_pack_Take f s = some (if s.length < total ks then ([], [], false) else (vals ks s, s.drop (total ks), true)) := by
  unfold M_pack_Take
  rw [hs, bind_some']
  by_cases q : s.length < total ks
  · have : decide ((s.length : Int) < (total ks : Int)) = true := decide_eq_true (by omega)
    simp only [this, Bool.or_true, cond_true, q, if_true]
  · have : decide ((s.length : Int) < (total ks : Int)) = false := decide_eq_false (by omega)
    simp only [this, Bool.not_true, Bool.or_false, cond_false, q, if_false]
    have := p_l1 (ks.map (fun k : Nat => (k : Int)), (total ks : Int), true) (by simp; omega) ks 0 fuel s [] (by simp) hk (by omega) (by simp; omega) (by unfold fuel; omega)
    simpa using this
theorem r_l2_1 (c : Str → Int → List Int → Option (List Int × Str × Bool)) (t0 : Str) (v1 : Str) (v2 : Int) (v3 : List Int) (a : UInt8) (t : Str) :
    M_ref1_Take_l2 c t0 (a :: t) v2 v3 49 fuel 0 0 = Option.bind (appL 8 v3 [rv [a]]) fun x11 => Option.bind (slL (a :: t) 1 ((a :: t).length : Int)) fun x12 => c x12 (w64 (v2 + 1)) x11 := by kernel_rfl
theorem r_l2_2 (c : Str → Int → List Int → Option (List Int × Str × Bool)) (t0 : Str) (v1 : Str) (v2 : Int) (v3 : List Int) (a b : UInt8) (t : Str) :
    M_ref1_Take_l2 c t0 (a :: b :: t) v2 v3 50 fuel 0 0 = Option.bind (appL 8 v3 [rv [a, b]]) fun x11 => Option.bind (slL (a :: b :: t) 2 ((a :: b :: t).length : Int)) fun x12 => c x12 (w64 (v2 + 1)) x11 := by kernel_rfl
theorem r_l2_4 (c : Str → Int → List Int → Option (List Int × Str × Bool)) (t0 : Str) (v1 : Str) (v2 : Int) (v3 : List Int) (a b d e : UInt8) (t : Str) :
    M_ref1_Take_l2 c t0 (a :: b :: d :: e :: t) v2 v3 52 fuel 0 0 = Option.bind (appL 8 v3 [rv [a, b, d, e]]) fun x11 => Option.bind (slL (a :: b :: d :: e :: t) 4 ((a :: b :: d :: e :: t).length : Int)) fun x12 => c x12 (w64 (v2 + 1)) x11 := by kernel_rfl
theorem r_l2 (c : Str → Int → List Int → Option (List Int × Str × Bool)) (t0 : Str) (v1 : Str) (v2 : Int) (v3 : List Int) (x5 : UInt8) (k : Nat) (hx : x5 = UInt8.ofNat (k + 48)) (hk : okk k = true) (hp : k ≤ v1.length) :
    M_ref1_Take_l2 c t0 v1 v2 v3 x5 fuel 0 0 = Option.bind (appL 8 v3 [val (v1.take k)]) fun x11 => Option.bind (slL v1 (k : Int) (v1.length : Int)) fun x12 => c x12 (w64 (v2 + 1)) x11 := by
  have hk2 : k = 1 ∨ k = 2 ∨ k = 4 := by simpa [okk, or_assoc] using hk
  subst hx
  rw [← rv_eq (b := v1.take k) (by simp; omega)]
  rcases hk2 with rfl | rfl | rfl
  · obtain ⟨a, t, rfl, h1⟩ := uncons hp
    exact r_l2_1 c t0 (a :: t) v2 v3 a t
  · obtain ⟨a, t, rfl, h1⟩ := uncons hp
    obtain ⟨b, t2, rfl, h2⟩ := uncons h1
    exact r_l2_2 c t0 [] v2 v3 a b t2
  · obtain ⟨a, t, rfl, h1⟩ := uncons hp
    obtain ⟨b, t2, rfl, h2⟩ := uncons h1
    obtain ⟨d, t3, rfl, h3⟩ := uncons h2
    obtain ⟨e, t4, rfl, h4⟩ := uncons h3
    exact r_l2_4 c t0 [] v2 v3 a b d e t4
theorem r_l1 (f : Str) (hf : f.length < 900) : ∀ (ks : List Nat) (j n : Nat) (v1 : Str) (v3 : List Int), f.drop j = ks.map (fun k => UInt8.ofNat (k + 48)) → ks.all okk = true → v3.length + ks.length < 1000 → ks.length < n →
    M_ref1_Take_l1 f n v1 (j : Int) v3 = some (if v1.length < total ks then ([], [], false) else (v3 ++ vals ks v1, v1.drop (total ks), true)) := by
  intro ks
  induction ks with
  | nil =>
    intro j n v1 v3 h1 h2 h4 hn
    obtain ⟨n, rfl⟩ : ∃ x, n = x + 1 := ⟨n - 1, by omega⟩
    have hj : f.length ≤ j := by simpa using h1
    rw [M_ref1_Take_l1, decide_eq_false (by omega), cond_false]
    simp [vals, total]
  | cons k ks ih =>
    intro j n v1 v3 h1 h2 h4 hn
    obtain ⟨n, rfl⟩ : ∃ x, n = x + 1 := ⟨n - 1, by omega⟩
    simp only [List.all_cons, Bool.and_eq_true] at h2
    simp only [List.length_cons] at h4 hn
    have hj : j < f.length := by
      have := congrArg List.length h1
      simp at this; omega
    have hget : f[j]? = some (UInt8.ofNat (k + 48)) := by
      have := congrArg (fun l => l[0]?) h1
      simpa using this
    have hk2 : k = 1 ∨ k = 2 ∨ k = 4 := by simpa [okk, or_assoc] using h2.1
    have hkn : (UInt8.ofNat (k + 48)).toNat = k + 48 := by rw [UInt8.toNat_ofNat']; omega
    have hw : w64 (((UInt8.ofNat (k + 48)).toNat : Int) - 48) = (k : Int) := by rw [hkn, w64_id (by omega) (by omega)]; omega
    rw [M_ref1_Take_l1, decide_eq_true (by omega), cond_true, getI_nat, hget, bind_some', hw, decide_eq_false (by omega), decide_eq_false (by omega)]
    simp only [Bool.false_or]
    by_cases q : v1.length < k
    · rw [decide_eq_true (by omega), cond_true, show total (k :: ks) = k + total ks from rfl, if_pos (by omega)]
    · rw [decide_eq_false (by omega), cond_false, r_l2 _ _ _ _ _ _ k rfl h2.1 (by omega), appL_eq (by simp; omega), bind_some', slL_from (by omega), bind_some', w64_succ (by omega)]
      rw [ih (j + 1) n (v1.drop k) _ (by rw [← List.drop_drop, h1]; rfl) h2.2 (by simp; omega) (by omega)]
      rw [show total (k :: ks) = k + total ks from rfl]
      simp only [vals, List.length_drop, List.drop_drop, List.append_assoc, List.singleton_append]
      by_cases q2 : v1.length < k + total ks
      · rw [if_pos q2, if_pos (by omega)]
      · rw [if_neg q2, if_neg (by omega)]
theorem rtake_eq (f : Str) (ks : List Nat) (hf : f = ks.map (fun k => UInt8.ofNat (k + 48))) (hk : ks.all okk = true) (hl : ks.length < 900) (hl2 : f.length < 900) (s : Str) :
    M_ref1_Take f s = some (if s.length < total ks then ([], [], false) else (vals ks s, s.drop (total ks), true)) := by
  unfold M_ref1_Take
  have := r_l1 f hl2 ks 0 fuel s [] (by simpa using hf) hk (by simp; omega) (by unfold fuel; omega)
  simpa using this

def form6 : Str := [50, 52, 52, 52, 52, 52]
def put6 (a0 a1 a2 a3 a4 a5 : Int) : Str := be 2 a0 ++ (be 4 a1 ++ (be 4 a2 ++ (be 4 a3 ++ (be 4 a4 ++ (be 4 a5)))))
theorem pput6 (a0 a1 a2 a3 a4 a5 : Int) : M_pack_Put ([50, 52, 52, 52, 52, 52] : Str) [a0, a1, a2, a3, a4, a5] = some (put6 a0 a1 a2 a3 a4 a5) := by
  have h : M_pack_Put ([50, 52, 52, 52, 52, 52] : Str) [a0, a1, a2, a3, a4, a5] = some (beF 2 a0 ++ (beF 4 a1 ++ (beF 4 a2 ++ (beF 4 a3 ++ (beF 4 a4 ++ (beF 4 a5)))))) := by kernel_rfl
  rw [h]; simp only [beF_eq]; rfl
theorem rput6 (a0 a1 a2 a3 a4 a5 : Int) : M_ref1_Put ([50, 52, 52, 52, 52, 52] : Str) [a0, a1, a2, a3, a4, a5] = some (put6 a0 a1 a2 a3 a4 a5) := by
  have h : M_ref1_Put ([50, 52, 52, 52, 52, 52] : Str) [a0, a1, a2, a3, a4, a5] = some (beF 2 a0 ++ (beF 4 a1 ++ (beF 4 a2 ++ (beF 4 a3 ++ (beF 4 a4 ++ (beF 4 a5)))))) := by kernel_rfl
  rw [h]; simp only [beF_eq]; rfl
theorem put6_length (a0 a1 a2 a3 a4 a5 : Int) : (put6 a0 a1 a2 a3 a4 a5).length = 22 := by unfold put6; simp only [List.length_append, be_length]
theorem ptake6 (s : Str) : M_pack_Take ([50, 52, 52, 52, 52, 52] : Str) s = some (if s.length < 22 then ([], [], false) else (vals [2, 4, 4, 4, 4, 4] s, s.drop 22, true)) := ptake_eq ([50, 52, 52, 52, 52, 52] : Str) [2, 4, 4, 4, 4, 4] (by kernel_rfl) (by decide) (by decide) s
theorem rtake6 (s : Str) : M_ref1_Take ([50, 52, 52, 52, 52, 52] : Str) s = some (if s.length < 22 then ([], [], false) else (vals [2, 4, 4, 4, 4, 4] s, s.drop 22, true)) := rtake_eq ([50, 52, 52, 52, 52, 52] : Str) [2, 4, 4, 4, 4, 4] (by decide) (by decide) (by decide) (by decide) s
def form3 : Str := [49, 52, 50]
def put3 (a0 a1 a2 : Int) : Str := be 1 a0 ++ (be 4 a1 ++ (be 2 a2))
theorem pput3 (a0 a1 a2 : Int) : M_pack_Put ([49, 52, 50] : Str) [a0, a1, a2] = some (put3 a0 a1 a2) := by
  have h : M_pack_Put ([49, 52, 50] : Str) [a0, a1, a2] = some (beF 1 a0 ++ (beF 4 a1 ++ (beF 2 a2))) := by kernel_rfl
  rw [h]; simp only [beF_eq]; rfl
theorem rput3 (a0 a1 a2 : Int) : M_ref1_Put ([49, 52, 50] : Str) [a0, a1, a2] = some (put3 a0 a1 a2) := by
  have h : M_ref1_Put ([49, 52, 50] : Str) [a0, a1, a2] = some (beF 1 a0 ++ (beF 4 a1 ++ (beF 2 a2))) := by kernel_rfl
  rw [h]; simp only [beF_eq]; rfl
theorem put3_length (a0 a1 a2 : Int) : (put3 a0 a1 a2).length = 7 := by unfold put3; simp only [List.length_append, be_length]
theorem ptake3 (s : Str) : M_pack_Take ([49, 52, 50] : Str) s = some (if s.length < 7 then ([], [], false) else (vals [1, 4, 2] s, s.drop 7, true)) := ptake_eq ([49, 52, 50] : Str) [1, 4, 2] (by kernel_rfl) (by decide) (by decide) s
theorem rtake3 (s : Str) : M_ref1_Take ([49, 52, 50] : Str) s = some (if s.length < 7 then ([], [], false) else (vals [1, 4, 2] s, s.drop 7, true)) := rtake_eq ([49, 52, 50] : Str) [1, 4, 2] (by decide) (by decide) (by decide) (by decide) s
def form4 : Str := [49, 52, 52, 49]
def put4 (a0 a1 a2 a3 : Int) : Str := be 1 a0 ++ (be 4 a1 ++ (be 4 a2 ++ (be 1 a3)))
theorem pput4 (a0 a1 a2 a3 : Int) : M_pack_Put ([49, 52, 52, 49] : Str) [a0, a1, a2, a3] = some (put4 a0 a1 a2 a3) := by
  have h : M_pack_Put ([49, 52, 52, 49] : Str) [a0, a1, a2, a3] = some (beF 1 a0 ++ (beF 4 a1 ++ (beF 4 a2 ++ (beF 1 a3)))) := by kernel_rfl
  rw [h]; simp only [beF_eq]; rfl
theorem rput4 (a0 a1 a2 a3 : Int) : M_ref1_Put ([49, 52, 52, 49] : Str) [a0, a1, a2, a3] = some (put4 a0 a1 a2 a3) := by
  have h : M_ref1_Put ([49, 52, 52, 49] : Str) [a0, a1, a2, a3] = some (beF 1 a0 ++ (beF 4 a1 ++ (beF 4 a2 ++ (beF 1 a3)))) := by kernel_rfl
  rw [h]; simp only [beF_eq]; rfl
theorem put4_length (a0 a1 a2 a3 : Int) : (put4 a0 a1 a2 a3).length = 10 := by unfold put4; simp only [List.length_append, be_length]
theorem ptake4 (s : Str) : M_pack_Take ([49, 52, 52, 49] : Str) s = some (if s.length < 10 then ([], [], false) else (vals [1, 4, 4, 1] s, s.drop 10, true)) := ptake_eq ([49, 52, 52, 49] : Str) [1, 4, 4, 1] (by kernel_rfl) (by decide) (by decide) s
theorem rtake4 (s : Str) : M_ref1_Take ([49, 52, 52, 49] : Str) s = some (if s.length < 10 then ([], [], false) else (vals [1, 4, 4, 1] s, s.drop 10, true)) := rtake_eq ([49, 52, 52, 49] : Str) [1, 4, 4, 1] (by decide) (by decide) (by decide) (by decide) s
def forms : Str := [52, 52, 52, 52]
def puts (a0 a1 a2 a3 : Int) : Str := be 4 a0 ++ (be 4 a1 ++ (be 4 a2 ++ (be 4 a3)))
theorem pputs (a0 a1 a2 a3 : Int) : M_pack_Put ([52, 52, 52, 52] : Str) [a0, a1, a2, a3] = some (puts a0 a1 a2 a3) := by
  have h : M_pack_Put ([52, 52, 52, 52] : Str) [a0, a1, a2, a3] = some (beF 4 a0 ++ (beF 4 a1 ++ (beF 4 a2 ++ (beF 4 a3)))) := by kernel_rfl
  rw [h]; simp only [beF_eq]; rfl
theorem rputs (a0 a1 a2 a3 : Int) : M_ref1_Put ([52, 52, 52, 52] : Str) [a0, a1, a2, a3] = some (puts a0 a1 a2 a3) := by
  have h : M_ref1_Put ([52, 52, 52, 52] : Str) [a0, a1, a2, a3] = some (beF 4 a0 ++ (beF 4 a1 ++ (beF 4 a2 ++ (beF 4 a3)))) := by kernel_rfl
  rw [h]; simp only [beF_eq]; rfl
theorem puts_length (a0 a1 a2 a3 : Int) : (puts a0 a1 a2 a3).length = 16 := by unfold puts; simp only [List.length_append, be_length]
theorem ptakes (s : Str) : M_pack_Take ([52, 52, 52, 52] : Str) s = some (if s.length < 16 then ([], [], false) else (vals [4, 4, 4, 4] s, s.drop 16, true)) := ptake_eq ([52, 52, 52, 52] : Str) [4, 4, 4, 4] (by kernel_rfl) (by decide) (by decide) s
theorem rtakes (s : Str) : M_ref1_Take ([52, 52, 52, 52] : Str) s = some (if s.length < 16 then ([], [], false) else (vals [4, 4, 4, 4] s, s.drop 16, true)) := rtake_eq ([52, 52, 52, 52] : Str) [4, 4, 4, 4] (by decide) (by decide) (by decide) (by decide) s
end Go.Proofs
