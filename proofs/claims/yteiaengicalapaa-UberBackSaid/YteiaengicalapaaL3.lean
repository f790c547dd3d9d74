/-
  Pointers: what the program's package ptr and the document's answer come to; numbers of made ones.
-/
import Derived.Test.YteiaengicalapaaL1
import Derived.Test.YteiaengicalapaaL2
set_option maxRecDepth 20000
namespace Go.Proofs
open Go Go.Fhl
set_option linter.unusedVariables false
set_option linter.unusedSimpArgs false

def zp : G_api_Ptr := ⟨0, 0, ⟨0, 0, 0, 0⟩⟩
def okPtr (p : G_api_Ptr) : Bool := cond (p.Addr == 0) (decide (p = zp)) ((((decide (p.Addr > 0)) && (decide (p.Addr ≤ 65535))) && (decide (p.Birth ≥ 0))) && (decide (p.Birth ≤ 1073741824)))
theorem may_eq (p : G_api_Ptr) : M_ptr_May p = some (okPtr p) := by
  unfold M_ptr_May okPtr
  cases p.Addr == 0 <;> rfl
theorem zp_eq : (⟨0, 0, ⟨0, 0, 0, 0⟩⟩ : G_api_Ptr) = zp := rfl
theorem rmay_eq (p : G_api_Ptr) : M_ref1_MayPtr p = some (okPtr p) := by
  unfold M_ref1_MayPtr okPtr M_ref1_num
  rw [gd_some, bind_some', zp_eq]
  congr 1
  by_cases h : p.Addr = 0
  · have e : (p.Addr == 0) = true := by simp [h]
    rw [e, cond_true]
    by_cases q : p = zp
    · subst q; rfl
    · have hn : decide (p = zp) = false := decide_eq_false q
      have h2 : decide (p.Addr > 0) = false := decide_eq_false (by omega)
      rw [hn, h2]; simp
  · have e : (p.Addr == 0) = false := by simp [h]
    have hz : decide (p = zp) = false := decide_eq_false (fun q => h (by rw [q]; rfl))
    rw [e, cond_false, hz]
    by_cases q : p.Addr > 0
    · by_cases q2 : p.Addr ≤ 65535
      · have q3 : p.Addr ≥ 0 := by omega
        simp [q, q2, q3]
      · simp [q2]
    · simp [q]
theorem okPtr_iff (p : G_api_Ptr) : okPtr p = true ↔ p = zp ∨ (0 < p.Addr ∧ p.Addr ≤ 65535 ∧ 0 ≤ p.Birth ∧ p.Birth ≤ 1073741824) := by
  unfold okPtr
  by_cases h : p.Addr = 0
  · have e : (p.Addr == 0) = true := by simp [h]
    rw [e, cond_true, decide_eq_true_eq]
    constructor
    · exact .inl
    · rintro (q | q)
      · exact q
      · omega
  · have e : (p.Addr == 0) = false := by simp [h]
    rw [e, cond_false]
    constructor
    · intro q; simp only [Bool.and_eq_true, decide_eq_true_eq] at q; exact .inr ⟨by omega, by omega, by omega, by omega⟩
    · rintro (q | q)
      · exact absurd (by rw [q]; rfl) h
      · simp only [Bool.and_eq_true, decide_eq_true_eq]; omega

/-! ## Put -/
def bytesP (p : G_api_Ptr) : Str := put6 p.Addr p.Birth (p.Sum.x0.toNat : Int) (p.Sum.x1.toNat : Int) (p.Sum.x2.toNat : Int) (p.Sum.x3.toNat : Int)
def putPs (l : List G_api_Ptr) : Str := if l.all okPtr = true then l.flatMap bytesP else []
theorem bytesP_length (p : G_api_Ptr) : (bytesP p).length = 22 := put6_length ..
theorem bytesPs_length (l : List G_api_Ptr) : (l.flatMap bytesP).length = l.length * 22 := by
  induction l with
  | nil => rfl
  | cons p l ih => rw [List.flatMap_cons, List.length_append, ih, bytesP_length, List.length_cons]; omega
theorem numbers_eq (p : G_api_Ptr) : M_ptr_pointer_numbers ⟨p⟩ = some [p.Addr, p.Birth, (p.Sum.x0.toNat : Int), (p.Sum.x1.toNat : Int), (p.Sum.x2.toNat : Int), (p.Sum.x3.toNat : Int)] := by kernel_rfl
theorem put_l1 (t0 : List G_api_Ptr) (hl : t0.length < 1000000) : ∀ (j : Nat), j ≤ t0.length → ∀ v1 : Str, v1.length ≤ 22 * j → M_ptr_Put_l1 t0 fuel v1 (j : Int) = some (if (t0.drop j).all okPtr = true then v1 ++ (t0.drop j).flatMap bytesP else []) := by
  refine up_fuel (Q := fun n j => ∀ v1 : Str, v1.length ≤ 22 * j → M_ptr_Put_l1 t0 n v1 (j : Int) = some (if (t0.drop j).all okPtr = true then v1 ++ (t0.drop j).flatMap bytesP else [])) t0.length (by omega) ?_ ?_
  · intro n v1 hv
    rw [M_ptr_Put_l1, decide_eq_false (by omega), cond_false]
    simp
  · intro n j hj ih v1 hv
    rw [M_ptr_Put_l1, decide_eq_true (by omega), cond_true, getI_lt hj, bind_some', may_eq, bind_some', List.drop_eq_getElem_cons hj, List.all_cons, List.flatMap_cons]
    cases hok : okPtr t0[j] with
    | false => rfl
    | true =>
      rw [Bool.not_true, cond_false, numbers_eq, bind_some', pput6, bind_some']
      have hb : (bytesP t0[j]).length = 22 := bytesP_length _
      change (Option.bind (addS v1 (bytesP t0[j])) fun x9 => M_ptr_Put_l1 t0 n x9 (w64 ((j : Int) + 1))) = _
      rw [addS_eq (by omega), bind_some', w64_succ (by omega), ih _ (by simp; omega), Bool.true_and, List.append_assoc]
theorem put_eq (l : List G_api_Ptr) (hl : l.length < 1000000) : M_ptr_Put l = some (putPs l) := by
  have := put_l1 l hl 0 (Nat.zero_le _) [] (by simp)
  simpa [M_ptr_Put, putPs] using this
theorem rput_l1 (t0 : List G_api_Ptr) (hl : t0.length < 1000000) : ∀ (j : Nat), j ≤ t0.length → ∀ v1 : Str, v1.length ≤ 22 * j → M_ref1_PutPtrs_l1 t0 fuel v1 (j : Int) = some (if (t0.drop j).all okPtr = true then v1 ++ (t0.drop j).flatMap bytesP else []) := by
  refine up_fuel (Q := fun n j => ∀ v1 : Str, v1.length ≤ 22 * j → M_ref1_PutPtrs_l1 t0 n v1 (j : Int) = some (if (t0.drop j).all okPtr = true then v1 ++ (t0.drop j).flatMap bytesP else [])) t0.length (by omega) ?_ ?_
  · intro n v1 hv
    rw [M_ref1_PutPtrs_l1, decide_eq_false (by omega), cond_false]
    simp
  · intro n j hj ih v1 hv
    rw [M_ref1_PutPtrs_l1, decide_eq_true (by omega), cond_true, getI_lt hj, bind_some', rmay_eq, bind_some', List.drop_eq_getElem_cons hj, List.all_cons, List.flatMap_cons]
    cases hok : okPtr t0[j] with
    | false => rfl
    | true =>
      rw [Bool.not_true, cond_false, bind_some', rput6, bind_some']
      have hb : (bytesP t0[j]).length = 22 := bytesP_length _
      change (Option.bind (addS v1 (bytesP t0[j])) fun x9 => M_ref1_PutPtrs_l1 t0 n x9 (w64 ((j : Int) + 1))) = _
      rw [addS_eq (by omega), bind_some', w64_succ (by omega), ih _ (by simp; omega), Bool.true_and, List.append_assoc]
theorem rput_eq (l : List G_api_Ptr) (hl : l.length < 1000000) : M_ref1_PutPtrs l = some (putPs l) := by
  have := rput_l1 l hl 0 (Nat.zero_le _) [] (by simp)
  simpa [M_ref1_PutPtrs, putPs] using this

/-! ## Take -/
def ptrOf (s : Str) : G_api_Ptr := ⟨val (s.take 2), val ((s.drop 2).take 4), ⟨UInt32.ofInt (val ((s.drop 6).take 4)), UInt32.ofInt (val ((s.drop 10).take 4)), UInt32.ofInt (val ((s.drop 14).take 4)), UInt32.ofInt (val ((s.drop 18).take 4))⟩⟩
theorem vals6 (s : Str) : vals [2, 4, 4, 4, 4, 4] s = [val (s.take 2), val ((s.drop 2).take 4), val ((s.drop 6).take 4), val ((s.drop 10).take 4), val ((s.drop 14).take 4), val ((s.drop 18).take 4)] := by
  simp [vals, List.drop_drop]
def takePs : Nat → Str → Option (List G_api_Ptr × Str)
  | 0, s => some ([], s)
  | k + 1, s => if s.length < 22 then none else if okPtr (ptrOf s) = true then (takePs k (s.drop 22)).map (fun r => (ptrOf s :: r.1, r.2)) else none
def tans (o : Option (List G_api_Ptr × Str)) : List G_api_Ptr × Str × Bool := match o with | none => ([], [], false) | some (l, r) => (l, r, true)
theorem of6 (a b c d e f : Int) : M_ptr_of [a, b, c, d, e, f] = some ⟨⟨a, b, ⟨UInt32.ofInt c, UInt32.ofInt d, UInt32.ofInt e, UInt32.ofInt f⟩⟩⟩ := by kernel_rfl
def preP (acc : List G_api_Ptr) (o : Option (List G_api_Ptr × Str)) : Option (List G_api_Ptr × Str) := o.map fun r => (acc ++ r.1, r.2)
theorem take_l1 (t1 : Int) (m : Nat) (hm : max t1 0 = (m : Int)) (hs : m < 1000000) : ∀ (k j n : Nat) (s : Str) (acc : List G_api_Ptr), j + k = m → acc.length ≤ j → k < n → M_ptr_Take_l1 t1 n s (j : Int) acc = some (tans (preP acc (takePs k s))) := by
  intro k
  induction k with
  | zero =>
    intro j n s acc h1 h2 hn
    obtain ⟨n, rfl⟩ : ∃ x, n = x + 1 := ⟨n - 1, by omega⟩
    rw [M_ptr_Take_l1, hm, decide_eq_false (by omega), cond_false]
    simp [takePs, preP, tans]
  | succ k ih =>
    intro j n s acc h1 h2 hn
    obtain ⟨n, rfl⟩ : ∃ x, n = x + 1 := ⟨n - 1, by omega⟩
    rw [M_ptr_Take_l1, hm, decide_eq_true (by omega), cond_true, ptake6, bind_some']
    by_cases q : s.length < 22
    · rw [if_pos q]
      simp only [Bool.not_false, gd_false, show ((true : Bool) == false) = false from rfl, bind_some', Bool.true_or, cond_true, takePs]
      rw [if_pos q]; rfl
    · rw [if_neg q]
      simp only [Bool.not_true, show ((false : Bool) == false) = true from rfl, gd_true, vals6, of6, bind_some', may_eq, Bool.false_or, takePs]
      rw [if_neg q]
      cases hok : okPtr (ptrOf s) with
      | false =>
        unfold ptrOf at hok
        rw [hok]; rfl
      | true =>
        have hok2 := hok
        unfold ptrOf at hok2
        rw [hok2, Bool.not_true, cond_false, appL_eq (by simp; omega), bind_some', w64_succ (by omega), ih (j + 1) n _ _ (by omega) (by simp; omega) (by omega), if_pos rfl]
        show _ = some (tans (preP acc _))
        cases takePs k (s.drop 22) with
        | none => rfl
        | some r => simp [preP, tans, ptrOf]
theorem take_eq (s : Str) (t1 : Int) (h : t1 < 1000000) : M_ptr_Take s t1 = some (tans (takePs t1.toNat s)) := by
  have := take_l1 t1 t1.toNat (by omega) (by omega) t1.toNat 0 fuel s [] (by omega) (by simp) (by unfold fuel; omega)
  unfold M_ptr_Take
  have e0 : ((0 : Nat) : Int) = 0 := rfl
  rw [e0] at this
  rw [this]
  congr 2
  cases takePs t1.toNat s <;> simp [preP]
theorem getI6 (a b c d e f : Int) : getI [a, b, c, d, e, f] 0 = some a ∧ getI [a, b, c, d, e, f] 1 = some b ∧ getI [a, b, c, d, e, f] 2 = some c ∧ getI [a, b, c, d, e, f] 3 = some d ∧ getI [a, b, c, d, e, f] 4 = some e ∧ getI [a, b, c, d, e, f] 5 = some f := ⟨rfl, rfl, rfl, rfl, rfl, rfl⟩
theorem rtake_l1 (t1 : Int) (m : Nat) (hm : max t1 0 = (m : Int)) (hs : m < 1000000) : ∀ (k j n : Nat) (s : Str) (acc : List G_api_Ptr), j + k = m → acc.length ≤ j → k < n → M_ref1_TakePtrs_l1 t1 n s (j : Int) acc = some (tans (preP acc (takePs k s))) := by
  intro k
  induction k with
  | zero =>
    intro j n s acc h1 h2 hn
    obtain ⟨n, rfl⟩ : ∃ x, n = x + 1 := ⟨n - 1, by omega⟩
    rw [M_ref1_TakePtrs_l1, decide_eq_false (by omega), cond_false]
    simp [takePs, preP, tans]
  | succ k ih =>
    intro j n s acc h1 h2 hn
    obtain ⟨n, rfl⟩ : ∃ x, n = x + 1 := ⟨n - 1, by omega⟩
    rw [M_ref1_TakePtrs_l1, decide_eq_true (by omega), cond_true, rtake6, bind_some']
    by_cases q : s.length < 22
    · rw [if_pos q]
      simp only [Bool.not_false, cond_true, takePs]
      rw [if_pos q]; rfl
    · rw [if_neg q]
      obtain ⟨g0, g1, g2, g3, g4, g5⟩ := getI6 (val (s.take 2)) (val ((s.drop 2).take 4)) (val ((s.drop 6).take 4)) (val ((s.drop 10).take 4)) (val ((s.drop 14).take 4)) (val ((s.drop 18).take 4))
      simp only [Bool.not_true, cond_false, vals6, g0, g1, g2, g3, g4, g5, bind_some', rmay_eq, takePs]
      rw [if_neg q]
      cases hok : okPtr (ptrOf s) with
      | false =>
        unfold ptrOf at hok
        rw [hok]; rfl
      | true =>
        have hok2 := hok
        unfold ptrOf at hok2
        rw [hok2, Bool.not_true, cond_false, appL_eq (by simp; omega), bind_some', w64_succ (by omega), ih (j + 1) n _ _ (by omega) (by simp; omega) (by omega), if_pos rfl]
        show _ = some (tans (preP acc _))
        cases takePs k (s.drop 22) with
        | none => rfl
        | some r => simp [preP, tans, ptrOf]
theorem rtakePs_eq (s : Str) (t1 : Int) (h : t1 < 1000000) : M_ref1_TakePtrs s t1 = some (tans (takePs t1.toNat s)) := by
  have := rtake_l1 t1 t1.toNat (by omega) (by omega) t1.toNat 0 fuel s [] (by omega) (by simp) (by unfold fuel; omega)
  unfold M_ref1_TakePtrs
  have e0 : ((0 : Nat) : Int) = 0 := rfl
  rw [e0] at this
  rw [this]
  congr 2
  cases takePs t1.toNat s <;> simp [preP]

theorem takePs_length : ∀ (k : Nat) (s : Str) (l : List G_api_Ptr) (r : Str), takePs k s = some (l, r) → l.length = k := by
  intro k
  induction k with
  | zero => intro s l r h; simp [takePs] at h; simp [h.1]
  | succ k ih =>
    intro s l r h
    rw [takePs] at h
    split at h
    · cases h
    · split at h
      · cases hq : takePs k (s.drop 22) with
        | none => rw [hq] at h; cases h
        | some x => rw [hq] at h; cases h; simp [ih _ _ _ hq]
      · cases h
theorem tans_length (k : Nat) (s : Str) : (tans (takePs k s)).1.length ≤ k := by
  cases h : takePs k s with
  | none => simp [tans]
  | some x => simp [tans, takePs_length k s x.1 x.2 h]
theorem putPs_length (l : List G_api_Ptr) : (putPs l).length ≤ l.length * 22 := by
  unfold putPs
  split
  · rw [bytesPs_length]; exact Nat.le_refl _
  · simp
/-! ## What is put is taken -/
theorem u32_ofInt (x : UInt32) : UInt32.ofInt (x.toNat : Int) = x := by
  have : UInt32.ofInt (x.toNat : Int) = UInt32.ofNat ((x.toNat : Int) % 4294967296).toNat := rfl
  rw [this]
  apply UInt32.toNat_inj.1
  have := x.toNat_lt
  rw [UInt32.toNat_ofNat']; omega
theorem u32_toNat_ofInt {v : Int} (h0 : 0 ≤ v) (h1 : v < 4294967296) : ((UInt32.ofInt v).toNat : Int) = v := by
  have : UInt32.ofInt v = UInt32.ofNat (v % 4294967296).toNat := rfl
  rw [this, UInt32.toNat_ofNat']; omega
theorem p256_2 : (256 : Int) ^ 2 = 65536 := by decide
theorem p256_4 : (256 : Int) ^ 4 = 4294967296 := by decide
theorem cut6 (a b c d e f : Str) (r : Str) (ha : a.length = 2) (hb : b.length = 4) (hc : c.length = 4) (hd : d.length = 4) (he : e.length = 4) (hf : f.length = 4) :
    let s := (a ++ (b ++ (c ++ (d ++ (e ++ f))))) ++ r
    s.take 2 = a ∧ (s.drop 2).take 4 = b ∧ (s.drop 6).take 4 = c ∧ (s.drop 10).take 4 = d ∧ (s.drop 14).take 4 = e ∧ (s.drop 18).take 4 = f ∧ s.drop 22 = r := by
  match a, ha with
  | [a0, a1], _ =>
  match b, hb with
  | [b0, b1, b2, b3], _ =>
  match c, hc with
  | [c0, c1, c2, c3], _ =>
  match d, hd with
  | [d0, d1, d2, d3], _ =>
  match e, he with
  | [e0, e1, e2, e3], _ =>
  match f, hf with
  | [f0, f1, f2, f3], _ => exact ⟨rfl, rfl, rfl, rfl, rfl, rfl, rfl⟩
theorem okPtr_range {p : G_api_Ptr} (h : okPtr p = true) : 0 ≤ p.Addr ∧ p.Addr < 65536 ∧ 0 ≤ p.Birth ∧ p.Birth < 4294967296 := by
  rcases (okPtr_iff p).1 h with rfl | h
  · decide
  · omega
theorem ptrOf_bytes (p : G_api_Ptr) (h : okPtr p = true) (r : Str) : ptrOf (bytesP p ++ r) = p ∧ (bytesP p ++ r).drop 22 = r := by
  obtain ⟨h1, h2, h3, h4⟩ := okPtr_range h
  have hx : ∀ x : UInt32, val (be 4 (x.toNat : Int)) = x.toNat := fun x => by
    have := x.toNat_lt
    exact val_be_id (by omega) (by rw [p256_4]; omega)
  obtain ⟨a1, a2, a3, a4, a5, a6, a7⟩ := cut6 (be 2 p.Addr) (be 4 p.Birth) (be 4 (p.Sum.x0.toNat : Int)) (be 4 (p.Sum.x1.toNat : Int)) (be 4 (p.Sum.x2.toNat : Int)) (be 4 (p.Sum.x3.toNat : Int)) r (be_length _ _) (be_length _ _) (be_length _ _) (be_length _ _) (be_length _ _) (be_length _ _)
  refine ⟨?_, a7⟩
  unfold ptrOf bytesP put6
  rw [a1, a2, a3, a4, a5, a6, val_be_id h1 (by rw [p256_2]; omega), val_be_id h3 (by rw [p256_4]; omega), hx, hx, hx, hx, u32_ofInt, u32_ofInt, u32_ofInt, u32_ofInt]
theorem take_put : ∀ (l : List G_api_Ptr) (r : Str), l.all okPtr = true → takePs l.length (l.flatMap bytesP ++ r) = some (l, r) := by
  intro l
  induction l with
  | nil => intro r _; rfl
  | cons p l ih =>
    intro r h
    simp only [List.all_cons, Bool.and_eq_true] at h
    have hb : (bytesP p).length = 22 := bytesP_length _
    obtain ⟨g1, g2⟩ := ptrOf_bytes p h.1 (l.flatMap bytesP ++ r)
    rw [List.flatMap_cons, List.append_assoc, List.length_cons, takePs, if_neg (by simp; omega), g1, if_pos h.1, g2, ih r h.2]
    rfl
theorem take_short : ∀ (k : Nat) (s : Str), s.length < 22 * k → takePs k s = none := by
  intro k
  induction k with
  | zero => intro s h; omega
  | succ k ih =>
    intro s h
    rw [takePs]
    split
    · rfl
    · split
      · rw [ih _ (by simp; omega)]; rfl
      · rfl
theorem putPs_ok {l : List G_api_Ptr} (h : l.all okPtr = true) : putPs l = l.flatMap bytesP := by unfold putPs; rw [if_pos h]
theorem putPs_inj {x y : List G_api_Ptr} (hx : x.all okPtr = true) (hy : y.all okPtr = true) (hl : x.length = y.length) (h : putPs x = putPs y) : x = y := by
  rw [putPs_ok hx, putPs_ok hy] at h
  have a := take_put x [] hx
  have b := take_put y [] hy
  rw [h, hl] at a
  rw [b] at a
  cases a; rfl
/-! ## One byte is turned -/
theorem bytes_ptrOf (s : Str) (h : s.length = 22) : bytesP (ptrOf s) = s := by
  match s, h with
  | [a0, a1, b0, b1, b2, b3, c0, c1, c2, c3, d0, d1, d2, d3, e0, e1, e2, e3, f0, f1, f2, f3], _ =>
    have hu : ∀ a b c d : UInt8, ((UInt32.ofInt (val [a, b, c, d])).toNat : Int) = val [a, b, c, d] := fun a b c d => by
      have h1 := val_nonneg [a, b, c, d]
      have h2 := val_lt [a, b, c, d]
      have : (256 : Int) ^ [a, b, c, d].length = 4294967296 := p256_4
      rw [this] at h2
      exact u32_toNat_ofInt h1 h2
    show be 2 (val [a0, a1]) ++ (be 4 (val [b0, b1, b2, b3]) ++ (be 4 ((UInt32.ofInt (val [c0, c1, c2, c3])).toNat : Int) ++ (be 4 ((UInt32.ofInt (val [d0, d1, d2, d3])).toNat : Int) ++ (be 4 ((UInt32.ofInt (val [e0, e1, e2, e3])).toNat : Int) ++ be 4 ((UInt32.ofInt (val [f0, f1, f2, f3])).toNat : Int))))) = _
    rw [hu, hu, hu, hu, be_val (k := 2) (b := [a0, a1]) rfl, be_val (k := 4) (b := [b0, b1, b2, b3]) rfl, be_val (k := 4) (b := [c0, c1, c2, c3]) rfl, be_val (k := 4) (b := [d0, d1, d2, d3]) rfl, be_val (k := 4) (b := [e0, e1, e2, e3]) rfl, be_val (k := 4) (b := [f0, f1, f2, f3]) rfl]
    rfl
theorem xor_ne {a b : UInt8} (h : b ≠ 0) : a ^^^ b ≠ a := by
  intro e
  apply h
  have : a ^^^ (a ^^^ b) = a ^^^ a := by rw [e]
  rwa [← UInt8.xor_assoc, UInt8.xor_self, UInt8.zero_xor] at this
theorem set_ne {l : Str} {k : Nat} {y : UInt8} (h : k < l.length) (hy : y ≠ l[k]) : l.set k y ≠ l := by
  intro e
  apply hy
  have : (l.set k y)[k]? = l[k]? := by rw [e]
  rw [List.getElem?_set_self h, List.getElem?_eq_getElem h] at this
  cases this; rfl
end Go.Proofs
