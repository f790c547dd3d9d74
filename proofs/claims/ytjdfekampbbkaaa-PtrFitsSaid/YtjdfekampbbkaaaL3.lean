/-
  Pointers: what the program's package ptr and the document's answer come to; numbers of made ones.
-/
import Derived.Test.YtjdfekampbbkaaaL1
import Derived.Test.YtjdfekampbbkaaaL2
set_option maxRecDepth 20000
namespace Go.Proofs
open Go Go.Fhl
set_option linter.unusedVariables false
set_option linter.unusedSimpArgs false

def zp : G_api_Ptr := ⟨0, 0, ⟨0, 0, 0, 0⟩⟩
def okPtr (p : G_api_Ptr) : Bool := cond (p.Addr == 0) (decide (p = zp)) ((((decide (p.Addr > 0)) && (decide (p.Addr ≤ 65535))) && (decide (p.Birth ≥ 0))) && (decide (p.Birth ≤ 1073741824)))
theorem may_eq (p : G_api_Ptr) : M_ptr_May p = some (okPtr p) := by
  unfold M_ptr_May okPtr
  cases p.Addr == 0 <;> rfl
theorem zp_eq : (⟨0, 0, ⟨0, 0, 0, 0⟩⟩ : G_api_Ptr) = zp := rfl
theorem rmay_eq (p : G_api_Ptr) : M_ref1_MayPtr p = some (okPtr p) := by
  unfold M_ref1_MayPtr okPtr M_ref1_num
  rw [gd_some, bind_some', zp_eq]
  congr 1
  by_cases h : p.Addr = 0
  · have e : (p.Addr == 0) = true := by simp [h]
    rw [e, cond_true]
    by_cases q : p = zp
    · subst q; rfl
    · have hn : decide (p = zp) = false := decide_eq_false q
      have h2 : decide (p.Addr > 0) = false := decide_eq_false (by omega)
      rw [hn, h2]; simp
  · have e : (p.Addr == 0) = false := by simp [h]
    have hz : decide (p = zp) = false := decide_eq_false (fun q => h (by rw [q]; rfl))
    rw [e, cond_false, hz]
    by_cases q : p.Addr > 0
    · by_cases q2 : p.Addr ≤ 65535
      · have q3 : p.Addr ≥ 0 := by omega
        simp [q, q2, q3]
      · simp [q2]
    · simp [q]
theorem okPtr_iff (p : G_api_Ptr) : okPtr p = true ↔ p = zp ∨ (0 < p.Addr ∧ p.Addr ≤ 65535 ∧ 0 ≤ p.Birth ∧ p.Birth ≤ 1073741824) := by
  unfold okPtr
  by_cases h : p.Addr = 0
  · have e : (p.Addr == 0) = true := by simp [h]
    rw [e, cond_true, decide_eq_true_eq]
    constructor
    · exact .inl
    · rintro (q | q)
      · exact q
      · omega
  · have e : (p.Addr == 0) = false := by simp [h]
    rw [e, cond_false]
    constructor
    · intro q; simp only [Bool.and_eq_true, decide_eq_true_eq] at q; exact .inr ⟨by omega, by omega, by omega, by omega⟩
    · rintro (q | q)
      · exact absurd (by rw [q]; rfl) h
      · simp only [Bool.and_eq_true, decide_eq_true_eq]; omega

/-! ## Put -/
def bytesP (p : G_api_Ptr) : Str := put6 p.Addr p.Birth (p.Sum.x0.toNat : Int) (p.Sum.x1.toNat : Int) (p.Sum.x2.toNat : Int) (p.Sum.x3.toNat : Int)
def putPs (l : List G_api_Ptr) : Str := if l.all okPtr = true then l.flatMap bytesP else []
theorem bytesP_length (p : G_api_Ptr) : (bytesP p).length = 22 := put6_length ..
theorem bytesPs_length (l : List G_api_Ptr) : (l.flatMap bytesP).length = l.length * 22 := by
  induction l with
  | nil => rfl
  | cons p l ih => rw [List.flatMap_cons, List.length_append, ih, bytesP_length, List.length_cons]; omega
theorem numbers_eq (p : G_api_Ptr) : M_ptr_pointer_numbers ⟨p⟩ = some [p.Addr, p.Birth, (p.Sum.x0.toNat : Int), (p.Sum.x1.toNat : Int), (p.Sum.x2.toNat : Int), (p.Sum.x3.toNat : Int)] := by kernel_rfl
theorem put_l1 (t0 : List G_api_Ptr) (hl : t0.length < 1000000) : ∀ (j : Nat), j ≤ t0.length → ∀ v1 : Str, v1.length ≤ 22 * j → M_ptr_Put_l1 t0 fuel v1 (j : Int) = some (if (t0.drop j).all okPtr = true then v1 ++ (t0.drop j).flatMap bytesP else []) := by
  refine up_fuel (Q := fun n j => ∀ v1 : Str, v1.length ≤ 22 * j → M_ptr_Put_l1 t0 n v1 (j : Int) = some (if (t0.drop j).all okPtr = true then v1 ++ (t0.drop j).flatMap bytesP else [])) t0.length (by omega) ?_ ?_
  · intro n v1 hv
    rw [M_ptr_Put_l1, decide_eq_false (by omega), cond_false]
    simp
  · intro n j hj ih v1 hv
    rw [M_ptr_Put_l1, decide_eq_true (by omega), cond_true, getI_lt hj, bind_some', may_eq, bind_some', List.drop_eq_getElem_cons hj, List.all_cons, List.flatMap_cons]
    cases hok : okPtr t0[j] with
    | false => rfl
    | true =>
      rw [Bool.not_true, cond_false, numbers_eq, bind_some', pput6, bind_some']
      have hb : (bytesP t0[j]).length = 22 := bytesP_length _
      change (Option.bind (addS v1 (bytesP t0[j])) fun x9 => M_ptr_Put_l1 t0 n x9 (w64 ((j : Int) + 1))) = _
      rw [addS_eq (by omega), bind_some', w64_succ (by omega), ih _ (by simp; omega), Bool.true_and, List.append_assoc]
theorem put_eq (l : List G_api_Ptr) (hl : l.length < 1000000) : M_ptr_Put l = some (putPs l) := by
  have := put_l1 l hl 0 (Nat.zero_le _) [] (by simp)
  simpa [M_ptr_Put, putPs] using this
theorem rput_l1 (t0 : List G_api_Ptr) (hl : t0.length < 1000000) : ∀ (j : Nat), j ≤ t0.length → ∀ v1 : Str, v1.length ≤ 22 * j → M_ref1_PutPtrs_l1 t0 fuel v1 (j : Int) = some (if (t0.drop j).all okPtr = true then v1 ++ (t0.drop j).flatMap bytesP else []) := by
  refine up_fuel (Q := fun n j => ∀ v1 : Str, v1.length ≤ 22 * j → M_ref1_PutPtrs_l1 t0 n v1 (j : Int) = some (if (t0.drop j).all okPtr = true then v1 ++ (t0.drop j).flatMap bytesP else [])) t0.length (by omega) ?_ ?_
  · intro n v1 hv
    rw [M_ref1_PutPtrs_l1, decide_eq_false (by omega), cond_false]
    simp
  · intro n j hj ih v1 hv
    rw [M_ref1_PutPtrs_l1, decide_eq_true (by omega), cond_true, getI_lt hj, bind_some', rmay_eq, bind_some', List.drop_eq_getElem_cons hj, List.all_cons, List.flatMap_cons]
    cases hok : okPtr t0[j] with
    | false => rfl
    | true =>
      rw [Bool.not_true, cond_false, bind_some', rput6, bind_some']
      have hb : (bytesP t0[j]).length = 22 := bytesP_length _
      change (Option.bind (addS v1 (bytesP t0[j])) fun x9 => M_ref1_PutPtrs_l1 t0 n x9 (w64 ((j : Int) + 1))) = _
      rw [addS_eq (by omega), bind_some', w64_succ (by omega), ih _ (by simp; omega), Bool.true_and, List.append_assoc]
theorem rput_eq (l : List G_api_Ptr) (hl : l.length < 1000000) : M_ref1_PutPtrs l = some (putPs l) := by
  have := rput_l1 l hl 0 (Nat.zero_le _) [] (by simp)
  simpa [M_ref1_PutPtrs, putPs] using this

/-! ## Take -/
def ptrOf (s : Str) : G_api_Ptr := ⟨val (s.take 2), val ((s.drop 2).take 4), ⟨UInt32.ofInt (val ((s.drop 6).take 4)), UInt32.ofInt (val ((s.drop 10).take 4)), UInt32.ofInt (val ((s.drop 14).take 4)), UInt32.ofInt (val ((s.drop 18).take 4))⟩⟩
theorem vals6 (s : Str) : vals [2, 4, 4, 4, 4, 4] s = [val (s.take 2), val ((s.drop 2).take 4), val ((s.drop 6).take 4), val ((s.drop 10).take 4), val ((s.drop 14).take 4), val ((s.drop 18).take 4)] := by
  simp [vals, List.drop_drop]
def takePs : Nat → Str → Option (List G_api_Ptr × Str)
  | 0, s => some ([], s)
  | k + 1, s => if s.length < 22 then none else if okPtr (ptrOf s) = true then (takePs k (s.drop 22)).map (fun r => (ptrOf s :: r.1, r.2)) else none
def tans (o : Option (List G_api_Ptr × Str)) : List G_api_Ptr × Str × Bool := match o with | none => ([], [], false) | some (l, r) => (l, r, true)
theorem of6 (a b c d e f : Int) : M_ptr_of [a, b, c, d, e, f] = some ⟨⟨a, b, ⟨UInt32.ofInt c, UInt32.ofInt d, UInt32.ofInt e, UInt32.ofInt f⟩⟩⟩ := by kernel_rfl
def preP (acc : List G_api_Ptr) (o : Option (List G_api_Ptr × Str)) : Option (List G_api_Ptr × Str) := o.map fun r => (acc ++ r.1, r.2)
theorem take_l1 (t1 : Int) (m : Nat) (hm : max t1 0 = (m : Int)) (hs : m < 1000000) : ∀ (k j n : Nat) (s : Str) (acc : List G_api_Ptr), j + k = m → acc.length ≤ j → k < n → M_ptr_Take_l1 t1 n s (j : Int) acc = some (tans (preP acc (takePs k s))) := by
  intro k
  induction k with
  | zero =>
    intro j n s acc h1 h2 hn
    obtain ⟨n, rfl⟩ : ∃ x, n = x + 1 := ⟨n - 1, by omega⟩
    rw [M_ptr_Take_l1, hm, decide_eq_false (by omega), cond_false]
    simp [takePs, preP, tans]
  | succ k ih =>
    intro j n s acc h1 h2 hn
    obtain ⟨n, rfl⟩ : ∃ x, n = x + 1 := ⟨n - 1, by omega⟩
    rw [M_ptr_Take_l1, hm, decide_eq_true (by omega), cond_true, ptake6, bind_some']
    by_cases q : s.length < 22
    · rw [if_pos q]
      simp only [Bool.not_false, gd_false, show ((true : Bool) == false) = false from rfl, bind_some', Bool.true_or, cond_true, takePs]
      rw [if_pos q]; rfl
    · rw [if_neg q]
      simp only [Bool.not_true, show ((false : Bool) == false) = true from rfl, gd_true, vals6, of6, bind_some', may_eq, Bool.false_or, takePs]
      rw [if_neg q]
      cases hok : okPtr (ptrOf s) with
      | false =>
        unfold ptrOf at hok
        rw [hok]; rfl
      | true =>
        have hok2 := hok
        unfold ptrOf at hok2
        rw [hok2, Bool.not_true, cond_false, appL_eq (by simp; omega), bind_some', w64_succ (by omega), ih (j + 1) n _ _ (by omega) (by simp; omega) (by omega), if_pos rfl]
        show _ = some (tans (preP acc _))
        cases takePs k (s.drop 22) with
        | none => rfl
        | some r => simp [preP, tans, ptrOf]
theorem take_eq (s : Str) (t1 : Int) (h : t1 < 1000000) : M_ptr_Take s t1 = some (tans (takePs t1.toNat s)) := by
  have := take_l1 t1 t1.toNat (by omega) (by omega) t1.toNat 0 fuel s [] (by omega) (by simp) (by unfold fuel; omega)
  unfold M_ptr_Take
  have e0 : ((0 : Nat) : Int) = 0 := rfl
  rw [e0] at this
  rw [this]
  congr 2
  cases takePs t1.toNat s <;> simp [preP]
theorem getI6 (a b c d e f : Int) : getI [a, b, c, d, e, f] 0 = some a ∧ getI [a, b, c, d, e, f] 1 = some b ∧ getI [a, b, c, d, e, f] 2 = some c ∧ getI [a, b, c, d, e, f] 3 = some d ∧ getI [a, b, c, d, e, f] 4 = some e ∧ getI [a, b, c, d, e, f] 5 = some f := ⟨rfl, rfl, rfl, rfl, rfl, rfl⟩
theorem rtake_l1 (t1 : Int) (m : Nat) (hm : max t1 0 = (m : Int)) (hs : m < 1000000) : ∀ (k j n : Nat) (s : Str) (acc : List G_api_Ptr), j + k = m → acc.length ≤ j → k < n → M_ref1_TakePtrs_l1 t1 n s (j : Int) acc = some (tans (preP acc (takePs k s))) := by
  intro k
  induction k with
  | zero =>
    intro j n s acc h1 h2 hn
    obtain ⟨n, rfl⟩ : ∃ x, n = x + 1 := ⟨n - 1, by omega⟩
    rw [M_ref1_TakePtrs_l1, decide_eq_false (by omega), cond_false]
    simp [takePs, preP, tans]
  | succ k ih =>
    intro j n s acc h1 h2 hn
    obtain ⟨n, rfl⟩ : ∃ x, n = x + 1 := ⟨n - 1, by omega⟩
    rw [M_ref1_TakePtrs_l1, decide_eq_true (by omega), cond_true, rtake6, bind_some']
    by_cases q : s.length < 22
    · rw [if_pos q]
      simp only [Bool.not_false, cond_true, takePs]
      rw [if_pos q]; rfl
    · rw [if_neg q]
      obtain ⟨g0, g1, g2, g3, g4, g5⟩ := getI6 (val (s.take 2)) (val ((s.drop 2).take 4)) (val ((s.drop 6).take 4)) (val ((s.drop 10).take 4)) (val ((s.drop 14).take 4)) (val ((s.drop 18).take 4))
      simp only [Bool.not_true, cond_false, vals6, g0, g1, g2, g3, g4, g5, bind_some', rmay_eq, takePs]
      rw [if_neg q]
      cases hok : okPtr (ptrOf s) with
      | false =>
        unfold ptrOf at hok
        rw [hok]; rfl
      | true =>
        have hok2 := hok
        unfold ptrOf at hok2
        rw [hok2, Bool.not_true, cond_false, appL_eq (by simp; omega), bind_some', w64_succ (by omega), ih (j + 1) n _ _ (by omega) (by simp; omega) (by omega), if_pos rfl]
        show _ = some (tans (preP acc _))
        cases takePs k (s.drop 22) with
        | none => rfl
        | some r => simp [preP, tans, ptrOf]
theorem rtakePs_eq (s : Str) (t1 : Int) (h : t1 < 1000000) : M_ref1_TakePtrs s t1 = some (tans (takePs t1.toNat s)) := by
  have := rtake_l1 t1 t1.toNat (by omega) (by omega) t1.toNat 0 fuel s [] (by omega) (by simp) (by unfold fuel; omega)
  unfold M_ref1_TakePtrs
  have e0 : ((0 : Nat) : Int) = 0 := rfl
  rw [e0] at this
  rw [this]
  congr 2
  cases takePs t1.toNat s <;> simp [preP]

/-! ## Alike -/
theorem same_l1 (a b : List G_api_Ptr) (hl : a.length = b.length) (hs : a.length < 1000000) : ∀ (j : Nat), j ≤ a.length → M_ref1_SamePtrs_l1 a b fuel (j : Int) = some (decide (a.drop j = b.drop j)) := by
  refine up_fuel (Q := fun n j => M_ref1_SamePtrs_l1 a b n (j : Int) = some (decide (a.drop j = b.drop j))) a.length (by omega) ?_ ?_
  · intro n
    rw [M_ref1_SamePtrs_l1, decide_eq_false (by omega), cond_false]
    simp [List.drop_eq_nil_of_le (Nat.le_of_eq hl.symm)]
  · intro n j hj ih
    have hj2 : j < b.length := by omega
    rw [M_ref1_SamePtrs_l1, decide_eq_true (by omega), cond_true, getI_lt hj, bind_some', getI_lt hj2, bind_some', List.drop_eq_getElem_cons hj, List.drop_eq_getElem_cons hj2, w64_succ (by omega), ih]
    by_cases q : a[j] = b[j]
    · simp only [List.cons.injEq, q, true_and, decide_true, Bool.not_true, cond_false]
    · simp only [List.cons.injEq, q, false_and, decide_false, Bool.not_false, cond_true]
theorem same_eq (a b : List G_api_Ptr) (hs : a.length < 1000000) : M_ref1_SamePtrs a b = some (decide (a = b)) := by
  unfold M_ref1_SamePtrs
  by_cases hl : a.length = b.length
  · have := same_l1 a b hl hs 0 (Nat.zero_le _)
    have e : ((a.length : Int) != (b.length : Int)) = false := by simp [hl]
    rw [e, cond_false]
    simpa using this
  · have e : ((a.length : Int) != (b.length : Int)) = true := by simp; omega
    rw [e, cond_true, decide_eq_false (fun q => hl (by rw [q]))]

/-! ## Made ones -/
def WfP (p : G_palimpmade_Picks) : Prop := 0 ≤ p.n ∧ p.n ≤ p.l.length ∧ p.l.length < 1000000
theorem num_ok (p : G_palimpmade_Picks) (h : WfP p) (m : Int) (hm : 1 ≤ m) : ∃ x q, M_made_Picks_Num p m = some (x, q) ∧ WfP q ∧ 0 ≤ x ∧ x < m ∧ q.l = p.l := by
  obtain ⟨h0, h1, h2⟩ := h
  unfold M_made_Picks_Num
  by_cases q : p.n ≥ (p.l.length : Int)
  · exact ⟨0, p, by simp [q], ⟨h0, h1, h2⟩, Int.le_refl _, by omega, rfl⟩
  · obtain ⟨n, hn⟩ : ∃ n : Nat, p.n = n := ⟨p.n.toNat, by omega⟩
    have hlt : n < p.l.length := by omega
    have e1 : w64 (p.n + 1) = ((n + 1 : Nat) : Int) := by rw [hn, w64_succ (by omega)]
    have e2 : w64 (((n + 1 : Nat) : Int) - 1) = (n : Int) := w64_pred (by omega)
    refine ⟨((p.l[n].toNat : Int).tmod m), ⟨p.l, ((n + 1 : Nat) : Int)⟩, ?_, ⟨by show (0 : Int) ≤ ((n + 1 : Nat) : Int); omega, by show ((n + 1 : Nat) : Int) ≤ (p.l.length : Int); omega, h2⟩, ?_, ?_, rfl⟩
    · rw [decide_eq_false q, decide_eq_false (by omega), e1, e2, getI_lt hlt]
      simp only [Bool.or_false, cond_false, bind_some']
      unfold remI
      rw [if_neg (by omega)]; rfl
    · exact Int.tmod_nonneg _ (by omega)
    · exact Int.tmod_lt_of_pos _ (by omega)
theorem shl24 (x : UInt32) : ∃ y, shl32 x 24 = some y := ⟨_, rfl⟩
theorem ptr_ok (p : G_palimpmade_Picks) (h : WfP p) : ∃ x q, M_made_Picks_Ptr p = some (x, q) ∧ WfP q ∧ okPtr x = true ∧ q.l = p.l := by
  unfold M_made_Picks_Ptr
  obtain ⟨x1, q1, e1, w1, a1, b1, l1⟩ := num_ok p h 4 (by omega)
  rw [e1, bind_some']
  by_cases q : x1 = 0
  · exact ⟨zp, q1, by simp [q, zp], w1, by decide, l1⟩
  · obtain ⟨x2, q2, e2, w2, a2, b2, l2⟩ := num_ok q1 w1 60 (by omega)
    obtain ⟨x3, q3, e3, w3, a3, b3, l3⟩ := num_ok q2 w2 90 (by omega)
    obtain ⟨x4, q4, e4, w4, a4, b4, l4⟩ := num_ok q3 w3 256 (by omega)
    obtain ⟨x5, q5, e5, w5, a5, b5, l5⟩ := num_ok q4 w4 256 (by omega)
    obtain ⟨x6, q6, e6, w6, a6, b6, l6⟩ := num_ok q5 w5 9 (by omega)
    obtain ⟨y, hy⟩ := shl24 (UInt32.ofInt x4)
    refine ⟨⟨w64 (14 + x2), w64 (1 + x3), ⟨y, UInt32.ofInt x5, 5, UInt32.ofInt x6⟩⟩, q6, ?_, w6, ?_, by rw [l6, l5, l4, l3, l2, l1]⟩
    · have : (x1 == 0) = false := by simp [q]
      simp only [this, cond_false, e2, e3, e4, e5, e6, hy, bind_some']
    · rw [okPtr_iff, w64_id (by omega) (by omega), w64_id (by omega) (by omega)]
      right; simp only; omega
theorem ptrs_l1 (t1 : Nat) (hm : t1 < 1000000) : ∀ (k j n : Nat) (p : G_palimpmade_Picks) (acc : List G_api_Ptr), j + k = t1 → WfP p → acc.length = j → acc.all okPtr = true → k < n → ∃ l q, M_made_Picks_Ptrs_l1 (t1 : Int) n (j : Int) p acc = some (l, q) ∧ l.length = t1 ∧ l.all okPtr = true ∧ WfP q := by
  intro k
  induction k with
  | zero =>
    intro j n p acc h1 hw h2 h3 hn
    obtain ⟨n, rfl⟩ : ∃ x, n = x + 1 := ⟨n - 1, by omega⟩
    refine ⟨acc, p, ?_, by omega, h3, hw⟩
    rw [M_made_Picks_Ptrs_l1, decide_eq_false (by omega), cond_false]
  | succ k ih =>
    intro j n p acc h1 hw h2 h3 hn
    obtain ⟨n, rfl⟩ : ∃ x, n = x + 1 := ⟨n - 1, by omega⟩
    obtain ⟨x, q, e, w, o, _⟩ := ptr_ok p hw
    rw [M_made_Picks_Ptrs_l1, decide_eq_true (by omega), cond_true, e, bind_some', appL_eq (by simp; omega), bind_some', w64_succ (by omega)]
    exact ih (j + 1) n q _ (by omega) w (by simp; omega) (by simp [h3, o]) (by omega)
theorem ptrs_ok (l : List UInt8) (hl : l.length < 1000000) (k : Nat) (hk : k < 1000000) : ∃ r q, M_made_Picks_Ptrs ⟨l, 0⟩ (k : Int) = some (r, q) ∧ r.length = k ∧ r.all okPtr = true := by
  obtain ⟨r, q, e, h1, h2, _⟩ := ptrs_l1 k hk k 0 fuel ⟨l, 0⟩ [] (by omega) ⟨Int.le_refl _, by simp, hl⟩ rfl rfl (by unfold fuel; omega)
  exact ⟨r, q, e, h1, h2⟩
end Go.Proofs
