/-
  Devices: what the document's functions on them, and the program's read, come to.
-/
import Derived.Test.YtjpgcfniahaelaaLz
set_option maxRecDepth 20000
namespace Go.Proofs
open Go Go.Fhl
set_option linter.unusedVariables false
set_option linter.unusedSimpArgs false
/-! ## New -/
theorem new_l1 (m : Nat) (hm : m ≤ 268) : ∀ (j : Nat), j ≤ m → M_ref1_New_l1 (m : Int) fuel (j : Int) (List.replicate j (zeros 256)) = some ⟨List.replicate m (zeros 256), [], 0, 0, false⟩ := by
  refine up_fuel (Q := fun n j => M_ref1_New_l1 (m : Int) n (j : Int) (List.replicate j (zeros 256)) = some ⟨List.replicate m (zeros 256), [], 0, 0, false⟩) m (by omega) ?_ ?_
  · intro n
    rw [M_ref1_New_l1, decide_eq_false (by omega), Bool.false_and, cond_false]
  · intro n j hj ih
    have hn := noughts_eq (n := 256) (by omega)
    have hn : M_ref1_noughts 256 = some (zeros 256) := hn
    rw [M_ref1_New_l1, decide_eq_true (by omega), decide_eq_true (by omega), Bool.and_self, cond_true, hn, bind_some', appL_eq (by simp; omega), bind_some', w64_succ (by omega)]
    rw [List.replicate_succ'] at ih
    exact ih
theorem new_eq {m : Nat} (hm : m ≤ 268) : M_ref1_New (m : Int) = some ⟨List.replicate m (zeros 256), [], 0, 0, false⟩ := new_l1 m hm 0 (Nat.zero_le _)

/-! ## Read -/
theorem find_last_cons (p : G_api_Put) (l : List G_api_Put) (i : Int) (s : Str) :
    (match (p :: l).reverse.find? (fun q => q.At == i) with | some q => q.B | none => s) = (match l.reverse.find? (fun q => q.At == i) with | some q => q.B | none => if p.At == i then p.B else s) := by
  rw [List.reverse_cons, List.find?_append]
  cases l.reverse.find? (fun q => q.At == i) with
  | some q => rfl
  | none =>
    by_cases h : p.At = i
    · simp [h]
    · simp [h]
theorem rread_l1 (d : G_api_Dev) (i : Int) (hw : d.Wait.length ≤ 1000000) : ∀ (j : Nat), j ≤ d.Wait.length → ∀ s : Str, M_ref1_Read_l1 d i fuel s (j : Int) = some ((match (d.Wait.drop j).reverse.find? (fun q => q.At == i) with | some q => q.B | none => s), true) := by
  refine up_fuel (Q := fun n j => ∀ s : Str, M_ref1_Read_l1 d i n s (j : Int) = some ((match (d.Wait.drop j).reverse.find? (fun q => q.At == i) with | some q => q.B | none => s), true)) d.Wait.length (by omega) ?_ ?_
  · intro n s
    rw [M_ref1_Read_l1, decide_eq_false (by omega), cond_false, List.drop_length]
    rfl
  · intro n j hj ih s
    rw [M_ref1_Read_l1, decide_eq_true (by omega), cond_true, getI_lt hj, bind_some', List.drop_eq_getElem_cons hj, find_last_cons]
    unfold M_ref1_Read_k1
    rw [w64_succ (by omega), bind_some', ih, ih]
    cases h : (d.Wait[j].At == i) <;> rfl
theorem rread_eq (d : G_api_Dev) (i : Int) (hw : d.Wait.length ≤ 1000000) : M_ref1_Read d i = some (devRead d i) := by
  unfold M_ref1_Read devRead
  by_cases h : d.Down = true ∨ ¬(0 ≤ i ∧ i < d.Last.length)
  · rw [if_pos h]
    have : (d.Down || decide (i < 0) || decide (i ≥ (d.Last.length : Int))) = true := by
      simp only [Bool.or_eq_true, decide_eq_true_eq]
      rcases h with h | h
      · exact .inl (.inl h)
      · by_cases a : i < 0
        · exact .inl (.inr a)
        · exact .inr (by omega)
    rw [this, cond_true]
  · rw [if_neg h]
    have hd : d.Down = false := by cases e : d.Down; rfl; exact absurd (.inl e) h
    have hi : 0 ≤ i ∧ i < d.Last.length := Decidable.of_not_not fun q => h (.inr q)
    obtain ⟨k, rfl⟩ : ∃ k : Nat, i = k := ⟨i.toNat, by omega⟩
    have hk : k < d.Last.length := by omega
    have := rread_l1 d k hw 0 (Nat.zero_le _) d.Last[k]
    rw [hd, decide_eq_false (by omega), decide_eq_false (by omega), Bool.or_self, Bool.or_self, cond_false, getI_lt hk, bind_some']
    change M_ref1_Read_l1 d k fuel d.Last[k] 0 = _ at this
    rw [this, List.drop_zero, Int.toNat_natCast, List.getElem?_eq_getElem hk]
    cases d.Wait.reverse.find? (fun q => q.At == (k : Int)) <;> rfl
theorem dread_eq (d : G_api_Dev) (i : Int) (hw : d.Wait.length ≤ 1000000) : M_dev_Read d i = some (devRead d i) := by
  unfold M_dev_Read; rw [if_pos (by omega)]
/-- All sectors are whole ones. -/
structure DevOk (d : G_api_Dev) : Prop where
  last : ∀ s ∈ d.Last, s.length = 256
  wait : ∀ p ∈ d.Wait, p.B.length = 256
  ll : d.Last.length ≤ 1000
  wl : d.Wait.length ≤ 100000
theorem devRead_ok {d : G_api_Dev} (h : DevOk d) (i : Int) : devRead d i = ([], false) ∨ ((devRead d i).1.length = 256 ∧ (devRead d i).2 = true) := by
  unfold devRead
  split
  · exact .inl rfl
  · rename_i q
    right
    have hi : 0 ≤ i ∧ i < d.Last.length := Decidable.of_not_not fun q2 => q (.inr q2)
    split
    · rename_i p e
      exact ⟨h.wait p (by have := List.mem_of_find?_eq_some e; simpa using this), rfl⟩
    · have hk : i.toNat < d.Last.length := by omega
      rw [List.getElem?_eq_getElem hk]
      exact ⟨h.last _ (List.getElem_mem hk), rfl⟩
theorem devRead_len {d : G_api_Dev} (h : DevOk d) (i : Int) : (devRead d i).1.length ≤ 256 := by
  rcases devRead_ok h i with e | e
  · rw [e]; simp
  · omega

/-! ## Write -/
def okW (d : G_api_Dev) (p : G_api_Put) : Bool := decide (0 ≤ p.At ∧ p.At < d.Last.length ∧ p.B.length = 256)
def waits (d : G_api_Dev) (p : G_api_Put) : G_api_Dev := { d with Wait := d.Wait ++ [p] }
def wrU (d : G_api_Dev) : List G_api_Put → G_api_Dev × Bool
  | [] => (d, true)
  | p :: l => if okW d p = true then wrU (waits d p) l else (d, false)
theorem rwrite_l1 (t1 : List G_api_Put) (ht : t1.length ≤ 100000) : ∀ (j : Nat), j ≤ t1.length → ∀ d : G_api_Dev, d.Down = false → d.Arm = 0 → d.Wait.length ≤ 100000 + j → M_ref1_Write_l1 t1 fuel (j : Int) d = some (wrU d (t1.drop j)) := by
  refine up_fuel (Q := fun n j => ∀ d : G_api_Dev, d.Down = false → d.Arm = 0 → d.Wait.length ≤ 100000 + j → M_ref1_Write_l1 t1 n (j : Int) d = some (wrU d (t1.drop j))) t1.length (by omega) ?_ ?_
  · intro n d _ _ _
    rw [M_ref1_Write_l1, decide_eq_false (by omega), cond_false, List.drop_length]
    rfl
  · intro n j hj ih d h1 h2 h3
    rw [M_ref1_Write_l1, decide_eq_true (by omega), cond_true, List.drop_eq_getElem_cons hj, wrU]
    simp only [getI_lt hj, bind_some', gd_some]
    have ha : appL 24 ([] : List G_api_Put) d.Wait = some d.Wait := appL_eq (by simp; omega)
    have hb : appL 24 d.Wait [t1[j]] = some (d.Wait ++ [t1[j]]) := appL_eq (by simp; omega)
    unfold okW
    by_cases q : 0 ≤ t1[j].At ∧ t1[j].At < d.Last.length ∧ t1[j].B.length = 256
    · rw [decide_eq_false (show ¬ t1[j].At < 0 by omega)]
      simp only [show ((false : Bool) == false) = true from rfl, if_true, Bool.false_or]
      have e1 : decide (t1[j].At ≥ (d.Last.length : Int)) = false := decide_eq_false (by omega)
      rw [e1]
      simp only [show ((false : Bool) == false) = true from rfl, if_true, Bool.false_or]
      have e2 : ((t1[j].B.length : Int) != 256) = false := by rw [q.2.2]; rfl
      rw [e2, cond_false, ha, bind_some', hb, bind_some', h2, decide_eq_false (by omega), cond_false]
      unfold M_ref1_Write_k2 M_ref1_Write_k1
      rw [h1, cond_false, w64_succ (by omega), ih _ (by simp) (by simp) (by simp; omega), if_pos (decide_eq_true q)]
      unfold waits
      rw [h1, h2]
    · have hq : decide (0 ≤ t1[j].At ∧ t1[j].At < (d.Last.length : Int) ∧ t1[j].B.length = 256) = false := decide_eq_false q
      simp only [hq, Bool.false_eq_true, if_false]
      by_cases a : t1[j].At < 0
      · simp [a]
      · by_cases b : t1[j].At ≥ (d.Last.length : Int)
        · simp [a, b]
        · have : ((t1[j].B.length : Int) != 256) = true := by rw [bne_iff_ne]; intro e; exact q ⟨by omega, by omega, by omega⟩
          simp only [decide_eq_false a, decide_eq_false b, show ((false : Bool) == false) = true from rfl, if_true, Bool.false_or, this, cond_true]
theorem rwrite_eq {d : G_api_Dev} {l : List G_api_Put} (h1 : d.Down = false) (h2 : d.Arm = 0) (h3 : d.Wait.length ≤ 100000) (hl : l.length ≤ 100000) : M_ref1_Write d l = some (wrU d l) := by
  unfold M_ref1_Write
  rw [h1, cond_false]
  exact rwrite_l1 l hl 0 (Nat.zero_le _) d h1 h2 (by omega)
theorem wrU_ok {l : List G_api_Put} : ∀ {d : G_api_Dev}, DevOk d → d.Wait.length + l.length ≤ 100000 → DevOk (wrU d l).1 := by
  induction l with
  | nil => intro d h _; exact h
  | cons p l ih =>
    intro d h hl
    rw [wrU]
    split
    · rename_i q
      unfold okW at q
      simp only [decide_eq_true_eq] at q
      refine ih ⟨h.last, ?_, h.ll, ?_⟩ ?_
      · intro x hx
        unfold waits at hx
        rcases List.mem_append.1 hx with hx | hx
        · exact h.wait x hx
        · simp at hx; subst hx; exact q.2.2
      · unfold waits; simp; simp at hl; omega
      · unfold waits; simp; simp at hl; omega
    · exact h
theorem wrU_same {l : List G_api_Put} : ∀ (d : G_api_Dev), (wrU d l).1.Last = d.Last ∧ (wrU d l).1.Down = d.Down ∧ (wrU d l).1.Arm = d.Arm ∧ (wrU d l).1.Lies = d.Lies := by
  induction l with
  | nil => intro d; exact ⟨rfl, rfl, rfl, rfl⟩
  | cons p l ih =>
    intro d
    rw [wrU]
    split
    · exact ih (waits d p)
    · exact ⟨rfl, rfl, rfl, rfl⟩
theorem new_ok {m : Nat} (hm : m ≤ 268) : DevOk ⟨List.replicate m (zeros 256), [], 0, 0, false⟩ :=
  ⟨fun s hs => by rw [(List.mem_replicate.1 hs).2, zeros_length], fun p hp => by simp at hp, by simp; omega, by simp⟩

/-! ## Flush, Crash -/
def howN (how : List Int) (k : Nat) : Int := match how[k]? with | some h => andI h 3 | none => 0
def tornN (n : Int) (was b : Str) : Str := (if (andI n 1 == 1) = true then b.take 128 else was.take 128) ++ (if (andI n 2 == 2) = true then b.drop 128 else was.drop 128)
def last1 (n : Int) (out : List Str) (w : G_api_Put) : List Str :=
  match out[w.At.toNat]? with
  | none => out
  | some was => if 0 ≤ w.At ∧ w.B.length = 256 ∧ was.length = 256 then out.set w.At.toNat (tornN n was w.B) else out
def lastG (how : List Int) : Nat → List Str → List G_api_Put → List Str
  | _, out, [] => out
  | k, out, w :: l => lastG how (k + 1) (last1 (howN how k) out w) l
theorem last1_length (n : Int) (out : List Str) (w : G_api_Put) : (last1 n out w).length = out.length := by
  unfold last1
  split
  · rfl
  · split <;> simp
theorem slL_128 {x : Str} (h : x.length = 256) : slL x 0 128 = some (x.take 128) := slL_to (xs := x) (l := 128) (by omega)
theorem slL_128' {x : Str} (h : x.length = 256) : slL x 128 (x.length : Int) = some (x.drop 128) := slL_from (xs := x) (l := 128) (by omega)
theorem lasting_round (c : Int → List Str → Option (List Str)) (t0 : G_api_Dev) (t1 : List Int) (v2 : Int) (out : List Str) (w : G_api_Put) (n : Int) (h0 : 0 ≤ w.At) (hk : w.At.toNat < out.length) (hB : w.B.length = 256) (hO : out[w.At.toNat].length = 256) (r : Option (List Str))
    (h : c (w64 (v2 + 1)) (last1 n out w) = r) : M_ref1_lasting_k2 c t0 t1 v2 out w n = r := by
  have hA : w.At = ((w.At.toNat : Nat) : Int) := by omega
  have hl1 : last1 n out w = out.set w.At.toNat (tornN n out[w.At.toNat] w.B) := by
    unfold last1; rw [List.getElem?_eq_getElem hk]; simp only; rw [if_pos ⟨h0, hB, hO⟩]
  rw [hl1] at h
  have a1 : ((w.B).take 128).length = 128 := by simp; omega
  have a2 : ((out[w.At.toNat]).drop 128).length = 128 := by simp; omega
  have a3 : ((out[w.At.toNat]).take 128).length = 128 := by simp; omega
  have a4 : ((w.B).drop 128).length = 128 := by simp; omega
  have gI : getI out w.At = some out[w.At.toNat] := getI_pos h0 hk
  have sI : ∀ y, setI out w.At y = some (out.set w.At.toNat y) := fun y => setI_pos h0 hk
  unfold tornN at h
  unfold M_ref1_lasting_k2
  cases e1 : (andI n 1 == 1) with
  | true =>
    rw [e1, if_pos rfl] at h
    have t5 : (List.take 128 w.B ++ List.drop 128 out[w.At.toNat]).length = 256 := by rw [List.length_append]; omega
    simp only [cond_true, slL_128 hB, bind_some', gI, slL_128' hO, addS_eq (s := (w.B).take 128) (u := (out[w.At.toNat]).drop 128) (by omega), sI]
    unfold M_ref1_lasting_k3 M_ref1_lasting_k1
    cases e2 : (andI n 2 == 2) with
    | true =>
      rw [e2, if_pos rfl] at h
      have g2 : getI (out.set w.At.toNat (List.take 128 w.B ++ List.drop 128 out[w.At.toNat])) w.At = some (List.take 128 w.B ++ List.drop 128 out[w.At.toNat]) := by
        rw [getI_pos h0 (by simp; omega)]; simp
      have s2 : ∀ y, setI (out.set w.At.toNat (List.take 128 w.B ++ List.drop 128 out[w.At.toNat])) w.At y = some (out.set w.At.toNat y) := fun y => by
        rw [setI_pos h0 (by simp; omega)]; simp
      have t6 : List.take 128 (List.take 128 w.B ++ List.drop 128 out[w.At.toNat]) = List.take 128 w.B := by
        rw [List.take_append_of_le_length (by omega), List.take_of_length_le (by omega)]
      simp only [cond_true, g2, bind_some', slL_128 t5, slL_128' hB, t6, addS_eq (s := (w.B).take 128) (u := (w.B).drop 128) (by omega), s2]
      exact h
    | false =>
      rw [e2, if_neg (by decide)] at h
      rw [cond_false]; exact h
  | false =>
    rw [e1, if_neg (by decide)] at h
    rw [cond_false]
    unfold M_ref1_lasting_k3 M_ref1_lasting_k1
    cases e2 : (andI n 2 == 2) with
    | true =>
      rw [e2, if_pos rfl] at h
      simp only [cond_true, gI, bind_some', slL_128 hO, slL_128' hB, addS_eq (s := (out[w.At.toNat]).take 128) (u := (w.B).drop 128) (by omega), sI]
      exact h
    | false =>
      rw [e2, if_neg (by decide), List.take_append_drop, List.set_getElem_self] at h
      rw [cond_false]; exact h
theorem lasting_l1 (d : G_api_Dev) (how : List Int) (hw : d.Wait.length ≤ 1000000) : ∀ (j : Nat), j ≤ d.Wait.length → ∀ out : List Str, M_ref1_lasting_l1 d how fuel (j : Int) out = some (lastG how j out (d.Wait.drop j)) := by
  refine up_fuel (Q := fun n j => ∀ out : List Str, M_ref1_lasting_l1 d how n (j : Int) out = some (lastG how j out (d.Wait.drop j))) d.Wait.length (by omega) ?_ ?_
  · intro n out
    rw [M_ref1_lasting_l1, decide_eq_false (by omega), cond_false, List.drop_length]
    rfl
  · intro n j hj ih out
    rw [M_ref1_lasting_l1, decide_eq_true (by omega), cond_true, getI_lt hj, bind_some', List.drop_eq_getElem_cons hj, lastG]
    have hnext := ih (last1 (howN how j) out d.Wait[j])
    have hk1 : ∀ o, M_ref1_lasting_k1 (M_ref1_lasting_l1 d how n) d how (j : Int) o = M_ref1_lasting_l1 d how n ((j + 1 : Nat) : Int) o := fun o => by
      unfold M_ref1_lasting_k1; rw [w64_succ (by omega)]
    by_cases q : 0 ≤ d.Wait[j].At ∧ d.Wait[j].At < out.length ∧ d.Wait[j].B.length = 256
    · have hk : d.Wait[j].At.toNat < out.length := by omega
      have gI : getI out d.Wait[j].At = some out[d.Wait[j].At.toNat] := getI_pos q.1 hk
      have e1 : decide (d.Wait[j].At < 0) = false := decide_eq_false (by omega)
      have e2 : decide (d.Wait[j].At ≥ (out.length : Int)) = false := decide_eq_false (by omega)
      have e3 : ((d.Wait[j].B.length : Int) != 256) = false := by rw [q.2.2]; rfl
      rw [e1, e2, e3, gI]
      simp only [Bool.or_self, show ((false : Bool) == false) = true from rfl, gd_true, bind_some', Bool.false_or]
      by_cases q2 : out[d.Wait[j].At.toNat].length = 256
      · have e4 : ((out[d.Wait[j].At.toNat].length : Int) != 256) = false := by rw [q2]; rfl
        rw [e4, cond_false]
        have hh : howN how j = match how[j]? with | some h => andI h 3 | none => 0 := rfl
        by_cases q3 : j < how.length
        · rw [decide_eq_true (by omega), cond_true, getI_lt q3, bind_some']
          rw [List.getElem?_eq_getElem q3] at hh
          refine lasting_round _ _ _ _ _ _ _ q.1 hk q.2.2 q2 _ ?_
          have hh' : howN how j = andI how[j] 3 := hh
          rw [← hh', w64_succ (by omega)]
          exact hnext
        · rw [decide_eq_false (by omega), cond_false]
          rw [List.getElem?_eq_none (by omega)] at hh
          refine lasting_round _ _ _ _ _ _ _ q.1 hk q.2.2 q2 _ ?_
          have hh' : howN how j = 0 := hh
          rw [← hh', w64_succ (by omega)]
          exact hnext
      · have e4 : ((out[d.Wait[j].At.toNat].length : Int) != 256) = true := by rw [bne_iff_ne]; omega
        rw [e4, cond_true, hk1]
        have : last1 (howN how j) out d.Wait[j] = out := by
          unfold last1; rw [List.getElem?_eq_getElem hk]; simp only; rw [if_neg (fun q4 => q2 q4.2.2)]
        rw [this] at hnext ⊢
        exact hnext
    · have e : ((decide (d.Wait[j].At < 0) || decide (d.Wait[j].At ≥ (out.length : Int))) || ((d.Wait[j].B.length : Int) != 256)) = true := by
        by_cases a : d.Wait[j].At < 0
        · rw [decide_eq_true a]; rfl
        · by_cases b : d.Wait[j].At ≥ (out.length : Int)
          · rw [decide_eq_true b, Bool.or_true]; rfl
          · have : ((d.Wait[j].B.length : Int) != 256) = true := by rw [bne_iff_ne]; intro e; exact q ⟨by omega, by omega, by omega⟩
            rw [this, Bool.or_true]
      rw [e]
      simp only [show ((true : Bool) == false) = false from rfl, gd_false, bind_some', Bool.true_or, cond_true]
      rw [hk1]
      have : last1 (howN how j) out d.Wait[j] = out := by
        unfold last1
        split
        · rfl
        · rename_i was hwas
          have := List.getElem?_eq_some_iff.1 hwas
          rw [if_neg]
          rintro ⟨q4, q5, _⟩
          obtain ⟨hlt, _⟩ := this
          exact q ⟨q4, by omega, q5⟩
      rw [this] at hnext ⊢
      exact hnext
theorem lasting_eq (d : G_api_Dev) (how : List Int) (hw : d.Wait.length ≤ 1000000) (hl : d.Last.length ≤ 1000000) : M_ref1_lasting d how = some (lastG how 0 d.Last d.Wait) := by
  unfold M_ref1_lasting
  rw [appL_eq (by simp; omega), bind_some', List.nil_append]
  exact lasting_l1 d how hw 0 (Nat.zero_le _) d.Last
theorem rcrash_eq (d : G_api_Dev) (how : List Int) (hw : d.Wait.length ≤ 1000000) (hl : d.Last.length ≤ 1000000) : M_ref1_Crash d how = some ⟨lastG how 0 d.Last d.Wait, [], 0, 0, false⟩ := by
  unfold M_ref1_Crash; rw [lasting_eq d how hw hl, bind_some']
/-- All that waits lasts. -/
def flushed : List Str → List G_api_Put → List Str
  | out, [] => out
  | out, w :: l => flushed (match out[w.At.toNat]? with | none => out | some was => if 0 ≤ w.At ∧ w.B.length = 256 ∧ was.length = 256 then out.set w.At.toNat w.B else out) l
theorem torn3 (was b : Str) : tornN 3 was b = b := by
  unfold tornN
  have h1 : (andI 3 1 == 1) = true := by kernel_rfl
  have h2 : (andI 3 2 == 2) = true := by kernel_rfl
  rw [h1, h2, if_pos rfl, if_pos rfl, List.take_append_drop]
theorem lastG_3 (m : Nat) : ∀ (l : List G_api_Put) (k : Nat) (out : List Str), k + l.length ≤ m → lastG (List.replicate m 3) k out l = flushed out l := by
  intro l
  induction l with
  | nil => intro k out _; rfl
  | cons w l ih =>
    intro k out h
    rw [List.length_cons] at h
    rw [lastG, flushed, ih _ _ (by omega)]
    congr 1
    have h3 : andI 3 3 = 3 := by kernel_rfl
    have hh : howN (List.replicate m 3) k = 3 := by
      unfold howN
      rw [List.getElem?_eq_getElem (by simp; omega), List.getElem_replicate]
      exact h3
    rw [hh]
    unfold last1
    split
    · rfl
    · rw [torn3]
theorem flush_l1 (d : G_api_Dev) (hw : d.Wait.length ≤ 1000000) (hl : d.Last.length ≤ 1000000) : ∀ (j : Nat), j ≤ d.Wait.length → M_ref1_Flush_l1 d fuel (j : Int) (List.replicate j 3 ++ List.replicate (d.Wait.length - j) 0) = some (⟨flushed d.Last d.Wait, [], d.Lies, d.Arm, d.Down⟩, true) := by
  refine up_fuel (Q := fun n j => M_ref1_Flush_l1 d n (j : Int) (List.replicate j 3 ++ List.replicate (d.Wait.length - j) 0) = some (⟨flushed d.Last d.Wait, [], d.Lies, d.Arm, d.Down⟩, true)) d.Wait.length (by omega) ?_ ?_
  · intro n
    have hl2 : (List.replicate d.Wait.length (3 : Int) ++ List.replicate (d.Wait.length - d.Wait.length) 0).length = d.Wait.length := by simp
    rw [M_ref1_Flush_l1, hl2, decide_eq_false (by omega), cond_false, Nat.sub_self, List.replicate_zero, List.append_nil, lasting_eq d _ hw hl, bind_some', lastG_3 _ _ _ _ (by omega)]
  · intro n j hj ih
    have hl2 : (List.replicate j (3 : Int) ++ List.replicate (d.Wait.length - j) 0).length = d.Wait.length := by simp; omega
    have hset : (List.replicate j (3 : Int) ++ List.replicate (d.Wait.length - j) 0).set j 3 = List.replicate (j + 1) 3 ++ List.replicate (d.Wait.length - (j + 1)) 0 := by
      obtain ⟨m, hm⟩ : ∃ m, d.Wait.length - j = m + 1 := ⟨d.Wait.length - j - 1, by omega⟩
      rw [hm, show d.Wait.length - (j + 1) = m by omega, List.replicate_succ, List.set_append_right _ _ (by simp)]
      simp [List.replicate_succ']
    rw [M_ref1_Flush_l1, hl2, decide_eq_true (by omega), cond_true, getI_lt (by omega), bind_some', setI_nat (by omega), bind_some', w64_succ (by omega), hset]
    exact ih
theorem rflush_eq {d : G_api_Dev} (h1 : d.Down = false) (h2 : d.Lies = 0) (hw : d.Wait.length ≤ 100000) (hl : d.Last.length ≤ 1000000) : M_ref1_Flush d = some (⟨flushed d.Last d.Wait, [], d.Lies, d.Arm, d.Down⟩, true) := by
  unfold M_ref1_Flush
  rw [h1, cond_false, h2, decide_eq_false (by omega), cond_false, makeL_nat (by omega) (by omega), bind_some']
  have := flush_l1 d (by omega) hl 0 (Nat.zero_le _)
  rw [List.replicate_zero, List.nil_append, h2, h1, Nat.sub_zero] at this
  exact this
end Go.Proofs
