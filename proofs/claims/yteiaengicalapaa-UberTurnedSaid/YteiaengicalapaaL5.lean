/-
  Where groups begin: what the program's package uber and the document's answer come to.
-/
import Derived.Test.YteiaengicalapaaL3
set_option maxRecDepth 20000
namespace Go.Proofs
open Go Go.Fhl
set_option linter.unusedVariables false
set_option linter.unusedSimpArgs false

/-! ## A text with its sum behind it, filled -/
def zeros (n : Nat) : Str := List.replicate n 0
def sumBytes (x : A4 UInt32) : Str := puts (x.x0.toNat : Int) (x.x1.toNat : Int) (x.x2.toNat : Int) (x.x3.toNat : Int)
def seal' (s : Str) : Str := (s ++ sumBytes (sumOf s)) ++ zeros (240 - s.length)
theorem sumBytes_length (x : A4 UInt32) : (sumBytes x).length = 16 := puts_length ..
theorem seal_length {s : Str} (h : s.length ≤ 240) : (seal' s).length = 256 := by
  unfold seal' zeros; simp only [List.length_append, sumBytes_length, List.length_replicate]; omega
theorem repeat_zero (n : Nat) : Lib.repeatL [0] n = zeros n := by
  induction n with
  | zero => rfl
  | succ n ih => rw [Lib.repeatL, ih]; rfl
theorem rep_eq {n : Nat} (h : n ≤ 1000000) : M_strings_Repeat [0] (n : Int) = some (zeros n) := by
  unfold M_strings_Repeat M_repeat
  rw [if_pos ⟨by omega, by omega, by simp; omega⟩, Int.toNat_natCast, repeat_zero]
theorem noughts_eq {n : Nat} (h : n ≤ 1000000) : M_ref1_noughts (n : Int) = some (zeros n) := by
  unfold M_ref1_noughts
  have : max (n : Int) 0 = (n : Int) := by omega
  rw [this, makeL_nat (by omega) (by omega)]
  rfl
theorem sealed_l1 (t : Str) (x : A4 UInt32) : M_uber_sealed_l1 t x fuel 0 [] = (M_pack_Put ([52, 52, 52, 52] : Str) [(x.x0.toNat : Int), (x.x1.toNat : Int), (x.x2.toNat : Int), (x.x3.toNat : Int)]).bind fun x7 => (addS t x7).bind fun x8 => (M_strings_Repeat ([0] : Str) (w64 (256 - (x8.length : Int)))).bind fun x9 => (addS x8 x9).bind fun x10 => some x10 := by kernel_rfl
theorem sealed_eq (s : Str) (h : s.length ≤ 240) : M_uber_sealed s = some (seal' s) := by
  unfold M_uber_sealed
  have hl : (s ++ sumBytes (sumOf s)).length = s.length + 16 := by rw [List.length_append, sumBytes_length]
  have hw : w64 (256 - (((s ++ sumBytes (sumOf s)).length : Nat) : Int)) = ((240 - s.length : Nat) : Int) := by rw [hl, w64_id (by omega) (by omega)]; omega
  rw [sum1_eq s (by omega), bind_some', sealed_l1, pputs, bind_some']
  change (addS s (sumBytes (sumOf s))).bind _ = _
  rw [addS_eq (by rw [sumBytes_length]; omega), bind_some', hw, rep_eq (by omega), bind_some', addS_eq (by rw [hl]; unfold zeros; rw [List.length_replicate]; omega), bind_some']
  rfl
theorem rsealed_eq (s : Str) (h : s.length ≤ 240) : M_ref1_sealed s = some (seal' s) := by
  unfold M_ref1_sealed
  have hl : (s ++ sumBytes (sumOf s)).length = s.length + 16 := by rw [List.length_append, sumBytes_length]
  have hw : w64 (256 - (((s ++ sumBytes (sumOf s)).length : Nat) : Int)) = ((240 - s.length : Nat) : Int) := by rw [hl, w64_id (by omega) (by omega)]; omega
  rw [rsum1_eq s (by omega), bind_some', rputs, bind_some']
  change (addS s (sumBytes (sumOf s))).bind _ = _
  rw [addS_eq (by rw [sumBytes_length]; omega), bind_some', hw, noughts_eq (by omega), bind_some', addS_eq (by rw [hl]; unfold zeros; rw [List.length_replicate]; omega), bind_some']
  rfl
theorem be4_inj {x y : UInt32} (h : be 4 (x.toNat : Int) = be 4 (y.toNat : Int)) : x = y := by
  have hx := x.toNat_lt
  have hy := y.toNat_lt
  have := congrArg val h
  rw [val_be_id (by omega) (by rw [p256_4]; omega), val_be_id (by omega) (by rw [p256_4]; omega)] at this
  exact UInt32.toNat_inj.1 (by omega)
theorem sumBytes_inj {x y : A4 UInt32} (h : sumBytes x = sumBytes y) : x = y := by
  unfold sumBytes puts at h
  obtain ⟨h1, h⟩ := List.append_inj h (by rw [be_length, be_length])
  obtain ⟨h2, h⟩ := List.append_inj h (by rw [be_length, be_length])
  obtain ⟨h3, h4⟩ := List.append_inj h (by rw [be_length, be_length])
  obtain ⟨a, b, c, d⟩ := x
  obtain ⟨a', b', c', d'⟩ := y
  have e1 := be4_inj h1
  have e2 := be4_inj h2
  have e3 := be4_inj h3
  have e4 := be4_inj h4
  simp only at e1 e2 e3 e4
  rw [e1, e2, e3, e4]
theorem seal_take {s : Str} : (seal' s).take s.length = s := by
  unfold seal'; rw [List.append_assoc, List.take_left']; rfl
theorem seal_drop {s : Str} : (seal' s).drop s.length = sumBytes (sumOf s) ++ zeros (240 - s.length) := by
  unfold seal'; rw [List.append_assoc, List.drop_left']; rfl
/-- A sealed text of which one byte is another one is no sealed text. -/
theorem seal_set {s s' : Str} {k : Nat} {y : UInt8} (hs : s.length ≤ 240) (hl : s'.length = s.length) (hk : k < (seal' s).length) (h : (seal' s).set k y = seal' s') : y = (seal' s)[k] := by
  by_cases q : k < s.length
  · have e1 : s.set k y = s' := by
      have := congrArg (fun l => l.take s.length) h
      simp only [← hl] at this
      rw [seal_take, hl, List.take_set, seal_take] at this
      exact this
    have e2 : sumBytes (sumOf s) ++ zeros (240 - s.length) = sumBytes (sumOf s') ++ zeros (240 - s'.length) := by
      have := congrArg (fun l => l.drop s.length) h
      simp only [← hl] at this
      rw [seal_drop, hl, List.drop_set_of_lt q, seal_drop] at this
      rw [hl]; exact this
    have e3 := sumBytes_inj (List.append_inj e2 (by rw [sumBytes_length, sumBytes_length])).1
    rw [← e1] at e3
    have e4 := sum_set q e3.symm
    have e5 : (seal' s)[k] = s[k] := by
      have h1 : (seal' s)[k]? = s[k]? := by
        have : ((seal' s).take s.length)[k]? = (seal' s)[k]? := List.getElem?_take_of_lt q
        rw [← this, seal_take]
      rw [List.getElem?_eq_getElem hk, List.getElem?_eq_getElem q] at h1
      exact Option.some.inj h1
    rw [e5, e4]
  · have e1 : s = s' := by
      have := congrArg (fun l => l.take s.length) h
      simp only [← hl] at this
      rw [seal_take, hl, List.take_set, seal_take, List.set_eq_of_length_le (by omega)] at this
      exact this
    subst e1
    have : ((seal' s).set k y)[k]? = (seal' s)[k]? := by rw [h]
    rw [List.getElem?_set_self hk, List.getElem?_eq_getElem hk] at this
    exact Option.some.inj this

/-! ## Ubers -/
def zu : G_api_Uber := ⟨0, 0, 0, zp⟩
def okUber (u : G_api_Uber) : Bool := decide (1 ≤ u.Txg ∧ u.Txg ≤ 1073741824 ∧ 0 ≤ u.Guid ∧ u.Guid ≤ 1073741824 ∧ 0 ≤ u.Seat ∧ u.Seat < 6) && (okPtr u.Root && !decide (u.Root = zp))
theorem umay_eq (u : G_api_Uber) : M_uber_root_may ⟨u⟩ = some (okUber u) := by
  unfold M_uber_root_may
  rw [may_eq, gd_some, bind_some', zp_eq, beq_tt, and_ite]
  congr 1
  unfold okUber
  rw [Bool.eq_iff_iff]
  simp only [Bool.and_eq_true, decide_eq_true_eq, Bool.not_eq_true', decide_eq_false_iff_not, ge_iff_le, and_assoc]
theorem rumay_eq (u : G_api_Uber) : M_ref1_MayUber u = some (okUber u) := by
  unfold M_ref1_MayUber M_ref1_num
  simp only [gd_some, bind_some', rmay_eq, beq_tt, and_ite, ← Bool.and_assoc]
  congr 1
  unfold okUber
  rw [Bool.eq_iff_iff]
  simp only [Bool.and_eq_true, decide_eq_true_eq, Bool.not_eq_true', decide_eq_false_iff_not, ge_iff_le, and_assoc]
  have hz : okPtr u.Root = true → (u.Root.Addr > 0 ↔ ¬ u.Root = zp) := fun h => by
    rcases (okPtr_iff _).1 h with q | q
    · rw [q]; decide
    · constructor
      · intro _ e; rw [e] at q; exact absurd q.1 (by decide)
      · intro _; exact q.1
  constructor
  · rintro ⟨h1, h2, h3, h4, h5, h6, h7, h8, h9⟩; exact ⟨h1, h3, h4, h5, h6, h7, h8, (hz h8).1 h9⟩
  · rintro ⟨h1, h3, h4, h5, h6, h7, h8, h9⟩; exact ⟨h1, by omega, h3, h4, h5, h6, h7, h8, (hz h8).2 h9⟩
def headU (u : G_api_Uber) : Str := put4 171 u.Txg u.Guid u.Seat ++ bytesP u.Root
def bytesU (u : G_api_Uber) : Str := seal' (headU u)
theorem headU_length (u : G_api_Uber) : (headU u).length = 32 := by unfold headU; rw [List.length_append, put4_length, bytesP_length]
theorem bytesU_length (u : G_api_Uber) : (bytesU u).length = 256 := seal_length (by rw [headU_length]; omega)
theorem one_ptr (p : G_api_Ptr) (h : okPtr p = true) : putPs [p] = bytesP p := by unfold putPs; simp [h]
theorem okUber_root {u : G_api_Uber} (h : okUber u = true) : okPtr u.Root = true := by
  unfold okUber at h; simp only [Bool.and_eq_true] at h; exact h.2.1
theorem ubytes_eq (u : G_api_Uber) : M_uber_root_bytes ⟨u⟩ = some (if okUber u = true then bytesU u else []) := by
  unfold M_uber_root_bytes
  rw [umay_eq, bind_some']
  dsimp only
  cases h : okUber u with
  | false => rfl
  | true =>
    have hb := bytesP_length u.Root
    have hp := put4_length 171 u.Txg u.Guid u.Seat
    rw [Bool.not_true, cond_false, pput4, bind_some', put_eq _ (by simp), one_ptr _ (okUber_root h), bind_some', addS_eq (by omega), bind_some', sealed_eq _ (by rw [List.length_append]; omega), bind_some', if_pos rfl]
    rfl
theorem uput_eq (u : G_api_Uber) : M_uber_Put u = some (if okUber u = true then bytesU u else []) := by
  unfold M_uber_Put; rw [ubytes_eq, bind_some']
theorem umay_eq' (u : G_api_Uber) : M_uber_May u = some (okUber u) := by
  unfold M_uber_May; rw [umay_eq, bind_some']
theorem ruput_eq (u : G_api_Uber) : M_ref1_PutUber u = some (if okUber u = true then bytesU u else []) := by
  unfold M_ref1_PutUber
  rw [rumay_eq, bind_some']
  cases h : okUber u with
  | false => rfl
  | true =>
    have hb := bytesP_length u.Root
    have hp := put4_length 171 u.Txg u.Guid u.Seat
    rw [Bool.not_true, cond_false, rput4, bind_some', rput_eq _ (by simp), one_ptr _ (okUber_root h), bind_some', addS_eq (by omega), bind_some', rsealed_eq _ (by rw [List.length_append]; omega), bind_some', if_pos rfl]
    rfl
def uberOf (s : Str) : G_api_Uber := ⟨val ((s.drop 1).take 4), val ((s.drop 5).take 4), val ((s.drop 9).take 1), ptrOf (s.drop 10)⟩
def takeU (s : Str) : Option G_api_Uber := if 32 ≤ s.length ∧ okPtr (ptrOf (s.drop 10)) = true ∧ okUber (uberOf s) = true ∧ bytesU (uberOf s) = s then some (uberOf s) else none
def uans (o : Option G_api_Uber) : G_api_Uber × Bool := match o with | none => (zu, false) | some u => (u, true)
theorem zu_eq : (⟨0, 0, 0, ⟨0, 0, ⟨0, 0, 0, 0⟩⟩⟩ : G_api_Uber) = zu := rfl
theorem vals4 (s : Str) : vals [1, 4, 4, 1] s = [val (s.take 1), val ((s.drop 1).take 4), val ((s.drop 5).take 4), val ((s.drop 9).take 1)] := by
  simp [vals, List.drop_drop]
theorem takePs_one (s : Str) : tans (takePs 1 s) = if s.length < 22 then ([], [], false) else if okPtr (ptrOf s) = true then ([ptrOf s], s.drop 22, true) else ([], [], false) := by
  rw [takePs]
  split
  · rfl
  · split
    · rfl
    · rfl
theorem getI4 (a b c d : Int) : getI [a, b, c, d] 1 = some b ∧ getI [a, b, c, d] 2 = some c ∧ getI [a, b, c, d] 3 = some d := ⟨rfl, rfl, rfl⟩
theorem utake_eq (s : Str) : M_uber_Take s = some (uans (takeU s)) := by
  unfold M_uber_Take takeU
  rw [ptake4, bind_some']
  by_cases h1 : s.length < 10
  · rw [if_pos h1, if_neg (by omega)]; rfl
  · rw [if_neg h1]
    simp only [Bool.not_true, cond_false, vals4]
    have ht := takePs_one (s.drop 10)
    change tans (takePs (Int.toNat 1) (s.drop 10)) = _ at ht
    rw [take_eq _ _ (by decide), bind_some', ht]
    by_cases h2 : (s.drop 10).length < 22
    · rw [if_pos h2, if_neg (by simp at h2; omega)]; rfl
    · rw [if_neg h2]
      simp at h2
      obtain ⟨g1, g2, g3⟩ := getI4 (val (s.take 1)) (val ((s.drop 1).take 4)) (val ((s.drop 5).take 4)) (val ((s.drop 9).take 1))
      cases h3 : okPtr (ptrOf (s.drop 10)) with
      | false => rw [if_neg (by simp), if_neg (by simp)]; rfl
      | true =>
        rw [if_pos rfl]
        simp only [Bool.not_true, cond_false, g1, g2, g3, getI_zero, bind_some', umay_eq, ubytes_eq, gd_some, beq_ff, Bool.not_not]
        show (cond (!okUber (uberOf s) || ((if okUber (uberOf s) = true then (if okUber (uberOf s) = true then bytesU (uberOf s) else []) else default) != s)) _ _) = _
        cases h4 : okUber (uberOf s) with
        | false => rw [if_neg (c := 32 ≤ s.length ∧ _) (by simp)]; rfl
        | true =>
          simp only [if_true, Bool.not_true, Bool.false_or]
          by_cases h5 : bytesU (uberOf s) = s
          · rw [h5, bne_self_eq_false, cond_false, if_pos ⟨by omega, trivial, trivial, rfl⟩]; rfl
          · rw [(bne_iff_ne).2 h5, cond_true, if_neg (fun q => h5 q.2.2.2)]; rfl
theorem rutake_eq (s : Str) : M_ref1_TakeUber s = some (uans (takeU s)) := by
  unfold M_ref1_TakeUber takeU
  rw [rtake4, bind_some']
  by_cases h1 : s.length < 10
  · rw [if_pos h1, if_neg (by omega)]; rfl
  · rw [if_neg h1]
    simp only [Bool.not_true, cond_false, vals4]
    have ht := takePs_one (s.drop 10)
    change tans (takePs (Int.toNat 1) (s.drop 10)) = _ at ht
    rw [rtakePs_eq _ _ (by decide), bind_some', ht]
    by_cases h2 : (s.drop 10).length < 22
    · rw [if_pos h2, if_neg (by simp at h2; omega)]; rfl
    · rw [if_neg h2]
      simp at h2
      obtain ⟨g1, g2, g3⟩ := getI4 (val (s.take 1)) (val ((s.drop 1).take 4)) (val ((s.drop 5).take 4)) (val ((s.drop 9).take 1))
      cases h3 : okPtr (ptrOf (s.drop 10)) with
      | false => rw [if_neg (by simp), if_neg (by simp)]; rfl
      | true =>
        rw [if_pos rfl]
        simp only [Bool.not_true, cond_false, g1, g2, g3, getI_zero, bind_some', ruput_eq]
        show (cond ((if okUber (uberOf s) = true then bytesU (uberOf s) else []) != s) _ _) = _
        cases h4 : okUber (uberOf s) with
        | false =>
          have : (([] : Str) != s) = true := by rw [bne_iff_ne]; intro e; rw [← e] at h1; simp at h1
          rw [if_neg (by simp), this, cond_true, if_neg (by simp)]; rfl
        | true =>
          simp only [if_true]
          by_cases h5 : bytesU (uberOf s) = s
          · rw [h5, bne_self_eq_false, cond_false, if_pos ⟨by omega, trivial, trivial, rfl⟩]; rfl
          · rw [(bne_iff_ne).2 h5, cond_true, if_neg (fun q => h5 q.2.2.2)]; rfl
theorem cut4 (a b c d r : Str) (ha : a.length = 1) (hb : b.length = 4) (hc : c.length = 4) (hd : d.length = 1) :
    let s := (a ++ (b ++ (c ++ d))) ++ r
    (s.drop 1).take 4 = b ∧ (s.drop 5).take 4 = c ∧ (s.drop 9).take 1 = d ∧ s.drop 10 = r := by
  match a, ha with
  | [a0], _ =>
  match b, hb with
  | [b0, b1, b2, b3], _ =>
  match c, hc with
  | [c0, c1, c2, c3], _ =>
  match d, hd with
  | [d0], _ => exact ⟨rfl, rfl, rfl, rfl⟩
theorem p256_1 : (256 : Int) ^ 1 = 256 := by decide
theorem uberOf_bytes (u : G_api_Uber) (h : okUber u = true) (r : Str) : uberOf (headU u ++ r) = u := by
  have hr := okUber_root h
  unfold okUber at h
  simp only [Bool.and_eq_true, decide_eq_true_eq] at h
  obtain ⟨⟨h1, h2, h3, h4, h5, h6⟩, _⟩ := h
  obtain ⟨a1, a2, a3, a4⟩ := cut4 (be 1 171) (be 4 u.Txg) (be 4 u.Guid) (be 1 u.Seat) (bytesP u.Root ++ r) (be_length _ _) (be_length _ _) (be_length _ _) (be_length _ _)
  have e : headU u ++ r = (be 1 171 ++ (be 4 u.Txg ++ (be 4 u.Guid ++ be 1 u.Seat))) ++ (bytesP u.Root ++ r) := by
    unfold headU put4; rw [List.append_assoc]
  unfold uberOf
  rw [e, a1, a2, a3, a4, val_be_id (by omega) (by rw [p256_4]; omega), val_be_id (by omega) (by rw [p256_4]; omega), val_be_id h5 (by rw [p256_1]; omega), (ptrOf_bytes _ hr _).1]
theorem takeU_bytes (u : G_api_Uber) (h : okUber u = true) : takeU (bytesU u) = some u := by
  have e : bytesU u = headU u ++ (sumBytes (sumOf (headU u)) ++ zeros (240 - (headU u).length)) := by unfold bytesU seal'; rw [List.append_assoc]
  have e2 : uberOf (bytesU u) = u := by rw [e]; exact uberOf_bytes u h _
  have e3 : ptrOf ((bytesU u).drop 10) = u.Root := congrArg G_api_Uber.Root e2
  unfold takeU
  rw [e3, e2, if_pos ⟨by rw [bytesU_length]; omega, okUber_root h, h, rfl⟩]
theorem takeU_some {s : Str} {u : G_api_Uber} (h : takeU s = some u) : okUber u = true ∧ bytesU u = s := by
  unfold takeU at h
  split at h
  · rename_i q; cases h; exact ⟨q.2.2.1, q.2.2.2⟩
  · cases h

/-! ## Configs -/
def okCfg (g d : Int) : Bool := decide (0 ≤ g ∧ g ≤ 1073741824 ∧ 40 ≤ d ∧ d ≤ 240)
def bytesC (g d : Int) : Str := seal' (put3 172 g d)
theorem bytesC_length (g d : Int) : (bytesC g d).length = 256 := seal_length (by rw [put3_length]; omega)
def putC (g d : Int) : Str := if okCfg g d = true then bytesC g d else []
theorem cfg_eq (g d : Int) : M_uber_Config g d = some (putC g d) := by
  unfold M_uber_Config putC
  have hp := put3_length 172 g d
  cases h : okCfg g d with
  | true =>
    have h' := h
    unfold okCfg at h'
    simp only [decide_eq_true_eq] at h'
    rw [decide_eq_false (by omega), decide_eq_false (by omega), decide_eq_false (by omega), decide_eq_false (by omega)]
    simp only [Bool.or_self, cond_false, pput3, bind_some', sealed_eq _ (show (put3 172 g d).length ≤ 240 by omega), if_true]
    rfl
  | false =>
    have h' := h
    unfold okCfg at h'
    simp only [decide_eq_false_iff_not] at h'
    have : ((((decide (g < 0)) || (decide (g > 1073741824))) || (decide (d < 40))) || (decide (d > 240))) = true := by
      simp only [Bool.or_eq_true, decide_eq_true_eq]; omega
    rw [this, cond_true]; rfl
theorem rcfg_eq (g d : Int) : M_ref1_Config g d = some (putC g d) := by
  unfold M_ref1_Config putC M_ref1_num M_ref1_mayData
  have hp := put3_length 172 g d
  simp only [gd_some, bind_some', beq_ff, Bool.not_not]
  cases h : okCfg g d with
  | true =>
    have h' := h
    unfold okCfg at h'
    simp only [decide_eq_true_eq] at h'
    rw [decide_eq_true (by omega), decide_eq_true (by omega), decide_eq_true (by omega), decide_eq_true (by omega)]
    simp only [Bool.and_self, if_true, Bool.not_true, Bool.or_self, cond_false, rput3, bind_some', rsealed_eq _ (show (put3 172 g d).length ≤ 240 by omega)]
    rfl
  | false =>
    have h' := h
    unfold okCfg at h'
    simp only [decide_eq_false_iff_not] at h'
    have : (!(decide (g ≥ 0) && decide (g ≤ 1073741824)) || !(if (decide (g ≥ 0) && decide (g ≤ 1073741824)) = true then (decide (d ≥ 40) && decide (d ≤ 240)) else default)) = true := by
      by_cases a : g ≥ 0 ∧ g ≤ 1073741824
      · have : ¬ (d ≥ 40 ∧ d ≤ 240) := fun q => h' ⟨a.1, a.2, q.1, q.2⟩
        have e1 : (decide (g ≥ 0) && decide (g ≤ 1073741824)) = true := by simp [a]
        have e2 : (decide (d ≥ 40) && decide (d ≤ 240)) = false := by rw [← Bool.decide_and]; exact decide_eq_false this
        rw [e1, e2]; rfl
      · have e1 : (decide (g ≥ 0) && decide (g ≤ 1073741824)) = false := by rw [← Bool.decide_and]; exact decide_eq_false a
        rw [e1]; rfl
    rw [this, cond_true]; rfl
def takeC (s : Str) : Option (Int × Int) := if 7 ≤ s.length ∧ okCfg (val ((s.drop 1).take 4)) (val ((s.drop 5).take 2)) = true ∧ bytesC (val ((s.drop 1).take 4)) (val ((s.drop 5).take 2)) = s then some (val ((s.drop 1).take 4), val ((s.drop 5).take 2)) else none
def cans (o : Option (Int × Int)) : Int × Int × Bool := match o with | none => (0, 0, false) | some u => (u.1, u.2, true)
theorem vals3 (s : Str) : vals [1, 4, 2] s = [val (s.take 1), val ((s.drop 1).take 4), val ((s.drop 5).take 2)] := by
  simp [vals, List.drop_drop]
theorem getI3 (a b c : Int) : getI [a, b, c] 1 = some b ∧ getI [a, b, c] 2 = some c := ⟨rfl, rfl⟩
theorem putC_eq {g d : Int} {s : Str} (hs : 7 ≤ s.length) : (putC g d != s) = !decide (okCfg g d = true ∧ bytesC g d = s) := by
  unfold putC
  cases h : okCfg g d with
  | true => by_cases q : bytesC g d = s <;> simp [q]
  | false =>
    have : (([] : Str) != s) = true := by rw [bne_iff_ne]; intro e; rw [← e] at hs; simp at hs
    simp [this]
theorem ctake_eq (s : Str) : M_uber_TakeConfig s = some (cans (takeC s)) := by
  unfold M_uber_TakeConfig takeC
  rw [ptake3, bind_some']
  by_cases h1 : s.length < 7
  · rw [if_pos h1, if_neg (by omega)]; rfl
  · rw [if_neg h1]
    obtain ⟨g1, g2⟩ := getI3 (val (s.take 1)) (val ((s.drop 1).take 4)) (val ((s.drop 5).take 2))
    simp only [Bool.not_true, show ((false : Bool) == false) = true from rfl, gd_true, vals3, g1, g2, bind_some', cfg_eq, Bool.false_or, putC_eq (show 7 ≤ s.length by omega)]
    by_cases h2 : okCfg (val ((s.drop 1).take 4)) (val ((s.drop 5).take 2)) = true ∧ bytesC (val ((s.drop 1).take 4)) (val ((s.drop 5).take 2)) = s
    · rw [decide_eq_true h2, Bool.not_true, cond_false, if_pos ⟨by omega, h2⟩]; rfl
    · rw [decide_eq_false h2, Bool.not_false, cond_true, if_neg (fun q => h2 q.2)]; rfl
theorem rctake_eq (s : Str) : M_ref1_TakeConfig s = some (cans (takeC s)) := by
  unfold M_ref1_TakeConfig takeC
  rw [rtake3, bind_some']
  by_cases h1 : s.length < 7
  · rw [if_pos h1, if_neg (by omega)]; rfl
  · rw [if_neg h1]
    obtain ⟨g1, g2⟩ := getI3 (val (s.take 1)) (val ((s.drop 1).take 4)) (val ((s.drop 5).take 2))
    simp only [Bool.not_true, show ((false : Bool) == false) = true from rfl, gd_true, vals3, g1, g2, bind_some', rcfg_eq, Bool.false_or, putC_eq (show 7 ≤ s.length by omega)]
    by_cases h2 : okCfg (val ((s.drop 1).take 4)) (val ((s.drop 5).take 2)) = true ∧ bytesC (val ((s.drop 1).take 4)) (val ((s.drop 5).take 2)) = s
    · rw [decide_eq_true h2, Bool.not_true, cond_false, if_pos ⟨by omega, h2⟩]; rfl
    · rw [decide_eq_false h2, Bool.not_false, cond_true, if_neg (fun q => h2 q.2)]; rfl
theorem cut3 (a b c r : Str) (ha : a.length = 1) (hb : b.length = 4) (hc : c.length = 2) :
    let s := (a ++ (b ++ c)) ++ r
    (s.drop 1).take 4 = b ∧ (s.drop 5).take 2 = c := by
  match a, ha with
  | [a0], _ =>
  match b, hb with
  | [b0, b1, b2, b3], _ =>
  match c, hc with
  | [c0, c1], _ => exact ⟨rfl, rfl⟩
theorem takeC_bytes {g d : Int} (h : okCfg g d = true) : takeC (bytesC g d) = some (g, d) := by
  have h' := h
  unfold okCfg at h'
  simp only [decide_eq_true_eq] at h'
  have e : bytesC g d = (be 1 172 ++ (be 4 g ++ be 2 d)) ++ (sumBytes (sumOf (put3 172 g d)) ++ zeros (240 - (put3 172 g d).length)) := by unfold bytesC seal'; rw [List.append_assoc]; rfl
  obtain ⟨a1, a2⟩ := cut3 (be 1 172) (be 4 g) (be 2 d) (sumBytes (sumOf (put3 172 g d)) ++ zeros (240 - (put3 172 g d).length)) (be_length _ _) (be_length _ _) (be_length _ _)
  rw [← e] at a1 a2
  unfold takeC
  rw [a1, a2, val_be_id (by omega) (by rw [p256_4]; omega), val_be_id (by omega) (by rw [p256_2]; omega), if_pos ⟨by rw [bytesC_length]; omega, h, rfl⟩]
theorem takeC_some {s : Str} {x : Int × Int} (h : takeC s = some x) : okCfg x.1 x.2 = true ∧ bytesC x.1 x.2 = s := by
  unfold takeC at h
  split at h
  · rename_i q; cases h; exact ⟨q.2.1, q.2.2⟩
  · cases h
end Go.Proofs
