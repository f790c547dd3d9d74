/-
  The laws of where groups begin, of the models alone.
-/
import Derived.Test.YteiaengicalapaaL5
set_option maxRecDepth 20000
namespace Go.Proofs
open Go Go.Fhl
set_option linter.unusedVariables false
set_option linter.unusedSimpArgs false
theorem begun6 : M_law6_begun = some true := by kernel_rfl
theorem law_UberForms : M_law6_UberForms = some true := by kernel_rfl
def uN (a b c d : UInt16) : G_api_Uber := ⟨w64 (1 + (a.toNat : Int)), (b.toNat : Int), (c.toNat : Int), ⟨w64 (1 + (d.toNat : Int)), (a.toNat : Int), ⟨0, 0, 0, 0⟩⟩⟩
theorem uN_ok {a b c d : UInt16} (hc : c.toNat < 6) (hd : d.toNat < 900) : okUber (uN a b c d) = true := by
  have ha := a.toNat_lt
  have hb := b.toNat_lt
  have hp : okPtr (uN a b c d).Root = true := by
    rw [okPtr_iff]; right
    unfold uN
    simp only
    rw [w64_id (by omega) (by omega)]; omega
  have hz : ¬ (uN a b c d).Root = zp := by
    intro e
    have := congrArg G_api_Ptr.Addr e
    unfold uN zp at this
    simp only at this
    rw [w64_id (by omega) (by omega)] at this; omega
  unfold okUber
  rw [hp, decide_eq_false hz, decide_eq_true]
  · rfl
  · unfold uN
    simp only
    rw [w64_id (by omega) (by omega)]; omega
theorem r6 (x : UInt16) : rem16 x 6 = some (x % 6) ∧ (x % 6).toNat < 6 := by
  refine ⟨rfl, ?_⟩
  have : (x % 6).toNat = x.toNat % 6 := UInt16.toNat_mod ..
  omega
theorem r900 (x : UInt16) : rem16 x 900 = some (x % 900) ∧ (x % 900).toNat < 900 := by
  refine ⟨rfl, ?_⟩
  have : (x % 900).toNat = x.toNat % 900 := UInt16.toNat_mod ..
  omega
theorem r201 (x : UInt16) : rem16 x 201 = some (x % 201) ∧ (x % 201).toNat < 201 := by
  refine ⟨rfl, ?_⟩
  have : (x % 201).toNat = x.toNat % 201 := UInt16.toNat_mod ..
  omega
theorem cN_ok (g : UInt16) {d : UInt16} (hd : d.toNat < 201) : okCfg (g.toNat : Int) (w64 (40 + (d.toNat : Int))) = true := by
  have hg := g.toNat_lt
  unfold okCfg
  rw [w64_id (by omega) (by omega)]
  exact decide_eq_true (by omega)
theorem cN_ok40 (g : UInt16) : okCfg (g.toNat : Int) 40 = true := by
  have hg := g.toNat_lt
  unfold okCfg
  exact decide_eq_true (by omega)
theorem putC_ok {g d : Int} (h : okCfg g d = true) : putC g d = bytesC g d := by unfold putC; rw [if_pos h]
theorem uN_eq (a b c d : UInt16) : (⟨w64 (1 + (a.toNat : Int)), (b.toNat : Int), (c.toNat : Int), ⟨w64 (1 + (d.toNat : Int)), (a.toNat : Int), ⟨0, 0, 0, 0⟩⟩⟩ : G_api_Uber) = uN a b c d := rfl
theorem u8lt (x : UInt8) : x.toNat < 256 := x.toNat_lt
theorem ua_step (t2 : Str) (x24 x26 : List UInt8) (x27 x28 : Str) (n j : Nat) (hj : j < 5) (x : Str) (hx : getI ([t2, x24, x26, x27, x28] : List Str) (j : Int) = some x) :
    M_law6_UberAll_l1 t2 x24 x26 x27 x28 (n + 1) (j : Int) = M_law6_UberAll_l1 t2 x24 x26 x27 x28 n ((j + 1 : Nat) : Int) := by
  have hd : decide ((j : Int) < (([t2, x24, x26, x27, x28] : List Str).length : Int)) = true := decide_eq_true (by simp; omega)
  rw [M_law6_UberAll_l1, hd, cond_true, hx]
  simp only [bind_some', utake_eq, rutake_eq, ctake_eq, rctake_eq, decide_true, Bool.not_true, bne_self_eq_false, Bool.or_self, cond_false]
  rw [w64_succ (by omega)]
theorem law_UberAll (t0 : G_api_Uber) (t1 : A4 UInt16) (t2 : Str) (t3 t4 : UInt8) (t5 t6 : Int) : M_law6_UberAll t0 t1 t2 t3 t4 t5 t6 = some true := by
  unfold M_law6_UberAll
  rw [begun6, bind_some', Bool.not_true, cond_false]
  by_cases h : (t2.length : Int) > 300
  · rw [decide_eq_true h, cond_true]
  · rw [decide_eq_false h, cond_false]
    obtain ⟨e1, b1⟩ := r6 t1.x2
    obtain ⟨e2, b2⟩ := r900 t1.x3
    obtain ⟨e3, b3⟩ := r201 t1.x2
    have hu := uN_ok (a := t1.x0) (b := t1.x1) b1 b2
    have hk : t3.toNat < (bytesU (uN t1.x0 t1.x1 (t1.x2 % 6) (t1.x3 % 900))).length := by rw [bytesU_length]; exact u8lt t3
    have hk2 : t3.toNat < (bytesC (t1.x1.toNat : Int) 40).length := by rw [bytesC_length]; exact u8lt t3
    simp only [e1, e2, e3, bind_some', umay_eq', rumay_eq, uput_eq, ruput_eq, cfg_eq, rcfg_eq, bne_self_eq_false, beq_ff, Bool.not_false, gd_true, Bool.or_self, cond_false, uN_eq, hu, if_true, putC_ok (cN_ok40 t1.x1)]
    rw [getI_lt hk, bind_some', getI_lt hk2, bind_some', bind_some', setI_nat hk, bind_some', bind_some', setI_nat hk2, bind_some']
    have hf : fuel = 4611686018427387898 + 1 + 1 + 1 + 1 + 1 + 1 := rfl
    have e0 : (0 : Int) = ((0 : Nat) : Int) := rfl
    rw [hf, e0, ua_step _ _ _ _ _ _ 0 (by omega) _ rfl, ua_step _ _ _ _ _ _ 1 (by omega) _ rfl, ua_step _ _ _ _ _ _ 2 (by omega) _ rfl, ua_step _ _ _ _ _ _ 3 (by omega) _ rfl, ua_step _ _ _ _ _ _ 4 (by omega) _ rfl]
    rw [M_law6_UberAll_l1]
    rfl

/-! ## One byte is turned -/
theorem takeU_set {u : G_api_Uber} {k : Nat} {y : UInt8} (hk : k < (bytesU u).length) (hy : y ≠ (bytesU u)[k]) : takeU ((bytesU u).set k y) = none := by
  cases h : takeU ((bytesU u).set k y) with
  | none => rfl
  | some v =>
    obtain ⟨_, h2⟩ := takeU_some h
    exact absurd (seal_set (s := headU u) (s' := headU v) (by rw [headU_length]; omega) (by rw [headU_length, headU_length]) hk h2.symm) hy
theorem takeC_set {g d : Int} {k : Nat} {y : UInt8} (hk : k < (bytesC g d).length) (hy : y ≠ (bytesC g d)[k]) : takeC ((bytesC g d).set k y) = none := by
  cases h : takeC ((bytesC g d).set k y) with
  | none => rfl
  | some v =>
    obtain ⟨_, h2⟩ := takeC_some h
    exact absurd (seal_set (s := put3 172 g d) (s' := put3 172 v.1 v.2) (by rw [put3_length]; omega) (by rw [put3_length, put3_length]) hk h2.symm) hy
theorem bytesU_head (u : G_api_Uber) : (bytesU u)[0]? = some 171 := by
  unfold bytesU seal' headU put4
  rfl
theorem bytesC_head (g d : Int) : (bytesC g d)[0]? = some 172 := by
  unfold bytesC seal' put3
  rfl
theorem takeC_uber (u : G_api_Uber) : takeC (bytesU u) = none := by
  cases h : takeC (bytesU u) with
  | none => rfl
  | some v =>
    obtain ⟨_, h2⟩ := takeC_some h
    have h3 := bytesC_head v.1 v.2
    rw [h2, bytesU_head] at h3
    cases h3
theorem takeU_cfg (g d : Int) : takeU (bytesC g d) = none := by
  cases h : takeU (bytesC g d) with
  | none => rfl
  | some v =>
    obtain ⟨_, h2⟩ := takeU_some h
    have h3 := bytesU_head v
    rw [h2, bytesC_head] at h3
    cases h3
theorem law_UberTurned (t0 : A4 UInt16) (t1 t2 : UInt8) : M_law6_UberTurned t0 t1 t2 = some true := by
  unfold M_law6_UberTurned
  rw [begun6, bind_some', Bool.not_true, cond_false]
  by_cases h : t2 = 0
  · have : (t2 == 0) = true := by simp [h]
    rw [this, cond_true]
  · have hb : (t2 == 0) = false := by simp [h]
    rw [hb, cond_false]
    obtain ⟨e1, b1⟩ := r6 t0.x2
    obtain ⟨e2, b2⟩ := r900 t0.x3
    obtain ⟨e3, b3⟩ := r201 t0.x2
    have hu := uN_ok (a := t0.x0) (b := t0.x1) b1 b2
    have hc := cN_ok t0.x1 b3
    have hl1 := bytesU_length (uN t0.x0 t0.x1 (t0.x2 % 6) (t0.x3 % 900))
    have hl2 := bytesC_length (t0.x1.toNat : Int) (w64 (40 + ((t0.x2 % 201).toNat : Int)))
    have hk : t1.toNat < (bytesU (uN t0.x0 t0.x1 (t0.x2 % 6) (t0.x3 % 900))).length := by rw [hl1]; exact u8lt t1
    have hk2 : t1.toNat < (bytesC (t0.x1.toNat : Int) (w64 (40 + ((t0.x2 % 201).toNat : Int)))).length := by rw [hl2]; exact u8lt t1
    have hne : neB (bytesU (uN t0.x0 t0.x1 (t0.x2 % 6) (t0.x3 % 900))) = some () := by unfold neB; rw [hl1]; rfl
    have hne2 : neB (bytesC (t0.x1.toNat : Int) (w64 (40 + ((t0.x2 % 201).toNat : Int)))) = some () := by unfold neB; rw [hl2]; rfl
    simp only [e1, e2, e3, bind_some', uput_eq, uN_eq, hu, if_true, cfg_eq, putC_ok hc, hne, hne2]
    have hn1 : (((bytesU (uN t0.x0 t0.x1 (t0.x2 % 6) (t0.x3 % 900))).length : Int) != 256 || ((bytesC (t0.x1.toNat : Int) (w64 (40 + ((t0.x2 % 201).toNat : Int)))).length : Int) != 256) = false := by rw [hl1, hl2]; rfl
    rw [hn1, cond_false, utake_eq, bind_some', ctake_eq, bind_some', getI_lt hk, bind_some', getI_lt hk2, bind_some', bind_some', setI_nat hk, bind_some', bind_some', setI_nat hk2, bind_some', utake_eq, bind_some', ctake_eq, bind_some', takeU_bytes _ hu, takeC_uber, takeU_set hk (xor_ne h), takeC_set hk2 (xor_ne h)]
    simp [uans, cans]

/-! ## The first half -/
theorem seal_half {s t : Str} (hs : s.length ≤ 112) (ht : t.length ≤ 112) : (seal' s).take 128 ++ (seal' t).drop 128 = seal' s := by
  have h : ∀ x : Str, x.length ≤ 112 → (seal' x).drop 128 = zeros 128 := fun x hx => by
    unfold seal'
    have hl : (x ++ sumBytes (sumOf x)).length = x.length + 16 := by rw [List.length_append, sumBytes_length]
    rw [List.drop_append, List.drop_eq_nil_of_le (by omega), List.nil_append]
    unfold zeros
    rw [List.drop_replicate]; congr 1; omega
  rw [h t ht, ← h s hs, List.take_append_drop]
theorem seal_drop128 {s : Str} (hs : s.length ≤ 112) : (seal' s).drop 128 = zeros 128 := by
  unfold seal'
  have hl : (s ++ sumBytes (sumOf s)).length = s.length + 16 := by rw [List.length_append, sumBytes_length]
  rw [List.drop_append, List.drop_eq_nil_of_le (by omega), List.nil_append]
  unfold zeros
  rw [List.drop_replicate]; congr 1; omega
theorem takeU_zeros (r : Str) : takeU (zeros 128 ++ r) = none := by
  cases h : takeU (zeros 128 ++ r) with
  | none => rfl
  | some v =>
    obtain ⟨_, h2⟩ := takeU_some h
    have h3 := bytesU_head v
    rw [h2] at h3
    cases h3
theorem slice_lo {x : Str} (h : x.length = 256) : slL x 0 128 = some (x.take 128) := by
  have := slL_to (xs := x) (l := 128) (by omega)
  exact this
theorem slice_hi {x : Str} (h : x.length = 256) : slL x 128 (x.length : Int) = some (x.drop 128) := by
  have := slL_from (xs := x) (l := 128) (by omega)
  exact this
theorem law_UberHalf (t0 t1 : A4 UInt16) : M_law6_UberHalf t0 t1 = some true := by
  unfold M_law6_UberHalf
  rw [begun6, bind_some', Bool.not_true, cond_false]
  obtain ⟨e1, b1⟩ := r6 t0.x2
  obtain ⟨e2, b2⟩ := r900 t0.x3
  obtain ⟨e3, b3⟩ := r201 t0.x2
  obtain ⟨e4, b4⟩ := r6 t1.x2
  obtain ⟨e5, b5⟩ := r900 t1.x3
  have hu := uN_ok (a := t0.x0) (b := t0.x1) b1 b2
  have hv := uN_ok (a := t1.x0) (b := t1.x1) b4 b5
  have hc := cN_ok t0.x1 b3
  have hl1 := bytesU_length (uN t0.x0 t0.x1 (t0.x2 % 6) (t0.x3 % 900))
  have hl2 := bytesU_length (uN t1.x0 t1.x1 (t1.x2 % 6) (t1.x3 % 900))
  have hl3 := bytesC_length (t0.x1.toNat : Int) (w64 (40 + ((t0.x2 % 201).toNat : Int)))
  have hmk : makeL 1 128 (0 : UInt8) = some (zeros 128) := makeL_nat (n := 128) (by decide) (by decide)
  have hz : (zeros 128).length = 128 := by unfold zeros; exact List.length_replicate
  simp only [e1, e2, e3, e4, e5, bind_some', uput_eq, uN_eq, hu, hv, if_true, cfg_eq, putC_ok hc, hl1, hl2, hl3, hmk, slice_lo hl1, slice_lo hl2, slice_lo hl3]
  have q1 := slice_hi hl1
  have q2 := slice_hi hl2
  rw [hl1] at q1
  rw [hl2] at q2
  have hn : (((((256 : Nat) : Int) != 256) || (((256 : Nat) : Int) != 256)) || (((256 : Nat) : Int) != 256)) = false := rfl
  have g3 := seal_drop128 (s := headU (uN t0.x0 t0.x1 (t0.x2 % 6) (t0.x3 % 900))) (by rw [headU_length]; omega)
  have g3v := seal_drop128 (s := headU (uN t1.x0 t1.x1 (t1.x2 % 6) (t1.x3 % 900))) (by rw [headU_length]; omega)
  have g5v : (seal' (headU (uN t1.x0 t1.x1 (t1.x2 % 6) (t1.x3 % 900)))).take 128 ++ zeros 128 = bytesU (uN t1.x0 t1.x1 (t1.x2 % 6) (t1.x3 % 900)) := by
    rw [← g3v, List.take_append_drop]; rfl
  have g4 := seal_drop128 (s := put3 172 (t0.x1.toNat : Int) (w64 (40 + ((t0.x2 % 201).toNat : Int)))) (by rw [put3_length]; omega)
  have g5 : (seal' (headU (uN t0.x0 t0.x1 (t0.x2 % 6) (t0.x3 % 900)))).take 128 ++ zeros 128 = bytesU (uN t0.x0 t0.x1 (t0.x2 % 6) (t0.x3 % 900)) := by
    rw [← g3, List.take_append_drop]; rfl
  have g6 : (bytesC (t0.x1.toNat : Int) (w64 (40 + ((t0.x2 % 201).toNat : Int)))).take 128 ++ zeros 128 = bytesC (t0.x1.toNat : Int) (w64 (40 + ((t0.x2 % 201).toNat : Int))) := by
    unfold bytesC
    rw [← g4, List.take_append_drop]
  change (bytesU _).drop 128 = _ at g3 g3v
  change (bytesU _).take 128 ++ zeros 128 = _ at g5 g5v
  have hadd2 : ∀ x : Str, x.length = 256 → addS (x.take 128) (zeros 128) = some (x.take 128 ++ zeros 128) := fun x hx => addS_eq (by rw [hz]; simp; omega)
  have hadd3 : addS (zeros 128) (zeros 128) = some (zeros 128 ++ zeros 128) := addS_eq (by rw [hz]; omega)
  rw [hn, cond_false]
  simp only [q1, q2, bind_some', hadd2 _ hl1, hadd2 _ hl2, hadd2 _ hl3, g3, g3v, g5, g5v, g6, hadd3, utake_eq, ctake_eq, takeU_bytes _ hu, takeU_bytes _ hv, takeU_zeros, takeC_bytes hc, uans, cans]
  simp [gd_some]
theorem beq_decide {a b : Str} {p : Prop} [Decidable p] (h : a = b ↔ p) : (a == b) = decide p := by
  by_cases q : p
  · rw [decide_eq_true q, h.2 q]; simp
  · rw [decide_eq_false q]; simp; exact fun e => q (h.1 e)
theorem bytesU_inj {u v : G_api_Uber} (hu : okUber u = true) (hv : okUber v = true) : bytesU u = bytesU v ↔ u = v := by
  constructor
  · intro e
    have a := takeU_bytes u hu
    have b := takeU_bytes v hv
    rw [e, b] at a; cases a; rfl
  · intro e; rw [e]
theorem bytesC_inj {g d g' d' : Int} (h : okCfg g d = true) (h' : okCfg g' d' = true) : bytesC g d = bytesC g' d' ↔ g = g' ∧ d = d' := by
  constructor
  · intro e
    have a := takeC_bytes h
    have b := takeC_bytes h'
    rw [e, b] at a; cases a; exact ⟨rfl, rfl⟩
  · rintro ⟨rfl, rfl⟩; rfl
def uB (a b c d e : UInt16) : G_api_Uber := ⟨w64 (1 + (a.toNat : Int)), (b.toNat : Int), (c.toNat : Int), ⟨w64 (1 + (d.toNat : Int)), (e.toNat : Int), ⟨0, 0, 0, 0⟩⟩⟩
theorem uB_ok {a b c d e : UInt16} (hc : c.toNat < 6) (hd : d.toNat < 900) : okUber (uB a b c d e) = true := by
  have ha := a.toNat_lt
  have hb := b.toNat_lt
  have he := e.toNat_lt
  have hp : okPtr (uB a b c d e).Root = true := by
    rw [okPtr_iff]; right
    unfold uB
    simp only
    rw [w64_id (by omega) (by omega)]; omega
  have hz : ¬ (uB a b c d e).Root = zp := by
    intro e
    have := congrArg G_api_Ptr.Addr e
    unfold uB zp at this
    simp only at this
    rw [w64_id (by omega) (by omega)] at this; omega
  unfold okUber
  rw [hp, decide_eq_false hz, decide_eq_true]
  · rfl
  · unfold uB
    simp only
    rw [w64_id (by omega) (by omega)]; omega
theorem uB_eq (a b c d e : UInt16) : (⟨w64 (1 + (a.toNat : Int)), (b.toNat : Int), (c.toNat : Int), ⟨w64 (1 + (d.toNat : Int)), (e.toNat : Int), ⟨0, 0, 0, 0⟩⟩⟩ : G_api_Uber) = uB a b c d e := rfl
theorem r9 (x : UInt16) : rem16 x 9 = some (x % 9) := rfl
theorem r3 (x : UInt16) : rem16 x 3 = some (x % 3) := rfl
theorem law_UberBack (t0 t1 : A4 UInt16) : M_law6_UberBack t0 t1 = some true := by
  unfold M_law6_UberBack
  rw [begun6, bind_some', Bool.not_true, cond_false]
  obtain ⟨e1, b1⟩ := r6 t0.x2
  obtain ⟨e2, b2⟩ := r900 t0.x3
  obtain ⟨e3, b3⟩ := r201 t0.x2
  obtain ⟨e4, b4⟩ := r6 t1.x2
  obtain ⟨e5, b5⟩ := r900 t1.x3
  obtain ⟨e6, b6⟩ := r201 t1.x2
  have hu := uB_ok (a := t0.x0 % 9) (b := t0.x1 % 3) (e := t0.x0) b1 b2
  have hv := uB_ok (a := t1.x0 % 9) (b := t1.x1 % 3) (e := t1.x0) b4 b5
  have hc := cN_ok t0.x1 b3
  have hd := cN_ok t1.x1 b6
  have hl1 := bytesU_length (uB (t0.x0 % 9) (t0.x1 % 3) (t0.x2 % 6) (t0.x3 % 900) t0.x0)
  simp only [e1, e2, e3, e4, e5, e6, r9, r3, bind_some', uput_eq, uB_eq, hu, hv, if_true, cfg_eq, putC_ok hc, putC_ok hd, utake_eq, ctake_eq, takeU_cfg, takeC_bytes hc, hl1, gd_some, show ((((256 : Nat) : Int) == 256) == true) = true from rfl]
  rw [beq_decide (bytesU_inj hu hv), beq_decide (bytesC_inj hc hd)]
  have hint : ∀ a b : Int, (a == b) = decide (a = b) := fun a b => by rw [Bool.eq_iff_iff]; simp
  simp only [hint, Bool.decide_and, uans, cans, if_true, decide_true, beq_self_eq_true, Bool.not_false, Bool.and_true, Bool.and_self]
  refine congrArg some ?_
  rw [Bool.and_eq_true, beq_iff_eq]
  exact ⟨rfl, decide_eq_decide.2 Iff.rfl⟩
end Go.Proofs
