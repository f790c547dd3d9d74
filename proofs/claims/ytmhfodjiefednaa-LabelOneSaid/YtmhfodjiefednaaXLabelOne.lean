/-
  The law of a group of which one place is left.
-/
import Derived.Test.YtmhfodjiefednaaR710
import Derived.Test.YtmhfodjiefednaaR73
import Derived.Test.YtmhfodjiefednaaR77
import Derived.Test.YtmhfodjiefednaaR7B
import Derived.Test.YtmhfodjiefednaaR7WLabelOne
import Derived.Test.YtmhfodjiefednaaLW1
set_option maxRecDepth 20000
namespace Go.Proofs
open Go Go.Fhl
set_option linter.unusedVariables false
set_option linter.unusedSimpArgs false
/-- Is a bit nought? -/
def bt (t : UInt8) (k : Nat) : Bool := ((UInt8.ofNat (t.toNat / 2 ^ (min k 8))) &&& 1) == 0
theorem shr_bt (t : UInt8) (k : Nat) : shr8 t (k : Int) = some (UInt8.ofNat (t.toNat / 2 ^ (min k 8))) := by
  unfold shr8; rw [if_pos (by omega), Int.toNat_natCast]
theorem bits_eq (t : UInt8) : ((t &&& 15) == 15) = !(bt t 0 || bt t 1 || bt t 2 || bt t 3) ∧ shr8 t 4 = some (UInt8.ofNat (t.toNat / 16)) ∧ (UInt8.ofNat (t.toNat / 16) == 15) = !(bt t 4 || bt t 5 || bt t 6 || bt t 7) := by
  have k : ∀ m, m < 256 → ((UInt8.ofNat m &&& 15) == 15) = !(bt (UInt8.ofNat m) 0 || bt (UInt8.ofNat m) 1 || bt (UInt8.ofNat m) 2 || bt (UInt8.ofNat m) 3) ∧ (UInt8.ofNat ((UInt8.ofNat m).toNat / 16) == 15) = !(bt (UInt8.ofNat m) 4 || bt (UInt8.ofNat m) 5 || bt (UInt8.ofNat m) 6 || bt (UInt8.ofNat m) 7) := by decide +kernel
  have := k t.toNat t.toNat_lt
  rw [UInt8.ofNat_toNat] at this
  exact ⟨this.1, shr_bt t 4, this.2⟩
def optP (b : Bool) (p : G_api_Put) : List G_api_Put := if b = true then [p] else []
theorem optP_mem {b : Bool} {p q : G_api_Put} : q ∈ optP b p ↔ b = true ∧ q = p := by
  unfold optP; split
  · rename_i h; simp [h]
  · rename_i h; simp [h]
theorem optP_len (b : Bool) (p : G_api_Put) : (optP b p).length ≤ 1 := by unfold optP; split <;> simp
theorem one_l1 (t0 : A4 UInt8) (t : UInt8) (x3 : Ub) (f k : Nat) (hk : k < 4) (w : List G_api_Put) (hw : w.length ≤ 100) :
    M_law7_LabelOne_l1 t0 t x3 (f + 1) (k : Int) (dev68 w) = M_law7_LabelOne_l1 t0 t x3 f ((k + 1 : Nat) : Int) (dev68 (w ++ optP (bt t k) (cfgP (k : Int)))) := by
  rw [M_law7_LabelOne_l1, decide_eq_true (by omega), cond_true, shr_bt, bind_some']
  unfold M_law7_LabelOne_k1 optP
  rw [w64_succ (by omega)]
  show cond (bt t k) _ _ = _
  cases bt t k with
  | true =>
    rw [cond_true, at_eq, bind_some', cfg40, bind_some']
    show Option.bind (M_ref1_Write (dev68 w) [cfgP (k : Int)]) _ = _
    rw [write68 (by omega) (by simp) (fun p hp => by simp at hp; subst hp; exact cfgP_ok (by omega)), bind_some', if_pos rfl]
  | false => rw [cond_false, if_neg (by decide), List.append_nil]
theorem one_l3 (c1 c2 : Int → G_api_Dev → Option Bool) (t0 : A4 UInt8) (t : UInt8) (x3 : Ub) (h : Nat) (hh : h < 2) (p0 p1 : G_api_Put) (h0 : 0 ≤ p0.At ∧ p0.At < 68 ∧ p0.B.length = 256) (h1 : 0 ≤ p1.At ∧ p1.At < 68 ∧ p1.B.length = 256) (w : List G_api_Put) (hw : w.length ≤ 100) :
    M_law7_LabelOne_l3 c1 c2 t0 t x3 (h : Int) [p0, p1] fuel 0 (dev68 w) = c2 ((h + 1 : Nat) : Int) (dev68 ((w ++ optP (bt t (4 + h)) p0) ++ optP (bt t (6 + h)) p1)) := by
  obtain ⟨f, hf⟩ : ∃ f, fuel = f + 1 + 1 + 1 := ⟨4611686018427387901, rfl⟩
  have e1 : w64 (w64 (4 + (h : Int)) + w64 (2 * 0)) = ((4 + h : Nat) : Int) := by
    rw [w64_id (n := 4 + (h : Int)) (by omega) (by omega), show w64 (2 * 0) = 0 from by kernel_rfl, w64_id (by omega) (by omega)]; omega
  have e2 : w64 (w64 (4 + (h : Int)) + w64 (2 * (0 + 1))) = ((6 + h : Nat) : Int) := by
    rw [w64_id (n := 4 + (h : Int)) (by omega) (by omega), show w64 (2 * (0 + 1)) = 2 from by kernel_rfl, w64_id (by omega) (by omega)]; omega
  have n1 : w64 (0 + 1) = 0 + 1 := by kernel_rfl
  have n2 : w64 (0 + 1 + 1) = 2 := by kernel_rfl
  have s1 : slL [p0, p1] 0 (0 + 1) = some [p0] := rfl
  have s2 : slL [p0, p1] (0 + 1) 2 = some [p1] := rfl
  have step : ∀ (b : Bool) (p : G_api_Put) (w : List G_api_Put) (hw : w.length ≤ 900) (hp : 0 ≤ p.At ∧ p.At < 68 ∧ p.B.length = 256) (c : G_api_Dev → Option Bool), cond b (Option.bind (some [p]) fun x => Option.bind (M_ref1_Write (dev68 w) x) fun y => c y.1) (c (dev68 w)) = c (dev68 (w ++ optP b p)) := by
    intro b p w hw hp c
    unfold optP
    cases b with
    | true => rw [cond_true, bind_some', write68 (by omega) (by simp) (fun q hq => by simp at hq; subst hq; exact hp), bind_some', if_pos rfl]
    | false => rw [cond_false, if_neg (by decide), List.append_nil]
  have l1 := optP_len (bt t (4 + h)) p0
  rw [hf, M_law7_LabelOne_l3, decide_eq_true (by omega), cond_true, e1, shr_bt, bind_some', n1, s1]
  unfold M_law7_LabelOne_k2
  rw [n1]
  refine (step (bt t (4 + h)) p0 w (by omega) h0 (fun d => M_law7_LabelOne_l3 c1 c2 t0 t x3 (h : Int) [p0, p1] (f + 1 + 1) (0 + 1) d)).trans ?_
  show M_law7_LabelOne_l3 c1 c2 t0 t x3 (h : Int) [p0, p1] (f + 1 + 1) (0 + 1) _ = _
  rw [M_law7_LabelOne_l3, decide_eq_true (by omega), cond_true, e2, shr_bt, bind_some', n2, s2]
  unfold M_law7_LabelOne_k2
  rw [n2]
  refine (step (bt t (6 + h)) p1 (w ++ optP (bt t (4 + h)) p0) (by simp; omega) h1 (fun d => M_law7_LabelOne_l3 c1 c2 t0 t x3 (h : Int) [p0, p1] (f + 1) 2 d)).trans ?_
  show M_law7_LabelOne_l3 c1 c2 t0 t x3 (h : Int) [p0, p1] (f + 1) 2 _ = _
  rw [M_law7_LabelOne_l3, decide_eq_false (by omega), cond_false, w64_succ (by omega)]
/-- All that is written. -/
def oneW (t : UInt8) (u : Ub) : List G_api_Put := ((((((((([] ++ optP (bt t 0) (cfgP 0)) ++ optP (bt t 1) (cfgP 1)) ++ optP (bt t 2) (cfgP 2)) ++ optP (bt t 3) (cfgP 3))) ++ optP (bt t 4) (ubP 0 u)) ++ optP (bt t 6) (ubP 2 u)) ++ optP (bt t 5) (ubP 1 u)) ++ optP (bt t 7) (ubP 3 u))
def cb (t : UInt8) (k : Int) : Bool := bt t k.toNat
def ub (t : UInt8) (k : Int) : Bool := bt t (4 + k.toNat)
theorem oneW_mem {t : UInt8} {u : Ub} {q : G_api_Put} : q ∈ oneW t u ↔ (∃ k : Int, (0 ≤ k ∧ k < 4) ∧ cb t k = true ∧ q = cfgP k) ∨ (∃ k : Int, (0 ≤ k ∧ k < 4) ∧ ub t k = true ∧ q = ubP k u) := by
  unfold oneW
  simp only [List.mem_append, optP_mem, List.not_mem_nil, false_or]
  constructor
  · rintro (((((((h | h) | h) | h) | h) | h) | h) | h)
    · exact .inl ⟨0, by omega, h⟩
    · exact .inl ⟨1, by omega, h⟩
    · exact .inl ⟨2, by omega, h⟩
    · exact .inl ⟨3, by omega, h⟩
    · exact .inr ⟨0, by omega, h⟩
    · exact .inr ⟨2, by omega, h⟩
    · exact .inr ⟨1, by omega, h⟩
    · exact .inr ⟨3, by omega, h⟩
  · rintro (⟨k, hk, h⟩ | ⟨k, hk, h⟩)
    · have : k = 0 ∨ k = 1 ∨ k = 2 ∨ k = 3 := by omega
      rcases this with rfl | rfl | rfl | rfl
      · exact .inl (.inl (.inl (.inl (.inl (.inl (.inl h))))))
      · exact .inl (.inl (.inl (.inl (.inl (.inl (.inr h))))))
      · exact .inl (.inl (.inl (.inl (.inl (.inr h)))))
      · exact .inl (.inl (.inl (.inl (.inr h))))
    · have : k = 0 ∨ k = 1 ∨ k = 2 ∨ k = 3 := by omega
      rcases this with rfl | rfl | rfl | rfl
      · exact .inl (.inl (.inl (.inr h)))
      · exact .inl (.inr h)
      · exact .inl (.inl (.inr h))
      · exact .inr h
section
variable {t : UInt8} {u : Ub} (hu : okUber u = true) (hg : u.Guid = 7)
include hu
theorem one_cfg {k : Int} (hk : 0 ≤ k ∧ k < 4) : devRead (dev68 (oneW t u)) (atS 40 k) = (if cb t k = true then bytesC 7 40 else zeros 256, true) := by
  have hs := okU_seat hu
  by_cases b : cb t k = true
  · rw [if_pos b]
    refine read68_at (p := cfgP k) (at_in hk) (oneW_mem.2 (.inl ⟨k, hk, b, rfl⟩)) rfl (fun q hq he => ?_)
    rcases oneW_mem.1 hq with ⟨j, hj, _, rfl⟩ | ⟨j, hj, _, rfl⟩
    · rfl
    · exact absurd he.symm (atS_slot hk hj hs)
  · rw [if_neg b]
    refine read68_none (at_in hk) (fun q hq he => ?_)
    rcases oneW_mem.1 hq with ⟨j, hj, b2, rfl⟩ | ⟨j, hj, _, rfl⟩
    · have := atS_inj hj hk he
      subst this; exact b b2
    · exact atS_slot hk hj hs he.symm
theorem one_ub {k s : Int} (hk : 0 ≤ k ∧ k < 4) (hs : 0 ≤ s ∧ s < 6) : devRead (dev68 (oneW t u)) (slotS 40 k s) = (if s = u.Seat ∧ ub t k = true then bytesU u else zeros 256, true) := by
  have hsu := okU_seat hu
  by_cases b : s = u.Seat ∧ ub t k = true
  · rw [if_pos b]
    refine read68_at (p := ubP k u) (slot_in hk hs) (oneW_mem.2 (.inr ⟨k, hk, b.2, rfl⟩)) (by show slotS 40 k u.Seat = _; rw [b.1]) (fun q hq he => ?_)
    rcases oneW_mem.1 hq with ⟨j, hj, _, rfl⟩ | ⟨j, hj, _, rfl⟩
    · exact absurd he (atS_slot hj hk hs)
    · rfl
  · rw [if_neg b]
    refine read68_none (slot_in hk hs) (fun q hq he => ?_)
    rcases oneW_mem.1 hq with ⟨j, hj, b2, rfl⟩ | ⟨j, hj, b2, rfl⟩
    · exact atS_slot hj hk hs he
    · have := slot_inj hj hk hsu hs he
      exact b ⟨this.2.symm, by rw [← this.1]; exact b2⟩
theorem one_cfgAt {k : Int} (hk : 0 ≤ k ∧ k < 4) : cfgAt (dev68 (oneW t u)) k = if cb t k = true then some 7 else none := by
  unfold cfgAt
  rw [nD68, one_cfg hu hk]
  by_cases b : cb t k = true
  · simp only [if_pos b, takeC_bytes (show okCfg 7 40 = true by decide), and_self, if_true]
  · simp only [if_neg b, takeC_zeros]
theorem one_found : foundS (dev68 (oneW t u)) = if (bt t 0 || bt t 1 || bt t 2 || bt t 3) = true then some 7 else none := by
  unfold foundS
  simp only [List.findSome?, one_cfgAt hu (k := 0) (by omega), one_cfgAt hu (k := 1) (by omega), one_cfgAt hu (k := 2) (by omega), one_cfgAt hu (k := 3) (by omega)]
  have e0 : cb t 0 = bt t 0 := rfl
  have e1 : cb t 1 = bt t 1 := rfl
  have e2 : cb t 2 = bt t 2 := rfl
  have e3 : cb t 3 = bt t 3 := rfl
  rw [e0, e1, e2, e3]
  cases bt t 0 <;> cases bt t 1 <;> cases bt t 2 <;> cases bt t 3 <;> rfl
include hg
theorem one_candAt {k s : Int} (hk : 0 ≤ k ∧ k < 4) (hs : 0 ≤ s ∧ s < 6) : candAt (dev68 (oneW t u)) 40 7 k s = if s = u.Seat ∧ ub t k = true then some u else none := by
  unfold candAt
  rw [one_ub hu hk hs]
  by_cases b : s = u.Seat ∧ ub t k = true
  · obtain ⟨rfl, b2⟩ := b
    simp only [b2, and_self, if_true, takeU_bytes u hu, hg]
  · simp only [if_neg b, takeU_zeros256]
theorem one_cands (v : Ub) : v ∈ candsS (dev68 (oneW t u)) 40 7 ↔ v = u ∧ (bt t 4 || bt t 5 || bt t 6 || bt t 7) = true := by
  have e0 : ub t 0 = bt t 4 := rfl
  have e1 : ub t 1 = bt t 5 := rfl
  have e2 : ub t 2 = bt t 6 := rfl
  have e3 : ub t 3 = bt t 7 := rfl
  have hsu := okU_seat hu
  rw [cands_mem]
  constructor
  · rintro ⟨k, s, hk, hs, e⟩
    rw [one_candAt hu hg hk hs] at e
    by_cases b : s = u.Seat ∧ ub t k = true
    · rw [if_pos b, Option.some.injEq] at e
      refine ⟨e.symm, ?_⟩
      have b2 := b.2
      have : k = 0 ∨ k = 1 ∨ k = 2 ∨ k = 3 := by omega
      rcases this with rfl | rfl | rfl | rfl
      · rw [e0] at b2; rw [b2]; rfl
      · rw [e1] at b2; rw [b2, Bool.or_true]; rfl
      · rw [e2] at b2; rw [b2, Bool.or_true]; rfl
      · rw [e3] at b2; rw [b2, Bool.or_true]
    · rw [if_neg b] at e; cases e
  · rintro ⟨rfl, b⟩
    simp only [Bool.or_eq_true] at b
    rcases b with ((b | b) | b) | b
    · exact ⟨0, v.Seat, by omega, hsu, by rw [one_candAt hu hg (by omega) hsu, if_pos ⟨rfl, b⟩]⟩
    · exact ⟨1, v.Seat, by omega, hsu, by rw [one_candAt hu hg (by omega) hsu, if_pos ⟨rfl, b⟩]⟩
    · exact ⟨2, v.Seat, by omega, hsu, by rw [one_candAt hu hg (by omega) hsu, if_pos ⟨rfl, b⟩]⟩
    · exact ⟨3, v.Seat, by omega, hsu, by rw [one_candAt hu hg (by omega) hsu, if_pos ⟨rfl, b⟩]⟩
theorem one_roots (hx : 1 ≤ u.Txg ∧ u.Txg ≤ 12) : M_label_Roots (dev68 (oneW t u)) = some (if (bt t 0 || bt t 1 || bt t 2 || bt t 3) = true ∧ (bt t 4 || bt t 5 || bt t 6 || bt t 7) = true then [u] else []) := by
  have hw : (dev68 (oneW t u)).Wait.length ≤ 1000000 := by
    show (oneW t u).length ≤ 1000000
    have a0 := optP_len (bt t 0) (cfgP 0)
    have a1 := optP_len (bt t 1) (cfgP 1)
    have a2 := optP_len (bt t 2) (cfgP 2)
    have a3 := optP_len (bt t 3) (cfgP 3)
    have a4 := optP_len (bt t 4) (ubP 0 u)
    have a5 := optP_len (bt t 6) (ubP 2 u)
    have a6 := optP_len (bt t 5) (ubP 1 u)
    have a7 := optP_len (bt t 7) (ubP 3 u)
    unfold oneW
    simp only [List.length_append, List.length_nil]
    omega
  have hl : (dev68 (oneW t u)).Last.length ≤ 1000000 := by unfold dev68; simp
  have hf := one_found (t := t) hu
  by_cases b : (bt t 0 || bt t 1 || bt t 2 || bt t 3) = true
  · rw [if_pos b] at hf
    have hall := fold_all (cs := candsS (dev68 (oneW t u)) 40 7) (fun x hx y hy _ => by rw [((one_cands hu hg x).1 hx).1, ((one_cands hu hg y).1 hy).1])
    have h12 : ((candsS (dev68 (oneW t u)) (nD (dev68 (oneW t u))) 7).foldl addS' []).length ≤ 12 := by
      rw [nD68]
      refine apart_len (fold_apart _ List.Pairwise.nil) (fun v hv => ?_)
      rw [((one_cands hu hg v).1 ((hall v).1 hv)).1]; exact hx
    obtain ⟨r, e1, e2, e3⟩ := roots_spec hw hl hf h12
    rw [nD68] at e3
    rw [e1]
    congr 1
    by_cases b2 : (bt t 4 || bt t 5 || bt t 6 || bt t 7) = true
    · rw [if_pos ⟨b, b2⟩]
      refine falls_ext e2 (List.pairwise_singleton _ _) (fun v => ?_)
      rw [e3, hall, one_cands hu hg, List.mem_singleton]
      exact ⟨fun q => q.1, fun q => ⟨q, b2⟩⟩
    · rw [if_neg (fun q => b2 q.2)]
      refine falls_ext e2 List.Pairwise.nil (fun v => ?_)
      rw [e3, hall, one_cands hu hg]
      exact ⟨fun q => absurd q.2 b2, fun q => by cases q⟩
  · rw [if_neg b] at hf
    rw [roots_none hw hl hf, if_neg (fun q => b q.1)]
end
theorem law_LabelOne (t0 : A4 UInt8) (t : UInt8) : M_law7_LabelOne t0 t = some true := by
  unfold M_law7_LabelOne
  obtain ⟨v, e3, hv, hx, hg, hs0, hs6, hp, hz⟩ := uof_eq t0
  rw [begun7, bind_some', Bool.not_true, cond_false, e3, bind_some', new68, bind_some']
  obtain ⟨u, hudef⟩ : ∃ u : Ub, u = ⟨v.Txg, 7, v.Seat, v.Root⟩ := ⟨_, rfl⟩
  have hu : okUber u = true := by
    rw [hudef]
    unfold okUber
    simp only [hp, decide_eq_false hz, Bool.not_false, Bool.and_true, decide_eq_true_eq]
    omega
  have hgu : u.Guid = 7 := by rw [hudef]
  have hxu : 1 ≤ u.Txg ∧ u.Txg ≤ 12 := by rw [hudef]; exact hx
  have hsu := okU_seat hu
  obtain ⟨f, hf⟩ : ∃ f, fuel = f + 1 + 1 + 1 + 1 + 1 := ⟨4611686018427387899, rfl⟩
  have a0 := optP_len (bt t 0) (cfgP 0)
  have a1 := optP_len (bt t 1) (cfgP 1)
  have a2 := optP_len (bt t 2) (cfgP 2)
  have a3 := optP_len (bt t 3) (cfgP 3)
  have a4 := optP_len (bt t 4) (ubP 0 u)
  have a5 := optP_len (bt t 6) (ubP 2 u)
  have q0 := one_l1 t0 t v (f + 1 + 1 + 1 + 1) 0 (by omega) [] (by simp)
  have q1 := one_l1 t0 t v (f + 1 + 1 + 1) 1 (by omega) ([] ++ optP (bt t 0) (cfgP 0)) (by simp; omega)
  have q2 := one_l1 t0 t v (f + 1 + 1) 2 (by omega) (([] ++ optP (bt t 0) (cfgP 0)) ++ optP (bt t 1) (cfgP 1)) (by simp; omega)
  have q3 := one_l1 t0 t v (f + 1) 3 (by omega) ((([] ++ optP (bt t 0) (cfgP 0)) ++ optP (bt t 1) (cfgP 1)) ++ optP (bt t 2) (cfgP 2)) (by simp; omega)
  have q := (q0.trans (q1.trans (q2.trans q3)))
  rw [hf]
  refine q.trans ?_
  rw [M_law7_LabelOne_l1, decide_eq_false (by omega), cond_false]
  have ph : ∀ h : Int, 0 ≤ h → h < 2 → M_label_Phase 40 u h = some [ubP h u, ubP (h + 2) u] := fun h a b => phase40 hu ⟨a, b⟩
  have r0 := one_l3 (M_law7_LabelOne_l1 t0 t v f) (M_law7_LabelOne_l2 (M_law7_LabelOne_l1 t0 t v f) t0 t v (f + 1 + 1 + 1 + 1)) t0 t v 0 (by omega) (ubP 0 u) (ubP 2 u) (ubP_ok (by omega) hsu) (ubP_ok (by omega) hsu) (((([] ++ optP (bt t 0) (cfgP 0)) ++ optP (bt t 1) (cfgP 1)) ++ optP (bt t 2) (cfgP 2)) ++ optP (bt t 3) (cfgP 3)) (by simp; omega)
  have r1 := one_l3 (M_law7_LabelOne_l1 t0 t v f) (M_law7_LabelOne_l2 (M_law7_LabelOne_l1 t0 t v f) t0 t v (f + 1 + 1 + 1)) t0 t v 1 (by omega) (ubP 1 u) (ubP 3 u) (ubP_ok (by omega) hsu) (ubP_ok (by omega) hsu) (((((([] ++ optP (bt t 0) (cfgP 0)) ++ optP (bt t 1) (cfgP 1)) ++ optP (bt t 2) (cfgP 2)) ++ optP (bt t 3) (cfgP 3)) ++ optP (bt t 4) (ubP 0 u)) ++ optP (bt t 6) (ubP 2 u)) (by simp; omega)
  rw [hf, M_law7_LabelOne_l2, decide_eq_true (by omega), cond_true, ← hudef, ph 0 (by omega) (by omega), bind_some', show (((([ubP 0 u, ubP (0 + 2) u] : List G_api_Put).length : Int)) != 2) = false from rfl, cond_false]
  refine r0.trans ?_
  rw [M_law7_LabelOne_l2, decide_eq_true (by omega), cond_true, ← hudef]
  have ph1 := ph ((0 + 1 : Nat) : Int) (by omega) (by omega)
  rw [ph1, bind_some', show (((([ubP ((0 + 1 : Nat) : Int) u, ubP (((0 + 1 : Nat) : Int) + 2) u] : List G_api_Put).length : Int)) != 2) = false from rfl, cond_false]
  refine r1.trans ?_
  rw [M_law7_LabelOne_l2, decide_eq_false (by omega), cond_false, ← hudef]
  have hr := one_roots (t := t) hu hgu hxu
  obtain ⟨b1, b2, b3⟩ := bits_eq t
  have hr' : M_label_Roots (dev68 ((((((([] ++ optP (bt t 0) (cfgP 0)) ++ optP (bt t 1) (cfgP 1)) ++ optP (bt t 2) (cfgP 2)) ++ optP (bt t 3) (cfgP 3)) ++ optP (bt t 4) (ubP 0 u)) ++ optP (bt t 6) (ubP 2 u)) ++ optP (bt t (4 + 1)) (ubP 1 u) ++ optP (bt t (6 + 1)) (ubP 3 u))) = _ := hr
  rw [hr', bind_some', b2, gd_some, bind_some', b1]
  by_cases c1 : (bt t 0 || bt t 1 || bt t 2 || bt t 3) = true
  · rw [c1]
    by_cases c2 : (bt t 4 || bt t 5 || bt t 6 || bt t 7) = true
    · rw [c2] at b3
      simp only [Bool.not_true, lFF, if_true, Bool.false_or, b3, cond_false, c2, and_self]
      show Option.bind (gd true (some u)) (fun x30 => some (true && decide (x30 = u))) = some true
      rw [gd_true, bind_some', decide_eq_true rfl]; rfl
    · have c2' : (bt t 4 || bt t 5 || bt t 6 || bt t 7) = false := by simpa using c2
      rw [c2'] at b3
      simp only [Bool.not_true, lFF, if_true, Bool.false_or, b3, cond_true, Bool.not_false, c2', and_false, if_false]
      rfl
  · have c1' : (bt t 0 || bt t 1 || bt t 2 || bt t 3) = false := by simpa using c1
    rw [c1']
    simp only [Bool.not_false, Bool.true_or, cond_true, Bool.false_eq_true, false_and, if_false]
    rfl
end Go.Proofs
