/-
  The law of a device of which a byte is turned.
-/
import Derived.Test.YtmhfodjiefednaaR710
import Derived.Test.YtmhfodjiefednaaR718
import Derived.Test.YtmhfodjiefednaaR73
import Derived.Test.YtmhfodjiefednaaR75
import Derived.Test.YtmhfodjiefednaaR77
import Derived.Test.YtmhfodjiefednaaR7B
import Derived.Test.YtmhfodjiefednaaR7WLabelTurned
import Derived.Test.YtmhfodjiefednaaLW1
set_option maxRecDepth 20000
namespace Go.Proofs
open Go Go.Fhl
set_option linter.unusedVariables false
set_option linter.unusedSimpArgs false
def uJ (j : Nat) : Ub := ⟨(j : Int), 7, ((j % 6 : Nat) : Int), ⟨13 + (j : Int), (j : Int), ⟨0, 0, 0, 0⟩⟩⟩
theorem uJ_ok {j : Nat} (h : 1 ≤ j ∧ j ≤ 9) : okUber (uJ j) = true := by
  have hp : okPtr ⟨13 + (j : Int), (j : Int), ⟨0, 0, 0, 0⟩⟩ = true := (okPtr_iff _).2 (.inr ⟨by show (0 : Int) < 13 + (j : Int); omega, by show 13 + (j : Int) ≤ 65535; omega, by show (0 : Int) ≤ (j : Int); omega, by show (j : Int) ≤ 1073741824; omega⟩)
  have hz : ¬ (⟨13 + (j : Int), (j : Int), ⟨0, 0, 0, 0⟩⟩ : G_api_Ptr) = zp := by
    intro e
    have : 13 + (j : Int) = 0 := congrArg G_api_Ptr.Addr e
    omega
  unfold okUber uJ
  simp only [hp, decide_eq_false hz, Bool.not_false, Bool.and_true, decide_eq_true_eq]
  omega
theorem uJ_seat (j : Nat) : 0 ≤ (uJ j).Seat ∧ (uJ j).Seat < 6 := by
  show 0 ≤ ((j % 6 : Nat) : Int) ∧ ((j % 6 : Nat) : Int) < 6
  omega
def four (u : Ub) : List G_api_Put := [ubP 0 u, ubP 2 u, ubP 1 u, ubP 3 u]
def WJ : Nat → List G_api_Put
  | 0 => [cfgP 0, cfgP 1, cfgP 2, cfgP 3]
  | j + 1 => WJ j ++ four (uJ (j + 1))
theorem WJ_len : ∀ j, (WJ j).length = 4 + 4 * j := by
  intro j
  induction j with
  | zero => rfl
  | succ j ih => rw [WJ, List.length_append, ih]; show 4 + 4 * j + 4 = _; omega
theorem four_ok {u : Ub} (hs : 0 ≤ u.Seat ∧ u.Seat < 6) : ∀ p ∈ four u, 0 ≤ p.At ∧ p.At < 68 ∧ p.B.length = 256 := by
  intro p hp
  unfold four at hp
  simp only [List.mem_cons, List.not_mem_nil, or_false] at hp
  rcases hp with rfl | rfl | rfl | rfl
  · exact ubP_ok (by omega) hs
  · exact ubP_ok (by omega) hs
  · exact ubP_ok (by omega) hs
  · exact ubP_ok (by omega) hs
theorem WJ_ok : ∀ j, ∀ p ∈ WJ j, 0 ≤ p.At ∧ p.At < 68 ∧ p.B.length = 256 := by
  intro j
  induction j with
  | zero =>
    intro p hp
    simp only [WJ, List.mem_cons, List.not_mem_nil, or_false] at hp
    rcases hp with rfl | rfl | rfl | rfl
    · exact cfgP_ok (by omega)
    · exact cfgP_ok (by omega)
    · exact cfgP_ok (by omega)
    · exact cfgP_ok (by omega)
  | succ j ih =>
    intro p hp
    rw [WJ, List.mem_append] at hp
    rcases hp with hp | hp
    · exact ih p hp
    · exact four_ok (uJ_seat _) p hp
theorem k4c {k : Int} (h : 0 ≤ k ∧ k < 4) : k = 0 ∨ k = 1 ∨ k = 2 ∨ k = 3 := by omega
theorem four_slot {u : Ub} (hu : 0 ≤ u.Seat ∧ u.Seat < 6) {k s : Int} (hk : 0 ≤ k ∧ k < 4) (hs : 0 ≤ s ∧ s < 6) (z : Str) : contF z (four u) (slotS 40 k s) = if u.Seat = s then bytesU u else z := by
  unfold contF four
  have e : ∀ j : Int, 0 ≤ j ∧ j < 4 → ((ubP j u).At = slotS 40 k s ↔ j = k ∧ u.Seat = s) := fun j hj => ⟨fun h => slot_inj hj hk hu hs h, fun h => by show slotS 40 j u.Seat = _; rw [h.1, h.2]⟩
  simp only [List.foldl_cons, List.foldl_nil, e 0 (by omega), e 1 (by omega), e 2 (by omega), e 3 (by omega)]
  have eB : ∀ j : Int, (ubP j u).B = bytesU u := fun j => rfl
  simp only [eB]
  by_cases q : u.Seat = s
  · rcases k4c hk with rfl | rfl | rfl | rfl <;> simp [q]
  · simp [q]
theorem four_at {u : Ub} (hu : 0 ≤ u.Seat ∧ u.Seat < 6) {k : Int} (hk : 0 ≤ k ∧ k < 4) (z : Str) : contF z (four u) (atS 40 k) = z := by
  unfold contF four
  have e : ∀ j : Int, 0 ≤ j ∧ j < 4 → ¬ (ubP j u).At = atS 40 k := fun j hj h => atS_slot hk hj hu h.symm
  simp only [List.foldl_cons, List.foldl_nil, if_neg (e 0 (by omega)), if_neg (e 1 (by omega)), if_neg (e 2 (by omega)), if_neg (e 3 (by omega))]
/-- The last one that took a seat. -/
def LJ : Nat → Int → Option Nat
  | 0, _ => none
  | m + 1, s => if (((m + 1) % 6 : Nat) : Int) = s then some (m + 1) else LJ m s
theorem LJ_iff : ∀ (m : Nat) (s : Int) (j : Nat), LJ m s = some j ↔ 1 ≤ j ∧ j ≤ m ∧ ((j % 6 : Nat) : Int) = s ∧ m < j + 6 := by
  intro m
  induction m with
  | zero => intro s j; rw [LJ]; exact ⟨fun h => (by cases h), fun h => by omega⟩
  | succ m ih =>
    intro s j
    rw [LJ]
    split
    · rename_i h
      rw [Option.some.injEq]
      constructor
      · intro e; subst e; exact ⟨by omega, by omega, h, by omega⟩
      · intro e; omega
    · rename_i h
      rw [ih s j]
      constructor
      · intro e
        refine ⟨e.1, by omega, e.2.2.1, ?_⟩
        have : j ≠ m + 1 - 6 ∨ m + 1 < 6 + j := by omega
        by_cases q : m + 1 < j + 6
        · exact q
        · have : m + 1 = j + 6 := by omega
          exact absurd (by rw [← e.2.2.1, this]; omega) h
      · intro e
        refine ⟨e.1, ?_, e.2.2.1, by omega⟩
        by_cases q : j = m + 1
        · exact absurd (by rw [← q]; exact e.2.2.1) h
        · omega
def secU (o : Option Nat) : Str := match o with | some j => bytesU (uJ j) | none => zeros 256
theorem WJ_slot {k s : Int} (hk : 0 ≤ k ∧ k < 4) (hs : 0 ≤ s ∧ s < 6) : ∀ m, cont (WJ m) (slotS 40 k s) = secU (LJ m s) := by
  intro m
  induction m with
  | zero =>
    have e : ∀ j : Int, 0 ≤ j ∧ j < 4 → ¬ (cfgP j).At = slotS 40 k s := fun j hj h => atS_slot hj hk hs h
    unfold cont contF WJ
    simp only [List.foldl_cons, List.foldl_nil, if_neg (e 0 (by omega)), if_neg (e 1 (by omega)), if_neg (e 2 (by omega)), if_neg (e 3 (by omega))]
    rfl
  | succ m ih =>
    rw [WJ, cont_app, four_slot (uJ_seat _) hk hs, ih, LJ]
    show (if (((m + 1) % 6 : Nat) : Int) = s then _ else _) = _
    split <;> rfl
theorem WJ_at {k : Int} (hk : 0 ≤ k ∧ k < 4) : ∀ m, cont (WJ m) (atS 40 k) = bytesC 7 40 := by
  intro m
  induction m with
  | zero =>
    have e : ∀ j : Int, 0 ≤ j ∧ j < 4 → ((cfgP j).At = atS 40 k ↔ j = k) := fun j hj => ⟨fun h => atS_inj hj hk h, fun h => by rw [h]; rfl⟩
    have eB : ∀ j : Int, (cfgP j).B = bytesC 7 40 := fun j => rfl
    unfold cont contF WJ
    simp only [List.foldl_cons, List.foldl_nil, e 0 (by omega), e 1 (by omega), e 2 (by omega), e 3 (by omega), eB]
    rcases k4c hk with rfl | rfl | rfl | rfl <;> simp
  | succ m ih => rw [WJ, cont_app, four_at (uJ_seat _) hk, ih]
theorem contF_len {z : Str} (hz : z.length = 256) : ∀ (w : List G_api_Put) (i : Int), (∀ p ∈ w, p.B.length = 256) → (contF z w i).length = 256 := by
  intro w
  induction w generalizing z with
  | nil => intro i _; exact hz
  | cons p w ih =>
    intro i h
    unfold contF
    rw [List.foldl_cons]
    refine ih (z := if p.At = i then p.B else z) ?_ i (fun q hq => h q (List.mem_cons_of_mem _ hq))
    split
    · exact h p (List.mem_cons_self ..)
    · exact hz
/-! ## What is found of it -/
def wantR (m : Nat) : List Ub := (List.range (min m 6)).map fun i => uJ (m - i)
theorem want_mem {m : Nat} (v : Ub) : v ∈ wantR m ↔ ∃ j, (1 ≤ j ∧ j ≤ m ∧ m < j + 6) ∧ v = uJ j := by
  unfold wantR
  rw [List.mem_map]
  constructor
  · rintro ⟨i, hi, rfl⟩
    rw [List.mem_range] at hi
    exact ⟨m - i, by omega, rfl⟩
  · rintro ⟨j, hj, rfl⟩
    exact ⟨m - j, by rw [List.mem_range]; omega, by congr 1; omega⟩
theorem want_falls {m : Nat} (h : m ≤ 9) : Falls (wantR m) := by
  have k : ∀ m, m < 10 → Falls (wantR m) := by decide
  exact k m (by omega)
/-- A device whose places are as they were written, but for one sector at most. -/
structure Kept (d : G_api_Dev) (m : Nat) : Prop where
  dev : ∃ C, Holds d C ∧ (∀ k : Int, 0 ≤ k → k < 4 → takeC (C (atS 40 k)) = some (7, 40) ∨ takeC (C (atS 40 k)) = none) ∧ (∃ k : Int, (0 ≤ k ∧ k < 4) ∧ takeC (C (atS 40 k)) = some (7, 40)) ∧
    (∀ k s : Int, (0 ≤ k ∧ k < 4) → (0 ≤ s ∧ s < 6) → takeU (C (slotS 40 k s)) = (LJ m s).map uJ ∨ takeU (C (slotS 40 k s)) = none) ∧ (∀ s : Int, (0 ≤ s ∧ s < 6) → ∃ k : Int, (0 ≤ k ∧ k < 4) ∧ takeU (C (slotS 40 k s)) = (LJ m s).map uJ)
theorem kept_found {d : G_api_Dev} {m : Nat} (h : Kept d m) : foundS d = some 7 := by
  obtain ⟨C, hC, c1, ⟨k0, hk0, c2⟩, _⟩ := h.dev
  have e : ∀ k : Int, 0 ≤ k ∧ k < 4 → cfgAt d k = if takeC (C (atS 40 k)) = some (7, 40) then some 7 else none := by
    intro k hk
    unfold cfgAt
    rw [holds_nD hC, holds_read hC (at_in hk)]
    rcases c1 k hk.1 hk.2 with q | q
    · simp only [q, and_self, if_true]
    · simp only [q]; rfl
  unfold foundS
  simp only [List.findSome?, e 0 (by omega), e 1 (by omega), e 2 (by omega), e 3 (by omega)]
  by_cases a0 : takeC (C (atS 40 0)) = some (7, 40)
  · rw [if_pos a0]
  · by_cases a1 : takeC (C (atS 40 1)) = some (7, 40)
    · rw [if_neg a0, if_pos a1]
    · by_cases a2 : takeC (C (atS 40 2)) = some (7, 40)
      · rw [if_neg a0, if_neg a1, if_pos a2]
      · by_cases a3 : takeC (C (atS 40 3)) = some (7, 40)
        · rw [if_neg a0, if_neg a1, if_neg a2, if_pos a3]
        · rcases k4c hk0 with rfl | rfl | rfl | rfl
          · exact absurd c2 a0
          · exact absurd c2 a1
          · exact absurd c2 a2
          · exact absurd c2 a3
theorem kept_cands {d : G_api_Dev} {m : Nat} (h : Kept d m) (v : Ub) : v ∈ candsS d 40 7 ↔ v ∈ wantR m := by
  obtain ⟨C, hC, _, _, c3, c4⟩ := h.dev
  have e : ∀ k s : Int, 0 ≤ k ∧ k < 4 → 0 ≤ s ∧ s < 6 → candAt d 40 7 k s = match takeU (C (slotS 40 k s)) with | some u => if u.Guid = 7 ∧ u.Seat = s then some u else none | none => none := by
    intro k s hk hs
    unfold candAt
    rw [holds_read hC (slot_in hk hs)]
    rfl
  rw [cands_mem, want_mem]
  constructor
  · rintro ⟨k, s, hk, hs, q⟩
    rw [e k s hk hs] at q
    rcases c3 k s hk hs with t | t
    · rw [t] at q
      cases hl : LJ m s with
      | none => rw [hl] at q; cases q
      | some j =>
        have := (LJ_iff m s j).1 hl
        rw [hl] at q
        simp only [Option.map] at q
        split at q
        · rw [Option.some.injEq] at q
          exact ⟨j, ⟨this.1, this.2.1, this.2.2.2⟩, q.symm⟩
        · cases q
    · rw [t] at q; cases q
  · rintro ⟨j, hj, rfl⟩
    have hs := uJ_seat j
    have hl : LJ m (uJ j).Seat = some j := (LJ_iff m _ j).2 ⟨hj.1, hj.2.1, rfl, hj.2.2⟩
    obtain ⟨k, hk, t⟩ := c4 _ hs
    refine ⟨k, (uJ j).Seat, hk, hs, ?_⟩
    rw [e k _ hk hs, t, hl]
    simp only [Option.map]
    rw [if_pos ⟨rfl, trivial⟩]
theorem want_len (m : Nat) : (wantR m).length = min m 6 := by unfold wantR; simp
theorem kept_roots {d : G_api_Dev} {m : Nat} (hm : m ≤ 9) (h : Kept d m) : M_label_Roots d = some (wantR m) := by
  obtain ⟨C, hC, _⟩ := h.dev
  have hw : d.Wait.length ≤ 1000000 := by rw [hC.wait]; simp
  have hl : d.Last.length ≤ 1000000 := by rw [hC.len]; omega
  have hn := holds_nD hC
  have hu : ∀ u ∈ candsS d 40 7, ∀ v ∈ candsS d 40 7, u.Txg = v.Txg → u = v := by
    intro u hu v hv e
    obtain ⟨i, _, rfl⟩ := (want_mem u).1 ((kept_cands h u).1 hu)
    obtain ⟨j, _, rfl⟩ := (want_mem v).1 ((kept_cands h v).1 hv)
    have : (i : Int) = (j : Int) := e
    have : i = j := by omega
    rw [this]
  have hall := fold_all hu
  have h12 : ((candsS d (nD d) 7).foldl addS' []).length ≤ 12 := by
    rw [hn]
    refine apart_len (fold_apart _ List.Pairwise.nil) (fun v hv => ?_)
    obtain ⟨j, hj, rfl⟩ := (want_mem v).1 ((kept_cands h v).1 ((hall v).1 hv))
    show 1 ≤ (j : Int) ∧ (j : Int) ≤ 12
    omega
  obtain ⟨r, e1, e2, e3⟩ := roots_spec hw hl (kept_found h) h12
  rw [e1]
  congr 1
  refine falls_ext e2 (want_falls hm) (fun v => ?_)
  rw [e3, hn, hall, kept_cands h]
theorem secU_take {m : Nat} (hm : m ≤ 9) (s : Int) : takeU (secU (LJ m s)) = (LJ m s).map uJ := by
  cases hl : LJ m s with
  | none => exact takeU_zeros256
  | some j =>
    have := (LJ_iff m s j).1 hl
    exact takeU_bytes (uJ j) (uJ_ok (by omega))
theorem secU_set {o : Option Nat} {k : Nat} (hk : k < 256) (y : UInt8) : takeU ((secU o).set k y) = takeU (secU o) ∨ takeU ((secU o).set k y) = none := by
  cases o with
  | none => exact .inr ltakeU_zeros
  | some j => exact turnU_u hk y
theorem kept_was {d : G_api_Dev} {m : Nat} (hm : m ≤ 9) (h : Holds d (cont (WJ m))) : Kept d m := by
  refine ⟨_, h, fun k h0 h4 => .inl ?_, ⟨0, by omega, ?_⟩, fun k s hk hs => .inl ?_, fun s hs => ⟨0, by omega, ?_⟩⟩
  · rw [WJ_at ⟨h0, h4⟩]; exact takeC_bytes (by decide)
  · rw [WJ_at (by omega)]; exact takeC_bytes (by decide)
  · rw [WJ_slot hk hs]; exact secU_take hm s
  · rw [WJ_slot (by omega) hs]; exact secU_take hm s
theorem kept_turned {d : G_api_Dev} {m : Nat} (hm : m ≤ 9) {i : Int} {k0 : Nat} (hk0 : k0 < 256) {y : UInt8} (h : Holds d (fun j => if j = i then (cont (WJ m) i).set k0 y else cont (WJ m) j)) : Kept d m := by
  have hc : takeC (bytesC 7 40) = some (7, 40) := takeC_bytes (by decide)
  refine ⟨_, h, fun k h0 h4 => ?_, ?_, fun k s hk hs => ?_, fun s hs => ?_⟩
  · by_cases q : atS 40 k = i
    · simp only [if_pos q]
      rw [← q, WJ_at ⟨h0, h4⟩, ← hc]
      exact turnC_c hk0 y
    · simp only [if_neg q]
      rw [WJ_at ⟨h0, h4⟩]; exact .inl hc
  · by_cases q : atS 40 0 = i
    · have q1 : ¬ atS 40 1 = i := fun e => by have := atS_inj (k := 0) (j := 1) (by omega) (by omega) (q.trans e.symm); omega
      exact ⟨1, by omega, by simp only [if_neg q1]; rw [WJ_at (by omega)]; exact hc⟩
    · exact ⟨0, by omega, by simp only [if_neg q]; rw [WJ_at (by omega)]; exact hc⟩
  · by_cases q : slotS 40 k s = i
    · simp only [if_pos q]
      rw [← q, WJ_slot hk hs, ← secU_take hm s]
      exact secU_set hk0 y
    · simp only [if_neg q]
      rw [WJ_slot hk hs]; exact .inl (secU_take hm s)
  · by_cases q : slotS 40 0 s = i
    · have q1 : ¬ slotS 40 1 s = i := fun e => by have := slot_inj (k := 0) (j := 1) (by omega) (by omega) hs hs (q.trans e.symm); omega
      exact ⟨1, by omega, by simp only [if_neg q1]; rw [WJ_slot (by omega) hs]; exact secU_take hm s⟩
    · exact ⟨0, by omega, by simp only [if_neg q]; rw [WJ_slot (by omega) hs]; exact secU_take hm s⟩
theorem same_want : ∀ m, m < 10 → M_ref1_SameUbers (wantR m) (wantR m) = some true := by
  intro m hm
  have key : ∀ l : List Ub, l.length ≤ 1000 → M_ref1_SameUbers l l = some true := by
    intro l hl
    unfold M_ref1_SameUbers
    rw [bne_self_eq_false, cond_false]
    have : ∀ j : Nat, j ≤ l.length → M_ref1_SameUbers_l1 l l fuel (j : Int) = some true := by
      refine up_fuel (Q := fun f j => M_ref1_SameUbers_l1 l l f (j : Int) = some true) l.length (by omega) ?_ ?_
      · intro f; rw [M_ref1_SameUbers_l1, decide_eq_false (by omega), cond_false]
      · intro f j hj ih
        rw [M_ref1_SameUbers_l1, decide_eq_true (by omega), cond_true, getI_lt hj, bind_some', bind_some', decide_eq_true rfl, Bool.not_true, cond_false, w64_succ (by omega)]
        exact ih
    exact this 0 (Nat.zero_le _)
  exact key _ (by rw [want_len]; omega)
theorem turned_l1 (t0 t1 t2 t3 : UInt8) (f k : Nat) (hk : k < 4) (w : List G_api_Put) (hw : w.length ≤ 100) :
    M_law7_LabelTurned_l1 t0 t1 t2 t3 (f + 1) (k : Int) (dev68 w) = M_law7_LabelTurned_l1 t0 t1 t2 t3 f ((k + 1 : Nat) : Int) (dev68 (w ++ [cfgP (k : Int)])) := by
  rw [M_law7_LabelTurned_l1, decide_eq_true (by omega), cond_true, at_eq, bind_some', cfg40, bind_some']
  show Option.bind (M_ref1_Write (dev68 w) [cfgP (k : Int)]) _ = _
  rw [write68 (by omega) (by simp) (fun p hp => by simp at hp; subst hp; exact cfgP_ok (by omega)), bind_some', w64_succ (by omega)]
theorem turned_l2 (c : Int → G_api_Dev → Option Bool) (t1 t2 t3 x10 : UInt8) (m : Nat) (hm : m ≤ 9) (hm1 : 1 ≤ m) (hx : w64 (1 + (x10.toNat : Int)) = (m : Int)) : ∀ j : Nat, j ≤ m → M_law7_LabelTurned_l2 c t1 t2 t3 x10 fuel ((j : Int) + 1) (dev68 (WJ j)) = some true := by
  refine up_fuel (Q := fun f j => M_law7_LabelTurned_l2 c t1 t2 t3 x10 f ((j : Int) + 1) (dev68 (WJ j)) = some true) m (by omega) ?_ ?_
  · intro f
    obtain ⟨d, e1, hd⟩ := flush68 (w := WJ m) (by rw [WJ_len]; omega) (WJ_ok m)
    have hC : ∀ i, 0 ≤ i → i < 68 → (cont (WJ m) i).length = 256 := fun i _ _ => contF_len (zeros_length _) _ _ (fun p hp => (WJ_ok m p hp).2.2)
    have er : remI (t1.toNat : Int) 68 = some ((t1.toNat % 68 : Nat) : Int) := remI_nat (by decide)
    have hi : 0 ≤ ((t1.toNat % 68 : Nat) : Int) ∧ ((t1.toNat % 68 : Nat) : Int) < 68 := by
      have := Nat.mod_lt t1.toNat (show 0 < 68 by omega)
      omega
    obtain ⟨x, y, e2, hx2⟩ := turn68 hd hC hi (k := t2.toNat) t2.toNat_lt (t3.toNat : Int)
    have k1 := kept_was hm hd
    have k2 := kept_turned hm t2.toNat_lt hx2
    have r1 := kept_roots hm k1
    have r2 := kept_roots hm k2
    have wx : x.Wait.length ≤ 1000000 := by rw [hx2.wait]; simp
    have lx : x.Last.length ≤ 1000000 := by rw [hx2.len]; omega
    have fd : M_label_Found x = some (7, 40, true) := by
      rw [found_eq wx lx, kept_found k2]
      show some (7, nD x, true) = _
      rw [holds_nD hx2]
    have g0 : getI (wantR m) 0 = some (uJ m) := by
      obtain ⟨n, hn⟩ : ∃ n, min m 6 = n + 1 := ⟨min m 6 - 1, by omega⟩
      have hz : wantR m = uJ (m - 0) :: ((List.range n).map Nat.succ).map (fun i => uJ (m - i)) := by
        unfold wantR
        rw [hn, List.range_succ_eq_map, List.map_cons]
      rw [hz, Nat.sub_zero]
      rfl
    rw [M_law7_LabelTurned_l2, hx, decide_eq_false (by omega), cond_false, e1, bind_some', r1, bind_some', er, bind_some']
    rw [e2, bind_some', fd, bind_some', want_len, g0]
    have c1 : ((((min m 6 : Nat) : Int)) == min (m : Int) 6) = true := by rw [beq_iff_eq]; omega
    have c2 : ((uJ m).Txg == (m : Int)) = true := by
      rw [beq_iff_eq]; rfl
    have c3 : ((7 : Int) == 7) = true := rfl
    have c4 : ((40 : Int) == 40) = true := rfl
    simp only [c1, lTT, gd_true, bind_some', c2, c3, c4, Bool.and_self, r2, same_want m (by omega)]
  · intro f j hj ih
    have hj1 : ((j : Int) + 1) = ((j + 1 : Nat) : Int) := by omega
    have e6 : remI ((j + 1 : Nat) : Int) 6 = some (((j + 1) % 6 : Nat) : Int) := remI_nat (by decide)
    have ew : w64 (13 + ((j + 1 : Nat) : Int)) = 13 + ((j + 1 : Nat) : Int) := w64_id (by omega) (by omega)
    have hu : okUber (uJ (j + 1)) = true := uJ_ok (by omega)
    have p0 : M_label_Phase 40 (uJ (j + 1)) 0 = some [ubP 0 (uJ (j + 1)), ubP (0 + 2) (uJ (j + 1))] := phase40 hu (by omega)
    have p1 : M_label_Phase 40 (uJ (j + 1)) 1 = some [ubP 1 (uJ (j + 1)), ubP (1 + 2) (uJ (j + 1))] := phase40 hu (by omega)
    rw [M_law7_LabelTurned_l2, hx, hj1, decide_eq_true (by omega), cond_true, e6, bind_some', ew]
    show Option.bind (M_label_Phase 40 (uJ (j + 1)) 0) (fun x15 => Option.bind (M_label_Phase 40 (uJ (j + 1)) 1) _) = _
    rw [p0, bind_some', p1, bind_some', appL_eq (by simp), bind_some']
    show Option.bind (M_ref1_Write (dev68 (WJ j)) (four (uJ (j + 1)))) _ = _
    rw [write68 (by rw [WJ_len]; omega) (by simp [four]) (four_ok (uJ_seat _)), bind_some', w64_id (by omega) (by omega)]
    exact ih
theorem law_LabelTurned (t0 t1 t2 t3 : UInt8) : M_law7_LabelTurned t0 t1 t2 t3 = some true := by
  unfold M_law7_LabelTurned
  rw [begun7, bind_some', Bool.not_true, cond_false, new68, bind_some']
  obtain ⟨f, hf⟩ : ∃ f, fuel = f + 1 + 1 + 1 + 1 + 1 := ⟨4611686018427387899, rfl⟩
  have q0 := turned_l1 t0 t1 t2 t3 (f + 1 + 1 + 1 + 1) 0 (by omega) [] (by simp)
  have q1 := turned_l1 t0 t1 t2 t3 (f + 1 + 1 + 1) 1 (by omega) ([] ++ [cfgP 0]) (by simp)
  have q2 := turned_l1 t0 t1 t2 t3 (f + 1 + 1) 2 (by omega) (([] ++ [cfgP 0]) ++ [cfgP 1]) (by simp)
  have q3 := turned_l1 t0 t1 t2 t3 (f + 1) 3 (by omega) ((([] ++ [cfgP 0]) ++ [cfgP 1]) ++ [cfgP 2]) (by simp)
  rw [hf]
  refine (q0.trans (q1.trans (q2.trans q3))).trans ?_
  have er : rem8 t0 9 = some (t0 % 9) := rfl
  have b : (t0 % 9).toNat < 9 := by
    rw [UInt8.toNat_mod]; exact Nat.mod_lt _ (by decide)
  rw [M_law7_LabelTurned_l1, decide_eq_false (by omega), cond_false, er, bind_some']
  have hx : w64 (1 + ((t0 % 9).toNat : Int)) = ((1 + (t0 % 9).toNat : Nat) : Int) := by rw [w64_id (by omega) (by omega)]; omega
  exact turned_l2 _ t1 t2 t3 (t0 % 9) (1 + (t0 % 9).toNat) (by omega) (by omega) hx 0 (Nat.zero_le _)
end Go.Proofs
