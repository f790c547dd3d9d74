/-
  The law of labels against the document's.
-/
import Derived.Test.YtmhfodjiefednaaR714
import Derived.Test.YtmhfodjiefednaaR74
import Derived.Test.YtmhfodjiefednaaR77
import Derived.Test.YtmhfodjiefednaaR7B
import Derived.Test.YtmhfodjiefednaaR7WLabelAll
import Derived.Test.YtmhfodjiefednaaLW1
set_option maxRecDepth 20000
namespace Go.Proofs
open Go Go.Fhl
set_option linter.unusedVariables false
set_option linter.unusedSimpArgs false
/-! ## What stands on such a device -/
/-- A sector: whatever of it is turned, a group that it begins has a small number. -/
structure GoodB (s : Str) : Prop where
  len : s.length = 256
  now : ∀ u, takeU s = some u → 1 ≤ u.Txg ∧ u.Txg ≤ 12
  set : ∀ (k : Nat) (y : UInt8) (u : Ub), k < 256 → takeU (s.set k y) = some u → 1 ≤ u.Txg ∧ u.Txg ≤ 12
theorem good_zeros : GoodB (zeros 256) := by
  refine ⟨zeros_length _, fun u h => ?_, fun k y u _ h => ?_⟩
  · rw [takeU_zeros256] at h; cases h
  · rw [ltakeU_zeros] at h; cases h
theorem good_uber {v : Ub} (hv : okUber v = true) (hx : 1 ≤ v.Txg ∧ v.Txg ≤ 12) : GoodB (bytesU v) := by
  have h0 := takeU_bytes v hv
  refine ⟨bytesU_length v, fun u h => ?_, fun k y u hk h => ?_⟩
  · rw [h0, Option.some.injEq] at h; subst h; exact hx
  · rcases turnU_u hk y (u := v) with e | e
    · rw [e, h0, Option.some.injEq] at h; subst h; exact hx
    · rw [e] at h; cases h
theorem good_cfg {g n : Int} (hg : g = 7 ∨ g = 8) : GoodB (bytesC g n) := by
  have key : ∀ (k : Nat) (y : UInt8) (u : Ub), takeU ((bytesC g n).set k y) = some u → 1 ≤ u.Txg ∧ u.Txg ≤ 12 := by
    intro k y u h
    have h2 := (takeU_some h).2
    have h3 := lbytesU_head u
    rw [h2, List.getElem?_set] at h3
    by_cases q : k = 0
    · subst q
      have hu : u = uberOf ((bytesC g n).set 0 y) := by
        have h4 := h
        unfold takeU at h4
        split at h4
        · exact (Option.some.inj h4).symm
        · cases h4
      have e : bytesC g n = (be 1 172 ++ (be 4 g ++ be 2 n)) ++ (sumBytes (sumOf (put3 172 g n)) ++ zeros (240 - (put3 172 g n).length)) := by unfold bytesC seal'; rw [List.append_assoc]; rfl
      obtain ⟨a1, _⟩ := cut3 (be 1 172) (be 4 g) (be 2 n) (sumBytes (sumOf (put3 172 g n)) ++ zeros (240 - (put3 172 g n).length)) (be_length _ _) (be_length _ _) (be_length _ _)
      rw [← e] at a1
      have ht : u.Txg = g := by
        rw [hu]
        show val ((((bytesC g n).set 0 y).drop 1).take 4) = g
        have hd : ((bytesC g n).set 0 y).drop 1 = (bytesC g n).drop 1 := by
          cases bytesC g n with
          | nil => rfl
          | cons a l => rfl
        rw [hd, a1]
        exact val_be_id (by omega) (by rw [p256_4]; omega)
      rw [ht]
      omega
    · rw [if_neg q, lbytesC_head] at h3
      exact absurd h3 (by decide)
  refine ⟨bytesC_length g n, fun u h => ?_, fun k y u _ h => key k y u h⟩
  have hk : 0 < (bytesC g n).length := by rw [bytesC_length]; omega
  refine key 0 (bytesC g n)[0] u ?_
  rw [set_same _ _ hk _ rfl]; exact h
structure DevG (n : Nat) (d : GDv) : Prop where
  last : d.Last = List.replicate n (zeros 256)
  down : d.Down = false
  arm : d.Arm = 0
  lies : d.Lies = 0
  wait : ∀ p ∈ d.Wait, 0 ≤ p.At ∧ p.At < n ∧ GoodB p.B
theorem wrU_G {n : Nat} : ∀ (l : List GPu) (d : GDv), DevG n d → (∀ p ∈ l, p.B.length = 256 → GoodB p.B) → DevG n (wrU d l).1 ∧ (wrU d l).1.Wait.length ≤ d.Wait.length + l.length := by
  intro l
  induction l with
  | nil => intro d h _; exact ⟨h, by simp [wrU]⟩
  | cons p l ih =>
    intro d h hp
    rw [wrU]
    split
    · rename_i q
      unfold okW at q
      rw [decide_eq_true_eq, h.last, List.length_replicate] at q
      have hw : DevG n (waits d p) := by
        refine ⟨h.last, h.down, h.arm, h.lies, fun x hx => ?_⟩
        have hx' : x ∈ d.Wait ++ [p] := hx
        rcases List.mem_append.1 hx' with hx' | hx'
        · exact h.wait x hx'
        · rw [List.mem_singleton] at hx'; subst hx'
          exact ⟨q.1, q.2.1, hp x (List.mem_cons_self ..) q.2.2⟩
      obtain ⟨a, b⟩ := ih (waits d p) hw (fun x hx => hp x (List.mem_cons_of_mem _ hx))
      refine ⟨a, ?_⟩
      have : (waits d p).Wait.length = d.Wait.length + 1 := by unfold waits; simp
      rw [List.length_cons]; omega
    · exact ⟨h, by simp⟩
theorem write_G {n : Nat} {d : GDv} (h : DevG n d) (hw : d.Wait.length ≤ 1000) {l : List GPu} (hl : l.length ≤ 2) (hp : ∀ p ∈ l, p.B.length = 256 → GoodB p.B) : ∃ x b, M_ref1_Write d l = some (x, b) ∧ DevG n x ∧ x.Wait.length ≤ d.Wait.length + 2 := by
  obtain ⟨a, b⟩ := wrU_G l d h hp
  exact ⟨_, _, rwrite_eq h.down h.arm (by omega) (by omega), a, by omega⟩
/-- A device of n sectors of which nothing waits. -/
structure HoldsN (n : Nat) (d : GDv) (C : Int → Str) : Prop where
  down : d.Down = false
  wait : d.Wait = []
  len : d.Last.length = n
  get : ∀ i : Int, 0 ≤ i → i < n → d.Last[i.toNat]? = some (C i)
theorem holdsN_alike {n : Nat} (hn : n ≤ 1000) {d : GDv} {C : Int → Str} (h : HoldsN n d C) (hC : ∀ i : Int, 0 ≤ i → i < n → ∀ u, takeU (C i) = some u → 1 ≤ u.Txg ∧ u.Txg ≤ 12) : Alike d := by
  refine alike_of (by rw [h.wait]; simp) (by rw [h.len]; omega) (fun i u e => ?_)
  by_cases q : 0 ≤ i ∧ i < n
  · rw [read_none h.down q.1 (h.get i q.1 q.2) (fun p hp => by rw [h.wait] at hp; cases hp)] at e
    exact hC i q.1 q.2 u e
  · have : devRead d i = ([], false) := by
      unfold devRead; rw [if_pos (.inr (by rw [h.len]; exact q))]
    rw [this, takeU_nil] at e
    cases e
theorem flush_G {n : Nat} (hn : n ≤ 1000) {d : GDv} (h : DevG n d) (hw : d.Wait.length ≤ 1000) : ∃ x C, M_ref1_Flush d = some (x, true) ∧ HoldsN n x C ∧ ∀ i : Int, 0 ≤ i → i < n → GoodB (C i) := by
  have hr : d.Last.length = n := by rw [h.last, List.length_replicate]
  obtain ⟨h1, h2⟩ := flushed_get d.Wait d.Last (fun s hs => by rw [h.last] at hs; rw [(List.mem_replicate.1 hs).2, zeros_length]) (fun p hp => by have := h.wait p hp; rw [hr]; exact ⟨this.1, this.2.1, this.2.2.len⟩)
  refine ⟨_, fun i => contF (zeros 256) d.Wait i, rflush_eq h.down h.lies (by omega) (by omega), ⟨h.down, rfl, ?_, ?_⟩, ?_⟩
  · show (flushed d.Last d.Wait).length = n
    rw [h1, hr]
  · intro i hi0 hi1
    have hi : i.toNat < d.Last.length := by omega
    have := h2 i.toNat hi
    have hz : d.Last[i.toNat] = zeros 256 := by
      have : d.Last[i.toNat]? = some (zeros 256) := by rw [h.last, List.getElem?_replicate, if_pos (by omega)]
      rw [List.getElem?_eq_getElem hi] at this
      exact Option.some.inj this
    have e : ((i.toNat : Nat) : Int) = i := by omega
    rw [hz, e] at this
    exact this
  · intro i _ _
    have key : ∀ (w : List GPu) (z : Str), GoodB z → (∀ p ∈ w, GoodB p.B) → GoodB (contF z w i) := by
      intro w
      induction w with
      | nil => intro z hz _; exact hz
      | cons p w ih =>
        intro z hz hp
        unfold contF
        rw [List.foldl_cons]
        refine ih _ ?_ (fun q hq => hp q (List.mem_cons_of_mem _ hq))
        split
        · exact hp p (List.mem_cons_self ..)
        · exact hz
    exact key _ _ good_zeros (fun p hp => (h.wait p hp).2.2)
theorem turn_G {n : Nat} (hn : n ≤ 1000) {d : GDv} {C : Int → Str} (h : HoldsN n d C) (hC : ∀ i, 0 ≤ i → i < (n : Int) → GoodB (C i)) {i : Int} (hi : 0 ≤ i ∧ i < n) {k : Nat} (hk : k < 256) (b : Int) : ∃ x, M_ref1_Turn d i (k : Int) b = some x ∧ Alike x := by
  have hg := h.get i hi.1 hi.2
  have hil : i.toNat < d.Last.length := by rw [h.len]; omega
  have g1 : getI d.Last i = some (C i) := by
    unfold getI; rw [if_pos hi.1]; exact hg
  have hc := (hC i hi.1 hi.2).len
  have g2 : getI (C i) (k : Int) = some ((C i)[k]'(by omega)) := getI_lt (by omega)
  have s2 : ∀ y : UInt8, setI (C i) (k : Int) y = some ((C i).set k y) := fun y => setI_nat (by omega)
  have s3 : ∀ z : Str, setI d.Last i z = some (d.Last.set i.toNat z) := fun z => setI_pos hi.1 hil
  have ea : appL 16 ([] : List Str) d.Last = some d.Last := by rw [appL_eq (by simp; rw [h.len]; omega), List.nil_append]
  unfold M_ref1_Turn
  rw [decide_eq_false (show ¬ i < 0 by omega), decide_eq_false (show ¬ i ≥ (d.Last.length : Int) by rw [h.len]; omega), decide_eq_false (show ¬ (k : Int) < 0 by omega)]
  simp only [Bool.or_self, lFF, gd_true, g1, bind_some', hc]
  rw [decide_eq_false (show ¬ (k : Int) ≥ ((256 : Nat) : Int) by omega), Bool.or_self, cond_false]
  simp only [g2, bind_some', s2, ea, g1, s3]
  refine ⟨_, rfl, ?_⟩
  generalize ((C i)[k]'(by omega) ^^^ UInt8.ofInt b) = y
  refine holdsN_alike hn (C := fun j => if j = i then (C i).set k y else C j) ⟨h.down, h.wait, by show (d.Last.set _ _).length = n; rw [List.length_set]; exact h.len, fun j hj0 hj1 => ?_⟩ (fun j hj0 hj1 u e => ?_)
  · show (d.Last.set i.toNat ((C i).set k y))[j.toNat]? = _
    rw [List.getElem?_set]
    by_cases q : j = i
    · rw [if_pos q, q, if_pos rfl, if_pos hil]
    · rw [if_neg (by omega), if_neg q]
      exact h.get j hj0 hj1
  · by_cases q : j = i
    · simp only [if_pos q] at e
      exact (hC i hi.1 hi.2).set k y u hk e
    · simp only [if_neg q] at e
      exact (hC j hj0 hj1).now u e
def devZ : GDv := ⟨[], [], 0, 0, false⟩
theorem alike_Z : Alike devZ := holdsN_alike (n := 0) (by omega) (C := fun _ => []) ⟨rfl, rfl, rfl, fun i h0 h1 => by omega⟩ (fun i h0 h1 => by omega)
theorem new300 : M_ref1_New 300 = some devZ := by
  unfold M_ref1_New
  obtain ⟨f, hf⟩ : ∃ f, fuel = f + 1 := ⟨4611686018427387903, rfl⟩
  rw [hf, M_ref1_New_l1]
  rfl
/-! ## The law -/
theorem all_l3 (c1 : Int → Option Bool) (c2 : Int → GDv → Option Bool) (x57 : GDv × Bool) (x59 : GDv) (h1 : Alike x57.1) (h2 : Alike x59) : ∀ j : Nat, j ≤ 4 → M_law7_LabelAll_l3 c1 c2 x57 x59 devZ fuel (j : Int) = some true := by
  have hl : (([x57.1, x59, (GDv.mk [] [] 0 0 false), devZ] : List GDv)).length = 4 := rfl
  refine up_fuel (Q := fun f j => M_law7_LabelAll_l3 c1 c2 x57 x59 devZ f (j : Int) = some true) 4 (by omega) ?_ ?_
  · intro f
    rw [M_law7_LabelAll_l3, hl, decide_eq_false (by omega), cond_false]
  · intro f j hj ih
    have hj' : j < (([x57.1, x59, (GDv.mk [] [] 0 0 false), devZ] : List GDv)).length := hj
    obtain ⟨d, ed, hd⟩ : ∃ d, getI ([x57.1, x59, (GDv.mk [] [] 0 0 false), devZ] : List GDv) (j : Int) = some d ∧ Alike d := by
      refine ⟨_, getI_lt hj', ?_⟩
      have hm := List.getElem_mem hj'
      simp only [List.mem_cons, List.not_mem_nil, or_false] at hm
      rcases hm with e | e | e | e
      · rw [e]; exact h1
      · rw [e]; exact h2
      · rw [e]; exact alike_Z
      · rw [e]; exact alike_Z
    obtain ⟨a, r, a1, a2, a3, a4, a5⟩ := hd
    rw [M_law7_LabelAll_l3, hl, decide_eq_true (by omega), cond_true]
    simp only [ed, bind_some', a1, a2, bne_self_eq_false, Bool.or_self, lFF, gd_true, a3, a4, a5, Bool.not_true, cond_false, w64_succ (show j < 9223372036854775807 by omega)]
    exact ih
theorem phase_good {data : Int} {u : Ub} {half : Int} (hx : 1 ≤ u.Txg ∧ u.Txg ≤ 12) : (phaseS data u half).length ≤ 2 ∧ ∀ p ∈ phaseS data u half, p.B.length = 256 → GoodB p.B := by
  unfold phaseS
  split
  · rename_i h
    refine ⟨by simp, fun p hp _ => ?_⟩
    simp only [List.mem_cons, List.not_mem_nil, or_false] at hp
    rcases hp with rfl | rfl
    · exact good_uber h.1.2 hx
    · exact good_uber h.1.2 hx
  · exact ⟨by simp, fun p hp => by cases hp⟩
theorem all_l2 (c1 : Int → Option Bool) (t0 : Int) (t3 : List (A4 UInt8)) (t4 t5 t6 : UInt8) (x22 : UInt8) (n : Nat) (hn : n ≤ 268) (h60 : 60 ≤ n) (hx : w64 (60 + (x22.toNat : Int)) = (n : Int)) (ht : t3.length ≤ 20) :
    ∀ j : Nat, j ≤ t3.length → ∀ d : GDv, DevG n d → d.Wait.length ≤ 2 * j → M_law7_LabelAll_l2 c1 t0 t3 t4 t5 t6 x22 fuel (j : Int) d = some true := by
  refine up_fuel (Q := fun f j => ∀ d : GDv, DevG n d → d.Wait.length ≤ 2 * j → M_law7_LabelAll_l2 c1 t0 t3 t4 t5 t6 x22 f (j : Int) d = some true) t3.length (by omega) ?_ ?_
  · intro f d hd hw
    obtain ⟨x, C, e1, hC, hG⟩ := flush_G (by omega) hd (by omega)
    have er : remI (t4.toNat : Int) (n : Int) = some ((t4.toNat % n : Nat) : Int) := remI_nat (by omega)
    have hi : 0 ≤ ((t4.toNat % n : Nat) : Int) ∧ ((t4.toNat % n : Nat) : Int) < n := by
      have := Nat.mod_lt t4.toNat (show 0 < n by omega)
      omega
    obtain ⟨y, e2, hy⟩ := turn_G (by omega) hC hG hi t5.toNat_lt (t6.toNat : Int)
    have hax : Alike x := holdsN_alike (by omega) hC (fun i h0 h1 u e => (hG i h0 h1).now u e)
    rw [M_law7_LabelAll_l2, decide_eq_false (by omega), cond_false, e1, bind_some', hx, er, bind_some', e2, bind_some', new300, bind_some']
    exact all_l3 _ _ (x, true) y hax hy 0 (by omega)
  · intro f j hj ih d hd hw
    obtain ⟨u, e3, hu, hxu, _⟩ := uof_eq t3[j]
    have er : rem8 t3[j].x3 4 = some (t3[j].x3 % 4) := rfl
    have eq32 : quo8 t3[j].x3 32 = some (t3[j].x3 / 32) := rfl
    have er2 : rem8 t3[j].x2 4 = some (t3[j].x2 % 4) := rfl
    have eq128 : quo8 t3[j].x1 128 = some (t3[j].x1 / 128) := rfl
    have eq200 : quo8 t3[j].x0 200 = some (t3[j].x0 / 200) := rfl
    have ern : remI (t3[j].x2.toNat : Int) (n : Int) = some ((t3[j].x2.toNat % n : Nat) : Int) := remI_nat (by omega)
    have b1 : (t3[j].x1 / 128).toNat ≤ 1 := by
      have := t3[j].x1.toNat_lt
      rw [UInt8.toNat_div]; show t3[j].x1.toNat / 128 ≤ 1; omega
    have wg : w64 (7 + ((t3[j].x1 / 128).toNat : Int)) = 7 + ((t3[j].x1 / 128).toNat : Int) := w64_id (by omega) (by omega)
    have gj : getI t3 (j : Int) = some t3[j] := getI_lt hj
    have next : ∀ l : List GPu, l.length ≤ 2 → (∀ p ∈ l, p.B.length = 256 → GoodB p.B) → M_law7_LabelAll_k2 c1 (M_law7_LabelAll_l2 c1 t0 t3 t4 t5 t6 x22 f) t0 t3 t4 t5 t6 x22 (j : Int) d l = some true := by
      intro l hl hp
      obtain ⟨x, b, e1, hx1, hx2⟩ := write_G hd (by omega) hl hp
      unfold M_law7_LabelAll_k2 M_law7_LabelAll_k1
      rw [e1, bind_some', w64_succ (by omega)]
      exact ih x hx1 (by omega)
    rw [M_law7_LabelAll_l2, decide_eq_true (by omega), cond_true]
    generalize hh : w64 (((t3[j].x3 % 4).toNat : Int) - 1) = half
    generalize hm : w64 (w64 (60 + (x22.toNat : Int)) - 28) = m
    have p1 := phase_good (data := t0) (half := half) hxu
    have p2 := phase_good (data := m) (half := half) hxu
    rw [gj, bind_some', e3, bind_some', bind_some', er, bind_some', hh, phase_eq, bind_some', rphase_eq, bind_some', sameP_self _ (show (phaseS t0 u half).length ≤ 1000 by omega), bind_some', Bool.not_true, lFF, gd_true, phase_eq, bind_some', gd_true, rphase_eq, bind_some', gd_true, sameP_self _ (show (phaseS m u half).length ≤ 1000 by omega), bind_some', Bool.not_true, Bool.or_self, cond_false, bind_some', bind_some', eq32, bind_some']
    cases q0 : (t3[j].x3 / 32 == 0) with
    | true =>
      rw [cond_true, bind_some', er2, bind_some', rat_eq, bind_some', bind_some', eq128, bind_some', bind_some', eq200, bind_some', wg, rcfg_eq, bind_some']
      refine next _ (by simp) (fun p hp hB => ?_)
      rw [List.mem_singleton] at hp
      subst hp
      simp only at hB ⊢
      unfold putC at hB ⊢
      split
      · exact good_cfg (by omega)
      · rename_i z; rw [if_neg z] at hB; exact absurd hB (by decide)
    | false =>
      cases q1 : (t3[j].x3 / 32 == 1) with
      | true =>
        rw [cond_false, cond_true, bind_some', hx, ern, bind_some', ruput_eq, hu, if_pos rfl, bind_some']
        refine next _ (by simp) (fun p hp hB => ?_)
        rw [List.mem_singleton] at hp
        subst hp
        exact good_uber hu hxu
      | false =>
        rw [cond_false, cond_false]
        exact next _ p2.1 p2.2
theorem all_l1 (t0 t1 t2 : Int) (t3 : List (A4 UInt8)) (t4 t5 t6 t7 : UInt8) (ht : t3.length ≤ 20) : ∀ j : Nat, j ≤ 6 → M_law7_LabelAll_l1 t0 t1 t2 t3 t4 t5 t6 t7 fuel ((j : Int) - 1) = some true := by
  have r201 : rem8 t7 201 = some (t7 % 201) := rfl
  have r7 : rem8 t6 7 = some (t6 % 7) := rfl
  have r20 : rem8 t7 20 = some (t7 % 20) := rfl
  refine up_fuel (Q := fun f j => M_law7_LabelAll_l1 t0 t1 t2 t3 t4 t5 t6 t7 f ((j : Int) - 1) = some true) 6 (by omega) ?_ ?_
  · intro f
    have b : (t7 % 20).toNat < 20 := by
      rw [UInt8.toNat_mod]; exact Nat.mod_lt _ (by decide)
    have hx : w64 (60 + ((t7 % 20).toNat : Int)) = ((60 + (t7 % 20).toNat : Nat) : Int) := by rw [w64_id (by omega) (by omega)]; omega
    rw [M_law7_LabelAll_l1, decide_eq_false (by omega), cond_false, at_eq, rat_eq, bind_some', bind_some', bne_self_eq_false, cond_false, r20, bind_some', hx, new_eq (by omega), bind_some']
    refine all_l2 _ t0 t3 t4 t5 t6 (t7 % 20) (60 + (t7 % 20).toNat) (by omega) (by omega) hx ht 0 (Nat.zero_le _) _ ⟨rfl, rfl, rfl, rfl, fun p hp => by cases hp⟩ (by simp)
  · intro f j hj ih
    have ew : w64 ((j : Int) - 1 + 1) = ((j + 1 : Nat) : Int) - 1 := by rw [w64_id (by omega) (by omega)]; omega
    rw [M_law7_LabelAll_l1, decide_eq_true (by omega), cond_true]
    simp only [at_eq, rat_eq, slot_eq, rslot_eq, bind_some', bne_self_eq_false, lFF, gd_true, r201, r7, Bool.or_self, cond_false, ew]
    exact ih
theorem law_LabelAll (t0 t1 t2 : Int) (t3 : List (A4 UInt8)) (t4 t5 t6 t7 : UInt8) : M_law7_LabelAll t0 t1 t2 t3 t4 t5 t6 t7 = some true := by
  unfold M_law7_LabelAll
  rw [begun7, bind_some', Bool.not_true, cond_false]
  by_cases h : (t3.length : Int) > 20
  · rw [decide_eq_true h, cond_true]
  · rw [decide_eq_false h, cond_false]
    exact all_l1 t0 t1 t2 t3 t4 t5 t6 t7 (by omega) 0 (by omega)
end Go.Proofs
