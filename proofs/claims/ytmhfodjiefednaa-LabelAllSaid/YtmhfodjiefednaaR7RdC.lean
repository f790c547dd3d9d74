/-
  dev.Read as a pure function, and that its code does what it says.
-/
import Derived.Test.YtmhfodjiefednaaR7RdB
import Derived.Test.YtmhfodjiefednaaR7B
namespace Go.Proofs
open Go Go.Fhl Go.RowKit
set_option linter.unusedVariables false
set_option linter.unusedSimpArgs false
theorem cell_fz {hm : GM} {w0 : World} {U : Env} {w : World} {H : AH} (r : HRel hm w0 U H w) {B k : Nat} {v : Value} (hz : hm.fz B k = some v) (hp : plain1 v = true) : w.cell? ⟨B, k, none⟩ = some v ∧ B < w.heap.size := by
  obtain ⟨_, C, e, fz, v', g1, g2, g3⟩ := r.frz B k v hz
  have h1 : v' = v := SR.plain hp g3
  subst h1
  exact ⟨by simp [World.cell?, g1, g2], r.fz_lt hz⟩
/-- What a sector holds. -/
def devRead (d : GDv) (i : Int) : Str × Bool :=
  if d.Down = true ∨ ¬(0 ≤ i ∧ i < d.Last.length) then ([], false)
  else match d.Wait.reverse.find? (fun p => p.At == i) with
    | some p => (p.B, true)
    | none => (d.Last[i.toNat]?.getD [], true)
noncomputable def M_dev_Read (t0 : GDv) (t1 : Int) : Option (Str × Bool) := if t0.Wait.length * 24 ≤ 140737488351232 then some (devRead t0 t1) else none
/-- The last one that is so. -/
theorem find_last (l : List GPu) (i : Int) (last s : ByteArray) (h : Rd.Found (fun j => ((l[j]?.getD default).At)) (fun j => sB (l[j]?.getD default).B) l.length i last s) :
    s = match l.reverse.find? (fun p => p.At == i) with | some p => sB p.B | none => last := by
  obtain ⟨m, rfl⟩ : ∃ m : List GPu, l = m.reverse := ⟨l.reverse, by simp⟩
  rw [List.reverse_reverse]
  induction m generalizing s with
  | nil =>
    rcases h with ⟨j, h1, _⟩ | ⟨_, rfl⟩
    · simp at h1
    · rfl
  | cons x m ih =>
    rw [List.reverse_cons] at h
    revert h ih
    generalize m.reverse = l
    intro ih h
    rw [List.find?_cons]
    have hx : ((l ++ [x])[l.length]?.getD default) = x := by simp
    have hlt : ∀ j, j < l.length → ((l ++ [x])[j]?.getD default) = (l[j]?.getD default) := fun j hj => by rw [List.getElem?_append_left hj]
    by_cases hq : x.At = i
    · have : (x.At == i) = true := by simp [hq]
      rw [this]
      rcases h with ⟨j, h1, h2, h3, rfl⟩ | ⟨h1, _⟩
      · by_cases hj : j = l.length
        · subst hj; simp only [hx]
        · have hjl : j < l.length := by simp at h1; omega
          have := h3 l.length hjl (by simp)
          simp only [hx] at this
          exact absurd hq this
      · have := h1 l.length (by simp)
        simp only [hx] at this
        exact absurd hq this
    · have : (x.At == i) = false := by simp [hq]
      rw [this]
      refine ih _ ?_
      rcases h with ⟨j, h1, h2, h3, rfl⟩ | ⟨h1, rfl⟩
      · have hj : j < l.length := by
          by_cases e : j = l.length
          · subst e; simp only [hx] at h2; exact absurd h2 hq
          · simp at h1; omega
        refine .inl ⟨j, hj, by simpa only [hlt j hj] using h2, fun k hk1 hk2 => ?_, by simp only [hlt j hj]⟩
        have := h3 k hk1 (by simp; omega)
        simpa only [hlt k hk2] using this
      · exact .inr ⟨fun j hj => by have := h1 j (by simp; omega); simpa only [hlt j hj] using this, rfl⟩
theorem put_cell (l : List GPu) (j : Nat) (hj : j < l.length) : (l.flatMap cPu)[j * 2]? = some (I (l[j]?.getD default).At) ∧ (l.flatMap cPu)[j * 2 + 1]? = some (S (l[j]?.getD default).B) := by
  induction l generalizing j with
  | nil => simp at hj
  | cons x l ih =>
    rw [List.flatMap_cons]
    show ((I x.At :: S x.B :: l.flatMap cPu)[j * 2]? = _ ∧ (I x.At :: S x.B :: l.flatMap cPu)[j * 2 + 1]? = _)
    cases j with
    | zero => simp
    | succ j =>
      have := ih j (by simpa using hj)
      rw [show (j + 1) * 2 = j * 2 + 1 + 1 by omega, List.getElem?_cons_succ, List.getElem?_cons_succ, List.getElem?_cons_succ, List.getElem?_cons_succ, List.getElem?_cons_succ]
      exact this
theorem str_cell (l : List Str) : l.flatMap cS = l.map S := by
  induction l with
  | nil => rfl
  | cons x l ih => rw [List.flatMap_cons, ih]; rfl
theorem ok_dev_Read (t0 : GDv) (t1 : Int) (r : Str × Bool) (h : M_dev_Read t0 t1 = some r) : FFn Try.prog 40 [.agg (cDv t0).toArray, I t1] (.tuple #[S r.1, Bo r.2]) := by
  unfold M_dev_Read at h
  split at h
  · rename_i hreach
    cases h
    have main : ∀ (hm : GM) (w0 : World) (U : Env) (w : World) (cargs : Array Value), HRel hm w0 U AH.empty w → L2 (VR hm []) [.agg (cDv t0).toArray, I t1] cargs.toList → Calls Try.prog 40 cargs w fun e w' => e = .returned (.tuple #[S (devRead t0 t1).1, Bo (devRead t0 t1).2]) ∧ Below w.heap.size w w' := by
      intro hm w0 U w cargs hr ha
      obtain ⟨c1, q1, e1, a1, ha1⟩ := ha.cons_inv
      obtain ⟨c2, q2, e2, a2, ha2⟩ := ha1.cons_inv
      have e3 := ha2.nil_inv
      obtain rfl : c2 = I t1 := a2.sr rfl
      obtain ⟨cs, rfl, hl⟩ := a1
      obtain ⟨d1, r1, f1, g1, hl⟩ := hl.cons_inv
      obtain ⟨d2, r2, f2, g2, hl⟩ := hl.cons_inv
      obtain ⟨d3, r3, f3, g3, hl⟩ := hl.cons_inv
      obtain ⟨d4, r4, f4, g4, hl⟩ := hl.cons_inv
      obtain ⟨d5, r5, f5, g5, hl⟩ := hl.cons_inv
      have f6 := hl.nil_inv
      obtain rfl : d3 = I t0.Lies := g3
      obtain rfl : d4 = I t0.Arm := g4
      obtain rfl : d5 = Bo t0.Down := g5
      obtain ⟨la, ln, lc, rfl, hl1, hl2, hl3⟩ := g1
      obtain ⟨wa, wn, wc, rfl, hw1, hw2, hw3⟩ := g2
      obtain rfl : cs = #[.slice la ln lc, .slice wa wn wc, I t0.Lies, I t0.Arm, Bo t0.Down] := by apply Array.toList_inj.1; rw [f1, f2, f3, f4, f5, f6]
      obtain rfl : cargs = #[Rd.dv la ln lc wa wn wc t0.Lies t0.Arm t0.Down, I t1] := by apply Array.toList_inj.1; rw [e1, e2, e3]
      rw [List.toList_toArray] at hl1 hl3 hw1 hw3
      have hln : ln = t0.Last.length := by rw [str_cell, List.length_map] at hl1; simpa using hl1
      have hwn : wn = t0.Wait.length := by rw [(show CE cPu 2 from ce_api_Put).flat] at hw1; simp at hw1; omega
      subst hln; subst hwn
      unfold devRead
      by_cases hd : t0.Down = true
      · rw [if_pos (.inl hd), hd]
        exact callsIn_wide.1 (Rd.read_down Fence.wide 6 trivial trivial rfl _ _ _ _ _ _ _ _ _ _)
      · have hd' : t0.Down = false := by cases e : t0.Down; rfl; exact absurd e hd
        by_cases hi : 0 ≤ t1 ∧ t1 < t0.Last.length
        · rw [if_neg (fun q => q.elim hd (fun q => q hi)), hd']
          have hpos : t0.Last ≠ [] := fun e => by rw [e] at hi; simp at hi; omega
          obtain ⟨LB, LO, rfl, hlc⟩ : ∃ B o, la = some ⟨B, o, none⟩ ∧ ∀ (j : Nat) (c : Value), (t0.Last.flatMap cS)[j]? = some c → hm.fz B (o + j) = some c := by
            rcases hl3 with e | e
            · exfalso; rw [str_cell, List.map_eq_nil_iff] at e; exact hpos e
            · exact e
          have hlt : t1.toNat < t0.Last.length := by omega
          have hlast := cell_fz hr (hlc t1.toNat (S t0.Last[t1.toNat]) (by rw [str_cell, List.getElem?_map, List.getElem?_eq_getElem hlt]; rfl)) rfl
          have hP : Rd.Puts w.heap.size w (.slice wa t0.Wait.length wc) t0.Wait.length (fun j => ((t0.Wait[j]?.getD default).At)) (fun j => sB (t0.Wait[j]?.getD default).B) := by
            by_cases hw0 : t0.Wait.length = 0
            · rw [hw0]; exact .inl ⟨wa, wc, rfl, rfl⟩
            · rcases hw3 with e | ⟨B, o, rfl, hc⟩
              · exfalso
                have := (show CE cPu 2 from ce_api_Put).flat t0.Wait
                rw [e] at this; simp at this; omega
              · refine .inr ⟨B, o, wc, rfl, ?_, fun j hj => ?_, fun j hj => ?_⟩
                · exact (cell_fz hr (hc (0 * 2) _ (put_cell t0.Wait 0 (by omega)).1) rfl).2
                · exact (cell_fz hr (hc (j * 2) _ (put_cell t0.Wait j hj).1) rfl).1
                · exact (cell_fz hr (hc (j * 2 + 1) _ (put_cell t0.Wait j hj).2) rfl).1
          have := callsIn_wide.1 (Rd.read_in Fence.wide 6 (Nat.le_refl _) trivial trivial trivial trivial rfl (some ⟨LB, LO, none⟩) t0.Last.length lc wa t0.Wait.length wc t0.Lies t0.Arm t1 hi w _ _ hreach hP LB LO rfl hlast.2 (sB t0.Last[t1.toNat]) hlast.1)
          refine this.mono fun e w' ⟨⟨s, he, hf⟩, hb⟩ => ⟨?_, hb⟩
          have := find_last _ _ _ _ hf
          rw [he, this, List.getElem?_eq_getElem hlt]
          cases t0.Wait.reverse.find? (fun p => p.At == t1) <;> rfl
        · rw [if_pos (.inr hi), hd']
          exact callsIn_wide.1 (Rd.read_out Fence.wide 6 (by decide) trivial trivial rfl _ _ _ _ _ _ _ _ _ hi _)
    intro hm w0 U w cargs hr ha
    refine (main hm w0 U w cargs hr ha).mono fun e w' ⟨h1, h2⟩ => ?_
    exact ⟨hm, .tuple #[S (devRead t0 t1).1, Bo (devRead t0 t1).2], _, AH.empty, h1, GM.leb_refl _ _, Nat.le_refl _, hr.below h2, Or.inr (Or.inr ⟨_, rfl, .cons (VR1.of_sr rfl rfl) (.cons (VR1.of_sr rfl rfl) .nil)⟩), rfl⟩
  · cases h
end Go.Proofs
